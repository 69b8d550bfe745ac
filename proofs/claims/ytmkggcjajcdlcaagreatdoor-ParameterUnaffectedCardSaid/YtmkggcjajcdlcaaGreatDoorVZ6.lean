/- Parts of a proof: contracts of the functions that the laws reach. -/
import Derived.Test.YtmkggcjajcdlcaaGreatDoorVZ5
set_option maxHeartbeats 100000000
set_option linter.all false
open Go.Proofs.Tryz
namespace Go.Proofs.YtmkggcjajcdlcaaGreatDoor
open Go.RowKit
theorem Gy {a b:Nat} (h:(digs a).length<=4294967296) (hb0:0<b) (hb1:b<4294967296):aa Tryz.prog 229 [dW (digs a),dN .u32 b] (.tup [dW (digs (a/b)),dN .u32 (a%b:Nat)]):=
 ⟨aJ func229 rfl rfl,fun S w vs hS hv=>by
  match vs,hv with
  | [v,u],⟨h1,h2,_⟩=>
   obtain rfl:=dM h2;obtain⟨A,n,c,rfl,hx⟩:=gc h1 (av _);have:=Nb A n c b (digs a) w hx (by rw[<- hx.len];exact h) hb0 hb1;rw[ae]at this;refine this.mono ?_;rintro e w' ⟨A',n',c',rfl,hq,hb⟩;refine⟨_,rfl,⟨[.slice A' n' c', .int .u32 (a%b:Nat)],rfl,rfl,fun i x u h1 h2=>?_⟩,hb⟩
   match i with
   |0=>simp at h1 h2;subst h1 h2;exact ph (hS.grow hb) hq
   |1=>simp at h1 h2;subst h1 h2;exact AV.M.val rfl
   |i+2=>simp at h1⟩
section
variable {P:Program} {T:TypeId->Option Ty} {n:Nat} {ops:Array Oper} {id:Nat} {draw:Bool} {K:AS->Prop} {s:AS} {k:Nat} {o:Oper} {os:List Oper} {fps:List FP}
theorem QD (hT:∀t d,T t=some d->aU P t d) {t t' et:TypeId} {ty ty' te:Ty} {x:Operand} {l:List UInt8} {cs:List AV} (hcs:cs=l.map fun c=>AV.val (.int .u8 c.toNat)) (hl:l≠[]) (h1:gd ops s o=some true) (h2:o.op= .convert t t' x) (h5:T t=some ty) (h6:ty.elem=some (et,1)) (h7:T et=some te) (h8:te.ik=some .u8) (h9:T t'=some ty') (h10:ty'.isStr=true) (h11:s.ev x= .d (.leaf (.sl l.length cs)))
 (h3:aF n o.dst=true) (h4:eT draw ops (ar ops o ⟨.d (dL l),none⟩ []) k fps=true) (h:am P T n ops id draw K (k+1) os (s.eff o.dst ⟨.d (dL l),none⟩) (ar ops o ⟨.d (dL l),none⟩ []::fps)):am P T n ops id draw K k (o::os) s fps:=by
 refine .run h1 (.gen fun s2 ht _=>?_) h3 h4 h;have hx:=(an ht (x:=x) (by simp[h2,Op.operands])).trans h11;have hu:=qJ (hT _ _ h9) h10;obtain⟨d,hd,_,hel,_⟩:=(hT _ _ h5).und;obtain⟨rfl,_⟩:=hel et 1 h6;obtain⟨d2,hd2,_,_,_,_,_,hik,_⟩:=(hT _ _ h7).und;obtain rfl:=hik _ h8;refine af fun n S0 w0 g a w hM=>⟨vL l,w,?_,Below.refl _ _,AV.M.val rfl⟩
 have hm:=hM.ev x;rw[hx]at hm;have hm:AV.M (Own S0 g s2) w (.sl l.length cs) (a.eval x):=hm;unfold execOp;rw[h2];obtain⟨v,hv⟩:∃v,a.eval x=v:=⟨_,rfl⟩;rw[hv]at hm;cases hm with
 |emp=>
  have:l=[]:=by simpa using hcs.symm
  exact absurd this hl
 |sl f g1 g2 g3 g4 g5 g6=>
  rename_i b off c
  have hc:∀i,i<l.length->w.cell? ⟨b,off+i,none⟩=some (.int .u8 ((l.map fun c=>(c.toNat:Int)).getD i 0)):=by
   intro i hi;have h12:cs[i]? =some (AV.val (.int .u8 (l[i].toNat:Int))):=by rw[hcs];simp[hi]
   rw[g5 i _ h12,dM (g6 i _ h12)]
   simp[hi]
  simp only[hv,Sem.run_bind,run_convert_bytes_arg w t et hd hd2 b off l.length c (l.map fun c=>(c.toNat:Int)) (by simp) hc t' hu,Result.andThen_ok,Sem.run_pure]
  have:strOfNums (l.map fun c=>(c.toNat:Int))=Bs l:=by
   unfold strOfNums Bs
   congr 2
   rw[List.map_map]
   conv=>rhs;rw[<- List.map_id l]
   apply List.map_congr_left
   intro x _
   simp
  rw[this];rfl
end
theorem wN {na:Bool} {xs:List Nat} (hw:Wd xs) {z:Int} (hxz:ap na xs=z) (hz:ew z):aa Tryz.prog 278 [dI na xs] (.one (dL (fmt z))):=by
 have hN:(mc z.natAbs).length<=42949672960:=by
  have h1:=cI (Nat.le_refl (digs z.natAbs).length);refine Nat.le_trans (vK (10*(digs z.natAbs).length) _ (Nat.lt_of_lt_of_le h1 ?_)) (by unfold ew at hz;omega);rw[Nat.pow_mul];exact Nat.pow_le_pow_left (by decide) _
 refine kV func278 ?_;refine kQ (Ay (na:=na) hw hxz) ?_;refine ay (Nat × List UInt8) (fun p=>mc z.natAbs=mc p.1++p.2/\(digs p.1).length<=2147483648) (fun p=>⟨[(1, .box 0 0),(3, .d (dL p.2)),(4, .d (dW (digs p.1)))],[(0,some (aZ z))]⟩) (fun p=>p.1) (z.natAbs,[]) ⟨by simp,hz⟩ kw ?_;rintro⟨a,t⟩ ⟨ha,hl⟩;dsimp only at ha hl ⊢;refine kW ?_;refine n7 rfl (fun h=>?_) (fun h=>?_)
 ·have h0:a≠0:=fun e=>by rw[e,aG]at h;exact absurd h (by decide)
  have hdl:=congrArg List.length ha;rw[ek h0]at hdl
  simp only[List.length_append,List.length_cons,List.length_nil]at hdl
  have hm10:a%10<10:=Nat.mod_lt _ (by decide)
  refine eS ?_;refine kW ?_;refine ax (Gy (b:=10) (Nat.le_trans hl (by decide)) (by decide) (by decide)) rfl rfl rfl rfl rfl rfl rfl ?_;refine kW ?_
  have hcv:(Value.int .u8 (IntKind.u8.wrap (IntKind.u32.wrap (48+((a%10:Nat):Int)))):Value)= .int .u8 ((dg (a%10)).toNat:Int):=by
   rw[IntWalk.u32_in _ (by omega),IntWalk.u8_in _ (by omega),nI hm10];rfl
  refine QD ac (l:=[dg (a%10)]) (congrArg (fun v=>[AV.val v]) hcv) (by simp) rfl rfl rfl rfl rfl rfl rfl rfl rfl rfl rfl ?_;refine kO ?_;refine aO rfl rfl rfl rfl rfl rfl rfl (iP (a:=[dg (a%10)]) (b:=t) (by simp;omega)) ?_;refine kW ?_;refine⟨(a/10,dg (a%10)::t),⟨?_,?_⟩,?_,weak ⟨rfl,rfl,rfl,trivial⟩ ⟨rfl,trivial⟩ rfl⟩
  ·rw[ha,ek h0];simp
  ·exact Nat.le_trans (eh (Nat.div_le_self _ _)) hl
  ·dsimp only;omega
 ·have h0:a=0:=by
   have:=of_decide_eq_false h;exact cX.1 (by omega)
  subst h0;rw[ef,List.nil_append]at ha;refine rD ?_;refine bG ?_;refine bG ?_;refine bz rfl ?_;refine kO ?_;refine aO rfl rfl rfl rfl rfl rfl rfl (qv (b:=[])) ?_;refine kW ?_
  by_cases hz0:z=0
  ·have ht:t=[]:=by rw[<- ha,hz0];exact ef
   subst hz0;refine ft (T:=TT) rfl ?_ ?_
   ·exact decide_eq_true ht
   exact aD
  ·have ht:t≠[]:=by
    rw[<- ha,ek (by omega)]
    simp
   refine im (T:=TT) rfl ?_ ?_
   ·exact decide_eq_false ht
   refine eS ?_;refine kW ?_;refine n7 rfl (fun h=>?_) (fun h=>?_)
   ·have hneg:=of_decide_eq_true h
    refine bG ?_;refine bz rfl ?_;refine kO ?_;refine aO rfl rfl rfl rfl rfl rfl rfl (iP (a:=[45]) (b:=t) (by rw[<- ha];simp;omega)) ?_;refine kW ?_
    have hf:fmt z=[45]++t:=by
     unfold fmt;rw[if_neg hz0,if_pos hneg,ha]
    rw[hf];exact de (T:=TT) rfl rfl
   ·have hneg:=of_decide_eq_false h
    refine eS ?_;refine kW ?_
    have hf:fmt z=t:=by
     unfold fmt;rw[if_neg hz0,if_neg hneg,ha];rfl
    rw[hf];exact de (T:=TT) rfl rfl
theorem lD {z:Int} (hz:ew z):aa Tryz.prog 278 [dZ z] (.one (dL (fmt z))):=wN (av _) (aP z) hz
theorem zX (a b:List UInt8):num (a++b)=num a*10^b.length+num b:=by
 have:∀n (b:List UInt8),b.length=n->num (a++b)=num a*10^b.length+num b:=by
  intro n
  induction n with
  |zero=>intro b hb;rw[List.eq_nil_of_length_eq_zero hb];simp[num]
  |succ n ih=>
   intro b hb
   obtain⟨b',c,rfl⟩:∃l' c,b=l'++[c]:=by
    rcases List.eq_nil_or_concat b with h| ⟨l',c,h⟩
    ·subst h;simp at hb
    ·exact⟨l',c,by simpa using h⟩
   rw[<- List.append_assoc,iT,ih b' (by simpa using hb),iT,List.length_append,List.length_singleton,Nat.pow_succ];generalize num a=x,10^b'.length=y;rw[<- Nat.mul_assoc,Nat.mul_comm (x*y) 10];omega
 exact this _ b rfl
section
variable {P:Program} {T:TypeId->Option Ty} {n:Nat} {ops:Array Oper} {id:Nat} {draw:Bool} {K:AS->Prop} {s:AS} {k:Nat} {o:Oper} {os:List Oper} {fps:List FP}
end
def fJ (na:Bool) (xs:List Nat) (nb:Bool) (ys:List Nat):Bool:=dx na xs && dx nb ys && decide (0<ap nb ys) && decide (Nat.gcd (val xs) (val ys)=1)
theorem pa {na:Bool} {xs:List Nat} (hw:Wd xs) (h:dx na xs=true):xs=digs (ap na xs).natAbs/\na=decide (ap na xs<0):=by
 unfold dx at h;rw[Bool.and_eq_true]at h;have h1:=of_decide_eq_true h.1;have hp:=(ki hw).1;rw[h1,List.take_length]at hp;rw[bD];refine⟨hp,?_⟩;cases na
 ·exact(decide_eq_false (by unfold ap;simp)).symm
 ·have h2:=h.2
  simp at h2
  have:val xs≠0:=fun e=>by
   rw[hp]at h2;unfold trim at h2;rw[e,aG]at h2
   simp at h2
  exact(decide_eq_true (by unfold ap;simp;omega)).symm
theorem nN {na nb:Bool} {xs ys:List Nat} (hw:Wd xs) (hw':Wd ys) (h:fJ na xs nb ys=true):∃q:Rat,Cr na xs nb ys=aQ q/\xs=digs q.num.natAbs/\ys=digs (q.den:Int).natAbs:=by
 unfold fJ at h
 simp only[Bool.and_eq_true,decide_eq_true_eq]at h
 obtain⟨⟨⟨h1,h2⟩,h3⟩,h4⟩:=h;obtain⟨e1,e2⟩:=pa hw h1;obtain⟨e3,e4⟩:=pa hw' h2;have hd:((ap nb ys).toNat:Int)=ap nb ys:=by omega
 refine⟨⟨ap na xs,(ap nb ys).toNat,by omega,?_⟩,?_,e1,?_⟩
 ·rw[bD,show(ap nb ys).toNat=(ap nb ys).natAbs by omega,bD];exact h4
 ·show aI na xs++aI nb ys=aZ (ap na xs)++aZ ((ap nb ys).toNat:Int)
  rw[hd];unfold aZ;rw[<- e1,<- e2,<- e3,<- e4]
 ·show ys=digs ((ap nb ys).toNat:Int).natAbs
  rw[hd];exact e3
theorem lN (q:Rat):fJ (decide (q.num<0)) (digs q.num.natAbs) (decide ((q.den:Int)<0)) (digs (q.den:Int).natAbs)=true:=by
 unfold fJ;rw[rf,rf,aP,ae,ae,decide_eq_true (cG q),decide_eq_true (by rw[Int.natAbs_natCast];exact q.reduced)];rfl
theorem oT {na nb:Bool} {xs ys:List Nat} (hw:Wd xs) (hw':Wd ys) (h1:mo xs) (h2:mo ys) {b:Bool} (hb:fJ na xs nb ys=b):aa Tryz.prog 241 [Jt na xs nb ys] (.one (dB b)):=by
 subst hb;unfold fJ;cases c1:dx na xs
 ·refine NC ?_
  exact aD
 cases c2:dx nb ys
 ·refine NC ?_
  refine kW ?_;refine kC (lY (na:=nb) hw' c2) ?_;exact aD
 by_cases c3:0<ap nb ys
 ·have hc:decide (Nat.gcd (val xs) (val ys)=1)=decide (((Nat.gcd (val xs) (val ys):Nat):Int)=1):=by by_cases h:Nat.gcd (val xs) (val ys)=1<;>simp[h]<;>omega
  rw[decide_eq_true c3,hc];refine NL ?_;refine kQ (oc (na:=nb) hw' (Int.sign_eq_one_of_pos c3)) ?_;refine kQ (xT (na:=na) (nb:=nb) hw hw' h1 h2) ?_;refine kC (cT rfl) ?_;exact aD
 ·rw[decide_eq_false c3]
  obtain⟨z,hz,hz0⟩:∃z,(ap nb ys).sign=z/\ ¬z > 0:=⟨_,rfl,fun h=>c3 (Int.sign_pos_iff.1 h)⟩;refine NL ?_;refine kC (oc (na:=nb) hw' hz) ?_;refine kB false ?_ ?_
  ·exact decide_eq_false hz0
  exact aD
theorem yz {k:Nat} (q:Rat) (h:dy k q) (hk:k<=2147483648):aa Tryz.prog 241 [dQ q] (.one (dB true)):=oT (av _) (av _) (Nat.le_trans h.1.digs hk) (Nat.le_trans h.2.digs hk) (lN q)
theorem nD {na nb:Bool} {xs ys:List Nat} (hw:Wd xs) (hw':Wd ys) (h1:mo xs) (h2:mo ys) {b:Bool} (hb:fJ na xs nb ys=b):aa Tryz.prog 155 [Jt na xs nb ys] (.one (dB b)):=by
 subst hb;unfold fJ;cases c1:dx na xs
 ·refine Ni ?_
  exact aD
 cases c2:dx nb ys
 ·refine Ni ?_
  refine kW ?_;refine kC (kl (na:=nb) hw' c2) ?_;exact aD
 by_cases c3:0<ap nb ys
 ·have hc:decide (Nat.gcd (val xs) (val ys)=1)=decide (((Nat.gcd (val xs) (val ys):Nat):Int)=1):=by by_cases h:Nat.gcd (val xs) (val ys)=1<;>simp[h]<;>omega
  rw[decide_eq_true c3,hc];refine LT ?_;refine kQ (lI (na:=nb) hw' (Int.sign_eq_one_of_pos c3)) ?_;refine kQ (uA (na:=na) (nb:=nb) hw hw' h1 h2) ?_;refine kC (fP rfl) ?_;exact aD
 ·rw[decide_eq_false c3]
  obtain⟨z,hz,hz0⟩:∃z,(ap nb ys).sign=z/\ ¬z > 0:=⟨_,rfl,fun h=>c3 (Int.sign_pos_iff.1 h)⟩;refine LT ?_;refine kC (lI (na:=nb) hw' hz) ?_;refine kB false ?_ ?_
  ·exact decide_eq_false hz0
  exact aD
theorem vu {k:Nat} (q:Rat) (h:dy k q) (hk:k<=2147483648):aa Tryz.prog 155 [dQ q] (.one (dB true)):=nD (av _) (av _) (Nat.le_trans h.1.digs hk) (Nat.le_trans h.2.digs hk) (lN q)
theorem LB {xs:List Nat} {i x:Nat} (h:xs[i]? =some x):∀(j:Nat) (a:AV),[AV.val (dh x)][j]? =some a->(xs.map fun x:Nat=>AV.val (dh x))[i*1+j]? =some a:=by
 exact Dc
theorem xy {na nb:Bool} {xs ys:List Nat} (h:xs≠ys):sameB na nb xs ys=false:=by unfold sameB;rw[decide_eq_false h,Bool.and_false]
theorem rW {na:Bool} {xs ys:List Nat} (h:xs=ys):sameB na na xs ys=true:=by unfold sameB;rw[decide_eq_true h];cases na<;>rfl
theorem iC {na nb:Bool} {xs ys:List Nat} (hl:xs.length<=2147483648) {b:Bool} (hb:sameB na nb xs ys=b):aa Tryz.prog 97 [dI na xs,dI nb ys] (.one (dB b)):=by
 subst hb
 by_cases hn:na=nb
 ·subst hn
  by_cases hxy:xs.length=ys.length
  ·cases na
   ·refine Lt ?_
    refine kB false ?_ ?_
    ·exact(by simp[hxy])
    refine kW ?_;refine ay Nat (fun j=>j<=xs.length/\ ∀i,i<j->xs[i]? =ys[i]?) (fun j=>⟨[(2, .box 0 0),(3, .box 1 0),(5, .d (dN .i64 j))],[(0,some (aI false xs)),(1,some (aI false ys))]⟩) (fun j=>xs.length-j) 0 ⟨Nat.zero_le _,fun i h=>absurd h (Nat.not_lt_zero _)⟩ kw ?_;exact KZ
   ·refine Lt ?_
    refine kB false ?_ ?_
    ·exact(by simp[hxy])
    refine kW ?_;refine ay Nat (fun j=>j<=xs.length/\ ∀i,i<j->xs[i]? =ys[i]?) (fun j=>⟨[(2, .box 0 0),(3, .box 1 0),(5, .d (dN .i64 j))],[(0,some (aI true xs)),(1,some (aI true ys))]⟩) (fun j=>xs.length-j) 0 ⟨Nat.zero_le _,fun i h=>absurd h (Nat.not_lt_zero _)⟩ kw ?_;exact KZ
  ·rw[xy (fun e=>hxy (by rw[e]))]
   cases na
   ·refine Lt ?_
    refine As ?_;exact aD
   ·refine Lt ?_
    refine As ?_;exact aD
 ·have e:sameB na nb xs ys=false:=by unfold sameB;cases na<;>cases nb<;>first|rfl|exact absurd rfl hn
  rw[e];cases na<;>cases nb
  ·exact absurd rfl hn
  ·refine kU func97 ?_
   exact aD
  ·refine kU func97 ?_
   exact aD
  ·exact absurd rfl hn
theorem gM {a b:Int} (h:ew a) {t:Bool} (ht:decide (a=b)=t):aa Tryz.prog 97 [dZ a,dZ b] (.one (dB t)):=iC h (by rw[tT,ht])
theorem xZ {a b:Rat}:decide (a=b)=(decide (a.num=b.num) && decide ((a.den:Int)=(b.den:Int))):=by
 by_cases h:a=b
 ·subst h;simp
 ·rw[decide_eq_false h]
  by_cases h1:a.num=b.num
  ·have:¬(a.den:Int)=b.den:=fun e=>h (Rat.ext h1 (by omega))
   simp[h1];omega
  ·simp[h1]
theorem Bl {k:Nat} {a b:Rat} (h:dy k a) (hk:k<=2147483648) {t:Bool} (ht:decide (a=b)=t):aa Tryz.prog 47 [dQ a,dQ b] (.one (dB t)):=by
 rw[xZ]at ht;subst ht
 by_cases h1:a.num=b.num
 ·rw[decide_eq_true h1,Bool.true_and]
  refine kV func47 ?_;refine kQ (gM (h.1.fit hk) (decide_eq_true h1)) ?_;refine kC (gM (h.2.fit hk) rfl) ?_;exact aD
 ·rw[decide_eq_false h1,Bool.false_and]
  refine kV func47 ?_;refine kC (gM (h.1.fit hk) (decide_eq_false h1)) ?_;exact aD
theorem Cd {z:Int} {k:Nat} (h:Sz k z):(fmt z).length<=10*k+2:=by
 have h1:(mc z.natAbs).length<=10*k:=vK _ _ (Nat.lt_of_lt_of_le h (by rw[Nat.pow_mul];exact Nat.pow_le_pow_left (by decide) _));unfold fmt
 split
 ·simp
 ·rw[List.length_append]
  have:(if z<0 then [45]else []:List UInt8).length<=1:=by split <;>simp
  omega
theorem J0 {l:List UInt8} (h:∀c∈l,fV c):jA l=false/\gb l=l:=by
 have:=BJ (b:=false) (l:=l) (fun c r e=>h c (by rw[e];simp))
 simp at this
 exact⟨this.2,this.1⟩
open Classical in
theorem FR {l:List UInt8} (h:∀c∈l,fV c) (hl:l.length<=65536):pz l=if zy false l then((num l:Int),0)else(0,2):=by
 obtain⟨h1,h2⟩:=J0 h
 by_cases ho:zy false l
 ·rw[if_pos ho,Mh ⟨hl,by rw[h1,h2];exact ho⟩,h1,h2];rfl
 ·rw[if_neg ho,rj (fun e=>ho (by have:=e.2;rwa[h1,h2]at this))]
def j7 (q:Rat) (p:Int):List AV:=aQ q++[.val (.int .i64 p)]
def sX (q:Rat) (p:Int):DV:= .agg (j7 q p)
def iw:List AV:=ra++[.val (.int .i64 0)]
def D7:DV:= .agg iw
def nT (p:Int):Bool:=decide (-4<=p) && decide (p<=4)
theorem qp {cs cs':List AV} {o k:Nat} (h:(cs.drop o).take k=cs'):∀(j:Nat) (a:AV),cs'[j]? =some a->cs[o+j]? =some a:=by
 intro j a hj;rw[<- h,List.getElem?_take]at hj
 split at hj
 ·simpa using hj
 ·cases hj
def JK:List (List UInt8 × Rat):=[([99,109],(10:Int)),([102,116],Rat.divInt 1524 5),([105,110],Rat.divInt 127 5),([109],(1000:Int)),([109,109],(1:Int))]
def Ie (s:List UInt8):List (List UInt8 × Rat)->Option Rat
 | []=>none
 |(n,q)::r=>if s=n then some q else Ie s r
def PE (s:List UInt8):Option Rat:=Ie s JK
def gE:List AV:=[.val (.string ⟨#[99,109]⟩), .val (.int .i64 10), .val (.int .i64 1), .val (.string ⟨#[102,116]⟩), .val (.int .i64 1524), .val (.int .i64 5), .val (.string ⟨#[105,110]⟩), .val (.int .i64 127), .val (.int .i64 5), .val (.string ⟨#[109]⟩), .val (.int .i64 1000), .val (.int .i64 1), .val (.string ⟨#[109,109]⟩), .val (.int .i64 1), .val (.int .i64 1)]
def wO (s:List UInt8):RV:=match PE s with
 |some q=> .tup [sX q 1,dB true]
 |none=> .tup [D7,dB false]
theorem xj (s:List UInt8):aa Tryz.prog 122 [dL s] (wO s):=by
 refine kV func122 ?_;refine eR 6 ?_;refine aL ⟨[(0, .d (dL s)),(2, .box 0 0),(3, .d (dB false)),(6, .d (.leaf (.sl 5 gE))),(7, .d (dN .i64 5)),(8, .d (dN .i64 0))],[(0,some iw)]⟩ kw ?_;refine kW ?_;refine bP (i:=0) (cs':=[.val (vL [99,109]), .val (.int .i64 10), .val (.int .i64 1)]) (by decide) (qp (k:=3) rfl) (by decide) rfl rfl rfl rfl rfl rfl rfl rfl ?_;refine RF ?_
 by_cases h0:s=[99,109]
 ·refine aO rfl rfl rfl rfl rfl rfl rfl (bO (a:=[99,109]) (b:=s) h0.symm) ?_
  refine kW ?_;refine ax (iI 10 1 (by decide) (by decide) (by decide) (by decide) (q:=((10:Int):Rat)) (by first|rfl|exact divInt_one _)) rfl rfl rfl rfl rfl rfl rfl ?_;refine kW ?_;have:wO s= .tup [sX (((10:Int):Rat)) 1,dB true]:=by subst h0;rfl
  exact LI
 refine aO rfl rfl rfl rfl rfl rfl rfl (b6 (a:=[99,109]) (b:=s) (fun e=>h0 e.symm)) ?_;refine kW ?_;refine aL ⟨[(0, .d (dL s)),(2, .box 0 0),(3, .d (dB false)),(6, .d (.leaf (.sl 5 gE))),(7, .d (dN .i64 5)),(8, .d (dN .i64 1))],[(0,some iw)]⟩ kw ?_;refine kW ?_;refine bP (i:=1) (cs':=[.val (vL [102,116]), .val (.int .i64 1524), .val (.int .i64 5)]) (by decide) (qp (k:=3) rfl) (by decide) rfl rfl rfl rfl rfl rfl rfl rfl ?_;refine RF ?_
 by_cases h1:s=[102,116]
 ·refine aO rfl rfl rfl rfl rfl rfl rfl (bO (a:=[102,116]) (b:=s) h1.symm) ?_
  refine kW ?_;refine ax (iI 1524 5 (by decide) (by decide) (by decide) (by decide) (q:=Rat.divInt 1524 5) (by first|rfl|exact divInt_one _)) rfl rfl rfl rfl rfl rfl rfl ?_;refine kW ?_;have:wO s= .tup [sX (Rat.divInt 1524 5) 1,dB true]:=by subst h1;rfl
  exact LI
 refine aO rfl rfl rfl rfl rfl rfl rfl (b6 (a:=[102,116]) (b:=s) (fun e=>h1 e.symm)) ?_;refine kW ?_;refine aL ⟨[(0, .d (dL s)),(2, .box 0 0),(3, .d (dB false)),(6, .d (.leaf (.sl 5 gE))),(7, .d (dN .i64 5)),(8, .d (dN .i64 2))],[(0,some iw)]⟩ kw ?_;refine kW ?_;refine bP (i:=2) (cs':=[.val (vL [105,110]), .val (.int .i64 127), .val (.int .i64 5)]) (by decide) (qp (k:=3) rfl) (by decide) rfl rfl rfl rfl rfl rfl rfl rfl ?_;refine RF ?_
 by_cases h2:s=[105,110]
 ·refine aO rfl rfl rfl rfl rfl rfl rfl (bO (a:=[105,110]) (b:=s) h2.symm) ?_
  refine kW ?_;refine ax (iI 127 5 (by decide) (by decide) (by decide) (by decide) (q:=Rat.divInt 127 5) (by first|rfl|exact divInt_one _)) rfl rfl rfl rfl rfl rfl rfl ?_;refine kW ?_;have:wO s= .tup [sX (Rat.divInt 127 5) 1,dB true]:=by subst h2;rfl
  exact LI
 refine aO rfl rfl rfl rfl rfl rfl rfl (b6 (a:=[105,110]) (b:=s) (fun e=>h2 e.symm)) ?_;refine kW ?_;refine aL ⟨[(0, .d (dL s)),(2, .box 0 0),(3, .d (dB false)),(6, .d (.leaf (.sl 5 gE))),(7, .d (dN .i64 5)),(8, .d (dN .i64 3))],[(0,some iw)]⟩ kw ?_;refine kW ?_;refine bP (i:=3) (cs':=[.val (vL [109]), .val (.int .i64 1000), .val (.int .i64 1)]) (by decide) (qp (k:=3) rfl) (by decide) rfl rfl rfl rfl rfl rfl rfl rfl ?_;refine RF ?_
 by_cases h3:s=[109]
 ·refine aO rfl rfl rfl rfl rfl rfl rfl (bO (a:=[109]) (b:=s) h3.symm) ?_
  refine kW ?_;refine ax (iI 1000 1 (by decide) (by decide) (by decide) (by decide) (q:=((1000:Int):Rat)) (by first|rfl|exact divInt_one _)) rfl rfl rfl rfl rfl rfl rfl ?_;refine kW ?_;have:wO s= .tup [sX (((1000:Int):Rat)) 1,dB true]:=by subst h3;rfl
  exact LI
 refine aO rfl rfl rfl rfl rfl rfl rfl (b6 (a:=[109]) (b:=s) (fun e=>h3 e.symm)) ?_;refine kW ?_;refine aL ⟨[(0, .d (dL s)),(2, .box 0 0),(3, .d (dB false)),(6, .d (.leaf (.sl 5 gE))),(7, .d (dN .i64 5)),(8, .d (dN .i64 4))],[(0,some iw)]⟩ kw ?_;refine kW ?_;refine bP (i:=4) (cs':=[.val (vL [109,109]), .val (.int .i64 1), .val (.int .i64 1)]) (by decide) (qp (k:=3) rfl) (by decide) rfl rfl rfl rfl rfl rfl rfl rfl ?_;refine RF ?_
 by_cases h4:s=[109,109]
 ·refine aO rfl rfl rfl rfl rfl rfl rfl (bO (a:=[109,109]) (b:=s) h4.symm) ?_
  refine kW ?_;refine ax (iI 1 1 (by decide) (by decide) (by decide) (by decide) (q:=((1:Int):Rat)) (by first|rfl|exact divInt_one _)) rfl rfl rfl rfl rfl rfl rfl ?_;refine kW ?_;have:wO s= .tup [sX (((1:Int):Rat)) 1,dB true]:=by subst h4;rfl
  exact LI
 refine aO rfl rfl rfl rfl rfl rfl rfl (b6 (a:=[109,109]) (b:=s) (fun e=>h4 e.symm)) ?_;refine kW ?_;refine aL ⟨[(0, .d (dL s)),(2, .box 0 0),(3, .d (dB false)),(6, .d (.leaf (.sl 5 gE))),(7, .d (dN .i64 5)),(8, .d (dN .i64 5))],[(0,some iw)]⟩ kw ?_;refine kW ?_
 have:wO s= .tup [D7,dB false]:=by
  unfold wO PE JK
  simp only[Ie,h0,h1,h2,h3,h4,if_false]
 exact LI
theorem lR {q:Rat} {p:Int} (h:nT p=true):aa Tryz.prog 181 [dQ q,dN .i64 p] (.tup [sX q p,dN .i64 0]):=by
 simp only[nT,Bool.and_eq_true,decide_eq_true_eq]at h
 refine kU func181 ?_;refine iD ?_;refine kE ?_
 refine kO2 ?_
 refine kE ?_;exact aD
theorem qH {q:Rat} {p:Int} (h:nT p=false):aa Tryz.prog 181 [dQ q,dN .i64 p] (.tup [D7,dN .i64 8]):=by
 simp only[nT,Bool.and_eq_false_iff,decide_eq_false_iff_not]at h
 by_cases h1:p< -4
 ·refine kU func181 ?_
  refine iD ?_;refine kB true ?_ ?_
  ·exact decide_eq_true h1
  exact aD
 ·refine kU func181 ?_
  refine iD ?_;refine kB false ?_ ?_
  ·exact decide_eq_false h1
  refine kO2 ?_
  refine kT ?_;exact aD
abbrev QR:=Except Int (Rat × Int)
def fM:QR->RV
 | .ok x=> .tup [sX x.1 x.2,dN .i64 0]
 | .error e=> .tup [D7,dN .i64 e]
def q6 (a:Rat) (p:Int) (b:Rat) (p':Int):QR:=if p=p' then .ok (a+b,p)else .error 8
def vd (a:Rat) (p:Int) (b:Rat) (p':Int):QR:=if nT (p+p')then .ok (a*b,p+p')else .error 8
def yG (a:Rat) (p:Int) (b:Rat) (p':Int):QR:=if b=0 then .error 6 else if nT (p-p')then .ok (a/b,p-p')else .error 8
theorem xY {j k:Nat} {a b:Rat} {p p':Int} (h:dy j a) (h':dy k b) (hk:j+k+1<=2147483648) (hp:nT p=true):aa Tryz.prog 125 [sX a p,sX b p'] (fM (q6 a p b p')):=by
 unfold q6
 by_cases e:p=p'
 ·rw[if_pos e]
  refine kU func125 ?_;refine NW ?_;refine kB false ?_ ?_
  ·exact(by rw[e];simp)
  refine kW ?_;refine kQ (qK h h' hk rfl) ?_;refine kC (lR hp) ?_;exact aD
 ·rw[if_neg e]
  refine kU func125 ?_;refine NW ?_;refine kB true ?_ ?_
  ·exact(by simpa using e)
  exact aD
theorem C7 {p p':Int} (h:nT p=true) (h':nT p'=true): -8<=p+p'/\p+p'<=8/\ -8<=p-p'/\p-p'<=8:=by
 simp only[nT,Bool.and_eq_true,decide_eq_true_eq]at h h'
 omega
theorem Im {j k:Nat} {a b:Rat} {p p':Int} (h:dy j a) (h':dy k b) (hk:j+k<=2147483648) (hp:nT p=true) (hp':nT p'=true):aa Tryz.prog 126 [sX a p,sX b p'] (fM (vd a p b p')):=by
 have hr:=C7 hp hp';unfold vd;cases e:nT (p+p')
 ·rw[if_neg (by simp)]
  refine DA ?_;refine kC (qH e) ?_;exact aD
 ·rw[if_pos rfl]
  refine DA ?_;refine kC (lR e) ?_;exact aD
theorem Jk {j k:Nat} {a b:Rat} {p p':Int} (h:dy j a) (h':dy k b) (hk:j+k<=2147483648) (hp:nT p=true) (hp':nT p'=true):aa Tryz.prog 127 [sX a p,sX b p'] (fM (yG a p b p')):=by
 have hr:=C7 hp hp';have hw:IntKind.i64.wrap (p-p')=p-p':=IntWalk.i64_in _ (by omega);unfold yG
 by_cases hb:b=0
 ·rw[if_pos hb]
  refine kV func127 ?_;refine kC (DO hb) ?_;exact aD
 ·rw[if_neg hb]
  cases e:nT (p-p')
  ·rw[if_neg (by simp)]
   rw[<- hw]at e;refine kV func127 ?_;refine kQ (yy h h' hk hb rfl) ?_;refine kC (qH e) ?_;exact aD
  ·rw[if_pos rfl]
   rw[<- hw]at e;refine kV func127 ?_;refine kQ (yy h h' hk hb rfl) ?_;refine kC (lR e) ?_;refine N0 ?_;rw[hw];rfl
theorem ly {k:Nat} {a:Rat} {p:Int} (h:dy k a) (hk:k<=2147483648):aa Tryz.prog 124 [sX a p] (.one (sX (-a) p)):=by
 refine kV func124 ?_;refine kC (FG h hk rfl) ?_;exact aD
theorem oI {k:Nat} {a b:Rat} {p p':Int} (h:dy k a) (hk:k<=2147483648) {t:Bool} (ht:(decide (p=p') && decide (a=b))=t):aa Tryz.prog 28 [sX a p,sX b p'] (.one (dB t)):=by
 by_cases e:p=p'
 ·refine kU func28 ?_
  refine NW ?_;refine kB true ?_ ?_
  ·exact(by rw[e];simp)
  refine kW ?_;refine ax (Bl h hk (t:=t) (by rw[<- ht,decide_eq_true e];rfl)) rfl rfl rfl rfl rfl rfl rfl ?_;exact aD
 ·have:t=false:=by rw[<- ht,decide_eq_false e];rfl
  subst this;refine kU func28 ?_;refine NW ?_;refine kB false ?_ ?_
  ·exact(by simpa using e)
  exact aD
theorem N8 {k:Nat} {a:Rat} {p:Int} (h:dy k a) (hk:k<=2147483648):aa Tryz.prog 28 [sX a p,sX a p] (.one (dB true)):=oI h hk (by simp)
theorem xp {n d:Int} (hd:d≠0):Rat.divInt n d=0↔n=0:=by
 have h0:(0:Rat)=Rat.divInt 0 1:=by rfl
 rw[h0,Rat.divInt_eq_divInt_iff hd (by decide)]
 simp
theorem A6 {s:List UInt8} {q:Rat} (h:PE s=some q):dy 1 q/\q≠0:=by
 have key:∀(l:List (List UInt8 × Rat)),(∀x∈l,dy 1 x.2/\x.2≠0)-> ∀q,Ie s l=some q->dy 1 q/\q≠0:=by
  intro l
  induction l with
  |nil=>intro _ q h;cases h
  |cons x l ih=>
   intro hl q h;obtain⟨n,r⟩:=x
   simp only[Ie]at h
   split at h
   ·cases h;exact hl (n,q) (by simp)
   ·exact ih (fun x hx=>hl x (by simp[hx])) q h
 refine key JK (fun x hx=>?_) q h;have i1:∀n:Int,n.natAbs<4294967296->n≠0->dy 1 (n:Rat)/\(n:Rat)≠0:=fun n h0 h1=>⟨⟨.small h0, .small (z:=1) (by decide)⟩,fun e=>h1 (by exact_mod_cast e)⟩
 have i2:∀n d:Int,n.natAbs<4294967296->d.natAbs<4294967296->n≠0->d≠0->dy 1 (Rat.divInt n d)/\Rat.divInt n d≠0:=fun n d h0 h1 h2 h3=>⟨.divInt (.small h0) (.small h1) h3,fun e=>h2 ((xp h3).1 e)⟩
 simp only[JK,List.mem_cons,List.not_mem_nil,or_false]at hx
 rcases hx with rfl|rfl|rfl|rfl|rfl
 ·exact i1 10 (by decide) (by decide)
 ·exact i2 1524 5 (by decide) (by decide) (by decide) (by decide)
 ·exact i2 127 5 (by decide) (by decide) (by decide) (by decide)
 ·exact i1 1000 (by decide) (by decide)
 ·exact i1 1 (by decide) (by decide)
section
open Go.ChangeShapes Go.WideShapes Go.ChangeAt Go.RowKit Go.Joins
def Sh (P:Program):Nat->TypeId->List AV->Prop
 |0,_,_=>False
 |n+1,t,cs=>match P.underlying t with
  |some .bool=>∃b,cs=[.val (.bool b)]
  |some (.int k)=>∃i,cs=[.val (.int k i)]/\(Lit.int k i).wf=true
  |some .string=>∃s:ByteArray,cs=[.val (.string s)]/\s.size<=maxLen
  |some (.slice e)=>∃rows:List (List AV),cs=[.sl rows.length rows.flatten]/\rows.length<=maxLen/\ ∀r∈rows,Sh P n e r/\r.length=P.cellsOf e
  |some (.struct fs)=>cs.length=P.cellsOf t/\ ∀f∈fs.toList,Sh P n f.type ((cs.drop f.offset).take (P.cellsOf f.type))
  |_=>False
def mM (P:Program):Nat->Nat->List Field->Bool
 |off,sz,[]=>Nat.beq off sz
 |off,sz,f::r=>Nat.beq f.offset off && mM P (off+P.cellsOf f.type) sz r
def uH (P:Program) (L:List TypeId):Bool:=L.all fun t=>match P.underlying t with
 |some .bool=>true
 |some (.int _)=>true
 |some .string=>true
 |some (.slice e)=>L.elem e
 |some (.struct fs)=>(fs.toList.all fun f=>L.elem f.type) && mM P 0 (P.cellsOf t) fs.toList
 |_=>false
theorem xL {w:World} {a:Addr} {k:Nat} {l:List Value} (h:w.cells? 0 a k=some l):l.length=k/\ ∀(i:Nat) (v:Value),l[i]? =some v->w.cell? (a.add i)=some v:=by
 unfold World.cells? at h;rw[if_pos (Nat.zero_le _)]at h
 have:∀(xs:List Nat) (l:List Value),xs.mapM (fun i=>w.cell? (a.add i))=some l->l.length=xs.length/\ ∀(i:Nat) (v:Value),l[i]? =some v-> ∃x,xs[i]? =some x/\w.cell? (a.add x)=some v:=by
  intro xs
  induction xs with
  |nil=>intro l h;simp at h;subst h;exact⟨rfl,fun i v h=>by simp at h⟩
  |cons x xs ih=>
   intro l h
   simp only[List.mapM_cons,Option.bind_eq_bind]at h
   cases h1:w.cell? (a.add x)with
   |none=>rw[h1]at h;simp at h
   |some v=>
    cases h2:xs.mapM (fun i=>w.cell? (a.add i))with
    |none=>rw[h1,h2]at h;simp at h
    |some l'=>
     rw[h1,h2]at h
     simp at h
     subst h;obtain⟨h3,h4⟩:=ih l' h2;refine⟨by simp[h3],fun i u hu=>?_⟩;cases i with
     |zero=>simp at hu;subst hu;exact⟨x,rfl,h1⟩
     |succ i=>simpa using h4 i u (by simpa using hu)
 obtain⟨h1,h2⟩:=this _ _ h;refine⟨by simpa using h1,fun i v hv=>?_⟩;obtain⟨x,hx,hc⟩:=h2 i v hv
 have:x=i:=by
  have:=(List.getElem?_eq_some_iff.1 hx).2
  simpa using this.symm
 rw[<- this];exact hc
theorem yK {α β:Type} {f:α->Option β}:∀{xs:List α} {ys:List β},xs.mapM f=some ys->xs.length=ys.length/\ ∀(i:Nat) (x:α),xs[i]? =some x-> ∃y,ys[i]? =some y/\f x=some y
 | [],ys,h=>by simp at h;subst h;exact⟨rfl,fun i x h=>by simp at h⟩
 |x::xs,ys,h=>by
  simp only[List.mapM_cons,Option.bind_eq_bind]at h
  cases h1:f x with
  |none=>rw[h1]at h;simp at h
  |some y=>
   cases h2:xs.mapM f with
   |none=>rw[h1,h2]at h;simp at h
   |some l=>
    rw[h1,h2]at h
    simp at h
    subst h;obtain⟨h3,h4⟩:=yK h2;refine⟨by simp[h3],fun i z hz=>?_⟩;cases i with
    |zero=>simp at hz;subst hz;exact⟨y,rfl,h1⟩
    |succ i=>simpa using h4 i z (by simpa using hz)
theorem y5 {rows:List (List AV)} {k:Nat} (h:∀r∈rows,r.length=k):∀(i:Nat) (r:List AV),rows[i]? =some r-> ∀j,j<k->rows.flatten[i*k+j]? =r[j]?:=by
 induction rows with
 |nil=>intro i r hr;simp at hr
 |cons x rows ih=>
  intro i r hr j hj;have hx:=h x (by simp)
  simp only[List.flatten_cons]
  cases i with
  |zero=>simp at hr;subst hr;rw[Nat.zero_mul,Nat.zero_add,List.getElem?_append_left (by omega)]
  |succ i=>
   rw[List.getElem?_append_right (by rw[Nat.add_mul];omega)];have:=ih (fun r hr=>h r (by simp[hr])) i r (by simpa using hr) j hj;rw[<- this]
   congr 1
   rw[Nat.add_mul];omega
theorem kh {rows:List (List AV)} {k:Nat} (h:∀r∈rows,r.length=k):rows.flatten.length=rows.length*k:=by
 induction rows with
 |nil=>simp
 |cons x rows ih=>rw[List.flatten_cons,List.length_append,ih (fun r hr=>h r (by simp[hr])),h x (by simp),List.length_cons,Nat.add_mul];omega
theorem Dz {P:Program} {sz:Nat}:∀{fs:List Field} {off:Nat},mM P off sz fs=true->off<=sz
 | [],off,h=>by have:=Nat.eq_of_beq_eq_true h;omega
 |f::r,off,h=>by
  simp only[mM,Bool.and_eq_true]at h
  have:=Dz h.2;omega
theorem Dv {P:Program} {w:World} {vs:List Value} {Q:TypeId->List AV->Prop}:∀(fs:List Field) (off:Nat),mM P off vs.length fs=true ->
 (∀f∈fs,∃cf,CM (fun _=>False) w cf ((vs.drop f.offset).take (P.cellsOf f.type))/\Q f.type cf) ->
 ∃cs,CM (fun _=>False) w cs (vs.drop off)/\ ∀f∈fs,off<=f.offset/\Q f.type ((cs.drop (f.offset-off)).take (P.cellsOf f.type))
 | [],off,h,_=>by
  have:=Nat.eq_of_beq_eq_true h;subst this;rw[List.drop_length];exact⟨[],CM.nil _ _,fun f hf=>by cases hf⟩
 |f::r,off,h,hf=>by
  simp only[mM,Bool.and_eq_true]at h
  have ho:=Nat.eq_of_beq_eq_true h.1;obtain⟨cf,h1,h2⟩:=hf f (by simp);obtain⟨cs,h3,h4⟩:=Dv r _ h.2 (fun g hg=>hf g (by simp[hg]));have hle:=Dz h.2;rw[ho]at h1;have hl:cf.length=P.cellsOf f.type:=by rw[h1.1];simp;omega
  refine⟨cf++cs,?_,fun g hg=>?_⟩
  ·have:=h1.append h3
   rwa[<- List.drop_drop,List.take_append_drop]at this
  ·rcases List.mem_cons.1 hg with rfl|hg
   ·refine⟨by omega,?_⟩
    rw[ho,Nat.sub_self,List.drop_zero,List.take_left' hl];exact h2
   ·obtain⟨h5,h6⟩:=h4 g hg
    refine⟨by omega,?_⟩;rw[show g.offset-off=cf.length+(g.offset-(off+P.cellsOf f.type)) by omega,<- List.drop_drop,List.drop_left' rfl];exact h6
theorem Rb {P:Program} {W:World} {e:TypeId} {a:Addr} {len cap:Nat} {rows:List (List AV)} (hcap:cap<=9223372036854775807) (hlc:len<=cap) (hl:rows.length=len) (hsz:∀r∈rows,r.length=P.cellsOf e)
 (hr:∀i r,rows[i]? =some r-> ∃us:List Value,W.cells? 0 (a.add (i*P.cellsOf e)) (P.cellsOf e)=some us/\CM (fun _=>False) W r us):AV.M (fun _=>False) W (.sl len rows.flatten) (.slice (some a) len cap):=by
 by_cases h0:len*P.cellsOf e=0
 ·have:rows.flatten=[]:=List.eq_nil_of_length_eq_zero (by rw[kh hsz,hl];exact h0)
  rw[this];exact .emp hlc hcap (fun h=>by cases h)
 ·have hlen:0<len:=by
   rcases Nat.eq_zero_or_pos len with h|h
   ·rw[h,Nat.zero_mul]at h0;exact absurd rfl h0
   ·exact h
  have hcz:0<P.cellsOf e:=by
   rcases Nat.eq_zero_or_pos (P.cellsOf e)with h|h
   ·rw[h,Nat.mul_zero]at h0;exact absurd rfl h0
   ·exact h
  have hcell:∀q c,rows.flatten[q]? =some c-> ∃v,W.cell? (a.add q)=some v/\AV.M (fun _=>False) W c v:=by
   intro q c hq;have hql:q<len*P.cellsOf e:=by have:=(List.getElem?_eq_some_iff.1 hq).1;rwa[kh hsz,hl]at this
   have hi:q/P.cellsOf e<len:=Nat.div_lt_of_lt_mul (by rw[Nat.mul_comm];exact hql)
   have hj:q%P.cellsOf e<P.cellsOf e:=Nat.mod_lt _ hcz
   have e1:q=q/P.cellsOf e*P.cellsOf e+q%P.cellsOf e:=by have:=Nat.div_add_mod q (P.cellsOf e);rw[Nat.mul_comm]at this;omega
   have hrow':rows[q/P.cellsOf e]? =some (rows[q/P.cellsOf e]'(by omega)):=by simp
   have h1:=y5 hsz _ _ hrow' (q%P.cellsOf e) hj;rw[<- e1,hq]at h1;obtain⟨us,h3,h4⟩:=hr _ _ hrow';have h5:=(xL h3);have h6:us[q%P.cellsOf e]? =some (us[q%P.cellsOf e]'(by omega)):=by simp
   refine⟨_,?_,h4.2 _ c _ h1.symm h6⟩;have h7:=h5.2 _ _ h6
   have e2:(a.add (q/P.cellsOf e*P.cellsOf e)).add (q%P.cellsOf e)=a.add q:=by
    unfold Addr.add
    by_cases c1:q/P.cellsOf e*P.cellsOf e=0
    ·by_cases c2:q%P.cellsOf e=0
     ·rw[if_pos c1,if_pos c2,if_pos (by omega)]
     ·rw[if_pos c1,if_neg c2,if_neg (by omega)]
      simp <;>omega
    ·by_cases c2:q%P.cellsOf e=0
     ·rw[if_neg c1,if_pos c2,if_neg (by omega)]
      simp <;>omega
     ·rw[if_neg c1,if_neg c2,if_neg (by omega)]
      simp <;>omega
   rwa[e2]at h7
  have hfl:0<rows.flatten.length:=by rw[kh hsz,hl];exact Nat.mul_pos hlen hcz
  obtain⟨v0,h1,_⟩:=hcell 0 rows.flatten[0] (by simp);have e0:a.add 0=a:=rfl;rw[e0]at h1;obtain⟨b,off,spot⟩:=a
  have hsp:spot=none:=by
   cases spot with
   |none=>rfl
   |some q=>
    unfold World.cell? at h1
    split at h1
    ·simp at h1
    ·cases h1
  subst hsp;refine AV.M.sl (fun q=>(W.cell? ⟨b,off+q,none⟩).getD undef) hlc hcap (fun h=>h) (World.block_lt_of_cell? W _ h1) (fun q c hq=>?_) (fun q c hq=>?_)
  ·obtain⟨v,h3,_⟩:=hcell q c hq
   rw[b8]at h3;rw[h3];rfl
  ·obtain⟨v,h3,h4⟩:=hcell q c hq
   rw[b8]at h3;rw[h3];exact h4
section
variable {H:Type} {enc:TypeId × Value->H} {W:World} {P:Program}
theorem E4 {L:List TypeId} (hL:uH P L=true):∀(n:Nat) (t:TypeId) (vs:List Value) (x:DataW H × List MemPlace),t∈L->DataW.trod enc P W 0 (fun _=>true) true n t vs=some x ->
 ∃cs,CM (fun _=>False) W cs vs/\Sh P n t cs:=by
 intro n
 induction n with
 |zero=>intro t vs x _ h;simp[DataW.trod]at h
 |succ n ih=>
  intro t vs x ht h;have hp:=List.all_eq_true.1 hL t ht
  simp only[Sh]
  cases hu:P.underlying t with
  |none=>rw[hu]at hp;simp at hp
  |some d=>
   rw[hu]at hp;cases d with
   |bool=>
    obtain⟨b,rfl,_⟩:=DataW.trod_bool hu h;exact⟨_,CM.cons (.val rfl) (CM.nil _ _),b,rfl⟩
   |int k=>
    obtain⟨i,rfl,_,h1⟩:=DataW.trod_int hu h;exact⟨_,CM.cons (.val rfl) (CM.nil _ _),i,rfl,h1⟩
   |string=>
    obtain⟨s,rfl,_,h1⟩:=DataW.trod_string hu h;exact⟨_,CM.cons (.val rfl) (CM.nil _ _),s,rfl,h1⟩
   |slice e=>
    have he:e∈L:=by simpa using hp
    rcases DataW.trod_slice hu h with⟨rfl,_⟩| ⟨a,len,cap,elems,rest,m,hm,rfl,_,_,hlc,hcm,hel,hget,_,_⟩
    ·exact⟨_,CM.cons (.emp (Nat.le_refl _) (by omega) (fun _=>rfl)) (CM.nil _ _),[],rfl,by simp,fun r hr=>by cases hr⟩
    ·obtain rfl:m=n:=by omega
     have hrow:∀i,i<len-> ∃(r:List AV) (us:List Value),W.cells? 0 (a.add (i*P.cellsOf e)) (P.cellsOf e)=some us/\CM (fun _=>False) W r us/\Sh P m e r:=by
      intro i hi;have h1:=hget i hi;have h2:elems[i]? =some elems[i]:=by simp
      rw[h2]at h1;obtain⟨us,h3,h4⟩:=Option.bind_eq_some_iff.1 h1;obtain⟨r,h5,h6⟩:=ih e us _ he h4;exact⟨r,us,h3,h5,h6⟩
     have hrows:∀k,k<=len-> ∃rows:List (List AV),rows.length=k/\ ∀i r,rows[i]? =some r-> ∃us:List Value,W.cells? 0 (a.add (i*P.cellsOf e)) (P.cellsOf e)=some us/\CM (fun _=>False) W r us/\Sh P m e r:=by
      exact NV
     obtain⟨rows,hl,hr⟩:=hrows len (Nat.le_refl _)
     have hsz:∀r∈rows,r.length=P.cellsOf e:=by
      exact MF
     have hsh:∀r∈rows,Sh P m e r:=by
      intro r hm;obtain⟨i,hi⟩:=List.getElem?_of_mem hm;obtain⟨us,_,_,h5⟩:=hr i r hi;exact h5
     refine⟨[.sl len rows.flatten],CM.cons ?_ (CM.nil _ _),rows,by rw[hl],by omega,fun r hm=>⟨hsh r hm,hsz r hm⟩⟩;exact M8
   |struct fs=>
    simp only[Bool.and_eq_true]at hp
    obtain⟨xs,m,hm,_,hlen,hxl,hget⟩:=DataW.trod_struct hu h;obtain rfl:m=n:=by omega
    have htile:=hp.2;rw[<- hlen]at htile
    obtain⟨cs,h1,h2⟩:=Dv (P:=P) (w:=W) (vs:=vs) (Q:=Sh P m) fs.toList 0 htile (fun f hf=>by
     obtain⟨i,hi⟩:=List.getElem?_of_mem hf;have hi':fs[i]? =some f:=by simpa using hi
     have h3:=hget i f hi';have hil:i<xs.length:=by rw[hxl];exact(Array.getElem?_eq_some_iff.1 hi').1
     have h4:xs[i]? =some xs[i]:=by simp[hil]
     rw[h4]at h3;have hfL:f.type∈L:=by have:=List.all_eq_true.1 hp.1 f hf;simpa using this
     exact ih f.type _ _ hfL h3)
    rw[List.drop_zero]at h1;refine⟨cs,h1,by rw[h1.1,hlen],fun f hf=>?_⟩;have:=(h2 f hf).2
    rwa[Nat.sub_zero]at this
   |_=>simp at hp
theorem C8 {L:List TypeId} (hL:uH P L=true) {t:TypeId} (ht:t∈L) {v:Value} {d:DataW H} {p:List MemPlace} (h:DataW.Trod enc P W 0 (fun _=>true) true t v d p):
 ∃n cs,CM (fun _=>False) W cs v.cells.toList/\Sh P n t cs:=by
 obtain⟨n,hn⟩:=h;obtain⟨cs,h1,h2⟩:=E4 hL n t _ _ ht hn;exact⟨n,cs,h1,h2⟩
theorem OD {cs:List AV} {vs:Array Value} (h:CM (fun _=>False) W cs vs.toList):DV.M (fun _=>False) W (.agg cs) (.agg vs):=⟨vs.toList,by simp,h⟩
end
end
section
open Go.RowKit Go.Joins
theorem Hi {n:Nat} {cs:List AV} (h:Sh Tryz.prog n 34 cs):∃xs:List Nat,cs=[aW xs]/\Wd xs:=by
 cases n with
 |zero=>exact h.elim
 |succ n=>
  simp only[Sh,underlying34]at h
  obtain⟨rows,rfl,_,hr⟩:=h
  have key:∀rows:List (List AV),(∀r∈rows,Sh Tryz.prog n 133 r/\r.length=Tryz.prog.cellsOf 133)-> ∃xs:List Nat,rows.length=xs.length/\rows.flatten=(xs.map fun x:Nat=>AV.val (dh x))/\Wd xs:=by
   intro rows
   induction rows with
   |nil=>intro _;exact⟨[],rfl,rfl,fun x hx=>by cases hx⟩
   |cons r rows ih=>
    intro hr;obtain⟨xs,h1,h2,h3⟩:=ih (fun r hm=>hr r (by simp[hm]));have h4:=(hr r (by simp)).1;cases n with
    |zero=>exact h4.elim
    |succ n=>
     simp only[Sh,underlying133]at h4
     obtain⟨i,rfl,hw⟩:=h4;have hb:=bounds_u32 hw;refine⟨i.toNat::xs,by simp[h1],?_,fun x hx=>?_⟩
     ·rw[List.flatten_cons,h2,List.map_cons]
      have:AV.val (.int .u32 i)=AV.val (dh i.toNat):=by unfold dh;congr 2;omega
      rw[this];rfl
     ·rcases List.mem_cons.1 hx with rfl|hx
      ·omega
      ·exact h3 x hx
  obtain⟨xs,h1,h2,h3⟩:=key rows hr;exact⟨xs,by unfold aW;rw[h1,h2],h3⟩
set_option maxRecDepth 100000 in
theorem GN {n:Nat} {cs:List AV} (h:Sh Tryz.prog n 36 cs):∃na xs,cs=aI na xs/\Wd xs:=by
 cases n with
 |zero=>exact h.elim
 |succ n=>
  simp only[Sh,underlying36,List.forall_mem_cons,List.not_mem_nil,false_imp_iff,implies_true,and_true]at h
  obtain⟨hl,h0,h1⟩:=h;rw[show Tryz.prog.cellsOf 36=2 by kernel_rfl]at hl;rw[show Tryz.prog.cellsOf 4=1 by kernel_rfl]at h0;rw[show Tryz.prog.cellsOf 34=1 by kernel_rfl]at h1
  match cs,hl with
  | [c0,c1],_=>
   obtain⟨xs,e1,hw⟩:=Hi h1;cases n with
   |zero=>exact h0.elim
   |succ n=>
    simp only[Sh,underlying4]at h0
    obtain⟨b,e0⟩:=h0
    simp at e0 e1
    subst e0 e1;exact⟨b,xs,rfl,hw⟩
set_option maxRecDepth 100000 in
theorem Pi {n:Nat} {cs:List AV} (h:Sh Tryz.prog n 38 cs):∃na xs nb ys,cs=Cr na xs nb ys/\Wd xs/\Wd ys:=by
 cases n with
 |zero=>exact h.elim
 |succ n=>
  simp only[Sh,underlying38,List.forall_mem_cons,List.not_mem_nil,false_imp_iff,implies_true,and_true]at h
  obtain⟨hl,h0,h1⟩:=h;rw[show Tryz.prog.cellsOf 38=4 by kernel_rfl]at hl;rw[show Tryz.prog.cellsOf 36=2 by kernel_rfl]at h0 h1
  match cs,hl with
  | [c0,c1,c2,c3],_=>
   obtain⟨na,xs,e0,w0⟩:=GN h0;obtain⟨nb,ys,e1,w1⟩:=GN h1;refine⟨na,xs,nb,ys,?_,w0,w1⟩;show [c0,c1,c2,c3]=aI na xs++aI nb ys;rw[<- e0,<- e1];rfl
theorem ug {n:Nat} {cs:List AV} (h:Sh Tryz.prog n 9 cs):∃l:List UInt8,cs=[.val (vL l)]/\l.length<=9223372036854775807:=by
 cases n with
 |zero=>exact h.elim
 |succ n=>
  simp only[Sh,underlying9]at h
  obtain⟨s,rfl,hs⟩:=h;obtain⟨l,rfl⟩:∃l,Bs l=s:=⟨_,Rk s⟩;refine⟨l,rfl,?_⟩;rw[aT]at hs;unfold maxLen at hs;exact hs
theorem Ol {n:Nat} {cs:List AV} (h:Sh Tryz.prog n 3 cs):∃i:Int,cs=[.val (.int .i64 i)]/\ -9223372036854775808<=i/\i<=9223372036854775807:=by
 cases n with
 |zero=>exact h.elim
 |succ n=>
  simp only[Sh,underlying3]at h
  obtain⟨i,rfl,hw⟩:=h;exact⟨i,rfl,bounds_i64 hw⟩
end
inductive Rx where
 |mk (op:Int) (na:Bool) (xs:List Nat) (nb:Bool) (ys:List Nat) (nm:List UInt8) (args:List Rx)
mutual
def aR:Rx->List AV
 | .mk op na xs nb ys nm args=>[.val (.int .i64 op)]++Cr na xs nb ys++[.val (vL nm), .sl args.length (da args)]
def da:List Rx->List AV
 | []=>[]
 |x::r=>aR x++da r
end
def dR (x:Rx):DV:= .agg (aR x)
theorem oE (x:Rx):(aR x).length=7:=by
 obtain⟨op,na,xs,nb,ys,nm,args⟩:=x;rfl
theorem fw:∀(l:List Rx) (i:Nat) (x:Rx),l[i]? =some x-> ∀(j:Nat) (a:AV),(aR x)[j]? =some a->(da l)[i*7+j]? =some a
 | [],i,x,h,_,_,_=>by simp at h
 |y::l,0,x,h,j,a,ha=>by
  simp at h
  subst h
  simp only[da,Nat.zero_mul,Nat.zero_add]
  exact LD
 |y::l,i+1,x,h,j,a,ha=>by
  simp only[da]
  rw[List.getElem?_append_right (by rw[oE,Nat.add_mul];omega),oE,show(i+1)*7+j-7=i*7+j by rw[Nat.add_mul];omega];exact fw l i x (by simpa using h) j a ha
inductive jN:Rx->Prop
 |mk {op:Int} {na:Bool} {xs:List Nat} {nb:Bool} {ys:List Nat} {nm:List UInt8} {args:List Rx}: -9223372036854775808<=op->op<=9223372036854775807->Wd xs->Wd ys->nm.length<=9223372036854775807->args.length<=9223372036854775807->(∀x∈args,jN x)->jN (.mk op na xs nb ys nm args)
set_option maxRecDepth 100000 in
theorem KR:∀(n:Nat) (cs:List AV),Sh Tryz.prog n 41 cs-> ∃x,cs=aR x/\jN x:=by
 intro n
 induction n using Nat.strongRecOn with
 |_ n ih=>
  intro cs h;cases n with
  |zero=>exact h.elim
  |succ n=>
   simp only[Sh,underlying41,List.forall_mem_cons,List.not_mem_nil,false_imp_iff,implies_true,and_true]at h
   obtain⟨hl,h0,h1,h2,h3⟩:=h;rw[show Tryz.prog.cellsOf 41=7 by kernel_rfl]at hl;rw[show Tryz.prog.cellsOf 3=1 by kernel_rfl]at h0;rw[show Tryz.prog.cellsOf 38=4 by kernel_rfl]at h1;rw[show Tryz.prog.cellsOf 9=1 by kernel_rfl]at h2;rw[show Tryz.prog.cellsOf 39=1 by kernel_rfl]at h3
   match cs,hl with
   | [c0,c1,c2,c3,c4,c5,c6],_=>
    obtain⟨op,e0,b0,b1⟩:=Ol h0;obtain⟨na,xs,nb,ys,e1,w0,w1⟩:=Pi h1;obtain⟨nm,e2,hn⟩:=ug h2;have e0:[c0]=[.val (.int .i64 op)]:=e0;have e1:[c1,c2,c3,c4]=Cr na xs nb ys:=e1;have e2:[c5]=[.val (vL nm)]:=e2;have h3:Sh Tryz.prog n 39 [c6]:=h3;cases n with
    |zero=>exact h3.elim
    |succ n=>
     simp only[Sh,underlying39]at h3
     obtain⟨rows,e3,hm,hr⟩:=h3
     have key:∀rows:List (List AV),(∀r∈rows,Sh Tryz.prog n 41 r/\r.length=Tryz.prog.cellsOf 41)-> ∃l:List Rx,rows.length=l.length/\rows.flatten=da l/\ ∀x∈l,jN x:=by
      intro rows
      induction rows with
      |nil=>intro _;exact⟨[],rfl,rfl,fun x hx=>by cases hx⟩
      |cons r rows ihr=>
       intro hr;obtain⟨l,k1,k2,k3⟩:=ihr (fun r hm=>hr r (by simp[hm]));obtain⟨x,k4,k5⟩:=ih n (by omega) r (hr r (by simp)).1;refine⟨x::l,by simp[k1],by rw[List.flatten_cons,k2,k4];rfl,fun y hy=>?_⟩;rcases List.mem_cons.1 hy with rfl|hy
       ·exact k5
       ·exact k3 y hy
     obtain⟨l,k1,k2,k3⟩:=key rows hr;refine⟨.mk op na xs nb ys nm l,?_, .mk b0 b1 w0 w1 hn (by unfold maxLen at hm;omega) k3⟩;show [c0,c1,c2,c3,c4,c5,c6]=[.val (.int .i64 op)]++Cr na xs nb ys++[.val (vL nm), .sl l.length (da l)]
     simp at e0 e2 e3
     rw[<- e1,e0,e2,e3,k1,k2];rfl
inductive B4 where
 |add
 |sub
 |mul
 |div
def B4.code:B4->Int
 | .add=>4
 | .sub=>5
 | .mul=>6
 | .div=>7
inductive Ex where
 |num (v:Rat) (u:List UInt8)
 |nam (s:List UInt8)
 |neg (a:Ex)
 |bin (k:B4) (a b:Ex)
def rx:Ex->Rx
 | .num v u=> .mk 1 (decide (v.num<0)) (digs v.num.natAbs) (decide ((v.den:Int)<0)) (digs (v.den:Int).natAbs) u []
 | .nam s=> .mk 2 false [] false [] s []
 | .neg a=> .mk 3 false [] false [] [] [rx a]
 | .bin k a b=> .mk k.code false [] false [] [] [rx a,rx b]
def aE (e:Ex):List AV:=aR (rx e)
def dE (e:Ex):DV:= .agg (aE e)
theorem OO (a:Ex):aE (.neg a)=[.val (.int .i64 3)]++ra++[.val (vL []), .sl 1 (aE a)]:=by
 show [.val (.int .i64 3)]++Cr false [] false []++[.val (vL []), .sl 1 (aR (rx a)++[])]=_;rw[List.append_nil];rfl
theorem rg (k:B4) (a b:Ex):aE (.bin k a b)=[.val (.int .i64 k.code)]++ra++[.val (vL []), .sl 2 (aE a++aE b)]:=by
 show [.val (.int .i64 k.code)]++Cr false [] false []++[.val (vL []), .sl 2 (aR (rx a)++(aR (rx b)++[]))]=_;rw[List.append_nil];rfl
abbrev EL:=List (List UInt8 × (Rat × Int))
def kp:EL->List AV
 | []=>[]
 |x::r=>j7 x.2.1 x.2.2++kp r
def gt (l:EL):DV:= .leaf (.sl l.length (l.map fun x=>AV.val (vL x.1)))
def ip (l:EL):DV:= .leaf (.sl l.length (kp l))
def bu (l:EL) (s:List UInt8):Option (Rat × Int):=match l with
 | []=>none
 |x::r=>if x.1=s then some x.2 else bu r s
theorem BO {l:EL} {i:Nat} {x:List UInt8 × (Rat × Int)} (h:l[i]? =some x):∀(j:Nat) (a:AV),[AV.val (vL x.1)][j]? =some a->(l.map fun x=>AV.val (vL x.1))[i*1+j]? =some a:=by
 exact Dc
theorem IH:∀{l:EL} {i:Nat} {x:List UInt8 × (Rat × Int)},l[i]? =some x-> ∀(j:Nat) (a:AV),(j7 x.2.1 x.2.2)[j]? =some a->(kp l)[i*5+j]? =some a
 | [],i,x,h,_,_,_=>by simp at h
 |y::l,0,x,h,j,a,ha=>by
  simp at h
  subst h
  simp only[kp,Nat.zero_mul,Nat.zero_add]
  exact LD
 |y::l,i+1,x,h,j,a,ha=>by
  simp only[kp]
  have h5:(j7 y.2.1 y.2.2).length=5:=rfl;rw[List.getElem?_append_right (by rw[h5,Nat.add_mul];omega),h5,show(i+1)*5+j-5=i*5+j by rw[Nat.add_mul];omega];exact IH (l:=l) (by simpa using h) j a ha
def fb (l:EL):Prop:=∀(i j:Nat) (a b:List UInt8 × (Rat × Int)),i<j->l[i]? =some a->l[j]? =some b->Op.bytesLess a.1 b.1=true
theorem gQ:∀a:List UInt8,Op.bytesLess a a=false
 | []=>rfl
 |x::a=>by simp[Op.bytesLess,gQ a]
theorem eE:∀{a b c:List UInt8},Op.bytesLess a b=true->Op.bytesLess b c=true->Op.bytesLess a c=true
 |_,_,[],_,h=>by simp[Op.bytesLess]at h
 | [],_,_::_,_,_=>rfl
 |_::_,[],_::_,h,_=>by simp[Op.bytesLess]at h
 |x::a,y::b,z::c,h,k=>by
  simp only[Op.bytesLess,Bool.or_eq_true,Bool.and_eq_true,decide_eq_true_eq,beq_iff_eq]at h k ⊢
  rcases h with h| ⟨rfl,h⟩
  ·rcases k with k| ⟨rfl,k⟩
   ·exact .inl (UInt8.lt_trans h k)
   ·exact .inl h
  ·rcases k with k| ⟨rfl,k⟩
   ·exact .inl k
   ·exact .inr ⟨rfl,eE h k⟩
theorem j3:∀{a b:List UInt8},Op.bytesLess a b=false->Op.bytesLess b a=false->a=b
 | [],[],_,_=>rfl
 | [],_::_,h,_=>by simp[Op.bytesLess]at h
 |_::_,[],_,h=>by simp[Op.bytesLess]at h
 |x::a,y::b,h,k=>by
  simp only[Op.bytesLess,Bool.or_eq_false_iff,Bool.and_eq_false_iff,decide_eq_false_iff_not,beq_eq_false_iff_ne]at h k
  have h1:x=y:=by
   rcases Nat.lt_trichotomy x.toNat y.toNat with h2|h2|h2
   ·exact absurd (UInt8.lt_iff_toNat_lt.2 h2) h.1
   ·exact UInt8.toNat_inj.1 h2
   ·exact absurd (UInt8.lt_iff_toNat_lt.2 h2) k.1
  subst h1;rw[j3 (h.2.resolve_left (fun e=>e rfl)) (k.2.resolve_left (fun e=>e rfl))]
theorem t6 {t:TypeId} {x y:Operand} {a b:List UInt8}:lQ .lss t x y (vL a) (vL b)=some (.bool (Op.bytesLess a b)):=by
 show some (Value.bool (Op.bytesLess (Bs a).toList (Bs b).toList))=_;rw[fL,fL]
theorem wu (a:List UInt8):aa Tryz.prog 193 [dL a] (.one (dB false)):=by
 refine kU func193 ?_;exact TB
theorem y7 (a:List UInt8):aa Tryz.prog 131 [dL a] (.one (dB false)):=by
 refine kU func131 ?_;exact TB
theorem JD (a b:List UInt8):aa Tryz.prog 130 [dL a,dL b] (.one (dB (Op.bytesLess a b))):=by
 refine kU func130 ?_;refine iD ?_;refine kC (wu a) ?_
 iterate 8 refine kO ?_
 refine aO rfl rfl rfl rfl rfl rfl rfl (t6 (a:=a) (b:=b)) ?_;exact aD
theorem Ld (l:EL) (hs:fb l) (hl:l.length<=1000000) (s:List UInt8):∃(i:Nat) (b:Bool),aa Tryz.prog 75 [gt l,dL s] (.tup [dN .i64 i,dB b]) /\
 (b=true-> ∃x,l[i]? =some x/\x.1=s)/\(b=false-> ∀x∈l,x.1≠s):=by
 obtain⟨p,hp1,hp2,hp3⟩:∃p,p<=l.length/\(∀(q:Nat) x,q<p->l[q]? =some x->Op.bytesLess x.1 s=true)/\(∀(q:Nat) x,p<=q->l[q]? =some x->Op.bytesLess x.1 s=false):=by
  have:∀k,k<=l.length-> ∃p,p<=k/\(∀(q:Nat) x,q<p->l[q]? =some x->Op.bytesLess x.1 s=true)/\(∀(q:Nat) x,p<=q->q<k->l[q]? =some x->Op.bytesLess x.1 s=false):=by
   intro k
   induction k with
   |zero=>intro _;exact⟨0,Nat.le_refl _,fun q x h=>absurd h (Nat.not_lt_zero _),fun q x _ h=>absurd h (Nat.not_lt_zero _)⟩
   |succ k ih=>
    intro hk;obtain⟨p,h1,h2,h3⟩:=ih (by omega);have hx:l[k]? =some (l[k]'(by omega)):=by simp
    by_cases hpk:p=k
    ·cases hb:Op.bytesLess (l[k]'(by omega)).1 s
     ·exact⟨k,by omega,fun q x hq=>h2 q x (by omega),fun q x h4 h5 h6=>by
       obtain rfl:q=k:=by omega
       rw[hx]at h6;cases h6;exact hb⟩
     ·exact⟨k+1,by omega,fun q x hq h6=>by
       by_cases e:q=k
       ·subst e;rw[hx]at h6;cases h6;exact hb
       ·exact h2 q x (by omega) h6,fun q x h4 h5=>by omega⟩
    ·refine⟨p,by omega,h2,fun q x h4 h5 h6=>?_⟩
     by_cases e:q=k
     ·subst e
      have hpx:l[p]? =some (l[p]'(by omega)):=by simp
      have h7:=h3 p _ (Nat.le_refl _) (by omega) hpx;cases hb:Op.bytesLess x.1 s
      ·rfl
      ·have h8:=hs p q _ _ (by omega) hpx h6
       rw[eE h8 hb]at h7;cases h7
     ·exact h3 q x h4 (by omega) h6
  obtain⟨p,h1,h2,h3⟩:=this l.length (Nat.le_refl _);exact⟨p,h1,h2,fun q x h4 h5=>h3 q x h4 (List.getElem?_eq_some_iff.1 h5).1 h5⟩
 have done:∀b,(∀x,l[p]? =some x->decide (x.1=s)=b)->(l[p]? =none->b=false)->aa Tryz.prog 75 [gt l,dL s] (.tup [dN .i64 p,dB b]):=by
  intro b hb hb';refine kV func75 ?_
  refine ay (Nat × Nat) (fun x=>x.1<=p/\p<=x.2/\x.2<=l.length) (fun x=>⟨[(0, .d (gt l)),(1, .d (dL s)),(4, .d (dN .i64 0)),(5, .d (dB false)),(6, .d (dN .i64 l.length)),(7, .d (dN .i64 x.1)),(8, .d (dN .i64 x.2))],[]⟩) (fun x=>x.2-x.1) (0,l.length) ⟨Nat.zero_le _,hp1,Nat.le_refl _⟩
   kw ?_
  rintro⟨i,j⟩ ⟨h1,h2,h3⟩;dsimp only at h1 h2 h3 ⊢;refine kI ?_
  refine kO2 ?_
  by_cases hij:i<j
  ·exact EI
  ·have e1:i=p:=by omega
   have e2:j=p:=by omega
   subst e2;subst e1;refine kE ?_;refine jw ?_;refine kI ?_
   refine kO3 ?_
   by_cases hil:i<l.length
   ·have hx:l[i]? =some l[i]:=by simp[hil]
    refine kT ?_;refine Bj ?_
    refine kO2 ?_
    have hb0:=hb _ hx
    by_cases e:l[i].1=s
    ·rw[decide_eq_true e]at hb0
     subst hb0;refine aO rfl rfl rfl rfl rfl rfl rfl (bO (a:=l[i].1) (b:=s) e) ?_;exact aD
    ·rw[decide_eq_false e]at hb0
     subst hb0;exact Mg
   ·have hn:=hb' (List.getElem?_eq_none (by omega))
    subst hn;refine kE ?_;exact aD
 cases hx:l[p]? with
 |none=>
  refine⟨p,false,done false (fun x h=>by rw[hx]at h;cases h) (fun _=>rfl),fun h=>(by cases h),fun _ x hm e=>?_⟩;obtain⟨q,hq⟩:=List.getElem?_of_mem hm;have h1:=List.getElem?_eq_none_iff.1 hx;have h2:=(List.getElem?_eq_some_iff.1 hq).1;have:=hp2 q x (by omega) hq;rw[e,gQ]at this;cases this
 |some y=>
  by_cases e:y.1=s
  ·exact⟨p,true,done true (fun x h=>by rw[hx]at h;cases h;exact decide_eq_true e) (fun h=>by simp[hx]at h),fun _=>⟨y,hx,e⟩,fun h=>by cases h⟩
  ·refine⟨p,false,done false (fun x h=>by rw[hx]at h;cases h;exact decide_eq_false e) (fun h=>by simp[hx]at h),fun h=>(by cases h),fun _ x hm ex=>?_⟩
   obtain⟨q,hq⟩:=List.getElem?_of_mem hm;rcases Nat.lt_trichotomy q p with h|h|h
   ·have:=hp2 q x h hq
    rw[ex,gQ]at this;cases this
   ·subst h;rw[hx]at hq;cases hq;exact e ex
   ·have h1:=hs p q _ _ h hx hq
    have h2:=hp3 p y (Nat.le_refl _) hx;rw[ex,h2]at h1;cases h1
theorem CK {l:EL} (hs:fb l):∀{i:Nat} {x:List UInt8 × (Rat × Int)},l[i]? =some x->bu l x.1=some x.2:=by
 induction l with
 |nil=>intro i x h;simp at h
 |cons y l ih=>
  intro i x h
  simp only[bu]
  cases i with
  |zero=>simp at h;subst h;rw[if_pos rfl]
  |succ i=>
   have h':l[i]? =some x:=by simpa using h
   have h1:=hs 0 (i+1) y x (by omega) rfl h;rw[if_neg (fun e=>by rw[e,gQ]at h1;cases h1)];exact ih (fun a b u v hab hu hv=>hs (a+1) (b+1) u v (by omega) (by simpa using hu) (by simpa using hv)) h'
theorem EK {l:EL} {s:List UInt8} (h:∀x∈l,x.1≠s):bu l s=none:=by
 induction l with
 |nil=>rfl
 |cons y l ih=>simp only[bu];rw[if_neg (h y (by simp)),ih (fun x hx=>h x (by simp[hx]))]
end Go.Proofs.YtmkggcjajcdlcaaGreatDoor
