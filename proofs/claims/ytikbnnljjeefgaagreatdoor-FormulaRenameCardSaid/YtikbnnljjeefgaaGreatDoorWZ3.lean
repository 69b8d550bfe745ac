/- Parts of a proof: contracts of the functions that the laws reach. -/
import Derived.Test.YtikbnnljjeefgaaGreatDoorWZ2
import Derived.Test.YtikbnnljjeefgaaGreatDoorWZ1
import Derived.Lib.ItoaNum
import Derived.Test.YtikbnnljjeefgaaGreatDoorWLSqrt
import Derived.Test.YtikbnnljjeefgaaGreatDoorWAa
set_option maxHeartbeats 100000000
set_option linter.all false
open Go.Proofs.Tryz
namespace Go.Proofs.YtikbnnljjeefgaaGreatDoor
open Go.RowKit
theorem r8 (s:List UInt8) (i:Nat) (hi:i≤s.length) (hl:s.length≤4611686018427387903) {r:Nat} (hr:r=i+if 0<bf cH (s.drop i)then jD (s.drop i)else 0):aa Tryz.prog 73 [dL s,dN .i64 i] (.one (dN .i64 r)):=by
 have hB:=aB s;have c1:=lH s i hi (by omega);have hn:=gH cH (s.drop i);rw[List.length_drop]at hn;unfold jD at hr;rw[List.getElem?_drop,List.drop_drop]at hr;generalize bf cH (s.drop i)=n at *
 by_cases h0:0<n
 ·rw[if_pos h0]at hr
  by_cases h1:i+n<s.length
  ·have hx:s[i+n]? =some s[i+n]:=by simp[h1]
   by_cases h2:s[i+n]=46
   ·have e2:s[i+n].toNat=46:=by rw[h2];rfl
    have hx2:s[i+n]? =some 46:=by rw[hx,h2]
    have c2:=lH s (i+n+1) (by omega) (by omega);have hm:=gH cH (s.drop (i+n+1));rw[List.length_drop]at hm;rw[show i+(n+1)=i+n+1 by omega]at hr;generalize bf cH (s.drop (i+n+1))=m at *
    by_cases h3:0<m
    ·rw[if_pos ⟨hx2,h3⟩]at hr
     obtain rfl:r=i+n+1+m:=by omega
     refine kV func73 ?_;refine kC (c1) ?_;refine kG ?_
     refine kO2 ?_
     refine kT ?_
     refine kO4 ?_
     refine kT ?_
     refine kO4 ?_
     refine ap ab (i:=i+n) (c:=s[i+n]) hx rfl rfl rfl rfl rfl rfl rfl rfl ?_;refine kT ?_
     refine kO4 ?_
     refine kJ ((i+n+1:Nat)) ?_;refine kC (c2) ?_;refine kO ?_;refine kJ ((i+n+1:Nat)) ?_;refine kT ?_;refine kG ?_
     refine kO2 ?_
     refine kJ ((i+n+1:Nat)) ?_;refine kC (c2) ?_;exact kF
    ·rw[if_neg (fun h=>h3 h.2)]at hr
     subst hr;refine kV func73 ?_;refine kC (c1) ?_;refine kG ?_
     refine kO2 ?_
     refine kT ?_
     refine kO4 ?_
     refine kT ?_
     refine kO4 ?_
     refine ap ab (i:=i+n) (c:=s[i+n]) hx rfl rfl rfl rfl rfl rfl rfl rfl ?_;refine kT ?_
     refine kO4 ?_
     refine kJ ((i+n+1:Nat)) ?_;refine kC (c2) ?_;refine kO ?_;refine kJ ((i+n+1:Nat)) ?_;refine kE ?_;exact kF
   ·have e2:¬s[i+n].toNat=46:=dU h2
    rw[if_neg (fun h=>by rw[hx]at h;exact h2 (Option.some.inj h.1))]at hr;subst hr;refine kV func73 ?_;refine kC (c1) ?_;refine kG ?_
    refine kO2 ?_
    refine kT ?_
    refine kO4 ?_
    refine kT ?_
    refine kO4 ?_
    refine ap ab (i:=i+n) (c:=s[i+n]) hx rfl rfl rfl rfl rfl rfl rfl rfl ?_;refine kE ?_;exact kF
  ·rw[if_neg (fun h=>by rw[List.getElem?_eq_none (by omega)]at h;cases h.1)]at hr
   subst hr;refine kV func73 ?_;refine kC (c1) ?_;refine kG ?_
   refine kO2 ?_
   refine kT ?_
   refine kO4 ?_
   refine kE ?_;exact kF
 ·rw[if_neg h0]at hr
  obtain rfl:n=0:=by omega
  subst hr;refine kV func73 ?_;refine kC (c1) ?_;refine kG ?_
  refine kO2 ?_
  refine kE ?_;exact kF
theorem of:∀(l:List UInt8) (c:UInt8),0≤Lib.indexByte l c↔c∈l
 | [],c=>by simp[Lib.indexByte]
 |b::l,c=>by
  have ih:=of l c;have hge:=Lib.indexByte_ge l c
  simp only[Lib.indexByte]
  by_cases h:b=c
  ·subst h
   simp
  ·have hb:(b == c)=false:=by simpa using h
   have h':¬c=b:=fun e=>h e.symm
   rw[hb]
   simp only[Bool.false_eq_true,if_false,List.mem_cons,h',false_or]
   rw[← ih]
   by_cases h1:Lib.indexByte l c= -1
   ·simp[h1]
   ·have h2:(Lib.indexByte l c == -1)=false:=by simpa using h1
    rw[h2]
    simp only[Bool.false_eq_true,if_false]
    omega
theorem CN (c:UInt8):r7 c=decide (c∈ip):=decide_eq_decide.2 (of ip c)
theorem sh (c:UInt8):aa Tryz.prog 75 [dN .u8 c.toNat] (.one (dB (r7 c))):=by
 rw[CN];have hlen:ip.length=19:=rfl;refine kV func75 ?_
 refine aS Nat (fun i=>i≤19∧ ∀(q:Nat) d,q<i→ip[q]? =some d→d≠c) (fun i=>⟨[(0, .d (dN .u8 c.toNat)),(2, .d (dB false)),(3, .d (dN .i64 i))],[]⟩) (fun i=>19-i) 0 ⟨Nat.zero_le _,fun q d h=>absurd h (Nat.not_lt_zero _)⟩
  (weak ⟨rfl,rfl,rfl,trivial⟩ trivial rfl) ?_
 rintro i ⟨hi,hq⟩;refine kI ?_;refine kO ?_
 by_cases hlt:i<19
 ·have hx:ip[i]? =some (ip[i]'(by omega)):=by simp
  refine Exists.elim (Exists.intro _ hx:∃d,ip[i]? =some d) fun d hd=>?_
  refine kT ?_;refine kG ?_;refine kO ?_;refine ap ab (l:=ip) (i:=i) (c:=d) hd rfl rfl rfl rfl rfl rfl rfl rfl ?_;refine kO ?_
  by_cases he:d=c
  ·have e1:d.toNat=c.toNat:=by rw[he]
   refine kT ?_;rw[show decide (c∈ip)=true from decide_eq_true (by rw[← he];exact List.mem_of_getElem? hd)];exact kF
  ·have e1:¬d.toNat=c.toNat:=dU he
   refine kY ?_
   exact⟨i+1,⟨hlt,fun q d' h1 h2=>by
    by_cases e:q=i
    ·subst e;rw[hd]at h2;cases h2;exact he
    ·exact hq q d' (by omega) h2⟩,by omega,weak ⟨rfl,rfl,aG (by omega) (by omega),trivial⟩ trivial rfl⟩
 ·refine kE ?_
  rw[show decide (c∈ip)=false from decide_eq_false (fun hm=>by
   obtain⟨q,h⟩:=List.getElem?_of_mem hm;have h1:=(List.getElem?_eq_some_iff.1 h).1;exact hq q c (by omega) h rfl)]
  exact kF
def xV (s:List UInt8):Bool:=match s with
 | []=>false
 |c::_=>decide (s.length≤24) && (ez c && decide (bf gJ s=s.length))
theorem kq (s:List UInt8) (hl:s.length≤4611686018427387903):aa Tryz.prog 27 [dL s] (.one (dB (xV s))):=by
 have hB:=aB s;cases hs:s with
 |nil=>
  refine kU func27 ?_;refine kR ?_;refine kI ?_;refine kO ?_;refine aP rfl rfl rfl rfl rfl rfl rfl (fq (a:=[]) (b:=[]) rfl) ?_;exact kF
 |cons c r=>
  have hn:xV s=(decide (s.length≤24) && (ez c && decide (bf gJ s=s.length))):=by rw[hs];rfl
  have hne:s≠[]:=by rw[hs];simp
  have h0:s[0]? =some c:=by rw[hs];rfl
  have c1:=iX c;have c2:=lc oG s (by omega);rw[← hs,hn];generalize bf gJ s=n at *
  by_cases h24:s.length≤24
  ·rw[decide_eq_true h24,Bool.true_and]
   cases hb:ez c
   ·rw[hb]at c1
    refine kU func27 ?_;refine kR ?_;refine kI ?_;refine kO ?_;refine aP rfl rfl rfl rfl rfl rfl rfl (fj (a:=s) (b:=[]) hne) ?_
    refine kO3 ?_
    refine kT ?_
    refine kO3 ?_
    refine ap ab (i:=0) (c:=c) h0 rfl rfl rfl rfl rfl rfl rfl rfl ?_;refine kC (c1) ?_;exact kF
   ·rw[hb]at c1
    by_cases he:n=s.length
    ·rw[decide_eq_true he]
     refine kU func27 ?_;refine kR ?_;refine kI ?_;refine kO ?_;refine aP rfl rfl rfl rfl rfl rfl rfl (fj (a:=s) (b:=[]) hne) ?_
     refine kO3 ?_
     refine kT ?_
     refine kO3 ?_
     refine ap ab (i:=0) (c:=c) h0 rfl rfl rfl rfl rfl rfl rfl rfl ?_;refine kC (c1) ?_
     refine kO3 ?_
     refine kC (c2) ?_
     refine kO2 ?_
     refine kT ?_;exact kF
    ·rw[decide_eq_false he]
     refine kU func27 ?_;refine kR ?_;refine kI ?_;refine kO ?_;refine aP rfl rfl rfl rfl rfl rfl rfl (fj (a:=s) (b:=[]) hne) ?_
     refine kO3 ?_
     refine kT ?_
     refine kO3 ?_
     refine ap ab (i:=0) (c:=c) h0 rfl rfl rfl rfl rfl rfl rfl rfl ?_;refine kC (c1) ?_
     refine kO3 ?_
     refine kC (c2) ?_
     refine kO2 ?_
     refine kE ?_;exact kF
  ·rw[decide_eq_false h24,Bool.false_and]
   refine kU func27 ?_;refine kR ?_;refine kI ?_;refine kO ?_;refine aP rfl rfl rfl rfl rfl rfl rfl (fj (a:=s) (b:=[]) hne) ?_
   refine kO3 ?_
   refine kE ?_;exact kF
section
variable {P:Program} {T:TypeId→Option Ty} {n:Nat} {ops:Array Oper} {id:Nat} {draw:Bool} {K:AS→Prop} {s:AS} {k:Nat} {o:Oper} {os:List Oper} {fps:List FP}
theorem GP (j':Nat) {d t et q:Nat} {ty:Ty} (hT:∀t d,T t=some d→bG P t d) (h0:draw=false) (h1:gd ops s o=some true) (ho:o.op= .buildSlice t 0 #[]) (hd:o.dst=some d) (h3:bd n o.dst=true) (ht:T t=some ty) (hel:ty.elem=some (et,q)) (hnew:iD s j'=true)
 (h:aw P T n ops id draw K (k+1) os ⟨(d, .own j' 0 q et)::s.t,(j',some [])::s.b⟩ (aM ops o ⟨.junk,none⟩ []::fps)):aw P T n ops id draw K k (o::os) s fps:=by
 refine .snd h0 h1 (fun S0 w0 g a w K' Q hM hK=>?_) h;obtain⟨u,hu,_,hel',_⟩:=(hT _ _ ht).und;obtain⟨rfl,hks⟩:=hel' et q hel
 have hr:(execOp a.eval o).run P w= .ok (.value (.slice (some ⟨w.heap.size,0,none⟩) 0 0)) (w.alloc (.cells #[] et)):=by
  unfold execOp;rw[ho]
  simp only[Instr.buildSlice,Sem.run_bind,run_underlying hu w,Result.andThen_ok,cg hks w]
  rw[if_neg (by omega),if_pos (by omega)]
  simp[Instr.fill,show Array.range 0= #[] from by decide]
  rfl
 unfold Oper.wp;rw[hr];show K' (a.put o.dst _) _;rw[hd];refine hK _ _ _ (hM.alloc (fm h3 d hd) (dh hnew).1 (dh hnew).2 ⟨Nat.le_refl _,fun i a v h=>by simp at h⟩ (fun _ v h=>by simp at h) (fun a h=>by cases h) (fun h=>by rw[pv hnew]at h;cases h) fun g' s' hg hb=>?_);refine⟨AS.kn_of hb,fun cs hc=>⟨0,by rw[hg],Nat.le_refl _,by decide,by simp,#[],?_,by simp⟩⟩;rw[hg];exact heap_alloc_new w _
theorem IE (hT:∀t d,T t=some d→bG P t d) {t t' et:TypeId} {ty ty' te:Ty} {x:Operand} (h1:gd ops s o=some true) (h2:o.op= .convert t t' x) (h5:T t=some ty) (h6:ty.elem=some (et,1)) (h7:T et=some te) (h8:te.ik=some .u8) (h9:T t'=some ty') (h10:ty'.isStr=true) (h11:s.ev x= .d (.leaf (.sl 0 [])))
 (h3:bd n o.dst=true) (h4:gN draw ops (aM ops o ⟨.d (dL []),none⟩ []) k fps=true) (h:aw P T n ops id draw K (k+1) os (s.eff o.dst ⟨.d (dL []),none⟩) (aM ops o ⟨.d (dL []),none⟩ []::fps)):aw P T n ops id draw K k (o::os) s fps:=by
 refine .run h1 (.gen fun s2 ht _=>?_) h3 h4 h;have hx:=(aL ht (x:=x) (by simp[h2,Op.operands])).trans h11;have hu:=j4 (hT _ _ h9) h10;obtain⟨d,hd,_,hel,_⟩:=(hT _ _ h5).und;obtain⟨rfl,_⟩:=hel et 1 h6;obtain⟨d2,hd2,_,_,_,_,_,hik,_⟩:=(hT _ _ h7).und;obtain rfl:=hik _ h8;refine aj fun n S0 w0 g a w hM=>⟨vL [],w,?_,Below.refl _ _,AV.M.val rfl⟩
 have hm:=hM.ev x;rw[hx]at hm;have hm:AV.M (Own S0 g s2) w (.sl 0 []) (a.eval x):=hm
 have hA:∃A c,a.eval x= .slice A 0 c:=by
  generalize a.eval x=v at hm;cases hm with
  |emp=>exact⟨_,_,rfl⟩
  |sl=>exact⟨_,_,rfl⟩
 obtain⟨A,c,hv⟩:=hA
 have hr:(convert t t' (.slice A 0 c)).run P w= .ok (.string (Bs [])) w:=by
  cases A with
  |none=>exact run_convert_bytes_nil w t et hd hd2 0 c t' hu
  |some ad=>
   rw[run_convert_bytes_string w t t' et _ 0 c hd hd2 hu,run_bytesToString w ad 0 c [] (by simpa using run_loadCells_list (P:=P) w ad [] (fun j v hj=>by simp at hj))];rfl
 unfold execOp;rw[h2]
 simp only[hv,Sem.run_bind,hr,Result.andThen_ok,Sem.run_pure]
 rfl
end
def dg (k:Nat):UInt8:=UInt8.ofNat (48+k)
theorem my {k:Nat} (h:k<10):(dg k).toNat=48+k:=by unfold dg;rw[UInt8.toNat_ofNat'];omega
def lp (n:Nat):List UInt8:=if _h:n=0 then []else lp (n/10)++[dg (n%10)]
termination_by n
decreasing_by omega
theorem dM:lp 0=[]:=by rw[lp];simp
theorem dC {n:Nat} (h:n≠0):lp n=lp (n/10)++[dg (n%10)]:=by rw[lp];simp[h]
def fmt (z:Int):List UInt8:=if z=0 then [48]else(if z<0 then [45]else [])++lp z.natAbs
def dv (c:UInt8):Nat:=c.toNat-48
def da (c:UInt8):Prop:=48≤c.toNat∧c.toNat≤57
instance (c:UInt8):Decidable (da c):=inferInstanceAs (Decidable (_∧_))
def num (l:List UInt8):Nat:=l.foldl (fun a c=>10*a+dv c) 0
theorem gy (l:List UInt8) (c:UInt8):num (l++[c])=10*num l+dv c:=by simp[num]
theorem Jc {c:UInt8} (h:da c):dg (dv c)=c:=by
 unfold dg dv
 apply UInt8.toNat_inj.1
 rw[UInt8.toNat_ofNat'];unfold da at h;omega
theorem zZ {c:UInt8} (h:da c):dv c<10:=by unfold dv;unfold da at h;omega
theorem mN {n:Nat} (h:n≠0):∃c r,lp n=c::r∧c≠48:=by
 induction n using Nat.strongRecOn with
 |_ n ih=>
  rw[dC h]
  by_cases h1:n/10=0
  ·rw[h1,dM]
   refine⟨dg (n%10),[],rfl,fun e=>?_⟩;have h2:=my (show n%10<10 by omega);rw[e]at h2;have:(48:UInt8).toNat=48:=rfl;omega
  ·obtain⟨c,r,e,hc⟩:=ih (n/10) (by omega) h1
   exact⟨c,r++[dg (n%10)],by rw[e];rfl,hc⟩
theorem tP {l:List UInt8} (hd:∀c∈l,da c) {c:UInt8} {r:List UInt8} (h:l=c::r) (hc:c≠48):0<num l:=by
 have h1:∀(r:List UInt8) (a:Nat),0<a→0<r.foldl (fun a c=>10*a+dv c) a:=by
  intro r
  induction r with
  |nil=>intro a h;exact h
  |cons x r ih=>intro a h;exact ih _ (by dsimp only;omega)
 subst h;have h2:=hd c (by simp);refine h1 r _ ?_;dsimp only;have h3:c.toNat≠48:=fun e=>hc (UInt8.toNat_inj.1 e)
 unfold dv;unfold da at h2;omega
theorem Gd:∀(n:Nat) (l:List UInt8),l.length=n→(∀c∈l,da c)→(∀c r,l=c::r→c≠48)→lp (num l)=l:=by
 intro n
 induction n with
 |zero=>intro l hl _ _;rw[List.eq_nil_of_length_eq_zero hl];exact dM
 |succ n ih=>
  intro l hl hd hh
  obtain⟨l',c,rfl⟩:∃l' c,l=l'++[c]:=by
   rcases List.eq_nil_or_concat l with h| ⟨l',c,h⟩
   ·subst h;simp at hl
   ·exact⟨l',c,by simpa using h⟩
  have hc:=hd c (by simp);have hc10:=zZ hc;have hl':l'.length=n:=by simpa using hl
  rw[gy]
  have hn0:10*num l'+dv c≠0:=by
   cases l' with
   |nil=>
    have h1:=hh c [] rfl;have h3:c.toNat≠48:=fun e=>h1 (UInt8.toNat_inj.1 e)
    unfold dv;unfold da at hc;omega
   |cons x r=>
    have:=tP (l:=x::r) (fun c hc=>hd c (by simp at hc ⊢;rcases hc with h|h<;>simp[h])) rfl (hh x (r++[c]) rfl);omega
  rw[dC hn0,show(10*num l'+dv c)/10=num l' by omega,show(10*num l'+dv c)%10=dv c by omega,Jc hc]
  congr 1
  refine ih l' hl' (fun c hc=>hd c (by simp[hc])) (fun x r e=>?_);subst e;exact hh x (r++[c]) rfl
theorem uK:∀(k n:Nat),n<10^k→(lp n).length≤k
 |0,n,h=>by simp at h;subst h;rw[dM];simp
 |k+1,n,h=>by
  by_cases h0:n=0
  ·subst h0;rw[dM];simp
  ·rw[dC h0,List.length_append]
   have:=uK k (n/10) (by rw[Nat.pow_succ]at h;omega)
   simp;omega
def il (neg:Bool) (ds:List UInt8):Prop:=ds≠[]∧(∀c∈ds,da c)∧((∀c r,ds=c::r→c≠48)∨(ds.length=1∧neg=false))
def kA (neg:Bool) (n:Nat):Int:=if neg then -(n:Int)else n
def sg (neg:Bool) (ds:List UInt8):List UInt8:=if neg then 45::ds else ds
theorem Hi {neg:Bool} {ds:List UInt8} (h:il neg ds):fmt (kA neg (num ds))=sg neg ds:=by
 obtain⟨h1,h2,h3⟩:=h
 by_cases hh:∀c r,ds=c::r→c≠48
 ·obtain⟨c,r,e⟩:∃c r,ds=c::r:=by cases ds with|nil=>exact absurd rfl h1|cons c r=>exact⟨c,r,rfl⟩
  have hp:=tP h2 e (hh c r e);have hdn:=Gd _ ds rfl h2 hh;unfold fmt kA sg;cases neg
  ·simp only[Bool.false_eq_true,if_false]
   rw[if_neg (by omega),if_neg (by omega),Int.natAbs_natCast,hdn];rfl
  ·simp only[if_true]
   rw[if_neg (by omega),if_pos (by omega),Int.natAbs_neg,Int.natAbs_natCast,hdn];rfl
 ·rcases h3 with h3| ⟨h3,h4⟩
  ·exact absurd h3 hh
  ·subst h4
   match ds,h3 with
   | [c],_=>
    have hc:c=48:=by
     apply Classical.byContradiction
     intro hne;exact hh fun x r e=>by cases e;exact hne
    subst hc;rfl
theorem Cp {neg:Bool} {ds:List UInt8} (hd:∀c∈ds,da c) (h:fmt (kA neg (num ds))=sg neg ds):il neg ds:=by
 have h45:neg=false→ ∀l:List UInt8,ds≠45::l:=fun _ l e=>by
  have:=hd 45 (by rw[e];simp);unfold da at this;have h2:(45:UInt8).toNat=45:=rfl;omega
 by_cases hz:num ds=0
 ·have h0:kA neg (num ds)=0:=by unfold kA;rw[hz];cases neg<;>simp
  rw[h0]at h;have h1:[48]=sg neg ds:=h;unfold sg at h1;cases neg
  ·simp only[Bool.false_eq_true,if_false]at h1
   rw[← h1]at hd ⊢;exact⟨by simp,hd, .inr ⟨rfl,rfl⟩⟩
  ·simp only[if_true,List.cons.injEq]at h1
   exact absurd h1.1 (by decide)
 ·obtain⟨c,r,e,hc⟩:=mN hz
  have key:ds=lp (num ds):=by
   unfold fmt kA sg at h;cases neg
   ·simp only[Bool.false_eq_true,if_false]at h
    rw[if_neg (by omega),if_neg (by omega),Int.natAbs_natCast]at h;exact h.symm
   ·simp only[if_true]at h
    rw[if_neg (by omega),if_pos (by omega),Int.natAbs_neg,Int.natAbs_natCast]at h
    simpa using h.symm
  refine⟨fun e2=>?_,hd, .inl fun x q e2=>?_⟩
  ·rw[← key,e2]at e;cases e
  ·rw[← key,e2]at e;cases e;exact hc
theorem EA {a b:Nat} (h:(digs a).length≤4294967296) (hb0:0<b) (hb1:b<4294967296):aa Tryz.prog 103 [dW (digs a),dN .u32 b] (.tup [dW (digs (a/b)),dN .u32 (a%b:Nat)]):=
 ⟨ay func103 rfl rfl,fun S w vs hS hv=>by
  match vs,hv with
  | [v,u],⟨h1,h2,_⟩=>
   obtain rfl:=bP h2;obtain⟨A,n,c,rfl,hx⟩:=gM h1 (ar _);have:=GW A n c b (digs a) w hx (by rw[← hx.len];exact h) hb0 hb1;rw[af]at this;refine this.mono ?_;rintro e w' ⟨A',n',c',rfl,hq,hb⟩;refine⟨_,rfl,⟨[.slice A' n' c', .int .u32 (a%b:Nat)],rfl,rfl,fun i x u h1 h2=>?_⟩,hb⟩
   match i with
   |0=>simp at h1 h2;subst h1 h2;exact oL (hS.grow hb) hq
   |1=>simp at h1 h2;subst h1 h2;exact AV.M.val rfl
   |i+2=>simp at h1⟩
section
variable {P:Program} {T:TypeId→Option Ty} {n:Nat} {ops:Array Oper} {id:Nat} {draw:Bool} {K:AS→Prop} {s:AS} {k:Nat} {o:Oper} {os:List Oper} {fps:List FP}
theorem G3 (hT:∀t d,T t=some d→bG P t d) {t t' et:TypeId} {ty ty' te:Ty} {x:Operand} {l:List UInt8} {cs:List AV} (hcs:cs=l.map fun c=>AV.val (.int .u8 c.toNat)) (hl:l≠[]) (h1:gd ops s o=some true) (h2:o.op= .convert t t' x) (h5:T t=some ty) (h6:ty.elem=some (et,1)) (h7:T et=some te) (h8:te.ik=some .u8) (h9:T t'=some ty') (h10:ty'.isStr=true) (h11:s.ev x= .d (.leaf (.sl l.length cs)))
 (h3:bd n o.dst=true) (h4:gN draw ops (aM ops o ⟨.d (dL l),none⟩ []) k fps=true) (h:aw P T n ops id draw K (k+1) os (s.eff o.dst ⟨.d (dL l),none⟩) (aM ops o ⟨.d (dL l),none⟩ []::fps)):aw P T n ops id draw K k (o::os) s fps:=by
 refine .run h1 (.gen fun s2 ht _=>?_) h3 h4 h;have hx:=(aL ht (x:=x) (by simp[h2,Op.operands])).trans h11;have hu:=j4 (hT _ _ h9) h10;obtain⟨d,hd,_,hel,_⟩:=(hT _ _ h5).und;obtain⟨rfl,_⟩:=hel et 1 h6;obtain⟨d2,hd2,_,_,_,_,_,hik,_⟩:=(hT _ _ h7).und;obtain rfl:=hik _ h8;refine aj fun n S0 w0 g a w hM=>⟨vL l,w,?_,Below.refl _ _,AV.M.val rfl⟩
 have hm:=hM.ev x;rw[hx]at hm;have hm:AV.M (Own S0 g s2) w (.sl l.length cs) (a.eval x):=hm;unfold execOp;rw[h2];obtain⟨v,hv⟩:∃v,a.eval x=v:=⟨_,rfl⟩;rw[hv]at hm;cases hm with
 |emp=>
  have:l=[]:=by simpa using hcs.symm
  exact absurd this hl
 |sl f g1 g2 g3 g4 g5 g6=>
  rename_i b off c
  have hc:∀i,i<l.length→w.cell? ⟨b,off+i,none⟩=some (.int .u8 ((l.map fun c=>(c.toNat:Int)).getD i 0)):=by
   intro i hi;have h12:cs[i]? =some (AV.val (.int .u8 (l[i].toNat:Int))):=by rw[hcs];simp[hi]
   rw[g5 i _ h12,bP (g6 i _ h12)]
   simp[hi]
  simp only[hv,Sem.run_bind,run_convert_bytes_arg w t et hd hd2 b off l.length c (l.map fun c=>(c.toNat:Int)) (by simp) hc t' hu,Result.andThen_ok,Sem.run_pure]
  have:strOfNums (l.map fun c=>(c.toNat:Int))=Bs l:=by
   unfold strOfNums Bs
   congr 2
   rw[List.map_map]
   conv=>rhs;rw[← List.map_id l]
   apply List.map_congr_left
   intro x _
   simp
  rw[this];rfl
end
theorem tX {na:Bool} {xs:List Nat} (hw:Wd xs) {z:Int} (hxz:aq na xs=z) (hz:eD z):aa Tryz.prog 67 [dI na xs] (.one (dL (fmt z))):=by
 have hN:(lp z.natAbs).length≤42949672960:=by
  have h1:=cL (Nat.le_refl (digs z.natAbs).length);refine Nat.le_trans (uK (10*(digs z.natAbs).length) _ (Nat.lt_of_lt_of_le h1 ?_)) (by unfold eD at hz;omega);rw[Nat.pow_mul];exact Nat.pow_le_pow_left (by decide) _
 refine kV func67 ?_;refine kQ (yL (na:=na) hw hxz) ?_;refine aS (Nat × List UInt8) (fun p=>lp z.natAbs=lp p.1++p.2∧(digs p.1).length≤2147483648) (fun p=>⟨[(1, .box 0 0),(3, .d (dL p.2)),(4, .d (dW (digs p.1)))],[(0,some (aZ z))]⟩) (fun p=>p.1) (z.natAbs,[]) ⟨by simp,hz⟩ (weak ⟨rfl,rfl,rfl,trivial⟩ ⟨rfl,trivial⟩ rfl) ?_;rintro⟨a,t⟩ ⟨ha,hl⟩;dsimp only at ha hl ⊢;refine kW ?_;refine f6 rfl (fun h=>?_) (fun h=>?_)
 ·have h0:a≠0:=fun e=>by rw[e,aK]at h;exact absurd h (by decide)
  have hdl:=congrArg List.length ha;rw[dC h0]at hdl
  simp only[List.length_append,List.length_cons,List.length_nil]at hdl
  have hm10:a%10<10:=Nat.mod_lt _ (by decide)
  refine bM ?_;refine kW ?_;refine ae (EA (b:=10) (Nat.le_trans hl (by decide)) (by decide) (by decide)) rfl rfl rfl rfl rfl rfl rfl ?_;refine kW ?_
  have hcv:(Value.int .u8 (IntKind.u8.wrap (IntKind.u32.wrap (48+((a%10:Nat):Int)))):Value)= .int .u8 ((dg (a%10)).toNat:Int):=by
   rw[IntWalk.u32_in _ (by omega),IntWalk.u8_in _ (by omega),my hm10];rfl
  refine G3 ab (l:=[dg (a%10)]) (congrArg (fun v=>[AV.val v]) hcv) (by simp) rfl rfl rfl rfl rfl rfl rfl rfl rfl rfl rfl ?_;refine kO ?_;refine aP rfl rfl rfl rfl rfl rfl rfl (ej (a:=[dg (a%10)]) (b:=t) (by simp;omega)) ?_;refine kW ?_;refine⟨(a/10,dg (a%10)::t),⟨?_,?_⟩,?_,weak ⟨rfl,rfl,rfl,trivial⟩ ⟨rfl,trivial⟩ rfl⟩
  ·rw[ha,dC h0];simp
  ·exact Nat.le_trans (dq (Nat.div_le_self _ _)) hl
  ·dsimp only;omega
 ·have h0:a=0:=by
   have:=of_decide_eq_false h;exact cE.1 (by omega)
  subst h0;rw[dM,List.nil_append]at ha;refine cV ?_;refine av ?_;refine av ?_;refine an rfl ?_;refine kO ?_;refine aP rfl rfl rfl rfl rfl rfl rfl (jk (b:=[])) ?_;refine kW ?_
  by_cases hz0:z=0
  ·have ht:t=[]:=by rw[← ha,hz0];exact dM
   subst hz0;refine eY (T:=TT) rfl ?_ ?_
   ·exact decide_eq_true ht
   exact kF
  ·have ht:t≠[]:=by
    rw[← ha,dC (by omega)]
    simp
   refine dD (T:=TT) rfl ?_ ?_
   ·exact decide_eq_false ht
   refine bM ?_;refine kW ?_;refine f6 rfl (fun h=>?_) (fun h=>?_)
   ·have hneg:=of_decide_eq_true h
    refine av ?_;refine an rfl ?_;refine kO ?_;refine aP rfl rfl rfl rfl rfl rfl rfl (ej (a:=[45]) (b:=t) (by rw[← ha];simp;omega)) ?_;refine kW ?_
    have hf:fmt z=[45]++t:=by
     unfold fmt;rw[if_neg hz0,if_pos hneg,ha]
    rw[hf];exact bu (T:=TT) rfl rfl
   ·have hneg:=of_decide_eq_false h
    refine bM ?_;refine kW ?_
    have hf:fmt z=t:=by
     unfold fmt;rw[if_neg hz0,if_neg hneg,ha];rfl
    rw[hf];exact bu (T:=TT) rfl rfl
theorem lM {z:Int} (hz:eD z):aa Tryz.prog 67 [dZ z] (.one (dL (fmt z))):=tX (ar _) (aU z) hz
def jU:List UInt8→List UInt8→List UInt8
 | [],_=>[]
 | [c],o=>if c=34 then o else []
 |c::d::r,o=>if c=34 then o else if c.toNat<32 then []else if c=92 then(if Lib.indexByte [34,92,110] d<0 then []else jU r (o++[if d=110 then 10 else d]))else jU (d::r) (o++[c])
theorem IC {r o:List UInt8}:jU (34::r) o=o:=by cases r<;>simp[jU]
theorem DL {c:UInt8} {r o:List UInt8} (h:c≠34) (h':c.toNat<32):jU (c::r) o=[]:=by cases r<;>simp[jU,h,h']
theorem EB {c:UInt8} {o:List UInt8} (h:c≠34):jU [c] o=[]:=by simp[jU,h]
theorem Dq {d:UInt8} {r o:List UInt8}:jU (92::d::r) o=if Lib.indexByte [34,92,110] d<0 then []else jU r (o++[if d=110 then 10 else d]):=by simp[jU]
theorem Fz {c:UInt8} {r o:List UInt8} (h:c≠34) (h':¬c.toNat<32) (h2:c≠92):jU (c::r) o=jU r (o++[c]):=by
 cases r with
 |nil=>simp[jU,h]
 |cons d r=>simp[jU,h,h',h2]
theorem vu:∀(n:Nat) (s:List UInt8) (i:Nat),s.length≤n→eT s i=0∨i<eT s i:=by
 intro n
 induction n using Nat.strongRecOn with
 |_ n ih=>
  intro s i h
  match s,h with
  | [],_=>simp[eT]
  | [c],_=>simp only[eT];split <;>simp
  |c::d::r,h=>
   simp at h
   simp only[eT]
   split
   ·simp
   ·split
    ·simp
    ·split
     ·split
      ·simp
      ·rcases ih (n-2) (by omega) r (i+2) (by omega)with h|h
       ·exact .inl h
       ·exact .inr (by omega)
     ·rcases ih (n-1) (by omega) (d::r) (i+1) (by simp;omega)with h|h
      ·exact .inl h
      ·exact .inr (by omega)
def bV:List UInt8→Bool
 |c::_=>c == 45
 | []=>false
def dA:List UInt8→List UInt8
 |c::r=>if c == 45 then r else c::r
 | []=>[]
theorem Fw (s:List UInt8):sg (bV s) (dA s)=s:=by
 cases s with
 |nil=>rfl
 |cons c r=>
  unfold sg bV dA
  by_cases h:c=45
  ·subst h;rfl
  ·have:(c == 45)=false:=beq_eq_false_iff_ne.2 h
   simp[this]
theorem lA (s:List UInt8):(dA s).length≤s.length:=by
 cases s with
 |nil=>exact Nat.le_refl _
 |cons c r=>show(if(c == 45)=true then r else c::r).length≤_;split <;>simp
theorem H2 (s:List UInt8):decide ((dA s).length<s.length)=bV s:=by
 cases s with
 |nil=>rfl
 |cons c r=>
  unfold dA bV
  by_cases h:c=45
  ·subst h;simp
  ·have:(c == 45)=false:=beq_eq_false_iff_ne.2 h
   simp[this]
theorem pJ:∀(n:Nat) (l:List UInt8),l.length=n→(∀c∈l,da c)→num l<10^n:=by
 intro n
 induction n with
 |zero=>intro l hl _;rw[List.eq_nil_of_length_eq_zero hl];decide
 |succ n ih=>
  intro l hl hd
  obtain⟨l',c,rfl⟩:∃l' c,l=l'++[c]:=by
   rcases List.eq_nil_or_concat l with h| ⟨l',c,h⟩
   ·subst h;simp at hl
   ·exact⟨l',c,by simpa using h⟩
  have:=ih l' (by simpa using hl) (fun c hc=>hd c (by simp[hc]));have hc:=zZ (hd c (by simp));rw[gy,Nat.pow_succ];omega
theorem zS {l:List UInt8} (hd:∀c∈l,da c):(digs (num l)).length≤l.length:=by
 refine aO (Nat.lt_of_lt_of_le (pJ _ l rfl hd) ?_);exact Nat.pow_le_pow_left (by decide) _
theorem yM {n k:Nat} (h:(digs n).length≤k) {m:Nat} (hm:m≤10*n+10):(digs m).length≤k+1:=by
 refine aO (Nat.lt_of_le_of_lt hm ?_);have:=cL h;rw[Nat.pow_succ];omega
def GZ (s:List UInt8):Prop:=s.length≤65536∧il (bV s) (dA s)
open Classical in
noncomputable def pz (s:List UInt8):Int × Int:=if GZ s then(kA (bV s) (num (dA s)),0)else(0,2)
theorem C9 {s:List UInt8} (h:GZ s):pz s=(kA (bV s) (num (dA s)),0):=by unfold pz;rw[if_pos h]
theorem jn {s:List UInt8} (h:¬GZ s):pz s=(0,2):=by unfold pz;rw[if_neg h]
theorem e0:aZ 0=[.val (.bool false), .sl 0 []]:=by
 unfold aZ aI aW;rw[show(0:Int).natAbs=0 from rfl,aK];rfl
def dk:Nat→Nat→List UInt8
 |0,_=>[]
 |k+1,c=>dk k (c/10)++[dg (c%10)]
def dd (c:Nat):List UInt8:=if c=0 then [48]else lp c
theorem AK (k m c:Nat) (hm:0<m) (hc:c<10^k):lp (m*10^k+c)=lp m++dk k c:=by
 induction k generalizing c with
 |zero=>simp at hc;subst hc;simp[dk]
 |succ k ih=>
  rw[Nat.pow_succ]at hc;have hp:0<10^k:=Nat.pow_pos (by decide)
  have hmp:0<m*10^k:=Nat.mul_pos hm hp
  have e:m*10^(k+1)+c=10*(m*10^k)+c:=by rw[Nat.pow_succ,← Nat.mul_assoc,Nat.mul_comm]
  rw[e,dC (by omega),show(10*(m*10^k)+c)/10=m*10^k+c/10 by omega,show(10*(m*10^k)+c)%10=c%10 by omega,ih (c/10) (by omega),dk,List.append_assoc]
theorem FH (k:Nat):dk k 0=List.replicate k 48:=by
 induction k with
 |zero=>rfl
 |succ k ih=>rw[dk,Nat.zero_div,ih,List.replicate_succ'];rfl
theorem rh {c:Nat} (h:c<10):dd c=[dg c]:=by
 unfold dd
 by_cases h0:c=0
 ·subst h0;rfl
 ·rw[if_neg h0,dC h0,show c/10=0 by omega,dM,show c%10=c by omega];rfl
theorem DQ {c:Nat} (h:10≤c):dd c=dd (c/10)++[dg (c%10)]:=by
 unfold dd;rw[if_neg (by omega),if_neg (by omega),dC (by omega)]
theorem GO (k:Nat):∀c,c<10^(k+1)→(dd c).length≤k+1∧dk (k+1) c=List.replicate (k+1-(dd c).length) 48++dd c:=by
 induction k with
 |zero=>
  intro c hc;have:c<10:=by simpa using hc
  rw[rh this,dk,dk,show c%10=c by omega];exact⟨Nat.le_refl _,rfl⟩
 |succ k ih=>
  intro c hc
  by_cases h:c<10
  ·rw[rh h,dk,show c/10=0 by omega,FH,show c%10=c by omega]
   exact⟨by simp,by simp⟩
  ·rw[Nat.pow_succ]at hc
   obtain⟨h1,h2⟩:=ih (c/10) (by omega);rw[DQ (by omega),dk,h2,List.length_append,List.length_singleton];refine⟨by omega,?_⟩;rw[show k+1+1-((dd (c/10)).length+1)=k+1-(dd (c/10)).length by omega,List.append_assoc]
theorem mj (u:Nat):Lib.decDigits u=dd u:=by
 induction u using Nat.strongRecOn with
 |_ u ih=>
  by_cases h:u<10
  ·rw[Lib.decDigits,dif_pos h,rh h];rfl
  ·rw[Lib.decDigits,dif_neg h,DQ (by omega),ih _ (by omega)];rfl
def rY (c:Nat):List UInt8:=List.replicate (9-(dd c).length) 48++dd c
theorem yn (m c:Nat) (hm:0<m) (hc:c<1000000000):lp (m*1000000000+c)=lp m++rY c:=by
 have h:=AK 9 m c hm (by simpa using hc);rw[show(10:Nat)^9=1000000000 from rfl]at h;rw[h,(GO 8 c (by simpa using hc)).2];rfl
theorem u3 {c:Nat} (hc:c<1000000000):1≤(dd c).length∧(dd c).length≤9:=by
 refine⟨?_,(GO 8 c (by simpa using hc)).1⟩;unfold dd
 by_cases h0:c=0
 ·rw[if_pos h0];exact Nat.le_refl _
 ·rw[if_neg h0,dC h0];simp
def ch (n:Nat):List Nat:=if _h:n=0 then []else n%1000000000::ch (n/1000000000)
termination_by n
decreasing_by omega
theorem li:ch 0=[]:=by rw[ch];simp
theorem pG {n:Nat} (h:n≠0):ch n=n%1000000000::ch (n/1000000000):=by rw[ch];simp[h]
def IT:List Nat→List UInt8
 | []=>[]
 |c::r=>dd c++r.flatMap rY
theorem EO {l:List Nat} (h:l≠[]) (c:Nat):IT (l++[c])=IT l++rY c:=by
 cases l with
 |nil=>exact absurd rfl h
 |cons a r=>simp[IT,List.flatMap_append]
theorem Dw:∀(k n:Nat),n<1000000000^k→(ch n).length≤k
 |0,n,h=>by simp at h;subst h;rw[li];simp
 |k+1,n,h=>by
  by_cases h0:n=0
  ·subst h0;rw[li];simp
  ·rw[pG h0]
   have:=Dw k (n/1000000000) (by rw[Nat.pow_succ]at h;omega)
   simp;omega
theorem Jw (n:Nat):∀c∈ch n,c<1000000000:=by
 induction n using Nat.strongRecOn with
 |_ n ih=>
  by_cases h:n=0
  ·subst h;rw[li];simp
  ·rw[pG h]
   intro c hc;rcases List.mem_cons.1 hc with rfl|hc
   ·omega
   ·exact ih _ (by omega) c hc
theorem mB {xs:List Nat} (hw:Wd xs):(ch (val xs)).length≤2*xs.length:=by
 refine Dw _ _ (Nat.lt_of_lt_of_le (gc hw) ?_);rw[Nat.pow_mul];exact Nat.pow_le_pow_left (by decide) _
theorem G6 {n:Nat} (h:n≠0):ch n≠[]:=by rw[pG h];simp
theorem Ic (n:Nat):IT (ch n).reverse=lp n:=by
 induction n using Nat.strongRecOn with
 |_ n ih=>
  by_cases h:n=0
  ·subst h;rw[li,dM];rfl
  ·rw[pG h,List.reverse_cons]
   by_cases h1:n/1000000000=0
   ·rw[h1,li]
    have:n%1000000000=n:=by omega
    rw[this];show dd n++[]=_;rw[List.append_nil];unfold dd;rw[if_neg h]
   ·rw[EO (by simpa using G6 h1),ih _ (by omega),← yn _ _ (by omega) (by omega)]
    congr 1
    omega
theorem H8 {k:Nat} (h:k<10):da (dg k):=by
 unfold da;rw[my h];omega
theorem Fu (n:Nat):∀c∈lp n,da c:=by
 induction n using Nat.strongRecOn with
 |_ n ih=>
  by_cases h:n=0
  ·subst h;rw[dM];simp
  ·rw[dC h]
   intro c hc;rcases List.mem_append.1 hc with hc|hc
   ·exact ih _ (by omega) c hc
   ·rw[List.mem_singleton]at hc;rw[hc];exact H8 (by omega)
theorem GB (n:Nat):num (lp n)=n:=by
 induction n using Nat.strongRecOn with
 |_ n ih=>
  by_cases h:n=0
  ·subst h;rw[dM];rfl
  ·rw[dC h,gy,ih _ (by omega)]
   unfold dv;rw[my (by omega)];omega
theorem ll {a b:Int} (h1:eD a) (h2:eD b) {g:Nat} (hg:Nat.gcd a.natAbs b.natAbs=g):aa Tryz.prog 131 [dZ a,dZ b] (.one (dZ g)):=by
 have:=we (na:=decide (a<0)) (nb:=decide (b<0)) (ar a.natAbs) (ar b.natAbs) h1 h2;rw[af,af,hg]at this;exact this
theorem uG {a b q r:Int} (h1:eD a) (h2:eD b) (h0:b≠0) (hq:a.fdiv b=q) (hr:a.fmod b=r):aa Tryz.prog 193 [dZ a,dZ b] (.tup [dZ q,dZ r,dN .i64 0]):=
 wT (ar _) (ar _) h1 h2 (by rw[aU];exact h0) (by rw[aU,aU];exact hq) (by rw[aU,aU];exact hr)
theorem fw {a b:Int} (h1:eD a) (h2:eD b) {g:Nat} (hg:Nat.gcd a.natAbs b.natAbs=g):aa Tryz.prog 98 [dZ a,dZ b] (.one (dZ g)):=by
 have:=sI (na:=decide (a<0)) (nb:=decide (b<0)) (ar a.natAbs) (ar b.natAbs) h1 h2;rw[af,af,hg]at this;exact this
theorem rP {a b q r:Int} (h1:eD a) (h2:eD b) (h0:b≠0) (hq:a.fdiv b=q) (hr:a.fmod b=r):aa Tryz.prog 149 [dZ a,dZ b] (.tup [dZ q,dZ r,dN .i64 0]):=
 tW (ar _) (ar _) h1 h2 (by rw[aU];exact h0) (by rw[aU,aU];exact hq) (by rw[aU,aU];exact hr)
theorem Cc {a:Int} {k K:Nat} (hk:k≤4096) (hK:K≤2147483648) (hb:(max 1 a.natAbs)^k<4294967296^K) (h1:eD a) {z:Int} (hz:a^k=z):aa Tryz.prog 237 [dZ a,dN .i64 k] (.tup [dZ z,dN .i64 0]):=
 ⟨ay func237 rfl rfl,fun S w vs hS hv=>by
  match vs,hv with
  | [v,u],⟨h,h3,_⟩=>
   obtain rfl:=bP h3;have:=Je v _ _ k K w (yq h) hk hK (by rw[af];exact hb) h1;rw[aU,hz]at this;exact this.mono fun e w' he=>Iu hS he⟩
theorem Ek {q:Rat} {n:Int} {d:Nat} (hd:0<d) (hc:Nat.gcd n.natAbs d=1) (h:n*q.den=q.num*d):q.num=n∧q.den=d:=by
 have hp:(⟨n,d,by omega,hc⟩:Rat)=q:=by
  have h1:=Rat.num_divInt_den (⟨n,d,by omega,hc⟩:Rat);have h2:=Rat.num_divInt_den q;rw[← h1,← h2,Rat.divInt_eq_divInt_iff (by show(d:Int)≠0;omega) (by have:=q.den_nz;omega)];exact h
 exact⟨by rw[← hp],by rw[← hp]⟩
def gz (n d:Int):Int:=if d<0 then -((Nat.gcd n.natAbs d.natAbs:Nat):Int)else(Nat.gcd n.natAbs d.natAbs:Nat)
theorem Ag {n d:Int} (h:d≠0):gz n d≠0:=by
 have:0<Nat.gcd n.natAbs d.natAbs:=Nat.gcd_pos_of_pos_right _ (by omega)
 unfold gz;split <;>omega
theorem ov {a b c:Int} (h:b≠0) (e:a=b*c):a.fdiv b=c:=by rw[e];exact Int.mul_fdiv_cancel_left _ h
theorem mR {n d:Int} (hd:d≠0):n.fdiv (gz n d)=(Rat.divInt n d).num∧d.fdiv (gz n d)=((Rat.divInt n d).den:Int)∧n=gz n d*(Rat.divInt n d).num∧d=gz n d*((Rat.divInt n d).den:Int):=by
 have hg0:=Ag (n:=n) hd;obtain⟨a,ha⟩:((Nat.gcd n.natAbs d.natAbs:Nat):Int)∣n:=Int.ofNat_dvd_left.2 (Nat.gcd_dvd_left _ _);obtain⟨b,hb⟩:((Nat.gcd n.natAbs d.natAbs:Nat):Int)∣d:=Int.ofNat_dvd_left.2 (Nat.gcd_dvd_right _ _);have hp:0<Nat.gcd n.natAbs d.natAbs:=Nat.gcd_pos_of_pos_right _ (by omega)
 obtain⟨G,hG⟩:∃G,Nat.gcd n.natAbs d.natAbs=G:=⟨_,rfl⟩;have hG':=hG;rw[hG]at ha hb hp
 have hab:Nat.gcd a.natAbs b.natAbs=1:=by
  rw[ha,hb,Int.natAbs_mul,Int.natAbs_mul,Int.natAbs_natCast,Nat.gcd_mul_left]at hG;exact Nat.eq_of_mul_eq_mul_left hp (by omega)
 obtain⟨s,hs1,hs2⟩:∃s:Int,gz n d=G*s∧(s=1∧0<b∨s= -1∧b<0):=by
  unfold gz;rw[hG'];have hb0:b≠0:=by rintro rfl;simp at hb;omega
  split
  ·refine⟨-1,by omega, .inr ⟨rfl,?_⟩⟩
   rcases Int.lt_trichotomy b 0 with h|h|h
   ·exact h
   ·omega
   ·have:0<(G:Int)*b:=Int.mul_pos (by omega) h
    omega
  ·refine⟨1,by omega, .inl ⟨rfl,?_⟩⟩
   rcases Int.lt_trichotomy b 0 with h|h|h
   ·have:0<(G:Int)*(-b):=Int.mul_pos (by omega) (by omega)
    rw[Int.mul_neg]at this;omega
   ·omega
   ·exact h
 have hq:(Rat.divInt n d).num=s*a∧(Rat.divInt n d).den=(s*b).toNat:=by
  refine Ek ?_ ?_ ?_
  ·rcases hs2 with⟨rfl,h⟩| ⟨rfl,h⟩<;>omega
  ·have e:(s*b).toNat=b.natAbs:=by rcases hs2 with⟨rfl,h⟩| ⟨rfl,h⟩<;>omega
   have e2:(s*a).natAbs=a.natAbs:=by rcases hs2 with⟨rfl,h⟩| ⟨rfl,h⟩<;>omega
   rw[e,e2,hab]
  ·have h1:=Rat.num_divInt_den (Rat.divInt n d)
   have h0:((Rat.divInt n d).den:Int)≠0:=by have:=(Rat.divInt n d).den_nz;omega
   have h2:=(Rat.divInt_eq_divInt_iff h0 hd).1 h1
   have h3:((s*b).toNat:Int)=s*b:=by
    have:0≤s*b:=by rcases hs2 with⟨rfl,h⟩| ⟨rfl,h⟩<;>omega
    omega
   rw[h3];generalize(Rat.divInt n d).num=p at *;generalize((Rat.divInt n d).den:Int)=q at *;rw[ha,hb]at h2
   have h4:(G:Int)*(p*b)=G*(a*q):=by
    rw[← Int.mul_assoc,Int.mul_comm (G:Int) p,Int.mul_assoc,h2,Int.mul_assoc]
   have h5:=Int.eq_of_mul_eq_mul_left (by omega) h4;rw[Int.mul_assoc,← h5]
   simp[Int.mul_left_comm,Int.mul_comm]
 have hss:s*s=1:=by rcases hs2 with⟨rfl,_⟩| ⟨rfl,_⟩<;>rfl
 have e1:n=gz n d*(Rat.divInt n d).num:=by
  rw[hs1,hq.1,Int.mul_assoc,← Int.mul_assoc s s a,hss,Int.one_mul];exact ha
 have e2:d=gz n d*((Rat.divInt n d).den:Int):=by
  have h3:((s*b).toNat:Int)=s*b:=by
   have:0≤s*b:=by rcases hs2 with⟨rfl,h⟩| ⟨rfl,h⟩<;>omega
   omega
  rw[hs1,hq.2,h3,Int.mul_assoc,← Int.mul_assoc s s b,hss,Int.one_mul];exact hb
 exact⟨ov hg0 e1,ov hg0 e2,e1,e2⟩
theorem km (q:Rat):Rat.divInt q.num q.den=q:=Rat.num_divInt_den q
theorem eW (q:Rat):0<(q.den:Int):=by have:=q.den_nz;omega
theorem yP (a b:Rat):Rat.divInt (a.num*b.den+b.num*a.den) (a.den*b.den)=a+b:=by
 have h:=Rat.divInt_add_divInt a.num b.num (d₁:=a.den) (d₂:=b.den) (by have:=eW a;omega) (by have:=eW b;omega);rw[Rat.num_divInt_den,Rat.num_divInt_den]at h;exact h.symm
theorem l0 (a b:Rat):Rat.divInt (a.num*b.num) (a.den*b.den)=a*b:=by
 have h:=Rat.divInt_mul_divInt a.num b.num (d₁:=a.den) (d₂:=b.den);rw[Rat.num_divInt_den,Rat.num_divInt_den]at h;exact h.symm
theorem yy (a b:Rat):Rat.divInt (a.num*b.den) (a.den*b.num)=a/b:=by
 rw[Rat.div_def,Rat.inv_def];have h:=Rat.divInt_mul_divInt a.num b.den (d₁:=a.den) (d₂:=b.num);rw[Rat.num_divInt_den]at h;exact h.symm
theorem ye {q:Rat} {n:Int} (h:q=n):q.num=n∧q.den=1:=by subst h;exact⟨rfl,rfl⟩
theorem tn {q:Rat} (h:q.den=1):q=(q.num:Rat):=Rat.ext rfl h
theorem mS {a b:Rat} (ha:a.den=1) (hb:b.den=1):(a*b).num=a.num*b.num∧(a*b).den=1:=by
 refine ye ?_;rw[tn ha,tn hb]
 simp
theorem Gv (a b:Rat):(a*b).num=(a.num/(Nat.gcd a.num.natAbs b.den:Nat))*(b.num/(Nat.gcd b.num.natAbs a.den:Nat))∧(a*b).den=(a.den/Nat.gcd b.num.natAbs a.den)*(b.den/Nat.gcd a.num.natAbs b.den):=by
 show(Rat.mul a b).num=_∧(Rat.mul a b).den=_;rw[Rat.mul.eq_1]
 simp only[Int.divExact_eq_ediv,Nat.divExact_eq_div]
 exact⟨trivial,trivial⟩
def Cw (q:Rat):Int:=q.num.sign
theorem Cl {n d:Int} (h:0<d):Cw (Rat.divInt n d)=n.sign:=by
 unfold Cw;obtain⟨_,_,h1,h2⟩:=mR (n:=n) (d:=d) (by omega)
 have hg:0<gz n d:=by
  have:=Nat.gcd_pos_of_pos_right n.natAbs (show 0<d.natAbs by omega);unfold gz;rw[if_neg (by omega)];omega
 rw[h1,Int.sign_mul,Int.sign_eq_one_of_pos hg,Int.one_mul];rw[← h1]
def rL (c:UInt8):Bool:=decide (da c)
theorem jl {c:UInt8}:rL c=true↔da c:=decide_eq_true_iff
def eE (t:List UInt8):List UInt8:=t.takeWhile rL
def iF (t:List UInt8):List UInt8:=t.dropWhile rL
theorem io (t:List UInt8):eE t++iF t=t:=List.takeWhile_append_dropWhile
theorem j9 (t:List UInt8):∀c∈eE t,da c:=fun c hc=>jl.1 (List.all_eq_true.1 (List.all_takeWhile (p:=rL) (l:=t)) c hc)
theorem iy {a b:List UInt8} (h:∀c∈a,da c):eE (a++b)=a++eE b∧iF (a++b)=iF b:=by
 induction a with
 |nil=>exact⟨rfl,rfl⟩
 |cons x a ih=>
  have hx:=jl.2 (h x (by simp));obtain⟨h1,h2⟩:=ih (fun c hc=>h c (by simp[hc]));unfold eE iF at *;rw[List.cons_append,List.takeWhile_cons_of_pos hx,List.dropWhile_cons_of_pos hx,h1,h2];exact⟨rfl,rfl⟩
theorem gY {c:UInt8} {b:List UInt8} (h:¬da c):eE (c::b)=[]∧iF (c::b)=c::b:=by
 have hc:¬rL c=true:=fun e=>h (jl.1 e)
 unfold eE iF;exact⟨List.takeWhile_cons_of_neg hc,List.dropWhile_cons_of_neg hc⟩
theorem oo {a:List UInt8} (h:∀c∈a,da c):eE a=a∧iF a=[]:=by
 have:=iy (b:=[]) h
 simpa[eE,iF]using this
theorem BT {t:List UInt8} {c:UInt8} {b:List UInt8} (h:iF t=c::b):¬da c:=by
 intro hc;unfold iF at h;have:=List.head?_dropWhile_not (p:=rL) (l:=t);rw[h]at this
 simp[jl.2 hc]at this
theorem qj {a:List UInt8} (h:¬∀c∈a,da c):∃p c r,a=p++c::r∧(∀x∈p,da x)∧ ¬da c:=by
 have e:=io a;cases hr:iF a with
 |nil=>
  rw[hr,List.append_nil]at e;exact absurd (fun c hc=>j9 a c (by rw[e];exact hc)) h
 |cons c r=>exact⟨eE a,c,r,by rw[← hr,e],j9 a,BT hr⟩
open Classical in
noncomputable def fa (t:List UInt8):Option Rat:=
 if il false (eE t)then
  match iF t with
  | []=>some ((num (eE t):Int):Rat)
  |c::b=>
   if c=46 then(if b≠[]∧(∀x∈b,da x)then some (Rat.divInt ((num (eE t)*10^b.length+num b:Nat):Int) ((10^b.length:Nat):Int))else none)
   else if c=47 then(if il false b∧num b≠0∧num b≠1∧Nat.gcd (num (eE t)) (num b)=1 then some (Rat.divInt (num (eE t):Int) (num b:Int))else none)
   else none
 else none
theorem DD:¬da 47:=by decide
theorem Ip:¬da 46:=by decide
theorem eF {a:List UInt8} (h:il false a):∀c∈a,da c:=h.2.1
open Classical in
theorem Bh {a b:List UInt8} (ha:47 ∉ a):fa (a++47::b)=if il false a∧il false b∧num b≠0∧num b≠1∧Nat.gcd (num a) (num b)=1 then some (Rat.divInt (num a:Int) (num b:Int))else none:=by
 by_cases h:∀c∈a,da c
 ·have h1:=iy (b:=47::b) h
  obtain⟨h2,h3⟩:=gY (b:=b) DD;rw[h2,h3,List.append_nil]at h1;unfold fa;rw[h1.1,h1.2]
  by_cases ho:il false a
  ·rw[if_pos ho]
   dsimp only;rw[if_neg (by decide),if_pos rfl]
   by_cases hb:il false b∧num b≠0∧num b≠1∧Nat.gcd (num a) (num b)=1
   ·rw[if_pos hb,if_pos ⟨ho,hb⟩]
   ·rw[if_neg hb,if_neg (fun h=>hb h.2)]
  ·rw[if_neg ho,if_neg (fun h=>ho h.1)]
 ·rw[if_neg (fun e=>h (eF e.1))]
  obtain⟨p,c,r,rfl,hp,hc⟩:=qj h;have h1:=iy (b:=c::(r++47::b)) hp;obtain⟨h2,h3⟩:=gY (b:=r++47::b) hc;rw[h2,h3,List.append_nil]at h1;unfold fa;rw[show p++c::r++47::b=p++c::(r++47::b) by simp,h1.1,h1.2]
  split
  ·dsimp only
   split
   ·rw[if_neg (fun e=>DD (e.2 47 (by simp)))]
   ·rw[if_neg (fun e=>ha (by rw[e];simp))]
  ·rfl
open Classical in
theorem AD {a b:List UInt8} (h47:47 ∉ a++46::b) (ha:46 ∉ a):fa (a++46::b)=if il false a∧b≠[]∧(∀x∈b,da x)then some (Rat.divInt ((num a*10^b.length+num b:Nat):Int) ((10^b.length:Nat):Int))else none:=by
 by_cases h:∀c∈a,da c
 ·have h1:=iy (b:=46::b) h
  obtain⟨h2,h3⟩:=gY (b:=b) Ip;rw[h2,h3,List.append_nil]at h1;unfold fa;rw[h1.1,h1.2]
  by_cases ho:il false a
  ·rw[if_pos ho]
   dsimp only;rw[if_pos rfl]
   by_cases hb:b≠[]∧(∀x∈b,da x)
   ·rw[if_pos hb,if_pos ⟨ho,hb⟩]
   ·rw[if_neg hb,if_neg (fun h=>hb h.2)]
  ·rw[if_neg ho,if_neg (fun h=>ho h.1)]
 ·rw[if_neg (fun e=>h (eF e.1))]
  obtain⟨p,c,r,rfl,hp,hc⟩:=qj h;have h1:=iy (b:=c::(r++46::b)) hp;obtain⟨h2,h3⟩:=gY (b:=r++46::b) hc;rw[h2,h3,List.append_nil]at h1;unfold fa;rw[show p++c::r++46::b=p++c::(r++46::b) by simp,h1.1,h1.2]
  split
  ·dsimp only
   rw[if_neg (fun e=>ha (by rw[e];simp)),if_neg (fun e=>h47 (by rw[e];simp))]
  ·rfl
open Classical in
theorem xh {a:List UInt8} (h47:47 ∉ a) (h46:46 ∉ a):fa a=if il false a then some ((num a:Int):Rat)else none:=by
 by_cases h:∀c∈a,da c
 ·have h1:=oo h
  unfold fa;rw[h1.1,h1.2]
 ·rw[if_neg (fun e=>h (eF e))]
  obtain⟨p,c,r,rfl,hp,hc⟩:=qj h;have h1:=iy (b:=c::r) hp;obtain⟨h2,h3⟩:=gY (b:=r) hc;rw[h2,h3,List.append_nil]at h1;unfold fa;rw[h1.1,h1.2]
  split
  ·dsimp only
   rw[if_neg (fun e=>h46 (by rw[e];simp)),if_neg (fun e=>h47 (by rw[e];simp))]
  ·rfl
open Classical in
noncomputable def bJ (s:List UInt8):Option Rat:=
 if s.length≤65536 then
  match fa (dA s)with
  |none=>none
  |some q=>if bV s=true then(if q=0 then none else some (-q))else some q
 else none
def lF (n:Nat):List UInt8:=if n=0 then [48]else lp n
theorem FB (n:Nat):fmt (n:Int)=lF n:=by
 unfold fmt lF
 by_cases h:n=0
 ·subst h;rfl
 ·rw[if_neg (by omega),if_neg h,if_neg (by omega),Int.natAbs_natCast];rfl
theorem BC (z:Int):fmt z=(if z<0 then [45]else [])++lF z.natAbs:=by
 unfold fmt lF
 by_cases h:z=0
 ·subst h;rfl
 ·rw[if_neg h,if_neg (show ¬z.natAbs=0 by omega)]
theorem wu (n:Nat):∀c∈lF n,da c:=by
 unfold lF
 split
 ·intro c hc;simp at hc;subst hc;decide
 ·exact Fu n
theorem Ff (n:Nat):il false (lF n):=by
 refine⟨?_,wu n,?_⟩
 ·unfold lF;split
  ·simp
  ·rename_i h;obtain⟨c,r,e,_⟩:=mN h;rw[e];simp
 ·unfold lF;split
  ·exact .inr ⟨rfl,rfl⟩
  ·rename_i h;obtain⟨c,r,e,hc⟩:=mN h
   exact .inl fun x y e2=>by rw[e]at e2;cases e2;exact hc
theorem C5 (n:Nat):num (lF n)=n:=by
 unfold lF;split
 ·rename_i h;subst h;rfl
 ·exact GB n
theorem yV {b:Bool} {l:List UInt8} (h:∀c r,l=c::r→da c):dA ((if b=true then [45]else [])++l)=l∧bV ((if b=true then [45]else [])++l)=b:=by
 cases b
 ·simp only[Bool.false_eq_true,if_false,List.nil_append]
  cases l with
  |nil=>exact⟨rfl,rfl⟩
  |cons c r=>
   have h1:=h c r rfl;have:(c == 45)=false:=beq_eq_false_iff_ne.2 (fun e=>by subst e;exact absurd h1 (by decide));exact⟨by show(if(c == 45)=true then r else c::r)=_;rw[this];rfl,this⟩
 ·exact⟨rfl,rfl⟩
theorem Cs (k:Nat) (l:List UInt8):num (List.replicate k 48++l)=num l:=by
 induction k with
 |zero=>rfl
 |succ k ih=>rw[List.replicate_succ,List.cons_append];exact ih
def Ee (l:List UInt8):List UInt8:=l.dropWhile (· == 48)
theorem zB (l:List UInt8):num (Ee l)=num l:=by
 induction l with
 |nil=>rfl
 |cons c l ih=>
  unfold Ee at *
  by_cases h:c=48
  ·subst h;rw[List.dropWhile_cons_of_pos rfl,ih];rfl
  ·rw[List.dropWhile_cons_of_neg (by simpa using h)]
theorem H1 {l:List UInt8} (h:∀c∈l,da c) (hn:Ee l≠[]):il false (Ee l):=by
 refine⟨hn,fun c hc=>h c (List.dropWhile_sublist _ |>.subset hc), .inl fun c r e=>?_⟩;have:=List.head?_dropWhile_not (p:=(· == (48:UInt8))) (l:=l);unfold Ee at e;rw[e]at this
 simpa using this
def aQ (q:Rat):List AV:=aZ q.num++aZ q.den
def dQ (q:Rat):DV:= .agg (aQ q)
def Dm (na:Bool) (xs:List Nat) (nb:Bool) (ys:List Nat):List AV:=aI na xs++aI nb ys
def JV (na:Bool) (xs:List Nat) (nb:Bool) (ys:List Nat):DV:= .agg (Dm na xs nb ys)
def nz:List AV:=[.val (.bool false), .sl 0 [], .val (.bool false), .sl 0 []]
def DI:DV:= .agg nz
def Sz (k:Nat) (z:Int):Prop:=z.natAbs<4294967296^k
theorem Sz.fit {k:Nat} {z:Int} (h:Sz k z) (hk:k≤2147483648):eD z:= .of_lt h hk
theorem Sz.mono {j k:Nat} {z:Int} (h:Sz j z) (hk:j≤k):Sz k z:=Nat.lt_of_lt_of_le h (Nat.pow_le_pow_right (by decide) hk)
theorem Sz.of_le {k:Nat} {a b:Int} (h:Sz k b) (hl:a.natAbs≤b.natAbs):Sz k a:=Nat.lt_of_le_of_lt hl h
theorem Sz.mul {j k:Nat} {a b:Int} (h:Sz j a) (h':Sz k b):Sz (j+k) (a*b):=by
 unfold Sz at *;rw[Int.natAbs_mul,Nat.pow_add];exact Nat.mul_lt_mul'' h h'
theorem Sz.add {k:Nat} {a b:Int} (h:Sz k a) (h':Sz k b):Sz (k+1) (a+b):=by
 unfold Sz at *;have:=Int.natAbs_add_le a b;have:0<4294967296^k:=Nat.pow_pos (by decide)
 rw[Nat.pow_succ];omega
theorem Sz.neg {k:Nat} {a:Int} (h:Sz k a):Sz k (-a):=by unfold Sz at *;rw[Int.natAbs_neg];exact h
theorem Sz.sub {k:Nat} {a b:Int} (h:Sz k a) (h':Sz k b):Sz (k+1) (a-b):=by rw[Int.sub_eq_add_neg];exact h.add h'.neg
theorem Sz.small {z:Int} (h:z.natAbs<4294967296):Sz 1 z:=by unfold Sz;simpa using h
theorem Sz.i64 {z:Int} (h1: -9223372036854775808≤z) (h2:z<9223372036854775808):Sz 2 z:=by unfold Sz;omega
theorem Sz.gcd {k:Nat} {n d:Int} (h:Sz k d) (hd:d≠0):Sz k (Nat.gcd n.natAbs d.natAbs:Nat):=by
 refine h.of_le ?_;rw[Int.natAbs_natCast];exact Nat.le_of_dvd (by omega) (Nat.gcd_dvd_right _ _)
theorem Sz.digs {k:Nat} {z:Int} (h:Sz k z):(digs z.natAbs).length≤k:=aO h
def jb (k:Nat) (q:Rat):Prop:=Sz k q.num∧Sz k q.den
theorem jb.mono {j k:Nat} {q:Rat} (h:jb j q) (hk:j≤k):jb k q:=⟨h.1.mono hk,h.2.mono hk⟩
theorem jb.divInt {k:Nat} {n d:Int} (h:Sz k n) (h':Sz k d) (hd:d≠0):jb k (Rat.divInt n d):=by
 obtain⟨_,_,h1,h2⟩:=mR (n:=n) (d:=d) hd;have hg:0<(gz n d).natAbs:=by have:=Ag (n:=n) hd;omega
 refine⟨h.of_le ?_,h'.of_le ?_⟩
 ·conv=>rhs;rw[h1,Int.natAbs_mul]
  exact Nat.le_mul_of_pos_left _ hg
 ·conv=>rhs;rw[h2,Int.natAbs_mul]
  exact Nat.le_mul_of_pos_left _ hg
theorem jb.add {j k:Nat} {a b:Rat} (h:jb j a) (h':jb k b):jb (j+k+1) (a+b):=by
 rw[← yP];refine .divInt ?_ ((h.2.mul h'.2).mono (by omega)) (by have:=Int.mul_pos (eW a) (eW b);omega);exact Sz.add (h.1.mul h'.2) ((h'.1.mul h.2).mono (by omega))
theorem jb.neg {k:Nat} {a:Rat} (h:jb k a):jb k (-a):=⟨by rw[Rat.neg_num];exact h.1.neg,h.2⟩
theorem jb.sub {j k:Nat} {a b:Rat} (h:jb j a) (h':jb k b):jb (j+k+1) (a-b):=by rw[Rat.sub_eq_add_neg];exact h.add h'.neg
theorem jb.mul {j k:Nat} {a b:Rat} (h:jb j a) (h':jb k b):jb (j+k) (a*b):=by
 rw[← l0];exact .divInt (h.1.mul h'.1) (h.2.mul h'.2) (by have:=Int.mul_pos (eW a) (eW b);omega)
theorem jb.div {j k:Nat} {a b:Rat} (h:jb j a) (h':jb k b) (hb:b≠0):jb (j+k) (a/b):=by
 rw[← yy];have h0:b.num≠0:=fun e=>hb (Rat.num_eq_zero.1 e)
 refine .divInt (h.1.mul h'.2) (h.2.mul h'.1) ?_;exact Int.mul_ne_zero (by have:=eW a;omega) h0
theorem mH {z:Int}:(!decide (z<0) && decide (digs z.natAbs=[1]))=decide (z=1):=by
 by_cases h:z=1
 ·subst h;rw[show(1:Int).natAbs=1 from rfl,qC (by decide) (by decide)];rfl
 ·rw[decide_eq_false h]
  by_cases hn:z<0
  ·simp[hn]
  ·have:digs z.natAbs≠[1]:=fun e=>by
    have h1:=congrArg val e;rw[af]at h1
    simp[val]at h1
    omega
   simp[this]
theorem jK {z:Int}:decide (((digs z.natAbs).length:Int)=0)=decide (z=0):=by
 have:=cE (n:=z.natAbs)
 by_cases h:z=0
 ·subst h;rw[decide_eq_true rfl];exact decide_eq_true (by have:=this.2 rfl;omega)
 ·rw[decide_eq_false h];exact decide_eq_false (fun e=>h (by have:=this.1 (by omega);omega))
theorem j7:aa Tryz.prog 132 [] (.one (dZ 1)):=by
 refine kV func132 ?_;refine ae (fS 1 (by decide) (by decide)) rfl rfl rfl rfl rfl rfl rfl ?_;exact kF
theorem yA {na:Bool} {xs:List Nat} {b:Bool} (hb:(!na && decide (xs=[1]))=b):aa Tryz.prog 130 [dI na xs] (.one (dB b)):=by
 subst hb;cases na
 ·match xs with
  | []=>
   refine kU func130 ?_;exact kF
  | [x]=>
   refine kV func130 ?_;refine bl (cs':=[AV.val (bB x)]) (i:=0) (Nat.lt_succ_self 0) (fun j a h=>by simpa using h) (Nat.lt_succ_self 0) rfl rfl rfl rfl rfl rfl rfl rfl ?_;refine kW ?_;rw[show(!false && decide ([x]=[1]))=decide ((x:Int)=1) by by_cases h:x=1<;>simp[h]<;>omega];exact bu (T:=TT) rfl rfl
  |x::y::r=>
   refine kU func130 ?_;refine kR ?_;refine kI ?_
   iterate 7 refine kO ?_
   refine kB false ?_ ?_
   ·exact decide_eq_false (by simp only[List.length_cons];omega)
   refine kW ?_;rw[show(!false && decide (x::y::r=[1]))=false by simp];exact bu (T:=TT) rfl rfl
 ·refine kU func130 ?_
  exact kF
theorem Br {na:Bool} {xs:List Nat} {b:Bool} (hb:(!na && decide (xs=[1]))=b):aa Tryz.prog 97 [dI na xs] (.one (dB b)):=by
 subst hb
 match xs with
 | []=>
  refine kV func97 ?_;rw[show(!na && decide (([]:List Nat)=[1]))=false by simp];exact bu (T:=TT) rfl rfl
 | [x]=>
  refine kV func97 ?_;refine bl (cs':=[AV.val (bB x)]) (i:=0) (Nat.lt_succ_self 0) (fun j a h=>by simpa using h) (Nat.lt_succ_self 0) rfl rfl rfl rfl rfl rfl rfl rfl ?_;refine kO ?_
  by_cases h:x=1
  ·refine kT ?_
   refine kW ?_;rw[show(!na && decide ([x]=[1]))=!na by simp[h]];exact bu (T:=TT) rfl rfl
  ·refine kE ?_
   refine kW ?_;rw[show(!na && decide ([x]=[1]))=false by simp[h]];exact bu (T:=TT) rfl rfl
 |x::y::r=>
  refine kU func97 ?_;refine kR ?_;refine kI ?_
  refine kO3 ?_
  refine kB false ?_ ?_
  ·exact decide_eq_false (by simp only[List.length_cons];omega)
  refine kW ?_;rw[show(!na && decide (x::y::r=[1]))=false by simp];exact bu (T:=TT) rfl rfl
theorem bT {z:Int} {b:Bool} (hb:decide (z=1)=b):aa Tryz.prog 130 [dZ z] (.one (dB b)):=yA (by rw[mH,hb])
theorem du {z:Int} {b:Bool} (hb:decide (z=1)=b):aa Tryz.prog 97 [dZ z] (.one (dB b)):=Br (by rw[mH,hb])
theorem eZ {z:Int} {b:Bool} (hb:decide (z=0)=b):aa Tryz.prog 217 [dZ z] (.one (dB b)):=by
 refine kV func217 ?_;rw[← hb,← jK];exact bu (T:=TT) rfl rfl
theorem ml {a b c:Int} (h1:eD a) (h2:eD b) (hb:b≠0) (h:a.fdiv b=c):aa Tryz.prog 166 [dZ a,dZ b] (.one (dZ c)):=by
 by_cases h1':b=1
 ·subst h1'
  rw[Int.fdiv_one]at h;subst h;refine kV func166 ?_;refine kC (bT (z:=1) (b:=true) rfl) ?_;exact kF
 ·refine kV func166 ?_;refine kQ (bT (z:=b) (b:=false) (decide_eq_false h1')) ?_;refine kC (uG h1 h2 hb h rfl) ?_;exact kF
theorem de {a b c:Int} (h1:eD a) (h2:eD b) (hb:b≠0) (h:a.fdiv b=c):aa Tryz.prog 105 [dZ a,dZ b] (.one (dZ c)):=by
 refine kV func105 ?_;refine kC (rP h1 h2 hb h rfl) ?_;exact kF
theorem CT {n d:Int} {g:Nat} (hg:Nat.gcd n.natAbs d.natAbs=g) (h:¬d<0):gz n d=g:=by unfold gz;rw[if_neg h,hg]
theorem EI {n d:Int} {g:Nat} (hg:Nat.gcd n.natAbs d.natAbs=g) (h:d<0):gz n d= -(g:Int):=by unfold gz;rw[if_pos h,hg]
theorem iO {k:Nat} {n d:Int} {q:Rat} (h1:Sz k n) (h2:Sz k d) (hk:k≤2147483648) (hd:d≠0) (hq:Rat.divInt n d=q):aa Tryz.prog 139 [dZ n,dZ d] (.one (dQ q)):=by
 subst hq;obtain⟨e1,e2,_,_⟩:=mR (n:=n) hd;have hg0:=Ag (n:=n) hd;have hsg:=h2.gcd (n:=n) hd;obtain⟨g,hg⟩:∃g,Nat.gcd n.natAbs d.natAbs=g:=⟨_,rfl⟩;rw[hg]at hsg
 by_cases h:d<0
 ·rw[EI hg h]at e1 e2 hg0
  refine kV func139 ?_;refine kQ (ll (h1.fit hk) (h2.fit hk) hg) ?_;refine eY (T:=TT) rfl ?_ ?_
  ·exact decide_eq_true h
  refine kW ?_;refine kQ (tF (hsg.fit hk)) ?_;refine kQ (ml (h1.fit hk) (hsg.neg.fit hk) hg0 e1) ?_;refine kC (ml (h2.fit hk) (hsg.neg.fit hk) hg0 e2) ?_;exact kF
 ·rw[CT hg h]at e1 e2 hg0
  refine kV func139 ?_;refine kQ (ll (h1.fit hk) (h2.fit hk) hg) ?_;refine dD (T:=TT) rfl ?_ ?_
  ·exact decide_eq_false h
  refine kW ?_;refine kQ (ml (h1.fit hk) (hsg.fit hk) hg0 e1) ?_;refine kC (ml (h2.fit hk) (hsg.fit hk) hg0 e2) ?_;exact kF
theorem qI {k:Nat} {n d:Int} {q:Rat} (h1:Sz k n) (h2:Sz k d) (hk:k≤2147483648) (hd:d≠0) (hq:Rat.divInt n d=q):aa Tryz.prog 205 [dZ n,dZ d] (.one (dQ q)):=by
 subst hq;obtain⟨e1,e2,_,_⟩:=mR (n:=n) hd;have hg0:=Ag (n:=n) hd;have hsg:=h2.gcd (n:=n) hd;obtain⟨g,hg⟩:∃g,Nat.gcd n.natAbs d.natAbs=g:=⟨_,rfl⟩;rw[hg]at hsg
 by_cases h:d<0
 ·rw[EI hg h]at e1 e2 hg0
  have hs:aa Tryz.prog 96 [dZ d] (.one (dN .i64 (-1))):=by have:=kw d;rwa[Int.sign_eq_neg_one_of_neg h]at this
  refine kV func205 ?_;refine kQ (fw (h1.fit hk) (h2.fit hk) hg) ?_;refine kQ (hs) ?_;refine kQ (lY g) ?_;refine kQ (de (h1.fit hk) (hsg.neg.fit hk) hg0 e1) ?_;refine kC (de (h2.fit hk) (hsg.neg.fit hk) hg0 e2) ?_;exact kF
 ·rw[CT hg h]at e1 e2 hg0
  have hs:aa Tryz.prog 96 [dZ d] (.one (dN .i64 1)):=by have:=kw d;rwa[Int.sign_eq_one_of_pos (by omega)]at this
  refine kV func205 ?_;refine kQ (fw (h1.fit hk) (h2.fit hk) hg) ?_;refine kQ (hs) ?_;refine kQ (de (h1.fit hk) (hsg.fit hk) hg0 e1) ?_;refine kC (de (h2.fit hk) (hsg.fit hk) hg0 e2) ?_;exact kF
theorem uE (k:Int) (h1: -9223372036854775808≤k) (h2:k<9223372036854775808) {q:Rat} (hq:(k:Rat)=q):aa Tryz.prog 88 [dN .i64 k] (.one (dQ q)):=by
 subst hq;refine kV func88 ?_;refine kQ (fS k h1 h2) ?_;refine kC (j7) ?_;exact kF
theorem iY (k:Int) (h1: -9223372036854775808≤k) (h2:k<9223372036854775808) {q:Rat} (hq:(k:Rat)=q):aa Tryz.prog 64 [dN .i64 k] (.one (dQ q)):=by
 subst hq;refine kV func64 ?_;refine kQ (cX k h1 h2) ?_;refine ae (cX 1 (by decide) (by decide)) rfl rfl rfl rfl rfl rfl rfl ?_;exact kF
theorem CD {k:Nat} {a q:Rat} (h:jb k a) (hk:k≤2147483648) (hq: -a=q):aa Tryz.prog 218 [dQ a] (.one (dQ q)):=by
 subst hq;refine kV func218 ?_;refine kC (tF (h.1.fit hk)) ?_;exact kF
theorem sG (a:Rat):aa Tryz.prog 87 [dQ a] (.one (dN .i64 (Cw a))):=by
 refine kV func87 ?_;refine kC (y4 a.num) ?_;exact kF
theorem qF (a:Rat):aa Tryz.prog 63 [dQ a] (.one (dN .i64 (Cw a))):=by
 refine kV func63 ?_;refine kC (kw a.num) ?_;exact kF
theorem zG {q:Rat} {n d:Int} (h1:q.num=n) (h2:(q.den:Int)=d):dQ q= .agg (aZ n++aZ d):=by unfold dQ aQ;rw[h1,h2]
theorem CF (a:Rat):decide ((a.den:Int)=1)=decide (a.den=1):=by by_cases h:a.den=1<;>simp[h]<;>omega
theorem sW {a:Rat} (h:a.den=1):decide ((a.den:Int)=1)=true:=by rw[CF];exact decide_eq_true h
theorem Aa {a:Rat} (h:¬a.den=1):decide ((a.den:Int)=1)=false:=by rw[CF];exact decide_eq_false h
theorem Dc {z:Int} (h:z=0):decide (((digs z.natAbs).length:Int)=0)=true:=jK.trans (decide_eq_true h)
theorem th {z:Int} (h:¬z=0):decide (((digs z.natAbs).length:Int)=0)=false:=jK.trans (decide_eq_false h)
theorem j6 (a:Int) (g:Nat):a.fdiv g=a/g:=Int.fdiv_eq_ediv_of_nonneg _ (by omega)
theorem ph (a g:Nat):(a:Int).fdiv g=((a/g:Nat):Int):=by rw[j6];rfl
theorem CW {j k:Nat} {a b q:Rat} (h:jb j a) (h':jb k b) (hk:j+k≤2147483648) (hq:a*b=q):aa Tryz.prog 91 [dQ a,dQ b] (.one (dQ q)):=by
 subst hq;have d0:(a.den:Int)*b.den≠0:=by have:=Int.mul_pos (eW a) (eW b);omega
 by_cases ha:a.den=1
 ·by_cases hb:b.den=1
  ·rw[zG (mS ha hb).1 (d:=1) (by rw[(mS ha hb).2];rfl)]
   refine kV func91 ?_;refine kQ (bT (sW ha)) ?_;refine kQ (bT (sW hb)) ?_;refine ae (eU (h.1.fit (by omega)) (h'.1.fit (by omega))) rfl rfl rfl rfl rfl rfl rfl ?_;refine kW ?_;refine kC (j7) ?_;exact kF
  ·refine kV func91 ?_;refine kQ (bT (sW ha)) ?_;refine kQ (bT (Aa hb)) ?_;refine ae (eU (h.1.fit (by omega)) (h'.1.fit (by omega))) rfl rfl rfl rfl rfl rfl rfl ?_;refine kW ?_;refine ae (eU (h.2.fit (by omega)) (h'.2.fit (by omega))) rfl rfl rfl rfl rfl rfl rfl ?_;refine kW ?_;refine kC (iO (h.1.mul h'.1) (h.2.mul h'.2) hk d0 (l0 a b)) ?_;exact kF
 ·refine kV func91 ?_;refine kQ (bT (Aa ha)) ?_;refine ae (eU (h.1.fit (by omega)) (h'.1.fit (by omega))) rfl rfl rfl rfl rfl rfl rfl ?_;refine kW ?_;refine ae (eU (h.2.fit (by omega)) (h'.2.fit (by omega))) rfl rfl rfl rfl rfl rfl rfl ?_;refine kW ?_;refine kC (iO (h.1.mul h'.1) (h.2.mul h'.2) hk d0 (l0 a b)) ?_;exact kF
theorem Cb {j k:Nat} {a b q:Rat} (h:jb j a) (h':jb k b) (hk:j+k≤2147483648) (hq:a*b=q):aa Tryz.prog 68 [dQ a,dQ b] (.one (dQ q)):=by
 subst hq
 by_cases ha0:a.num=0
 ·have e:a*b=0:=by rw[Rat.num_eq_zero.1 ha0];exact Rat.zero_mul b
  refine kU func68 ?_;refine kR ?_;refine kI ?_
  refine kO4 ?_
  refine kB true ?_ ?_
  ·exact Dc ha0
  refine kW ?_;refine ae (iY 0 (by decide) (by decide) e.symm) rfl rfl rfl rfl rfl rfl rfl ?_;exact kF
 by_cases hb0:b.num=0
 ·have e:a*b=0:=by rw[Rat.num_eq_zero.1 hb0];exact Rat.mul_zero a
  refine kU func68 ?_;refine kR ?_;refine kI ?_
  refine kO4 ?_
  refine kB false ?_ ?_
  ·exact th ha0
  refine kO5 ?_
  refine kB true ?_ ?_
  ·exact Dc hb0
  refine kW ?_;refine ae (iY 0 (by decide) (by decide) e.symm) rfl rfl rfl rfl rfl rfl rfl ?_;exact kF
 by_cases hab:a.den=1∧b.den=1
 ·rw[zG (mS hab.1 hab.2).1 (d:=a.den) (by rw[(mS hab.1 hab.2).2,hab.1])]
  refine kU func68 ?_;refine kR ?_;refine kI ?_
  refine kO4 ?_
  refine kB false ?_ ?_
  ·exact th ha0
  refine kO5 ?_
  refine kB false ?_ ?_
  ·exact th hb0
  refine kW ?_;refine kQ (du (sW hab.1)) ?_;refine kQ (du (sW hab.2)) ?_;refine ae (eL (h.1.fit (by omega)) (h'.1.fit (by omega))) rfl rfl rfl rfl rfl rfl rfl ?_;exact kF
 have e:=Gv a b;obtain⟨g,hg⟩:∃g,Nat.gcd a.num.natAbs b.den=g:=⟨_,rfl⟩;obtain⟨t,ht⟩:∃t,Nat.gcd b.num.natAbs a.den=t:=⟨_,rfl⟩;rw[hg,ht]at e;have hgz:Nat.gcd a.num.natAbs (b.den:Int).natAbs=g:=by rw[Int.natAbs_natCast];exact hg
 have htz:Nat.gcd b.num.natAbs (a.den:Int).natAbs=t:=by rw[Int.natAbs_natCast];exact ht
 have hg0:0<g:=by rw[← hg];exact Nat.gcd_pos_of_pos_right _ (Nat.pos_of_ne_zero b.den_nz)
 have ht0:0<t:=by rw[← ht];exact Nat.gcd_pos_of_pos_right _ (Nat.pos_of_ne_zero a.den_nz)
 have sg:Sz k g:=by rw[← hgz];exact h'.2.gcd (by have:=eW b;omega)
 have st:Sz j t:=by rw[← htz];exact h.2.gcd (by have:=eW a;omega)
 have s1:Sz j (a.num/g):=h.1.of_le (Int.natAbs_ediv_le_natAbs _ _);have s2:Sz k (b.num/t):=h'.1.of_le (Int.natAbs_ediv_le_natAbs _ _);have s3:Sz j (a.den/t:Nat):=h.2.of_le (by rw[Int.natAbs_natCast,Int.natAbs_natCast];exact Nat.div_le_self _ _);have s4:Sz k (b.den/g:Nat):=h'.2.of_le (by rw[Int.natAbs_natCast,Int.natAbs_natCast];exact Nat.div_le_self _ _);rw[zG e.1 (d:=(a.den/t:Nat)*(b.den/g:Nat)) (by rw[e.2];rfl)];refine kU func68 ?_;refine kR ?_;refine kI ?_
 refine kO4 ?_
 refine kB false ?_ ?_
 ·exact th ha0
 refine kO5 ?_
 refine kB false ?_ ?_
 ·exact th hb0
 refine kW ?_
 by_cases ha:a.den=1
 ·have hb:¬b.den=1:=fun e=>hab ⟨ha,e⟩
  refine kQ (du (sW ha)) ?_;refine kQ (du (Aa hb)) ?_;refine ae (fw (h.1.fit (by omega)) (h'.2.fit (by omega)) hgz) rfl rfl rfl rfl rfl rfl rfl ?_;refine kW ?_;refine ae (fw (h'.1.fit (by omega)) (h.2.fit (by omega)) htz) rfl rfl rfl rfl rfl rfl rfl ?_;refine kW ?_;refine ae (de (h.1.fit (by omega)) (sg.fit (by omega)) (by omega) (j6 _ _)) rfl rfl rfl rfl rfl rfl rfl ?_;refine kW ?_;refine ae (de (h'.1.fit (by omega)) (st.fit (by omega)) (by omega) (j6 _ _)) rfl rfl rfl rfl rfl rfl rfl ?_;refine kW ?_;refine ae (eL (s1.fit (by omega)) (s2.fit (by omega))) rfl rfl rfl rfl rfl rfl rfl ?_;refine kW ?_;refine ae (de (h.2.fit (by omega)) (st.fit (by omega)) (by omega) (ph _ _)) rfl rfl rfl rfl rfl rfl rfl ?_;refine kW ?_
  refine ae (de (h'.2.fit (by omega)) (sg.fit (by omega)) (by omega) (ph _ _)) rfl rfl rfl rfl rfl rfl rfl ?_;refine kW ?_;refine ae (eL (s3.fit (by omega)) (s4.fit (by omega))) rfl rfl rfl rfl rfl rfl rfl ?_;exact kF
 ·refine kC (du (Aa ha)) ?_
  refine kW ?_;refine ae (fw (h.1.fit (by omega)) (h'.2.fit (by omega)) hgz) rfl rfl rfl rfl rfl rfl rfl ?_;refine kW ?_;refine ae (fw (h'.1.fit (by omega)) (h.2.fit (by omega)) htz) rfl rfl rfl rfl rfl rfl rfl ?_;refine kW ?_;refine ae (de (h.1.fit (by omega)) (sg.fit (by omega)) (by omega) (j6 _ _)) rfl rfl rfl rfl rfl rfl rfl ?_;refine kW ?_;refine ae (de (h'.1.fit (by omega)) (st.fit (by omega)) (by omega) (j6 _ _)) rfl rfl rfl rfl rfl rfl rfl ?_;refine kW ?_;refine ae (eL (s1.fit (by omega)) (s2.fit (by omega))) rfl rfl rfl rfl rfl rfl rfl ?_;refine kW ?_;refine ae (de (h.2.fit (by omega)) (st.fit (by omega)) (by omega) (ph _ _)) rfl rfl rfl rfl rfl rfl rfl ?_;refine kW ?_
  refine ae (de (h'.2.fit (by omega)) (sg.fit (by omega)) (by omega) (ph _ _)) rfl rfl rfl rfl rfl rfl rfl ?_;refine kW ?_;refine ae (eL (s3.fit (by omega)) (s4.fit (by omega))) rfl rfl rfl rfl rfl rfl rfl ?_;exact kF
end Go.Proofs.YtikbnnljjeefgaaGreatDoor
