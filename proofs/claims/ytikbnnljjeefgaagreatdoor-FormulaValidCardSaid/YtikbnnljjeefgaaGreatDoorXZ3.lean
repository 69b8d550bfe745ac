/- Parts of a proof: contracts of the functions that the laws reach. -/
import Derived.Test.YtikbnnljjeefgaaGreatDoorXZ2
import Derived.Test.YtikbnnljjeefgaaGreatDoorXZ1
import Derived.Lib.ItoaNum
import Derived.Test.YtikbnnljjeefgaaGreatDoorXLSqrt
set_option maxHeartbeats 100000000
set_option linter.all false
open Go.Proofs.Tryz
namespace Go.Proofs.YtikbnnljjeefgaaGreatDoor
open Go.RowKit
theorem r9 (s:List UInt8) (i:Nat) (hi:i≤s.length) (hl:s.length≤4611686018427387903) {r:Nat} (hr:r=i+if 0<aO ct (s.drop i)then gW (s.drop i)else 0):aa Tryz.prog 73 [dL s,dN .i64 i] (.one (dN .i64 r)):=by
 have hB:=au s;have c1:=md s i hi (by omega);have hn:=fW ct (s.drop i);rw[List.length_drop]at hn;unfold gW at hr;rw[List.getElem?_drop,List.drop_drop]at hr;generalize aO ct (s.drop i)=n at *
 by_cases h0:0<n
 ·rw[if_pos h0]at hr
  by_cases h1:i+n<s.length
  ·have hx:s[i+n]? =some s[i+n]:=by simp[h1]
   by_cases h2:s[i+n]=46
   ·have e2:s[i+n].toNat=46:=by rw[h2];rfl
    have hx2:s[i+n]? =some 46:=by rw[hx,h2]
    have c2:=md s (i+n+1) (by omega) (by omega);have hm:=fW ct (s.drop (i+n+1));rw[List.length_drop]at hm;rw[show i+(n+1)=i+n+1 by omega]at hr;generalize aO ct (s.drop (i+n+1))=m at *
    by_cases h3:0<m
    ·rw[if_pos ⟨hx2,h3⟩]at hr
     obtain rfl:r=i+n+1+m:=by omega
     refine kV func73 ?_;refine kC (c1) ?_;refine kG ?_
     refine kO2 ?_
     refine kT ?_
     refine kO4 ?_
     refine kT ?_
     refine kO4 ?_
     refine ap ab (i:=i+n) (c:=s[i+n]) hx rfl rfl rfl rfl rfl rfl rfl rfl ?_;refine kT ?_
     refine kO4 ?_
     refine kJ ((i+n+1:Nat)) ?_;refine kC (c2) ?_;refine kO ?_;refine kJ ((i+n+1:Nat)) ?_;refine kT ?_;refine kG ?_
     refine kO2 ?_
     refine kJ ((i+n+1:Nat)) ?_;refine kC (c2) ?_;exact kF
    ·rw[if_neg (fun h=>h3 h.2)]at hr
     subst hr;refine kV func73 ?_;refine kC (c1) ?_;refine kG ?_
     refine kO2 ?_
     refine kT ?_
     refine kO4 ?_
     refine kT ?_
     refine kO4 ?_
     refine ap ab (i:=i+n) (c:=s[i+n]) hx rfl rfl rfl rfl rfl rfl rfl rfl ?_;refine kT ?_
     refine kO4 ?_
     refine kJ ((i+n+1:Nat)) ?_;refine kC (c2) ?_;refine kO ?_;refine kJ ((i+n+1:Nat)) ?_;refine kE ?_;exact kF
   ·have e2:¬s[i+n].toNat=46:=dX h2
    rw[if_neg (fun h=>by rw[hx]at h;exact h2 (Option.some.inj h.1))]at hr;subst hr;refine kV func73 ?_;refine kC (c1) ?_;refine kG ?_
    refine kO2 ?_
    refine kT ?_
    refine kO4 ?_
    refine kT ?_
    refine kO4 ?_
    refine ap ab (i:=i+n) (c:=s[i+n]) hx rfl rfl rfl rfl rfl rfl rfl rfl ?_;refine kE ?_;exact kF
  ·rw[if_neg (fun h=>by rw[List.getElem?_eq_none (by omega)]at h;cases h.1)]at hr
   subst hr;refine kV func73 ?_;refine kC (c1) ?_;refine kG ?_
   refine kO2 ?_
   refine kT ?_
   refine kO4 ?_
   refine kE ?_;exact kF
 ·rw[if_neg h0]at hr
  obtain rfl:n=0:=by omega
  subst hr;refine kV func73 ?_;refine kC (c1) ?_;refine kG ?_
  refine kO2 ?_
  refine kE ?_;exact kF
theorem nZ:∀(l:List UInt8) (c:UInt8),0≤Lib.indexByte l c↔c∈l
 | [],c=>by simp[Lib.indexByte]
 |b::l,c=>by
  have ih:=nZ l c;have hge:=Lib.indexByte_ge l c
  simp only[Lib.indexByte]
  by_cases h:b=c
  ·subst h
   simp
  ·have hb:(b == c)=false:=by simpa using h
   have h':¬c=b:=fun e=>h e.symm
   rw[hb]
   simp only[Bool.false_eq_true,if_false,List.mem_cons,h',false_or]
   rw[← ih]
   by_cases h1:Lib.indexByte l c= -1
   ·simp[h1]
   ·have h2:(Lib.indexByte l c == -1)=false:=by simpa using h1
    rw[h2]
    simp only[Bool.false_eq_true,if_false]
    omega
theorem DP (c:UInt8):r8 c=decide (c∈ip):=decide_eq_decide.2 (nZ ip c)
theorem sm (c:UInt8):aa Tryz.prog 75 [dN .u8 c.toNat] (.one (dB (r8 c))):=by
 rw[DP];have hlen:ip.length=19:=rfl;refine kV func75 ?_
 refine bh Nat (fun i=>i≤19∧ ∀(q:Nat) d,q<i→ip[q]? =some d→d≠c) (fun i=>⟨[(0, .d (dN .u8 c.toNat)),(2, .d (dB false)),(3, .d (dN .i64 i))],[]⟩) (fun i=>19-i) 0 ⟨Nat.zero_le _,fun q d h=>absurd h (Nat.not_lt_zero _)⟩
  (weak ⟨rfl,rfl,rfl,trivial⟩ trivial rfl) ?_
 rintro i ⟨hi,hq⟩;refine kI ?_;refine kO ?_
 by_cases hlt:i<19
 ·have hx:ip[i]? =some (ip[i]'(by omega)):=by simp
  refine Exists.elim (Exists.intro _ hx:∃d,ip[i]? =some d) fun d hd=>?_
  refine kT ?_;refine kG ?_;refine kO ?_;refine ap ab (l:=ip) (i:=i) (c:=d) hd rfl rfl rfl rfl rfl rfl rfl rfl ?_;refine kO ?_
  by_cases he:d=c
  ·have e1:d.toNat=c.toNat:=by rw[he]
   refine kT ?_;rw[show decide (c∈ip)=true from decide_eq_true (by rw[← he];exact List.mem_of_getElem? hd)];exact kF
  ·have e1:¬d.toNat=c.toNat:=dX he
   refine kY ?_
   exact⟨i+1,⟨hlt,fun q d' h1 h2=>by
    by_cases e:q=i
    ·subst e;rw[hd]at h2;cases h2;exact he
    ·exact hq q d' (by omega) h2⟩,by omega,weak ⟨rfl,rfl,bd (by omega) (by omega),trivial⟩ trivial rfl⟩
 ·refine kE ?_
  rw[show decide (c∈ip)=false from decide_eq_false (fun hm=>by
   obtain⟨q,h⟩:=List.getElem?_of_mem hm;have h1:=(List.getElem?_eq_some_iff.1 h).1;exact hq q c (by omega) h rfl)]
  exact kF
def nj (s:List UInt8):Bool:=match s with
 | []=>false
 |c::_=>decide (s.length≤24) && (ee c && decide (aO fM s=s.length))
theorem iQ (s:List UInt8) (hl:s.length≤4611686018427387903):aa Tryz.prog 27 [dL s] (.one (dB (nj s))):=by
 have hB:=au s;cases hs:s with
 |nil=>
  refine kU func27 ?_;refine kR ?_;refine kI ?_;refine kO ?_;refine aj rfl rfl rfl rfl rfl rfl rfl (fV (a:=[]) (b:=[]) rfl) ?_;exact kF
 |cons c r=>
  have hn:nj s=(decide (s.length≤24) && (ee c && decide (aO fM s=s.length))):=by rw[hs];rfl
  have hne:s≠[]:=by rw[hs];simp
  have h0:s[0]? =some c:=by rw[hs];rfl
  have c1:=jh c;have c2:=lG pe s (by omega);rw[← hs,hn];generalize aO fM s=n at *
  by_cases h24:s.length≤24
  ·rw[decide_eq_true h24,Bool.true_and]
   cases hb:ee c
   ·rw[hb]at c1
    refine kU func27 ?_;refine kR ?_;refine kI ?_;refine kO ?_;refine aj rfl rfl rfl rfl rfl rfl rfl (dT (a:=s) (b:=[]) hne) ?_
    refine kO3 ?_
    refine kT ?_
    refine kO3 ?_
    refine ap ab (i:=0) (c:=c) h0 rfl rfl rfl rfl rfl rfl rfl rfl ?_;refine kC (c1) ?_;exact kF
   ·rw[hb]at c1
    by_cases he:n=s.length
    ·rw[decide_eq_true he]
     refine kU func27 ?_;refine kR ?_;refine kI ?_;refine kO ?_;refine aj rfl rfl rfl rfl rfl rfl rfl (dT (a:=s) (b:=[]) hne) ?_
     refine kO3 ?_
     refine kT ?_
     refine kO3 ?_
     refine ap ab (i:=0) (c:=c) h0 rfl rfl rfl rfl rfl rfl rfl rfl ?_;refine kC (c1) ?_
     refine kO3 ?_
     refine kC (c2) ?_
     refine kO2 ?_
     refine kT ?_;exact kF
    ·rw[decide_eq_false he]
     refine kU func27 ?_;refine kR ?_;refine kI ?_;refine kO ?_;refine aj rfl rfl rfl rfl rfl rfl rfl (dT (a:=s) (b:=[]) hne) ?_
     refine kO3 ?_
     refine kT ?_
     refine kO3 ?_
     refine ap ab (i:=0) (c:=c) h0 rfl rfl rfl rfl rfl rfl rfl rfl ?_;refine kC (c1) ?_
     refine kO3 ?_
     refine kC (c2) ?_
     refine kO2 ?_
     refine kE ?_;exact kF
  ·rw[decide_eq_false h24,Bool.false_and]
   refine kU func27 ?_;refine kR ?_;refine kI ?_;refine kO ?_;refine aj rfl rfl rfl rfl rfl rfl rfl (dT (a:=s) (b:=[]) hne) ?_
   refine kO3 ?_
   refine kE ?_;exact kF
theorem rT (s:List UInt8) (hl:s.length≤4611686018427387903):aa Tryz.prog 84 [dL s] (.one (dB (nj s))):=by
 have hB:=au s;cases hs:s with
 |nil=>
  refine kU func84 ?_;refine kR ?_;refine kI ?_;refine kO ?_;refine aj rfl rfl rfl rfl rfl rfl rfl (fV (a:=[]) (b:=[]) rfl) ?_;exact kF
 |cons c r=>
  have hn:nj s=(decide (s.length≤24) && decide (rc s=s.length)):=by
   rw[hs];show(decide ((c::r).length≤24) && (ee c && decide (aO fM (c::r)=(c::r).length)))=(decide ((c::r).length≤24) && decide ((if ee c=true then aO fM (c::r)else 0)=(c::r).length));cases ee c<;>simp
  have hne:s≠[]:=by rw[hs];simp
  have c2:aa Tryz.prog 72 [dL s,dN .i64 0] (.one (dN .i64 (rc s:Nat))):=by
   have:=pj s 0 (Nat.zero_le _) (by omega)
   rwa[List.drop_zero,Nat.zero_add]at this
  rw[← hs,hn];generalize rc s=n at *
  by_cases h24:s.length≤24
  ·rw[decide_eq_true h24,Bool.true_and]
   by_cases he:n=s.length
   ·rw[decide_eq_true he]
    refine kU func84 ?_;refine kR ?_;refine kI ?_;refine kO ?_;refine aj rfl rfl rfl rfl rfl rfl rfl (dT (a:=s) (b:=[]) hne) ?_
    refine kO3 ?_
    refine kT ?_
    refine kO3 ?_
    refine kC (c2) ?_
    refine kO2 ?_
    refine kT ?_;exact kF
   ·rw[decide_eq_false he]
    refine kU func84 ?_;refine kR ?_;refine kI ?_;refine kO ?_;refine aj rfl rfl rfl rfl rfl rfl rfl (dT (a:=s) (b:=[]) hne) ?_
    refine kO3 ?_
    refine kT ?_
    refine kO3 ?_
    refine kC (c2) ?_
    refine kO2 ?_
    refine kE ?_;exact kF
  ·rw[decide_eq_false h24,Bool.false_and]
   refine kU func84 ?_;refine kR ?_;refine kI ?_;refine kO ?_;refine aj rfl rfl rfl rfl rfl rfl rfl (dT (a:=s) (b:=[]) hne) ?_
   refine kO3 ?_
   refine kE ?_;exact kF
section
variable {P:Program} {T:TypeId→Option Ty} {n:Nat} {ops:Array Oper} {id:Nat} {draw:Bool} {K:AS→Prop} {s:AS} {k:Nat} {o:Oper} {os:List Oper} {fps:List FP}
theorem Gr (j':Nat) {d t et q:Nat} {ty:Ty} (hT:∀t d,T t=some d→b6 P t d) (h0:draw=false) (h1:gd ops s o=some true) (ho:o.op= .buildSlice t 0 #[]) (hd:o.dst=some d) (h3:bn n o.dst=true) (ht:T t=some ty) (hel:ty.elem=some (et,q)) (hnew:lY s j'=true)
 (h:aJ P T n ops id draw K (k+1) os ⟨(d, .own j' 0 q et)::s.t,(j',some [])::s.b⟩ (a6 ops o ⟨.junk,none⟩ []::fps)):aJ P T n ops id draw K k (o::os) s fps:=by
 refine .snd h0 h1 (fun S0 w0 g a w K' Q hM hK=>?_) h;obtain⟨u,hu,_,hel',_⟩:=(hT _ _ ht).und;obtain⟨rfl,hks⟩:=hel' et q hel
 have hr:(execOp a.eval o).run P w= .ok (.value (.slice (some ⟨w.heap.size,0,none⟩) 0 0)) (w.alloc (.cells #[] et)):=by
  unfold execOp;rw[ho]
  simp only[Instr.buildSlice,Sem.run_bind,run_underlying hu w,Result.andThen_ok,eS hks w]
  rw[if_neg (by omega),if_pos (by omega)]
  simp[Instr.fill,show Array.range 0= #[] from by decide]
  rfl
 unfold Oper.wp;rw[hr];show K' (a.put o.dst _) _;rw[hd];refine hK _ _ _ (hM.alloc (fj h3 d hd) (fG hnew).1 (fG hnew).2 ⟨Nat.le_refl _,fun i a v h=>by simp at h⟩ (fun _ v h=>by simp at h) (fun a h=>by cases h) (fun h=>by rw[ur hnew]at h;cases h) fun g' s' hg hb=>?_);refine⟨AS.kn_of hb,fun cs hc=>⟨0,by rw[hg],Nat.le_refl _,by decide,by simp,#[],?_,by simp⟩⟩;rw[hg];exact heap_alloc_new w _
theorem HI (hT:∀t d,T t=some d→b6 P t d) {t t' et:TypeId} {ty ty' te:Ty} {x:Operand} (h1:gd ops s o=some true) (h2:o.op= .convert t t' x) (h5:T t=some ty) (h6:ty.elem=some (et,1)) (h7:T et=some te) (h8:te.ik=some .u8) (h9:T t'=some ty') (h10:ty'.isStr=true) (h11:s.ev x= .d (.leaf (.sl 0 [])))
 (h3:bn n o.dst=true) (h4:ju draw ops (a6 ops o ⟨.d (dL []),none⟩ []) k fps=true) (h:aJ P T n ops id draw K (k+1) os (s.eff o.dst ⟨.d (dL []),none⟩) (a6 ops o ⟨.d (dL []),none⟩ []::fps)):aJ P T n ops id draw K k (o::os) s fps:=by
 refine .run h1 (.gen fun s2 ht _=>?_) h3 h4 h;have hx:=(bf ht (x:=x) (by simp[h2,Op.operands])).trans h11;have hu:=li (hT _ _ h9) h10;obtain⟨d,hd,_,hel,_⟩:=(hT _ _ h5).und;obtain⟨rfl,_⟩:=hel et 1 h6;obtain⟨d2,hd2,_,_,_,_,_,hik,_⟩:=(hT _ _ h7).und;obtain rfl:=hik _ h8;refine aw fun n S0 w0 g a w hM=>⟨vL [],w,?_,Below.refl _ _,AV.M.val rfl⟩
 have hm:=hM.ev x;rw[hx]at hm;have hm:AV.M (Own S0 g s2) w (.sl 0 []) (a.eval x):=hm
 have hA:∃A c,a.eval x= .slice A 0 c:=by
  generalize a.eval x=v at hm;cases hm with
  |emp=>exact⟨_,_,rfl⟩
  |sl=>exact⟨_,_,rfl⟩
 obtain⟨A,c,hv⟩:=hA
 have hr:(convert t t' (.slice A 0 c)).run P w= .ok (.string (Bs [])) w:=by
  cases A with
  |none=>exact run_convert_bytes_nil w t et hd hd2 0 c t' hu
  |some ad=>
   rw[run_convert_bytes_string w t t' et _ 0 c hd hd2 hu,run_bytesToString w ad 0 c [] (by simpa using run_loadCells_list (P:=P) w ad [] (fun j v hj=>by simp at hj))];rfl
 unfold execOp;rw[h2]
 simp only[hv,Sem.run_bind,hr,Result.andThen_ok,Sem.run_pure]
 rfl
end
def dg (k:Nat):UInt8:=UInt8.ofNat (48+k)
theorem nM {k:Nat} (h:k<10):(dg k).toNat=48+k:=by unfold dg;rw[UInt8.toNat_ofNat'];omega
def lB (n:Nat):List UInt8:=if _h:n=0 then []else lB (n/10)++[dg (n%10)]
termination_by n
decreasing_by omega
theorem dP:lB 0=[]:=by rw[lB];simp
theorem dH {n:Nat} (h:n≠0):lB n=lB (n/10)++[dg (n%10)]:=by rw[lB];simp[h]
def fmt (z:Int):List UInt8:=if z=0 then [48]else(if z<0 then [45]else [])++lB z.natAbs
def dv (c:UInt8):Nat:=c.toNat-48
def di (c:UInt8):Prop:=48≤c.toNat∧c.toNat≤57
instance (c:UInt8):Decidable (di c):=inferInstanceAs (Decidable (_∧_))
def num (l:List UInt8):Nat:=l.foldl (fun a c=>10*a+dv c) 0
theorem gE (l:List UInt8) (c:UInt8):num (l++[c])=10*num l+dv c:=by simp[num]
theorem Jm {c:UInt8} (h:di c):dg (dv c)=c:=by
 unfold dg dv
 apply UInt8.toNat_inj.1
 rw[UInt8.toNat_ofNat'];unfold di at h;omega
theorem zj {c:UInt8} (h:di c):dv c<10:=by unfold dv;unfold di at h;omega
theorem nP {n:Nat} (h:n≠0):∃c r,lB n=c::r∧c≠48:=by
 induction n using Nat.strongRecOn with
 |_ n ih=>
  rw[dH h]
  by_cases h1:n/10=0
  ·rw[h1,dP]
   refine⟨dg (n%10),[],rfl,fun e=>?_⟩;have h2:=nM (show n%10<10 by omega);rw[e]at h2;have:(48:UInt8).toNat=48:=rfl;omega
  ·obtain⟨c,r,e,hc⟩:=ih (n/10) (by omega) h1
   exact⟨c,r++[dg (n%10)],by rw[e];rfl,hc⟩
theorem ub {l:List UInt8} (hd:∀c∈l,di c) {c:UInt8} {r:List UInt8} (h:l=c::r) (hc:c≠48):0<num l:=by
 have h1:∀(r:List UInt8) (a:Nat),0<a→0<r.foldl (fun a c=>10*a+dv c) a:=by
  intro r
  induction r with
  |nil=>intro a h;exact h
  |cons x r ih=>intro a h;exact ih _ (by dsimp only;omega)
 subst h;have h2:=hd c (by simp);refine h1 r _ ?_;dsimp only;have h3:c.toNat≠48:=fun e=>hc (UInt8.toNat_inj.1 e)
 unfold dv;unfold di at h2;omega
theorem Fp:∀(n:Nat) (l:List UInt8),l.length=n→(∀c∈l,di c)→(∀c r,l=c::r→c≠48)→lB (num l)=l:=by
 intro n
 induction n with
 |zero=>intro l hl _ _;rw[List.eq_nil_of_length_eq_zero hl];exact dP
 |succ n ih=>
  intro l hl hd hh
  obtain⟨l',c,rfl⟩:∃l' c,l=l'++[c]:=by
   rcases List.eq_nil_or_concat l with h| ⟨l',c,h⟩
   ·subst h;simp at hl
   ·exact⟨l',c,by simpa using h⟩
  have hc:=hd c (by simp);have hc10:=zj hc;have hl':l'.length=n:=by simpa using hl
  rw[gE]
  have hn0:10*num l'+dv c≠0:=by
   cases l' with
   |nil=>
    have h1:=hh c [] rfl;have h3:c.toNat≠48:=fun e=>h1 (UInt8.toNat_inj.1 e)
    unfold dv;unfold di at hc;omega
   |cons x r=>
    have:=ub (l:=x::r) (fun c hc=>hd c (by simp at hc ⊢;rcases hc with h|h<;>simp[h])) rfl (hh x (r++[c]) rfl);omega
  rw[dH hn0,show(10*num l'+dv c)/10=num l' by omega,show(10*num l'+dv c)%10=dv c by omega,Jm hc]
  congr 1
  refine ih l' hl' (fun c hc=>hd c (by simp[hc])) (fun x r e=>?_);subst e;exact hh x (r++[c]) rfl
theorem ua:∀(k n:Nat),n<10^k→(lB n).length≤k
 |0,n,h=>by simp at h;subst h;rw[dP];simp
 |k+1,n,h=>by
  by_cases h0:n=0
  ·subst h0;rw[dP];simp
  ·rw[dH h0,List.length_append]
   have:=ua k (n/10) (by rw[Nat.pow_succ]at h;omega)
   simp;omega
def iC (neg:Bool) (ds:List UInt8):Prop:=ds≠[]∧(∀c∈ds,di c)∧((∀c r,ds=c::r→c≠48)∨(ds.length=1∧neg=false))
def ll (neg:Bool) (n:Nat):Int:=if neg then -(n:Int)else n
def sg (neg:Bool) (ds:List UInt8):List UInt8:=if neg then 45::ds else ds
theorem G7 {neg:Bool} {ds:List UInt8} (h:iC neg ds):fmt (ll neg (num ds))=sg neg ds:=by
 obtain⟨h1,h2,h3⟩:=h
 by_cases hh:∀c r,ds=c::r→c≠48
 ·obtain⟨c,r,e⟩:∃c r,ds=c::r:=by cases ds with|nil=>exact absurd rfl h1|cons c r=>exact⟨c,r,rfl⟩
  have hp:=ub h2 e (hh c r e);have hdn:=Fp _ ds rfl h2 hh;unfold fmt ll sg;cases neg
  ·simp only[Bool.false_eq_true,if_false]
   rw[if_neg (by omega),if_neg (by omega),Int.natAbs_natCast,hdn];rfl
  ·simp only[if_true]
   rw[if_neg (by omega),if_pos (by omega),Int.natAbs_neg,Int.natAbs_natCast,hdn];rfl
 ·rcases h3 with h3| ⟨h3,h4⟩
  ·exact absurd h3 hh
  ·subst h4
   match ds,h3 with
   | [c],_=>
    have hc:c=48:=by
     apply Classical.byContradiction
     intro hne;exact hh fun x r e=>by cases e;exact hne
    subst hc;rfl
theorem Bf {neg:Bool} {ds:List UInt8} (hd:∀c∈ds,di c) (h:fmt (ll neg (num ds))=sg neg ds):iC neg ds:=by
 have h45:neg=false→ ∀l:List UInt8,ds≠45::l:=fun _ l e=>by
  have:=hd 45 (by rw[e];simp);unfold di at this;have h2:(45:UInt8).toNat=45:=rfl;omega
 by_cases hz:num ds=0
 ·have h0:ll neg (num ds)=0:=by unfold ll;rw[hz];cases neg<;>simp
  rw[h0]at h;have h1:[48]=sg neg ds:=h;unfold sg at h1;cases neg
  ·simp only[Bool.false_eq_true,if_false]at h1
   rw[← h1]at hd ⊢;exact⟨by simp,hd, .inr ⟨rfl,rfl⟩⟩
  ·simp only[if_true,List.cons.injEq]at h1
   exact absurd h1.1 (by decide)
 ·obtain⟨c,r,e,hc⟩:=nP hz
  have key:ds=lB (num ds):=by
   unfold fmt ll sg at h;cases neg
   ·simp only[Bool.false_eq_true,if_false]at h
    rw[if_neg (by omega),if_neg (by omega),Int.natAbs_natCast]at h;exact h.symm
   ·simp only[if_true]at h
    rw[if_neg (by omega),if_pos (by omega),Int.natAbs_neg,Int.natAbs_natCast]at h
    simpa using h.symm
  refine⟨fun e2=>?_,hd, .inl fun x q e2=>?_⟩
  ·rw[← key,e2]at e;cases e
  ·rw[← key,e2]at e;cases e;exact hc
theorem CZ {a b:Nat} (h:(digs a).length≤4294967296) (hb0:0<b) (hb1:b<4294967296):aa Tryz.prog 103 [dW (digs a),dN .u32 b] (.tup [dW (digs (a/b)),dN .u32 (a%b:Nat)]):=
 ⟨aD func103 rfl rfl,fun S w vs hS hv=>by
  match vs,hv with
  | [v,u],⟨h1,h2,_⟩=>
   obtain rfl:=bQ h2;obtain⟨A,n,c,rfl,hx⟩:=gO h1 (ar _);have:=Gp A n c b (digs a) w hx (by rw[← hx.len];exact h) hb0 hb1;rw[af]at this;refine this.mono ?_;rintro e w' ⟨A',n',c',rfl,hq,hb⟩;refine⟨_,rfl,⟨[.slice A' n' c', .int .u32 (a%b:Nat)],rfl,rfl,fun i x u h1 h2=>?_⟩,hb⟩
   match i with
   |0=>simp at h1 h2;subst h1 h2;exact pb (hS.grow hb) hq
   |1=>simp at h1 h2;subst h1 h2;exact AV.M.val rfl
   |i+2=>simp at h1⟩
section
variable {P:Program} {T:TypeId→Option Ty} {n:Nat} {ops:Array Oper} {id:Nat} {draw:Bool} {K:AS→Prop} {s:AS} {k:Nat} {o:Oper} {os:List Oper} {fps:List FP}
theorem Gi (hT:∀t d,T t=some d→b6 P t d) {t t' et:TypeId} {ty ty' te:Ty} {x:Operand} {l:List UInt8} {cs:List AV} (hcs:cs=l.map fun c=>AV.val (.int .u8 c.toNat)) (hl:l≠[]) (h1:gd ops s o=some true) (h2:o.op= .convert t t' x) (h5:T t=some ty) (h6:ty.elem=some (et,1)) (h7:T et=some te) (h8:te.ik=some .u8) (h9:T t'=some ty') (h10:ty'.isStr=true) (h11:s.ev x= .d (.leaf (.sl l.length cs)))
 (h3:bn n o.dst=true) (h4:ju draw ops (a6 ops o ⟨.d (dL l),none⟩ []) k fps=true) (h:aJ P T n ops id draw K (k+1) os (s.eff o.dst ⟨.d (dL l),none⟩) (a6 ops o ⟨.d (dL l),none⟩ []::fps)):aJ P T n ops id draw K k (o::os) s fps:=by
 refine .run h1 (.gen fun s2 ht _=>?_) h3 h4 h;have hx:=(bf ht (x:=x) (by simp[h2,Op.operands])).trans h11;have hu:=li (hT _ _ h9) h10;obtain⟨d,hd,_,hel,_⟩:=(hT _ _ h5).und;obtain⟨rfl,_⟩:=hel et 1 h6;obtain⟨d2,hd2,_,_,_,_,_,hik,_⟩:=(hT _ _ h7).und;obtain rfl:=hik _ h8;refine aw fun n S0 w0 g a w hM=>⟨vL l,w,?_,Below.refl _ _,AV.M.val rfl⟩
 have hm:=hM.ev x;rw[hx]at hm;have hm:AV.M (Own S0 g s2) w (.sl l.length cs) (a.eval x):=hm;unfold execOp;rw[h2];obtain⟨v,hv⟩:∃v,a.eval x=v:=⟨_,rfl⟩;rw[hv]at hm;cases hm with
 |emp=>
  have:l=[]:=by simpa using hcs.symm
  exact absurd this hl
 |sl f g1 g2 g3 g4 g5 g6=>
  rename_i b off c
  have hc:∀i,i<l.length→w.cell? ⟨b,off+i,none⟩=some (.int .u8 ((l.map fun c=>(c.toNat:Int)).getD i 0)):=by
   intro i hi;have h12:cs[i]? =some (AV.val (.int .u8 (l[i].toNat:Int))):=by rw[hcs];simp[hi]
   rw[g5 i _ h12,bQ (g6 i _ h12)]
   simp[hi]
  simp only[hv,Sem.run_bind,run_convert_bytes_arg w t et hd hd2 b off l.length c (l.map fun c=>(c.toNat:Int)) (by simp) hc t' hu,Result.andThen_ok,Sem.run_pure]
  have:strOfNums (l.map fun c=>(c.toNat:Int))=Bs l:=by
   unfold strOfNums Bs
   congr 2
   rw[List.map_map]
   conv=>rhs;rw[← List.map_id l]
   apply List.map_congr_left
   intro x _
   simp
  rw[this];rfl
end
theorem uI {na:Bool} {xs:List Nat} (hw:Wd xs) {z:Int} (hxz:ak na xs=z) (hz:eB z):aa Tryz.prog 67 [dI na xs] (.one (dL (fmt z))):=by
 have hN:(lB z.natAbs).length≤42949672960:=by
  have h1:=cH (Nat.le_refl (digs z.natAbs).length);refine Nat.le_trans (ua (10*(digs z.natAbs).length) _ (Nat.lt_of_lt_of_le h1 ?_)) (by unfold eB at hz;omega);rw[Nat.pow_mul];exact Nat.pow_le_pow_left (by decide) _
 refine kV func67 ?_;refine kQ (yY (na:=na) hw hxz) ?_;refine bh (Nat × List UInt8) (fun p=>lB z.natAbs=lB p.1++p.2∧(digs p.1).length≤2147483648) (fun p=>⟨[(1, .box 0 0),(3, .d (dL p.2)),(4, .d (dW (digs p.1)))],[(0,some (aZ z))]⟩) (fun p=>p.1) (z.natAbs,[]) ⟨by simp,hz⟩ (weak ⟨rfl,rfl,rfl,trivial⟩ ⟨rfl,trivial⟩ rfl) ?_;rintro⟨a,t⟩ ⟨ha,hl⟩;dsimp only at ha hl ⊢;refine kW ?_;refine gm rfl (fun h=>?_) (fun h=>?_)
 ·have h0:a≠0:=fun e=>by rw[e,aF]at h;exact absurd h (by decide)
  have hdl:=congrArg List.length ha;rw[dH h0]at hdl
  simp only[List.length_append,List.length_cons,List.length_nil]at hdl
  have hm10:a%10<10:=Nat.mod_lt _ (by decide)
  refine bU ?_;refine kW ?_;refine ae (CZ (b:=10) (Nat.le_trans hl (by decide)) (by decide) (by decide)) rfl rfl rfl rfl rfl rfl rfl ?_;refine kW ?_
  have hcv:(Value.int .u8 (IntKind.u8.wrap (IntKind.u32.wrap (48+((a%10:Nat):Int)))):Value)= .int .u8 ((dg (a%10)).toNat:Int):=by
   rw[IntWalk.u32_in _ (by omega),IntWalk.u8_in _ (by omega),nM hm10];rfl
  refine Gi ab (l:=[dg (a%10)]) (congrArg (fun v=>[AV.val v]) hcv) (by simp) rfl rfl rfl rfl rfl rfl rfl rfl rfl rfl rfl ?_;refine kO ?_;refine aj rfl rfl rfl rfl rfl rfl rfl (aH (a:=[dg (a%10)]) (b:=t) (by simp;omega)) ?_;refine kW ?_;refine⟨(a/10,dg (a%10)::t),⟨?_,?_⟩,?_,weak ⟨rfl,rfl,rfl,trivial⟩ ⟨rfl,trivial⟩ rfl⟩
  ·rw[ha,dH h0];simp
  ·exact Nat.le_trans (dC (Nat.div_le_self _ _)) hl
  ·dsimp only;omega
 ·have h0:a=0:=by
   have:=of_decide_eq_false h;exact cu.1 (by omega)
  subst h0;rw[dP,List.nil_append]at ha;refine eM ?_;refine aL ?_;refine aL ?_;refine aq rfl ?_;refine kO ?_;refine aj rfl rfl rfl rfl rfl rfl rfl (jv (b:=[])) ?_;refine kW ?_
  by_cases hz0:z=0
  ·have ht:t=[]:=by rw[← ha,hz0];exact dP
   subst hz0;refine eW (T:=TT) rfl ?_ ?_
   ·exact decide_eq_true ht
   exact kF
  ·have ht:t≠[]:=by
    rw[← ha,dH (by omega)]
    simp
   refine dJ (T:=TT) rfl ?_ ?_
   ·exact decide_eq_false ht
   refine bU ?_;refine kW ?_;refine gm rfl (fun h=>?_) (fun h=>?_)
   ·have hneg:=of_decide_eq_true h
    refine aL ?_;refine aq rfl ?_;refine kO ?_;refine aj rfl rfl rfl rfl rfl rfl rfl (aH (a:=[45]) (b:=t) (by rw[← ha];simp;omega)) ?_;refine kW ?_
    have hf:fmt z=[45]++t:=by
     unfold fmt;rw[if_neg hz0,if_pos hneg,ha]
    rw[hf];exact bO (T:=TT) rfl rfl
   ·have hneg:=of_decide_eq_false h
    refine bU ?_;refine kW ?_
    have hf:fmt z=t:=by
     unfold fmt;rw[if_neg hz0,if_neg hneg,ha];rfl
    rw[hf];exact bO (T:=TT) rfl rfl
theorem l7 {z:Int} (hz:eB z):aa Tryz.prog 67 [dZ z] (.one (dL (fmt z))):=uI (ar _) (aT z) hz
def kh:List UInt8→List UInt8→List UInt8
 | [],_=>[]
 | [c],o=>if c=34 then o else []
 |c::d::r,o=>if c=34 then o else if c.toNat<32 then []else if c=92 then(if Lib.indexByte [34,92,110] d<0 then []else kh r (o++[if d=110 then 10 else d]))else kh (d::r) (o++[c])
theorem Ic {r o:List UInt8}:kh (34::r) o=o:=by cases r<;>simp[kh]
theorem DM {c:UInt8} {r o:List UInt8} (h:c≠34) (h':c.toNat<32):kh (c::r) o=[]:=by cases r<;>simp[kh,h,h']
theorem DX {c:UInt8} {o:List UInt8} (h:c≠34):kh [c] o=[]:=by simp[kh,h]
theorem Ev {d:UInt8} {r o:List UInt8}:kh (92::d::r) o=if Lib.indexByte [34,92,110] d<0 then []else kh r (o++[if d=110 then 10 else d]):=by simp[kh]
theorem FF {c:UInt8} {r o:List UInt8} (h:c≠34) (h':¬c.toNat<32) (h2:c≠92):kh (c::r) o=kh r (o++[c]):=by
 cases r with
 |nil=>simp[kh,h]
 |cons d r=>simp[kh,h,h',h2]
theorem wk:∀(n:Nat) (s:List UInt8) (i:Nat),s.length≤n→ep s i=0∨i<ep s i:=by
 intro n
 induction n using Nat.strongRecOn with
 |_ n ih=>
  intro s i h
  match s,h with
  | [],_=>simp[ep]
  | [c],_=>simp only[ep];split <;>simp
  |c::d::r,h=>
   simp at h
   simp only[ep]
   split
   ·simp
   ·split
    ·simp
    ·split
     ·split
      ·simp
      ·rcases ih (n-2) (by omega) r (i+2) (by omega)with h|h
       ·exact .inl h
       ·exact .inr (by omega)
     ·rcases ih (n-1) (by omega) (d::r) (i+1) (by simp;omega)with h|h
      ·exact .inl h
      ·exact .inr (by omega)
def bV:List UInt8→Bool
 |c::_=>c == 45
 | []=>false
def dG:List UInt8→List UInt8
 |c::r=>if c == 45 then r else c::r
 | []=>[]
theorem FI (s:List UInt8):sg (bV s) (dG s)=s:=by
 cases s with
 |nil=>rfl
 |cons c r=>
  unfold sg bV dG
  by_cases h:c=45
  ·subst h;rfl
  ·have:(c == 45)=false:=beq_eq_false_iff_ne.2 h
   simp[this]
theorem lC (s:List UInt8):(dG s).length≤s.length:=by
 cases s with
 |nil=>exact Nat.le_refl _
 |cons c r=>show(if(c == 45)=true then r else c::r).length≤_;split <;>simp
theorem G8 (s:List UInt8):decide ((dG s).length<s.length)=bV s:=by
 cases s with
 |nil=>rfl
 |cons c r=>
  unfold dG bV
  by_cases h:c=45
  ·subst h;simp
  ·have:(c == 45)=false:=beq_eq_false_iff_ne.2 h
   simp[this]
theorem rB:∀(n:Nat) (l:List UInt8),l.length=n→(∀c∈l,di c)→num l<10^n:=by
 intro n
 induction n with
 |zero=>intro l hl _;rw[List.eq_nil_of_length_eq_zero hl];decide
 |succ n ih=>
  intro l hl hd
  obtain⟨l',c,rfl⟩:∃l' c,l=l'++[c]:=by
   rcases List.eq_nil_or_concat l with h| ⟨l',c,h⟩
   ·subst h;simp at hl
   ·exact⟨l',c,by simpa using h⟩
  have:=ih l' (by simpa using hl) (fun c hc=>hd c (by simp[hc]));have hc:=zj (hd c (by simp));rw[gE,Nat.pow_succ];omega
theorem zC {l:List UInt8} (hd:∀c∈l,di c):(digs (num l)).length≤l.length:=by
 refine aN (Nat.lt_of_lt_of_le (rB _ l rfl hd) ?_);exact Nat.pow_le_pow_left (by decide) _
theorem yX {n k:Nat} (h:(digs n).length≤k) {m:Nat} (hm:m≤10*n+10):(digs m).length≤k+1:=by
 refine aN (Nat.lt_of_le_of_lt hm ?_);have:=cH h;rw[Nat.pow_succ];omega
def GN (s:List UInt8):Prop:=s.length≤65536∧iC (bV s) (dG s)
open Classical in
noncomputable def pz (s:List UInt8):Int × Int:=if GN s then(ll (bV s) (num (dG s)),0)else(0,2)
theorem DC {s:List UInt8} (h:GN s):pz s=(ll (bV s) (num (dG s)),0):=by unfold pz;rw[if_pos h]
theorem jY {s:List UInt8} (h:¬GN s):pz s=(0,2):=by unfold pz;rw[if_neg h]
theorem e0:aZ 0=[.val (.bool false), .sl 0 []]:=by
 unfold aZ aI aW;rw[show(0:Int).natAbs=0 from rfl,aF];rfl
def dk:Nat→Nat→List UInt8
 |0,_=>[]
 |k+1,c=>dk k (c/10)++[dg (c%10)]
def dd (c:Nat):List UInt8:=if c=0 then [48]else lB c
theorem As (k m c:Nat) (hm:0<m) (hc:c<10^k):lB (m*10^k+c)=lB m++dk k c:=by
 induction k generalizing c with
 |zero=>simp at hc;subst hc;simp[dk]
 |succ k ih=>
  rw[Nat.pow_succ]at hc;have hp:0<10^k:=Nat.pow_pos (by decide)
  have hmp:0<m*10^k:=Nat.mul_pos hm hp
  have e:m*10^(k+1)+c=10*(m*10^k)+c:=by rw[Nat.pow_succ,← Nat.mul_assoc,Nat.mul_comm]
  rw[e,dH (by omega),show(10*(m*10^k)+c)/10=m*10^k+c/10 by omega,show(10*(m*10^k)+c)%10=c%10 by omega,ih (c/10) (by omega),dk,List.append_assoc]
theorem FX (k:Nat):dk k 0=List.replicate k 48:=by
 induction k with
 |zero=>rfl
 |succ k ih=>rw[dk,Nat.zero_div,ih,List.replicate_succ'];rfl
theorem pU {c:Nat} (h:c<10):dd c=[dg c]:=by
 unfold dd
 by_cases h0:c=0
 ·subst h0;rfl
 ·rw[if_neg h0,dH h0,show c/10=0 by omega,dP,show c%10=c by omega];rfl
theorem Ec {c:Nat} (h:10≤c):dd c=dd (c/10)++[dg (c%10)]:=by
 unfold dd;rw[if_neg (by omega),if_neg (by omega),dH (by omega)]
theorem GA (k:Nat):∀c,c<10^(k+1)→(dd c).length≤k+1∧dk (k+1) c=List.replicate (k+1-(dd c).length) 48++dd c:=by
 induction k with
 |zero=>
  intro c hc;have:c<10:=by simpa using hc
  rw[pU this,dk,dk,show c%10=c by omega];exact⟨Nat.le_refl _,rfl⟩
 |succ k ih=>
  intro c hc
  by_cases h:c<10
  ·rw[pU h,dk,show c/10=0 by omega,FX,show c%10=c by omega]
   exact⟨by simp,by simp⟩
  ·rw[Nat.pow_succ]at hc
   obtain⟨h1,h2⟩:=ih (c/10) (by omega);rw[Ec (by omega),dk,h2,List.length_append,List.length_singleton];refine⟨by omega,?_⟩;rw[show k+1+1-((dd (c/10)).length+1)=k+1-(dd (c/10)).length by omega,List.append_assoc]
theorem mR (u:Nat):Lib.decDigits u=dd u:=by
 induction u using Nat.strongRecOn with
 |_ u ih=>
  by_cases h:u<10
  ·rw[Lib.decDigits,dif_pos h,pU h];rfl
  ·rw[Lib.decDigits,dif_neg h,Ec (by omega),ih _ (by omega)];rfl
def rG (c:Nat):List UInt8:=List.replicate (9-(dd c).length) 48++dd c
theorem yT (m c:Nat) (hm:0<m) (hc:c<1000000000):lB (m*1000000000+c)=lB m++rG c:=by
 have h:=As 9 m c hm (by simpa using hc);rw[show(10:Nat)^9=1000000000 from rfl]at h;rw[h,(GA 8 c (by simpa using hc)).2];rfl
theorem uq {c:Nat} (hc:c<1000000000):1≤(dd c).length∧(dd c).length≤9:=by
 refine⟨?_,(GA 8 c (by simpa using hc)).1⟩;unfold dd
 by_cases h0:c=0
 ·rw[if_pos h0];exact Nat.le_refl _
 ·rw[if_neg h0,dH h0];simp
def ch (n:Nat):List Nat:=if _h:n=0 then []else n%1000000000::ch (n/1000000000)
termination_by n
decreasing_by omega
theorem lO:ch 0=[]:=by rw[ch];simp
theorem rD {n:Nat} (h:n≠0):ch n=n%1000000000::ch (n/1000000000):=by rw[ch];simp[h]
def Ip:List Nat→List UInt8
 | []=>[]
 |c::r=>dd c++r.flatMap rG
theorem Dp {l:List Nat} (h:l≠[]) (c:Nat):Ip (l++[c])=Ip l++rG c:=by
 cases l with
 |nil=>exact absurd rfl h
 |cons a r=>simp[Ip,List.flatMap_append]
theorem Ek:∀(k n:Nat),n<1000000000^k→(ch n).length≤k
 |0,n,h=>by simp at h;subst h;rw[lO];simp
 |k+1,n,h=>by
  by_cases h0:n=0
  ·subst h0;rw[lO];simp
  ·rw[rD h0]
   have:=Ek k (n/1000000000) (by rw[Nat.pow_succ]at h;omega)
   simp;omega
theorem It (n:Nat):∀c∈ch n,c<1000000000:=by
 induction n using Nat.strongRecOn with
 |_ n ih=>
  by_cases h:n=0
  ·subst h;rw[lO];simp
  ·rw[rD h]
   intro c hc;rcases List.mem_cons.1 hc with rfl|hc
   ·omega
   ·exact ih _ (by omega) c hc
theorem nK {xs:List Nat} (hw:Wd xs):(ch (val xs)).length≤2*xs.length:=by
 refine Ek _ _ (Nat.lt_of_lt_of_le (gt hw) ?_);rw[Nat.pow_mul];exact Nat.pow_le_pow_left (by decide) _
theorem GB {n:Nat} (h:n≠0):ch n≠[]:=by rw[rD h];simp
theorem HT (n:Nat):Ip (ch n).reverse=lB n:=by
 induction n using Nat.strongRecOn with
 |_ n ih=>
  by_cases h:n=0
  ·subst h;rw[lO,dP];rfl
  ·rw[rD h,List.reverse_cons]
   by_cases h1:n/1000000000=0
   ·rw[h1,lO]
    have:n%1000000000=n:=by omega
    rw[this];show dd n++[]=_;rw[List.append_nil];unfold dd;rw[if_neg h]
   ·rw[Dp (by simpa using GB h1),ih _ (by omega),← yT _ _ (by omega) (by omega)]
    congr 1
    omega
theorem GZ {k:Nat} (h:k<10):di (dg k):=by
 unfold di;rw[nM h];omega
theorem FY (n:Nat):∀c∈lB n,di c:=by
 induction n using Nat.strongRecOn with
 |_ n ih=>
  by_cases h:n=0
  ·subst h;rw[dP];simp
  ·rw[dH h]
   intro c hc;rcases List.mem_append.1 hc with hc|hc
   ·exact ih _ (by omega) c hc
   ·rw[List.mem_singleton]at hc;rw[hc];exact GZ (by omega)
theorem Fd (n:Nat):num (lB n)=n:=by
 induction n using Nat.strongRecOn with
 |_ n ih=>
  by_cases h:n=0
  ·subst h;rw[dP];rfl
  ·rw[dH h,gE,ih _ (by omega)]
   unfold dv;rw[nM (by omega)];omega
theorem lE {a b:Int} (h1:eB a) (h2:eB b) {g:Nat} (hg:Nat.gcd a.natAbs b.natAbs=g):aa Tryz.prog 131 [dZ a,dZ b] (.one (dZ g)):=by
 have:=wi (na:=decide (a<0)) (nb:=decide (b<0)) (ar a.natAbs) (ar b.natAbs) h1 h2;rw[af,af,hg]at this;exact this
theorem tS {a b q r:Int} (h1:eB a) (h2:eB b) (h0:b≠0) (hq:a.fdiv b=q) (hr:a.fmod b=r):aa Tryz.prog 193 [dZ a,dZ b] (.tup [dZ q,dZ r,dN .i64 0]):=
 vX (ar _) (ar _) h1 h2 (by rw[aT];exact h0) (by rw[aT,aT];exact hq) (by rw[aT,aT];exact hr)
theorem fA {a b:Int} (h1:eB a) (h2:eB b) {g:Nat} (hg:Nat.gcd a.natAbs b.natAbs=g):aa Tryz.prog 98 [dZ a,dZ b] (.one (dZ g)):=by
 have:=tK (na:=decide (a<0)) (nb:=decide (b<0)) (ar a.natAbs) (ar b.natAbs) h1 h2;rw[af,af,hg]at this;exact this
theorem sf {a b q r:Int} (h1:eB a) (h2:eB b) (h0:b≠0) (hq:a.fdiv b=q) (hr:a.fmod b=r):aa Tryz.prog 149 [dZ a,dZ b] (.tup [dZ q,dZ r,dN .i64 0]):=
 um (ar _) (ar _) h1 h2 (by rw[aT];exact h0) (by rw[aT,aT];exact hq) (by rw[aT,aT];exact hr)
theorem BS {a:Int} {k K:Nat} (hk:k≤4096) (hK:K≤2147483648) (hb:(max 1 a.natAbs)^k<4294967296^K) (h1:eB a) {z:Int} (hz:a^k=z):aa Tryz.prog 237 [dZ a,dN .i64 k] (.tup [dZ z,dN .i64 0]):=
 ⟨aD func237 rfl rfl,fun S w vs hS hv=>by
  match vs,hv with
  | [v,u],⟨h,h3,_⟩=>
   obtain rfl:=bQ h3;have:=IB v _ _ k K w (yk h) hk hK (by rw[af];exact hb) h1;rw[aT,hz]at this;exact this.mono fun e w' he=>G9 hS he⟩
end Go.Proofs.YtikbnnljjeefgaaGreatDoor
