/- Parts of a proof: contracts of the functions that the laws reach. -/
import Derived.Test.YtnchbpoopnjghaaGreatDoorQZ2
set_option maxHeartbeats 100000000
set_option linter.all false
open Go.Proofs.Tryz
namespace Go.Proofs.YtnchbpoopnjghaaGreatDoor
open Go.RowKit
section
variable {P:Program} {T:TypeId->Option Ty} {n:Nat} {ops:Array Oper} {id:Nat} {draw:Bool} {K:AS->Prop} {s:AS} {k:Nat} {o:Oper} {os:List Oper} {fps:List FP}
theorem Ux (hT:∀t d,T t=some d->a8 P t d) {t:TypeId} {ty:Ty} {x y z:Operand} {l:List UInt8} {i j:Nat} {ik ik':IntKind} (hi:i<=j) (hj:j<=l.length) (h1:gd ops s o=some true) (h2:o.op= .slice t x (some y) (some z) none) (h5:T t=some ty) (h6:ty.isStr=true) (h7:s.ev x= .d (.leaf (.val (vL l)))) (h8:s.ev y= .d (.leaf (.val (.int ik (i:Nat))))) (h9:s.ev z= .d (.leaf (.val (.int ik' (j:Nat)))))
 (h3:aL n o.dst=true) (h4:fg draw ops (aA ops o ⟨.d (dL ((l.take j).drop i)),none⟩ []) k fps=true) (h:ar P T n ops id draw K (k+1) os (s.eff o.dst ⟨.d (dL ((l.take j).drop i)),none⟩) (aA ops o ⟨.d (dL ((l.take j).drop i)),none⟩ []::fps)):ar P T n ops id draw K k (o::os) s fps:=by
 refine .run h1 (.gen fun s2 ht _=>?_) h3 h4 h;have hx:=(aw ht (x:=x) (by simp[h2,Op.operands])).trans h7;have hy:=(aw ht (x:=y) (by simp[h2,Op.operands])).trans h8;have hz:=(aw ht (x:=z) (by simp[h2,Op.operands])).trans h9;have hu:=pm (hT _ _ h5) h6;refine ak fun n S0 w0 g a w hM=>⟨vL ((l.take j).drop i),w,?_,Below.refl _ _,AV.M.val rfl⟩
 unfold execOp;rw[h2]
 have e1:(Instr.sliceAt t (.string (Bs l)) (some (.int ik i)) (some (.int ik' j)) none).run P w= .ok (vL ((l.take j).drop i)) w:=by
  refine ET ?_;rw[run_slice_string w t (Bs l) ik ik' i j hu O_ O_ (by rw[aJ];omega)]
  simp only[Int.toNat_natCast]
  rw[mq];rfl
 simp only[a7 hM hx,a7 hM hy,a7 hM hz,vL,Option.map_some,Option.map_none,Y_,e1,R_]
 rfl
theorem y5 {e:r6} {rb:List Nat} {s2:AS} (hT:∀t d,T t=some d->a8 P t d) (h0:draw=false) (h1:gd ops s o=some true) (h2:fv T (id*1000+k) s o=some (e,rb)) (h3:aL n o.dst=true) (hw:aM (s.eff o.dst e) s2)
 (h:ar P T n ops id draw K (k+1) os s2 (aA ops o ⟨.junk,none⟩ []::fps)):ar P T n ops id draw K k (o::os) s fps:=
 .snd h0 h1 (fun S0 w0 g a w K' Q hM hK=>l4 hT (.op h2) n S0 w0 g a w _ Q hM (ee h3) fun g' a' w' hM'=>by
  obtain⟨g2,hM2⟩:=hw _ _ _ _ _ ⟨g',hM'⟩;exact hK g2 a' w' hM2) h
end
abbrev Tk:=Nat × List UInt8 × Nat
def AM (t:Tk):List AV:=[.val (.int .i64 t.1), .val (vL t.2.1), .val (.int .i64 t.2.2)]
def gx:List Tk->List AV
 | []=>[]
 |t::r=>AM t++gx r
theorem y6 (a b:List Tk):gx (a++b)=gx a++gx b:=by
 induction a with
 |nil=>rfl
 |cons t r ih=>simp[gx,ih]
theorem yC (a:List Tk):(gx a).length=a.length*3:=by
 induction a with
 |nil=>rfl
 |cons t r ih=>simp[gx,AM,ih];omega
def uX:Nat->List UInt8->Nat->List Tk->Except (Nat × Int) (List Tk)
 |0,_,_,_=> .error (0,0)
 |_+1,[],at_,acc=> .ok (acc++[(0,[],at_)])
 |f+1,c::r,at_,acc=>if c=32∨c=9 then uX f r (at_+1) acc
  else if(qo (c::r)).2=0 then .error (at_,2)
  else if(qo (c::r)).1=1/\24<(qo (c::r)).2 then .error (at_,3)
  else uX f ((c::r).drop (qo (c::r)).2) (at_+(qo (c::r)).2) (acc++[((qo (c::r)).1,(c::r).take (qo (c::r)).2,at_)])
def C7:Except (Nat × Int) (List Tk)->RV
 | .ok l=> .tup [.leaf (.sl l.length (gx l)),dN .i64 0,dN .i64 0]
 | .error (a,e)=> .tup [.leaf (.sl 0 []),dN .i64 a,dN .i64 e]
theorem NP (s:List UInt8):Gp s<=s.length:=by
 unfold Gp
 split
 ·rename_i h
  have h1:=(G_.1 h.1).1;have h2:=km eP (s.drop (dq eP s+1));rw[n_]at h2;omega
 ·exact km _ _
theorem Nq:∀(n:Nat) (s:List UInt8) (i:Nat),s.length<=n->gZ s i<=i+s.length:=by
 intro n
 induction n using Nat.strongRecOn with
 |_ n ih=>
  intro s i h
  match s,h with
  | [],_=>simp[gZ]
  | [c],_=>simp only[gZ];split <;>simp
  |c::d::r,h=>
   simp at h
   simp only[gZ]
   split
   ·simp
   ·split
    ·omega
    ·split
     ·split
      ·omega
      ·have:=ih (n-2) O_ r (i+2) O_
       simp
       omega
     ·have:=ih (n-1) O_ (d::r) (i+1) (by simp;omega)
      simp at this ⊢
      omega
theorem Sr:∀s:List UInt8,(qo s).2<=s.length
 | []=>l_ _
 |c::r=>by
  rw[qo]
  split
  ·exact km _ _
  ·split
   ·exact NP _
   ·split
    ·have:=Nq r.length r 1 (l_ _)
     show gZ r 1<=r.length+1;omega
    ·split
     ·simp
     ·split <;>simp
def Vs (J:Nat):List Tk->TV
 | []=> .nil
 |a::r=> .own J (a::r).length 3 118
def Vk:List Tk->Option (List AV)
 | []=>none
 |a::r=>some (gx (a::r))
theorem IQ (J:Nat) (l:List Tk) (t:Tk):Vs J (l++[t])= .own J (l.length+1) 3 118:=by
 cases l with
 |nil=>rfl
 |cons a r=>simp[Vs]
theorem KF (l:List Tk) (t:Tk):Vk (l++[t])=some (gx l++AM t):=by
 have h:∀m:List Tk,m≠[]->Vk m=some (gx m):=fun m hm=>by
  cases m with
  |nil=>exact absurd rfl hm
  |cons a r=>rfl
 rw[h _ S_,y6]
 simp[gx]
theorem vN (l:List Tk):(gx l).take (l.length*3)=gx l:=K_ (by rw[yC];exact l_ _)
theorem D1 (s:List UInt8) (acc:List Tk) (t:Tk) (m:Nat):(⟨[(0, .d (dL s)),(2, .nil),(3, .d (dN .i64 0)),(4, .d (dN .i64 0)),(5,Vs 13001 (acc++[t])),(6, .d (dN .i64 m))],[(13001,Vk (acc++[t]))]⟩:AS)=⟨[(0, .d (dL s)),(2, .nil),(3, .d (dN .i64 0)),(4, .d (dN .i64 0)),(5, .own 13001 (acc.length+1) 3 118),(6, .d (dN .i64 m))],[(13001,some ((gx acc).take (acc.length*3)++AM t))]⟩:=by rw[IQ,KF,vN]
theorem pY (s:List UInt8) (hl:s.length<=65536):aa Tryz.prog 77 [dL s] (C7 (uX (s.length+1) s 0 [])):=by
 have hB:=aJ s;generalize hR:uX (s.length+1) s 0 []=R;refine kU func77 ?_;refine kR ?_;refine kI ?_;refine Ss ?_
 refine aq (Nat × List Tk) (fun x=>x.1<=s.length/\x.2.length<=x.1/\ ∃f,s.length-x.1<f/\uX f (s.drop x.1) x.1 x.2=R) (fun x=>⟨[(0, .d (dL s)),(2, .nil),(3, .d (dN .i64 0)),(4, .d (dN .i64 0)),(5,Vs 13001 x.2),(6, .d (dN .i64 x.1))],[(13001,Vk x.2)]⟩) (fun x=>s.length-x.1) (0,[]) ⟨Nat.zero_le _,l_ _,s.length+1,by dsimp only;omega,hR⟩
  kw ?_
 rintro⟨i,acc⟩ ⟨h1,h2,f,hf,h3⟩;dsimp only at h1 h2 hf h3 ⊢;cases f with
 |zero=>exact absurd hf (Nat.not_lt_zero _)
 |succ f=>
 refine kI ?_
 refine kO3 ?_
 by_cases hlt:i<s.length
 ·have hx:s[i]? =some s[i]:=by simp[hlt]
  have hdrop:=List.drop_eq_getElem_cons hlt;generalize hc:s[i]=c at *;refine kT ?_;refine kG ?_
  refine kO2 ?_
  refine CF ?_
  by_cases hsp:c=32∨c=9
  ·rw[hdrop,uX,if_pos hsp]at h3
   by_cases c32:c=32
   ·have e32:c.toNat=32:=by rw[c32];rfl
    exact P7
   ·have e32:¬c.toNat=32:=mc c32
    have e9:c.toNat=9:=by rw[hsp.resolve_left c32];rfl
    refine kE ?_
    refine kO3 ?_
    refine CF ?_;exact P7
  ·have e32:¬c.toNat=32:=mc (fun e=>hsp (.inl e))
   have e9:¬c.toNat=9:=mc (fun e=>hsp (.inr e));have hdl:(s.drop i).length=s.length-i:=n_;have cn:=FU c (s.drop (i+1)) (by rw[<- hdrop];omega);have hnl:=Sr (s.drop i);rw[hdrop,uX,if_neg hsp]at h3;rw[<- hdrop]at h3 cn;generalize hN:qo (s.drop i)=N at *;obtain⟨k,n⟩:=N;dsimp only at h3 cn hnl
   have hk64:k<=5:=by
    have h:=congrArg Prod.fst hN;rw[hdrop,qo]at h;dsimp only at h
    revert h
    repeat' split
    all_goals(intro h;dsimp only at h;omega)
   cases acc with
   |nil=>
    refine kE ?_
    refine kO3 ?_
    refine CF ?_;refine O8 ?_
    by_cases hn0:n=0
    ·rw[if_pos hn0]at h3
     refine kT ?_;rw[<- h3];exact aj
    rw[if_neg hn0]at h3;refine kE ?_;refine kG ?_;refine kO ?_;have htx:(s.take (i+n)).drop i=(s.drop i).take n:=by rw[List.drop_take];congr 1;omega
    have hcase:(k=1/\24<n)∨(k=1/\ ¬24<n)∨ ¬k=1:=O_
    rcases hcase with⟨hk,h24⟩| ⟨hk,h24⟩|hk
    ·rw[if_pos ⟨hk,h24⟩]at h3
     refine p7 ?_;rw[<- h3];exact aj
    ·rw[if_neg (fun h=>h24 h.2),List.drop_drop]at h3
     refine kT ?_
     refine kO2 ?_
     exact Tj
    ·rw[if_neg (fun h=>hk h.1),List.drop_drop]at h3
     exact Tj
   |cons a r=>
    refine kE ?_
    refine kO3 ?_
    refine CF ?_;refine O8 ?_
    by_cases hn0:n=0
    ·rw[if_pos hn0]at h3
     refine kT ?_;rw[<- h3];exact aj
    rw[if_neg hn0]at h3;refine kE ?_;refine kG ?_;refine kO ?_;have htx:(s.take (i+n)).drop i=(s.drop i).take n:=by rw[List.drop_take];congr 1;omega
    have hcase:(k=1/\24<n)∨(k=1/\ ¬24<n)∨ ¬k=1:=O_
    rcases hcase with⟨hk,h24⟩| ⟨hk,h24⟩|hk
    ·rw[if_pos ⟨hk,h24⟩]at h3
     refine p7 ?_;rw[<- h3];exact aj
    ·rw[if_neg (fun h=>h24 h.2),List.drop_drop]at h3
     refine kT ?_
     refine kO2 ?_
     exact T4
    ·rw[if_neg (fun h=>hk h.1),List.drop_drop]at h3
     exact T4
 ·refine kE ?_
  obtain rfl:i=s.length:=O_
  rw[List.drop_eq_nil_of_le (l_ _),uX]at h3;refine jP ?_;refine kI ?_
  refine kO2 ?_
  refine cU (v':= .int .i64 ((s.length:Nat))) rfl rfl rfl rfl ?_ ?_
  ·exact congrArg (Value.int .i64) (by rw[hB])
  refine kO2 ?_
  cases acc with
  |nil=>
   refine ek 15002 (m1:=0) (m2:=1) af D_ D_ rfl rfl rfl rfl rfl rfl rfl rfl rfl rfl rfl (.nil rfl rfl) rfl rfl rfl ?_;refine y5 af rfl rfl rfl rfl (bf (q:=2) rfl rfl) ?_;rw[<- h3];exact aj
  |cons a r=>
   refine ek 15002 (m1:=(a::r).length) (m2:=1) af D_ (by show((a::r).length+1)*32<=_;omega) rfl rfl rfl rfl rfl rfl rfl rfl rfl rfl rfl (.own rfl rfl) rfl rfl rfl ?_
   have hV:C7 R= .tup [.leaf (.sl ((a::r).length+1) ((gx (a::r)).take ((a::r).length*3)++AM (0,[],s.length))),dN .i64 0,dN .i64 0]:=by
    rw[<- h3,C7,vN,y6,L_];rfl
   refine y5 af rfl rfl rfl rfl (bf (q:=2) rfl rfl) ?_;rw[hV];exact aj
theorem sY {p:UInt8->Bool} {s:List UInt8} {i j:Nat} (hij:i<=j) (hj:j<=s.length) (hq:∀(q:Nat) c,i<=q->q<j->s[q]? =some c->p c=true) (he:j=s.length∨ ∃c,s[j]? =some c/\p c=false):i+dq p (s.drop i)=j:=by
 have h1:dq p (s.drop i)=j-i:=by
  refine m9 (fun q c h1 h2=>?_) ?_
  ·rw[List.getElem?_drop]at h2
   exact hq (i+q) c O_ O_ h2
  ·rcases he with he| ⟨c,h1,h2⟩
   ·exact .inl ⟨List.getElem?_eq_none (by rw[n_];omega),by rw[n_];omega⟩
   ·exact .inr ⟨c,by rw[List.getElem?_drop,show i+(j-i)=j by omega];exact h1,h2⟩
 omega
def yp (s:List UInt8):Nat:=match s with
 | []=>0
 |c::_=>if ep c then dq i8 s else 0
theorem zV (s:List UInt8) (i:Nat) (hi:i<=s.length) (hl:s.length<=4611686018427387904):aa Tryz.prog 91 [dL s,dN .i64 i] (.one (dN .i64 ((i+yp (s.drop i):Nat)))):=by
 have hB:=aJ s
 by_cases hend:i=s.length
 ·rw[List.drop_eq_nil_of_le O_]
  refine kU func91 ?_;refine yz ?_;refine kT ?_;exact aj
 have hlt0:i<s.length:=O_
 have hx0:s[i]? =some s[i]:=S_
 have hdrop:=List.drop_eq_getElem_cons hlt0;have hc0:=lZ s[i];cases hb0:ep s[i]
 ·rw[hb0]at hc0
  have hw:yp (s.drop i)=0:=by rw[hdrop];simp[yp,hb0]
  rw[hw,Nat.add_zero];refine PN ?_;exact aj
 ·rw[hb0]at hc0
  have hw:yp (s.drop i)=dq i8 (s.drop i):=by rw[hdrop];simp[yp,hb0]
  rw[hw];generalize hR:i+dq i8 (s.drop i)=R;refine PN ?_;refine kW ?_
  refine aq Nat (fun j=>i<=j/\j<=s.length/\ ∀(q:Nat) c,i<=q->q<j->s[q]? =some c->i8 c=true) (fun j=>⟨[(0, .d (dL s)),(1, .d (dN .i64 j)),(4, .d (dN .i64 0))],[]⟩) (fun j=>s.length-j) i ⟨l_ _,hi,fun q c h1 h2=>by omega⟩
   kw ?_
  rintro j ⟨h1,h2,hq⟩;refine kI ?_
  refine kO3 ?_
  by_cases hlt:j<s.length
  ·have hx:s[j]? =some s[j]:=by simp[hlt]
   have hcl:=lZ s[j];have hcd:=wC s[j]
   have hnext:i8 s[j]=true-> ∀(q:Nat) c,i<=q->q<j+1->s[q]? =some c->i8 c=true:=fun hv q c h3 h4 h5=>by
    by_cases e:q=j
    ·subst e;rw[hx]at h5;cases h5;exact hv
    ·exact hq q c h3 O_ h5
   refine kT ?_
   refine kO3 ?_
   refine IT ?_;cases hbl:ep s[j]
   ·rw[hbl]at hcl
    refine kC (hcl) ?_
    refine kO3 ?_
    refine IT ?_;cases hbd:eP s[j]
    ·rw[hbd]at hcd
     refine kC (hcd) ?_
     refine kO4 ?_
     refine IT ?_
     by_cases h95:s[j].toNat=95
     ·refine kT ?_
      refine kW ?_;exact⟨j+1,⟨by omega,hlt,hnext (by simp[i8,h95])⟩,by omega,weak ⟨rfl,ai O_ O_,rfl,trivial⟩ trivial rfl⟩
     ·refine kE ?_
      refine kW ?_;rw[<- hR,sY h1 h2 hq (.inr ⟨_,hx,by simp[i8,hbl,hbd,h95]⟩)];exact bK (T:=TT) rfl rfl
    ·rw[hbd]at hcd
     refine kQ (hcd) ?_;exact⟨j+1,⟨by omega,hlt,hnext (by simp[i8,hbd])⟩,by omega,weak ⟨rfl,ai O_ O_,rfl,trivial⟩ trivial rfl⟩
   ·rw[hbl]at hcl
    refine kQ (hcl) ?_;exact⟨j+1,⟨by omega,hlt,hnext (by simp[i8,hbl])⟩,by omega,weak ⟨rfl,ai O_ O_,rfl,trivial⟩ trivial rfl⟩
  ·refine kE ?_
   refine kW ?_;rw[<- hR,sY h1 h2 hq (.inl O_)];exact bK (T:=TT) rfl rfl
theorem Bj:∀(l:List UInt8) (c:UInt8),0<=Lib.indexByte l c↔c∈l
 | [],c=>by simp[Lib.indexByte]
 |b::l,c=>by
  have ih:=Bj l c;have hge:=Lib.indexByte_ge l c
  simp only[Lib.indexByte]
  by_cases h:b=c
  ·subst h
   simp
  ·have hb:(b == c)=false:=by simpa using h
   have h':¬c=b:=fun e=>h e.symm
   rw[hb]
   simp only[Bool.false_eq_true,if_false,f_,h',false_or]
   rw[<- ih]
   by_cases h1:Lib.indexByte l c= -1
   ·simp[h1]
   ·have h2:(Lib.indexByte l c == -1)=false:=by simpa using h1
    rw[h2]
    simp only[Bool.false_eq_true,if_false]
    omega
def pO (s:List UInt8):Bool:=match s with
 | []=>false
 |c::_=>decide (s.length<=24) && (ep c && decide (dq i8 s=s.length))
theorem f3 (s:List UInt8) (hl:s.length<=4611686018427387903):aa Tryz.prog 15 [dL s] (.one (dB (pO s))):=by
 have hB:=aJ s;cases hs:s with
 |nil=>
  refine kU func15 ?_;refine gy ?_;refine yK ?_;exact aj
 |cons c r=>
  have hn:pO s=(decide (s.length<=24) && (ep c && decide (dq i8 s=s.length))):=by rw[hs];rfl
  have hne:s≠[]:=by rw[hs];simp
  have h0:s[0]? =some c:=by rw[hs];rfl
  have c1:=iG c;have c2:=lg pA s O_;rw[<- hs,hn];generalize dq i8 s=n at *
  by_cases h24:s.length<=24
  ·rw[T_ h24,Bool.true_and]
   cases hb:ep c
   ·rw[hb]at c1
    refine IG ?_;exact aj
   ·rw[hb]at c1
    by_cases he:n=s.length
    ·rw[T_ he]
     refine IG ?_
     refine kO3 ?_
     refine kC (c2) ?_;exact C5
    ·rw[F_ he]
     refine IG ?_
     refine kO3 ?_
     refine kC (c2) ?_;exact Dj
  ·rw[F_ h24,Bool.false_and]
   refine kU func15 ?_;refine gy ?_;refine G8 ?_
   refine kO3 ?_
   refine kE ?_;exact aj
theorem lQ (s:List UInt8) (hl:s.length<=4611686018427387903):aa Tryz.prog 52 [dL s] (.one (dB (pO s))):=by
 have hB:=aJ s;cases hs:s with
 |nil=>
  refine kU func52 ?_;refine gy ?_;refine yK ?_;exact aj
 |cons c r=>
  have hn:pO s=(decide (s.length<=24) && decide (yp s=s.length)):=by
   rw[hs];show(decide ((c::r).length<=24) && (ep c && decide (dq i8 (c::r)=(c::r).length)))=(decide ((c::r).length<=24) && decide ((if ep c=true then dq i8 (c::r)else 0)=(c::r).length));cases ep c<;>simp
  have hne:s≠[]:=by rw[hs];simp
  have c2:aa Tryz.prog 91 [dL s,dN .i64 0] (.one (dN .i64 (yp s:Nat))):=by
   have:=zV s 0 (Nat.zero_le _) O_
   rwa[List.drop_zero,J_]at this
  rw[<- hs,hn];generalize yp s=n at *
  by_cases h24:s.length<=24
  ·rw[T_ h24,Bool.true_and]
   by_cases he:n=s.length
   ·rw[T_ he]
    refine kU func52 ?_;refine gy ?_;refine G8 ?_;refine u6 ?_;refine kC (c2) ?_;exact C5
   ·rw[F_ he]
    refine kU func52 ?_;refine gy ?_;refine G8 ?_;refine u6 ?_;refine kC (c2) ?_;exact Dj
  ·rw[F_ h24,Bool.false_and]
   refine kU func52 ?_;refine gy ?_;refine G8 ?_
   refine kO3 ?_
   refine kE ?_;exact aj
section
variable {P:Program} {T:TypeId->Option Ty} {n:Nat} {ops:Array Oper} {id:Nat} {draw:Bool} {K:AS->Prop} {s:AS} {k:Nat} {o:Oper} {os:List Oper} {fps:List FP}
end
def dg (k:Nat):UInt8:=UInt8.ofNat (48+k)
theorem y9 {k:Nat} (h:k<10):(dg k).toNat=48+k:=by unfold dg;rw[UInt8.toNat_ofNat'];omega
def mE (n:Nat):List UInt8:=if _h:n=0 then []else mE (n/10)++[dg (n%10)]
termination_by n
decreasing_by omega
theorem ez:mE 0=[]:=by rw[mE];simp
theorem eG {n:Nat} (h:n≠0):mE n=mE (n/10)++[dg (n%10)]:=by rw[mE];simp[h]
def fmt (z:Int):List UInt8:=if z=0 then [48]else(if z<0 then [45]else [])++mE z.natAbs
def dv (c:UInt8):Nat:=c.toNat-48
def gv (c:UInt8):Prop:=48<=c.toNat/\c.toNat<=57
instance (c:UInt8):Decidable (gv c):=inferInstanceAs (Decidable (_/\_))
def num (l:List UInt8):Nat:=l.foldl (fun a c=>10*a+dv c) 0
theorem om (l:List UInt8) (c:UInt8):num (l++[c])=10*num l+dv c:=by simp[num]
theorem Oc {c:UInt8} (h:gv c):dv c<10:=by unfold dv;unfold gv at h;omega
theorem JS {n:Nat} (h:n≠0):∃c r,mE n=c::r/\c≠48:=by
 induction n using Nat.strongRecOn with
 |_ n ih=>
  rw[eG h]
  by_cases h1:n/10=0
  ·rw[h1,ez]
   refine⟨dg (n%10),[],rfl,fun e=>?_⟩;have h2:=y9 (show n%10<10 by omega);rw[e]at h2;have:(48:UInt8).toNat=48:=rfl;omega
  ·obtain⟨c,r,e,hc⟩:=ih (n/10) O_ h1
   exact⟨c,r++[dg (n%10)],by rw[e];rfl,hc⟩
theorem qJ:∀(k n:Nat),n<10^k->(mE n).length<=k
 |0,n,h=>by simp at h;subst h;rw[ez];simp
 |k+1,n,h=>by
  by_cases h0:n=0
  ·subst h0;rw[ez];simp
  ·rw[eG h0,L_]
   have:=qJ k (n/10) (by rw[Nat.pow_succ]at h;omega)
   simp;omega
def jN (neg:Bool) (ds:List UInt8):Prop:=ds≠[]/\(∀c∈ds,gv c)/\((∀c r,ds=c::r->c≠48)∨(ds.length=1/\neg=false))
def No (neg:Bool) (n:Nat):Int:=if neg then -(n:Int)else n
def sg (neg:Bool) (ds:List UInt8):List UInt8:=if neg then 45::ds else ds
theorem Hz {a b:Nat} (h:(digs a).length<=4294967296) (hb0:0<b) (hb1:b<4294967296):aa Tryz.prog 223 [dW (digs a),dN .u32 b] (.tup [dW (digs (a/b)),dN .u32 (a%b:Nat)]):=
 ⟨aG func223 rfl rfl,fun S w vs hS hv=>by
  match vs,hv with
  | [v,u],⟨h1,h2,_⟩=>
   obtain rfl:=bc h2;obtain⟨A,n,c,rfl,hx⟩:=fD h1 (ae _);have:=Od A n c b (digs a) w hx (by rw[<- hx.len];exact h) hb0 hb1;rw[ah]at this;refine this.mono ?_;rintro e w' ⟨A',n',c',rfl,hq,hb⟩;refine⟨_,rfl,⟨[.slice A' n' c', .int .u32 (a%b:Nat)],rfl,rfl,fun i x u h1 h2=>?_⟩,hb⟩
   match i with
   |0=>simp at h1 h2;subst h1 h2;exact lI (hS.grow hb) hq
   |1=>simp at h1 h2;subst h1 h2;exact AV.M.val rfl
   |i+2=>simp at h1⟩
section
variable {P:Program} {T:TypeId->Option Ty} {n:Nat} {ops:Array Oper} {id:Nat} {draw:Bool} {K:AS->Prop} {s:AS} {k:Nat} {o:Oper} {os:List Oper} {fps:List FP}
theorem TR (hT:∀t d,T t=some d->a8 P t d) {t t' et:TypeId} {ty ty' te:Ty} {x:Operand} {l:List UInt8} {cs:List AV} (hcs:cs=l.map fun c=>AV.val (.int .u8 c.toNat)) (hl:l≠[]) (h1:gd ops s o=some true) (h2:o.op= .convert t t' x) (h5:T t=some ty) (h6:ty.elem=some (et,1)) (h7:T et=some te) (h8:te.ik=some .u8) (h9:T t'=some ty') (h10:ty'.isStr=true) (h11:s.ev x= .d (.leaf (.sl l.length cs)))
 (h3:aL n o.dst=true) (h4:fg draw ops (aA ops o ⟨.d (dL l),none⟩ []) k fps=true) (h:ar P T n ops id draw K (k+1) os (s.eff o.dst ⟨.d (dL l),none⟩) (aA ops o ⟨.d (dL l),none⟩ []::fps)):ar P T n ops id draw K k (o::os) s fps:=by
 refine .run h1 (.gen fun s2 ht _=>?_) h3 h4 h;have hx:=(aw ht (x:=x) (by simp[h2,Op.operands])).trans h11;have hu:=pm (hT _ _ h9) h10;obtain⟨d,hd,_,hel,_⟩:=(hT _ _ h5).und;obtain⟨rfl,_⟩:=hel et 1 h6;obtain⟨d2,hd2,_,_,_,_,_,hik,_⟩:=(hT _ _ h7).und;obtain rfl:=hik _ h8;refine ak fun n S0 w0 g a w hM=>⟨vL l,w,?_,Below.refl _ _,AV.M.val rfl⟩
 have hm:=hM.ev x;rw[hx]at hm;have hm:AV.M (Own S0 g s2) w (.sl l.length cs) (a.eval x):=hm;unfold execOp;rw[h2];obtain⟨v,hv⟩:∃v,a.eval x=v:=⟨_,rfl⟩;rw[hv]at hm;cases hm with
 |emp=>
  have:l=[]:=by simpa using hcs.symm
  exact absurd this hl
 |sl f g1 g2 g3 g4 g5 g6=>
  rename_i b off c
  have hc:∀i,i<l.length->w.cell? ⟨b,off+i,none⟩=some (.int .u8 ((l.map fun c=>(c.toNat:Int)).getD i 0)):=by
   intro i hi;have h12:cs[i]? =some (AV.val (.int .u8 (l[i].toNat:Int))):=by rw[hcs];simp[hi]
   rw[g5 i _ h12,bc (g6 i _ h12)]
   simp[hi]
  simp only[hv,Y_,run_convert_bytes_arg w t et hd hd2 b off l.length c (l.map fun c=>(c.toNat:Int)) S_ hc t' hu,R_,a_]
  have:strOfNums (l.map fun c=>(c.toNat:Int))=Bs l:=by
   unfold strOfNums Bs
   congr 2
   rw[List.map_map]
   conv=>rhs;rw[<- List.map_id l]
   apply List.map_congr_left
   intro x _
   simp
  rw[this];rfl
end
theorem wN {na:Bool} {xs:List Nat} (hw:Wd xs) {z:Int} (hxz:bI na xs=z) (hz:db z):aa Tryz.prog 157 [dI na xs] (.one (dL (fmt z))):=by
 have hN:(mE z.natAbs).length<=42949672960:=by
  have h1:=bX (l_ (digs z.natAbs).length);refine V_ (qJ (10*(digs z.natAbs).length) _ (k_ h1 ?_)) (by unfold db at hz;omega);rw[Nat.pow_mul];exact Nat.pow_le_pow_left D_ _
 refine kV func157 ?_;refine kQ (eu (na:=na) hw hxz) ?_;refine aq (Nat × List UInt8) (fun p=>mE z.natAbs=mE p.1++p.2/\(digs p.1).length<=2147483648) (fun p=>⟨[(1, .box 0 0),(3, .d (dL p.2)),(4, .d (dW (digs p.1)))],[(0,some (aZ z))]⟩) (fun p=>p.1) (z.natAbs,[]) ⟨by simp,hz⟩ kw ?_;rintro⟨a,t⟩ ⟨ha,hl⟩;dsimp only at ha hl ⊢;refine kW ?_;refine ir rfl (fun h=>?_) (fun h=>?_)
 ·have h0:a≠0:=fun e=>by rw[e,aK]at h;exact absurd h D_
  have hdl:=congrArg List.length ha;rw[eG h0]at hdl
  simp only[L_,List.length_cons,List.length_nil]at hdl
  have hm10:a%10<10:=Nat.mod_lt _ D_
  refine dp ?_;refine kW ?_;refine ac (Hz (b:=10) (V_ hl D_) D_ D_) rfl rfl rfl rfl rfl rfl rfl ?_;refine kW ?_
  have hcv:(Value.int .u8 (IntKind.u8.wrap (IntKind.u32.wrap (48+((a%10:Nat):Int)))):Value)= .int .u8 ((dg (a%10)).toNat:Int):=by
   rw[IntWalk.u32_in _ O_,IntWalk.u8_in _ O_,y9 hm10];rfl
  refine TR af (l:=[dg (a%10)]) (congrArg (fun v=>[AV.val v]) hcv) S_ rfl rfl rfl rfl rfl rfl rfl rfl rfl rfl rfl ?_;refine kO ?_;refine ax rfl rfl rfl rfl rfl rfl rfl (dG (a:=[dg (a%10)]) (b:=t) (by simp;omega)) ?_;refine kW ?_;refine⟨(a/10,dg (a%10)::t),⟨?_,?_⟩,?_,weak ⟨rfl,rfl,rfl,trivial⟩ ⟨rfl,trivial⟩ rfl⟩
  ·rw[ha,eG h0];simp
  ·exact V_ (iC (Nat.div_le_self _ _)) hl
  ·dsimp only;omega
 ·have h0:a=0:=by
   have:=of_decide_eq_false h;exact aX.1 O_
  subst h0;rw[ez,List.nil_append]at ha;refine iA ?_;refine tM ?_;refine ax rfl rfl rfl rfl rfl rfl rfl (iN (b:=[])) ?_;refine kW ?_
  by_cases hz0:z=0
  ·have ht:t=[]:=by rw[<- ha,hz0];exact ez
   subst hz0;refine eE (T:=TT) rfl ?_ ?_
   ·exact T_ ht
   exact aj
  ·have ht:t≠[]:=by
    rw[<- ha,eG O_]
    simp
   refine d4 (T:=TT) rfl ?_ ?_
   ·exact F_ ht
   refine dp ?_;refine kW ?_;refine ir rfl (fun h=>?_) (fun h=>?_)
   ·have hneg:=h_ h
    refine CC ?_;refine kO ?_;refine ax rfl rfl rfl rfl rfl rfl rfl (dG (a:=[45]) (b:=t) (by rw[<- ha];simp;omega)) ?_;refine kW ?_
    have hf:fmt z=[45]++t:=by
     unfold fmt;rw[if_neg hz0,if_pos hneg,ha]
    rw[hf];exact bK (T:=TT) rfl rfl
   ·have hneg:=of_decide_eq_false h
    refine dp ?_;refine kW ?_
    have hf:fmt z=t:=by
     unfold fmt;rw[if_neg hz0,if_neg hneg,ha];rfl
    rw[hf];exact bK (T:=TT) rfl rfl
theorem uL {z:Int} (hz:db z):aa Tryz.prog 157 [dZ z] (.one (dL (fmt z))):=wN (ae _) (aV z) hz
def eF:List UInt8->Bool
 |c::_=>c == 45
 | []=>false
def mK:List UInt8->List UInt8
 |c::r=>if c == 45 then r else c::r
 | []=>[]
theorem q9 (s:List UInt8):(mK s).length<=s.length:=by
 cases s with
 |nil=>exact l_ _
 |cons c r=>show(if(c == 45)=true then r else c::r).length<=_;split <;>simp
theorem wM:∀(n:Nat) (l:List UInt8),l.length=n->(∀c∈l,gv c)->num l<10^n:=by
 intro n
 induction n with
 |zero=>intro l hl _;rw[E_ hl];decide
 |succ n ih=>
  intro l hl hd
  obtain⟨l',c,rfl⟩:∃l' c,l=l'++[c]:=by
   rcases List.eq_nil_or_concat l with h| ⟨l',c,h⟩
   ·subst h;simp at hl
   ·exact⟨l',c,by simpa using h⟩
  have:=ih l' (by simpa using hl) (fun c hc=>hd c (by simp[hc]));have hc:=Oc (hd c S_);rw[om,Nat.pow_succ];omega
def SH (s:List UInt8):Prop:=s.length<=65536/\jN (eF s) (mK s)
open Classical in
noncomputable def pz (s:List UInt8):Int × Int:=if SH s then(No (eF s) (num (mK s)),0)else(0,2)
theorem Pf {s:List UInt8} (h:SH s):pz s=(No (eF s) (num (mK s)),0):=by unfold pz;rw[if_pos h]
theorem ws {s:List UInt8} (h:¬SH s):pz s=(0,2):=by unfold pz;rw[if_neg h]
theorem e0:aZ 0=[.val (.bool false), .sl 0 []]:=by
 unfold aZ aI aW;rw[show(0:Int).natAbs=0 from rfl,aK];rfl
def dk:Nat->Nat->List UInt8
 |0,_=>[]
 |k+1,c=>dk k (c/10)++[dg (c%10)]
def dd (c:Nat):List UInt8:=if c=0 then [48]else mE c
theorem Fi (k m c:Nat) (hm:0<m) (hc:c<10^k):mE (m*10^k+c)=mE m++dk k c:=by
 induction k generalizing c with
 |zero=>simp at hc;subst hc;simp[dk]
 |succ k ih=>
  rw[Nat.pow_succ]at hc;have hp:0<10^k:=Nat.pow_pos D_
  have hmp:0<m*10^k:=Nat.mul_pos hm hp
  have e:m*10^(k+1)+c=10*(m*10^k)+c:=by rw[Nat.pow_succ,<- Nat.mul_assoc,Nat.mul_comm]
  rw[e,eG O_,show(10*(m*10^k)+c)/10=m*10^k+c/10 by omega,show(10*(m*10^k)+c)%10=c%10 by omega,ih (c/10) O_,dk,e_]
theorem Nh (k:Nat):dk k 0=List.replicate k 48:=by
 induction k with
 |zero=>rfl
 |succ k ih=>rw[dk,Nat.zero_div,ih,List.replicate_succ'];rfl
theorem jS {c:Nat} (h:c<10):dd c=[dg c]:=by
 unfold dd
 by_cases h0:c=0
 ·subst h0;rfl
 ·rw[if_neg h0,eG h0,show c/10=0 by omega,ez,show c%10=c by omega];rfl
theorem BZ {c:Nat} (h:10<=c):dd c=dd (c/10)++[dg (c%10)]:=by
 unfold dd;rw[if_neg O_,if_neg O_,eG O_]
theorem Oy (k:Nat):∀c,c<10^(k+1)->(dd c).length<=k+1/\dk (k+1) c=List.replicate (k+1-(dd c).length) 48++dd c:=by
 induction k with
 |zero=>
  intro c hc;have:c<10:=by simpa using hc
  rw[jS this,dk,dk,show c%10=c by omega];exact⟨l_ _,rfl⟩
 |succ k ih=>
  intro c hc
  by_cases h:c<10
  ·rw[jS h,dk,show c/10=0 by omega,Nh,show c%10=c by omega]
   exact⟨by simp,by simp⟩
  ·rw[Nat.pow_succ]at hc
   obtain⟨h1,h2⟩:=ih (c/10) O_;rw[BZ O_,dk,h2,L_,List.length_singleton];refine⟨by omega,?_⟩;rw[show k+1+1-((dd (c/10)).length+1)=k+1-(dd (c/10)).length by omega,e_]
theorem fA (u:Nat):Lib.decDigits u=dd u:=by
 induction u using Nat.strongRecOn with
 |_ u ih=>
  by_cases h:u<10
  ·rw[Lib.decDigits,dif_pos h,jS h];rfl
  ·rw[Lib.decDigits,dif_neg h,BZ O_,ih _ O_];rfl
def uN (c:Nat):List UInt8:=List.replicate (9-(dd c).length) 48++dd c
theorem CH (m c:Nat) (hm:0<m) (hc:c<1000000000):mE (m*1000000000+c)=mE m++uN c:=by
 have h:=Fi 9 m c hm (by simpa using hc);rw[show(10:Nat)^9=1000000000 from rfl]at h;rw[h,(Oy 8 c (by simpa using hc)).2];rfl
theorem xd {c:Nat} (hc:c<1000000000):1<=(dd c).length/\(dd c).length<=9:=by
 refine⟨?_,(Oy 8 c (by simpa using hc)).1⟩;unfold dd
 by_cases h0:c=0
 ·rw[if_pos h0];exact l_ _
 ·rw[if_neg h0,eG h0];simp
def ch (n:Nat):List Nat:=if _h:n=0 then []else n%1000000000::ch (n/1000000000)
termination_by n
decreasing_by omega
theorem lw:ch 0=[]:=by rw[ch];simp
theorem tH {n:Nat} (h:n≠0):ch n=n%1000000000::ch (n/1000000000):=by rw[ch];simp[h]
def SF:List Nat->List UInt8
 | []=>[]
 |c::r=>dd c++r.flatMap uN
theorem JJ {l:List Nat} (h:l≠[]) (c:Nat):SF (l++[c])=SF l++uN c:=by
 cases l with
 |nil=>exact absurd rfl h
 |cons a r=>simp[SF,List.flatMap_append]
theorem Hn:∀(k n:Nat),n<1000000000^k->(ch n).length<=k
 |0,n,h=>by simp at h;subst h;rw[lw];simp
 |k+1,n,h=>by
  by_cases h0:n=0
  ·subst h0;rw[lw];simp
  ·rw[tH h0]
   have:=Hn k (n/1000000000) (by rw[Nat.pow_succ]at h;omega)
   simp;omega
theorem TC (n:Nat):∀c∈ch n,c<1000000000:=by
 induction n using Nat.strongRecOn with
 |_ n ih=>
  by_cases h:n=0
  ·subst h;rw[lw];simp
  ·rw[tH h]
   intro c hc;rcases f_.1 hc with rfl|hc
   ·omega
   ·exact ih _ O_ c hc
theorem nS {xs:List Nat} (hw:Wd xs):(ch (val xs)).length<=2*xs.length:=by
 refine Hn _ _ (k_ (fq hw) ?_);rw[Nat.pow_mul];exact Nat.pow_le_pow_left D_ _
theorem NV {n:Nat} (h:n≠0):ch n≠[]:=by rw[tH h];simp
theorem Sc (n:Nat):SF (ch n).reverse=mE n:=by
 induction n using Nat.strongRecOn with
 |_ n ih=>
  by_cases h:n=0
  ·subst h;rw[lw,ez];rfl
  ·rw[tH h,List.reverse_cons]
   by_cases h1:n/1000000000=0
   ·rw[h1,lw]
    have:n%1000000000=n:=O_
    rw[this];show dd n++[]=_;rw[c_];unfold dd;rw[if_neg h]
   ·rw[JJ (by simpa using NV h1),ih _ O_,<- CH _ _ O_ O_]
    congr 1
    omega
theorem lA {a b:Int} (h1:db a) (h2:db b) {g:Nat} (hg:Nat.gcd a.natAbs b.natAbs=g):aa Tryz.prog 231 [dZ a,dZ b] (.one (dZ g)):=by
 have:=At (na:=decide (a<0)) (nb:=decide (b<0)) (ae a.natAbs) (ae b.natAbs) h1 h2;rw[ah,ah,hg]at this;exact this
theorem wi {a b q r:Int} (h1:db a) (h2:db b) (h0:b≠0) (hq:a.fdiv b=q) (hr:a.fmod b=r):aa Tryz.prog 299 [dZ a,dZ b] (.tup [dZ q,dZ r,dN .i64 0]):=
 yb (ae _) (ae _) h1 h2 (by rw[aV];exact h0) (by rw[aV,aV];exact hq) (by rw[aV,aV];exact hr)
theorem gN {a b:Int} (h1:db a) (h2:db b) {g:Nat} (hg:Nat.gcd a.natAbs b.natAbs=g):aa Tryz.prog 221 [dZ a,dZ b] (.one (dZ g)):=by
 have:=vj (na:=decide (a<0)) (nb:=decide (b<0)) (ae a.natAbs) (ae b.natAbs) h1 h2;rw[ah,ah,hg]at this;exact this
theorem uF {a b q r:Int} (h1:db a) (h2:db b) (h0:b≠0) (hq:a.fdiv b=q) (hr:a.fmod b=r):aa Tryz.prog 279 [dZ a,dZ b] (.tup [dZ q,dZ r,dN .i64 0]):=
 wt (ae _) (ae _) h1 h2 (by rw[aV];exact h0) (by rw[aV,aV];exact hq) (by rw[aV,aV];exact hr)
end Go.Proofs.YtnchbpoopnjghaaGreatDoor
