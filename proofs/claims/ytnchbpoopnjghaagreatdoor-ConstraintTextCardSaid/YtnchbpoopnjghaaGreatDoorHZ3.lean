/- Parts of a proof: contracts of the functions that the laws reach. -/
import Derived.Test.YtnchbpoopnjghaaGreatDoorHZ2
set_option maxHeartbeats 100000000
set_option linter.all false
open Go.Proofs.Tryz
namespace Go.Proofs.YtnchbpoopnjghaaGreatDoor
open Go.RowKit
section
variable {P:Program} {T:TypeId->Option Ty} {n:Nat} {ops:Array Oper} {id:Nat} {draw:Bool} {K:AS->Prop} {s:AS} {k:Nat} {o:Oper} {os:List Oper} {fps:List FP}
theorem Sj (hT:∀t d,T t=some d->a8 P t d) {t:TypeId} {ty:Ty} {x y z:Operand} {l:List UInt8} {i j:Nat} {ik ik':IntKind} (hi:i<=j) (hj:j<=l.length) (h1:gd ops s o=some true) (h2:o.op= .slice t x (some y) (some z) none) (h5:T t=some ty) (h6:ty.isStr=true) (h7:s.ev x= .d (.leaf (.val (vL l)))) (h8:s.ev y= .d (.leaf (.val (.int ik (i:Nat))))) (h9:s.ev z= .d (.leaf (.val (.int ik' (j:Nat)))))
 (h3:aL n o.dst=true) (h4:fh draw ops (aB ops o ⟨.d (dL ((l.take j).drop i)),none⟩ []) k fps=true) (h:au P T n ops id draw K (k+1) os (s.eff o.dst ⟨.d (dL ((l.take j).drop i)),none⟩) (aB ops o ⟨.d (dL ((l.take j).drop i)),none⟩ []::fps)):au P T n ops id draw K k (o::os) s fps:=by
 refine .run h1 (.gen fun s2 ht _=>?_) h3 h4 h;have hx:=(ax ht (x:=x) (by simp[h2,Op.operands])).trans h7;have hy:=(ax ht (x:=y) (by simp[h2,Op.operands])).trans h8;have hz:=(ax ht (x:=z) (by simp[h2,Op.operands])).trans h9;have hu:=lQ (hT _ _ h5) h6;refine am fun n S0 w0 g a w hM=>⟨vL ((l.take j).drop i),w,?_,Below.refl _ _,AV.M.val rfl⟩
 unfold execOp;rw[h2]
 have e1:(Instr.sliceAt t (.string (Bs l)) (some (.int ik i)) (some (.int ik' j)) none).run P w= .ok (vL ((l.take j).drop i)) w:=by
  refine N8 ?_;rw[run_slice_string w t (Bs l) ik ik' i j hu (by omega) (by omega) (by rw[aF];omega)]
  simp only[Int.toNat_natCast]
  rw[lV];rfl
 simp only[bg hM hx,bg hM hy,bg hM hz,vL,Option.map_some,Option.map_none,Sem.run_bind,e1,Result.andThen_ok]
 rfl
theorem DX {e:rX} {rb:List Nat} {s2:AS} (hT:∀t d,T t=some d->a8 P t d) (h0:draw=false) (h1:gd ops s o=some true) (h2:eM T (id*1000+k) s o=some (e,rb)) (h3:aL n o.dst=true) (hw:aJ (s.eff o.dst e) s2)
 (h:au P T n ops id draw K (k+1) os s2 (aB ops o ⟨.junk,none⟩ []::fps)):au P T n ops id draw K k (o::os) s fps:=
 .snd h0 h1 (fun S0 w0 g a w K' Q hM hK=>l8 hT (.op h2) n S0 w0 g a w _ Q hM (dG h3) fun g' a' w' hM'=>by
  obtain⟨g2,hM2⟩:=hw _ _ _ _ _ ⟨g',hM'⟩;exact hK g2 a' w' hM2) h
end
abbrev Tk:=Nat × List UInt8 × Nat
def Bw (t:Tk):List AV:=[.val (.int .i64 t.1), .val (vL t.2.1), .val (.int .i64 t.2.2)]
def ga:List Tk->List AV
 | []=>[]
 |t::r=>Bw t++ga r
theorem yc (a b:List Tk):ga (a++b)=ga a++ga b:=by
 induction a with
 |nil=>rfl
 |cons t r ih=>simp[ga,ih]
theorem xD (a:List Tk):(ga a).length=a.length*3:=by
 induction a with
 |nil=>rfl
 |cons t r ih=>simp[ga,Bw,ih];omega
def iU:Nat->List UInt8->Nat->List Tk->Except (Nat × Int) (List Tk)
 |0,_,_,_=> .error (0,0)
 |_+1,[],at_,acc=> .ok (acc++[(0,[],at_)])
 |f+1,c::r,at_,acc=>if c=32∨c=9 then iU f r (at_+1) acc
  else if(ln (c::r)).2=0 then .error (at_,2)
  else if(ln (c::r)).1=1/\24<(ln (c::r)).2 then .error (at_,3)
  else iU f ((c::r).drop (ln (c::r)).2) (at_+(ln (c::r)).2) (acc++[((ln (c::r)).1,(c::r).take (ln (c::r)).2,at_)])
def DD:Except (Nat × Int) (List Tk)->RV
 | .ok l=> .tup [.leaf (.sl l.length (ga l)),dN .i64 0,dN .i64 0]
 | .error (a,e)=> .tup [.leaf (.sl 0 []),dN .i64 a,dN .i64 e]
theorem LH (s:List UInt8):xd s<=s.length:=by
 unfold xd
 split
 ·rename_i h
  have h1:=(List.getElem?_eq_some_iff.1 h.1).1;have h2:=j5 dt (s.drop (bQ dt s+1));rw[List.length_drop]at h2;omega
 ·exact j5 _ _
theorem MJ:∀(n:Nat) (s:List UInt8) (i:Nat),s.length<=n->gK s i<=i+s.length:=by
 intro n
 induction n using Nat.strongRecOn with
 |_ n ih=>
  intro s i h
  match s,h with
  | [],_=>simp[gK]
  | [c],_=>simp only[gK];split <;>simp
  |c::d::r,h=>
   simp at h
   simp only[gK]
   split
   ·simp
   ·split
    ·omega
    ·split
     ·split
      ·omega
      ·have:=ih (n-2) (by omega) r (i+2) (by omega)
       simp
       omega
     ·have:=ih (n-1) (by omega) (d::r) (i+1) (by simp;omega)
      simp at this ⊢
      omega
theorem HO:∀s:List UInt8,(ln s).2<=s.length
 | []=>Nat.le_refl _
 |c::r=>by
  rw[ln]
  split
  ·exact j5 _ _
  ·split
   ·exact LH _
   ·split
    ·have:=MJ r.length r 1 (Nat.le_refl _)
     show gK r 1<=r.length+1;omega
    ·split
     ·simp
     ·split <;>simp
def UD (J:Nat):List Tk->TV
 | []=> .nil
 |a::r=> .own J (a::r).length 3 118
def UF:List Tk->Option (List AV)
 | []=>none
 |a::r=>some (ga (a::r))
theorem Gg (J:Nat) (l:List Tk) (t:Tk):UD J (l++[t])= .own J (l.length+1) 3 118:=by
 cases l with
 |nil=>rfl
 |cons a r=>simp[UD]
theorem Gw (l:List Tk) (t:Tk):UF (l++[t])=some (ga l++Bw t):=by
 have h:∀m:List Tk,m≠[]->UF m=some (ga m):=fun m hm=>by
  cases m with
  |nil=>exact absurd rfl hm
  |cons a r=>rfl
 rw[h _ (by simp),yc]
 simp[ga]
theorem u7 (l:List Tk):(ga l).take (l.length*3)=ga l:=List.take_of_length_le (by rw[xD];exact Nat.le_refl _)
theorem D8 (s:List UInt8) (acc:List Tk) (t:Tk) (m:Nat):(⟨[(0, .d (dL s)),(2, .nil),(3, .d (dN .i64 0)),(4, .d (dN .i64 0)),(5,UD 13001 (acc++[t])),(6, .d (dN .i64 m))],[(13001,UF (acc++[t]))]⟩:AS)=⟨[(0, .d (dL s)),(2, .nil),(3, .d (dN .i64 0)),(4, .d (dN .i64 0)),(5, .own 13001 (acc.length+1) 3 118),(6, .d (dN .i64 m))],[(13001,some ((ga acc).take (acc.length*3)++Bw t))]⟩:=by rw[Gg,Gw,u7]
theorem zH (s:List UInt8) (hl:s.length<=65536):aa Tryz.prog 77 [dL s] (DD (iU (s.length+1) s 0 [])):=by
 have hB:=aF s;generalize hR:iU (s.length+1) s 0 []=R;refine kU func77 ?_;refine kR ?_;refine kI ?_;refine tK ?_
 refine ay (Nat × List Tk) (fun x=>x.1<=s.length/\x.2.length<=x.1/\ ∃f,s.length-x.1<f/\iU f (s.drop x.1) x.1 x.2=R) (fun x=>⟨[(0, .d (dL s)),(2, .nil),(3, .d (dN .i64 0)),(4, .d (dN .i64 0)),(5,UD 13001 x.2),(6, .d (dN .i64 x.1))],[(13001,UF x.2)]⟩) (fun x=>s.length-x.1) (0,[]) ⟨Nat.zero_le _,Nat.le_refl _,s.length+1,by dsimp only;omega,hR⟩
  kw ?_
 rintro⟨i,acc⟩ ⟨h1,h2,f,hf,h3⟩;dsimp only at h1 h2 hf h3 ⊢;cases f with
 |zero=>exact absurd hf (Nat.not_lt_zero _)
 |succ f=>
 refine kI ?_
 refine kO3 ?_
 by_cases hlt:i<s.length
 ·have hx:s[i]? =some s[i]:=by simp[hlt]
  have hdrop:=List.drop_eq_getElem_cons hlt;generalize hc:s[i]=c at *;refine kT ?_;refine kG ?_
  refine kO2 ?_
  refine Qa ?_
  by_cases hsp:c=32∨c=9
  ·rw[hdrop,iU,if_pos hsp]at h3
   by_cases c32:c=32
   ·have e32:c.toNat=32:=by rw[c32];rfl
    exact R3
   ·have e32:¬c.toNat=32:=ma c32
    have e9:c.toNat=9:=by rw[hsp.resolve_left c32];rfl
    refine kE ?_
    refine kO3 ?_
    refine Qa ?_;exact R3
  ·have e32:¬c.toNat=32:=ma (fun e=>hsp (.inl e))
   have e9:¬c.toNat=9:=ma (fun e=>hsp (.inr e));have hdl:(s.drop i).length=s.length-i:=List.length_drop;have cn:=Fo c (s.drop (i+1)) (by rw[<- hdrop];omega);have hnl:=HO (s.drop i);rw[hdrop,iU,if_neg hsp]at h3;rw[<- hdrop]at h3 cn;generalize hN:ln (s.drop i)=N at *;obtain⟨k,n⟩:=N;dsimp only at h3 cn hnl
   have hk64:k<=5:=by
    have h:=congrArg Prod.fst hN;rw[hdrop,ln]at h;dsimp only at h
    revert h
    repeat' split
    all_goals(intro h;dsimp only at h;omega)
   cases acc with
   |nil=>
    refine kE ?_
    refine kO3 ?_
    refine Qa ?_;refine Gq ?_
    by_cases hn0:n=0
    ·rw[if_pos hn0]at h3
     refine kT ?_;rw[<- h3];exact ap
    rw[if_neg hn0]at h3;refine kE ?_;refine kG ?_;refine kO ?_;have htx:(s.take (i+n)).drop i=(s.drop i).take n:=by rw[List.drop_take];congr 1;omega
    have hcase:(k=1/\24<n)∨(k=1/\ ¬24<n)∨ ¬k=1:=by omega
    rcases hcase with⟨hk,h24⟩| ⟨hk,h24⟩|hk
    ·rw[if_pos ⟨hk,h24⟩]at h3
     refine zf ?_;rw[<- h3];exact ap
    ·rw[if_neg (fun h=>h24 h.2),List.drop_drop]at h3
     refine kT ?_
     refine kO2 ?_
     exact Se
    ·rw[if_neg (fun h=>hk h.1),List.drop_drop]at h3
     exact Se
   |cons a r=>
    refine kE ?_
    refine kO3 ?_
    refine Qa ?_;refine Gq ?_
    by_cases hn0:n=0
    ·rw[if_pos hn0]at h3
     refine kT ?_;rw[<- h3];exact ap
    rw[if_neg hn0]at h3;refine kE ?_;refine kG ?_;refine kO ?_;have htx:(s.take (i+n)).drop i=(s.drop i).take n:=by rw[List.drop_take];congr 1;omega
    have hcase:(k=1/\24<n)∨(k=1/\ ¬24<n)∨ ¬k=1:=by omega
    rcases hcase with⟨hk,h24⟩| ⟨hk,h24⟩|hk
    ·rw[if_pos ⟨hk,h24⟩]at h3
     refine zf ?_;rw[<- h3];exact ap
    ·rw[if_neg (fun h=>h24 h.2),List.drop_drop]at h3
     refine kT ?_
     refine kO2 ?_
     exact Te
    ·rw[if_neg (fun h=>hk h.1),List.drop_drop]at h3
     exact Te
 ·refine kE ?_
  obtain rfl:i=s.length:=by omega
  rw[List.drop_eq_nil_of_le (Nat.le_refl _),iU]at h3;refine At ?_;refine kI ?_
  refine kO2 ?_
  refine cg (v':= .int .i64 ((s.length:Nat))) rfl rfl rfl rfl ?_ ?_
  ·exact congrArg (Value.int .i64) (by rw[hB])
  refine kO2 ?_
  cases acc with
  |nil=>
   refine eV 15002 (m1:=0) (m2:=1) ah (by decide) (by decide) rfl rfl rfl rfl rfl rfl rfl rfl rfl rfl rfl (.nil rfl rfl) rfl rfl rfl ?_;refine DX ah rfl rfl rfl rfl (cu (q:=2) rfl rfl) ?_;rw[<- h3];exact ap
  |cons a r=>
   refine eV 15002 (m1:=(a::r).length) (m2:=1) ah (by decide) (by show((a::r).length+1)*32<=_;omega) rfl rfl rfl rfl rfl rfl rfl rfl rfl rfl rfl (.own rfl rfl) rfl rfl rfl ?_
   have hV:DD R= .tup [.leaf (.sl ((a::r).length+1) ((ga (a::r)).take ((a::r).length*3)++Bw (0,[],s.length))),dN .i64 0,dN .i64 0]:=by
    rw[<- h3,DD,u7,yc,List.length_append];rfl
   refine DX ah rfl rfl rfl rfl (cu (q:=2) rfl rfl) ?_;rw[hV];exact ap
theorem rG {p:UInt8->Bool} {s:List UInt8} {i j:Nat} (hij:i<=j) (hj:j<=s.length) (hq:∀(q:Nat) c,i<=q->q<j->s[q]? =some c->p c=true) (he:j=s.length∨ ∃c,s[j]? =some c/\p c=false):i+bQ p (s.drop i)=j:=by
 have h1:bQ p (s.drop i)=j-i:=by
  refine mv (fun q c h1 h2=>?_) ?_
  ·rw[List.getElem?_drop]at h2
   exact hq (i+q) c (by omega) (by omega) h2
  ·rcases he with he| ⟨c,h1,h2⟩
   ·exact .inl ⟨List.getElem?_eq_none (by rw[List.length_drop];omega),by rw[List.length_drop];omega⟩
   ·exact .inr ⟨c,by rw[List.getElem?_drop,show i+(j-i)=j by omega];exact h1,h2⟩
 omega
def zK (s:List UInt8):Nat:=match s with
 | []=>0
 |c::_=>if dH c then bQ ir s else 0
theorem zk (s:List UInt8) (i:Nat) (hi:i<=s.length) (hl:s.length<=4611686018427387904):aa Tryz.prog 91 [dL s,dN .i64 i] (.one (dN .i64 ((i+zK (s.drop i):Nat)))):=by
 have hB:=aF s
 by_cases hend:i=s.length
 ·rw[List.drop_eq_nil_of_le (by omega)]
  refine kU func91 ?_;refine Ok ?_;refine kT ?_;exact ap
 have hlt0:i<s.length:=by omega
 have hx0:s[i]? =some s[i]:=by simp
 have hdrop:=List.drop_eq_getElem_cons hlt0;have hc0:=lA s[i];cases hb0:dH s[i]
 ·rw[hb0]at hc0
  have hw:zK (s.drop i)=0:=by rw[hdrop];simp[zK,hb0]
  rw[hw,Nat.add_zero];refine kU func91 ?_;refine Ok ?_;refine O8 ?_;exact ap
 ·rw[hb0]at hc0
  have hw:zK (s.drop i)=bQ ir (s.drop i):=by rw[hdrop];simp[zK,hb0]
  rw[hw];generalize hR:i+bQ ir (s.drop i)=R;refine kU func91 ?_;refine Ok ?_;refine O8 ?_;refine kW ?_
  refine ay Nat (fun j=>i<=j/\j<=s.length/\ ∀(q:Nat) c,i<=q->q<j->s[q]? =some c->ir c=true) (fun j=>⟨[(0, .d (dL s)),(1, .d (dN .i64 j)),(4, .d (dN .i64 0))],[]⟩) (fun j=>s.length-j) i ⟨Nat.le_refl _,hi,fun q c h1 h2=>by omega⟩
   kw ?_
  rintro j ⟨h1,h2,hq⟩;refine kI ?_
  refine kO3 ?_
  by_cases hlt:j<s.length
  ·have hx:s[j]? =some s[j]:=by simp[hlt]
   have hcl:=lA s[j];have hcd:=vp s[j]
   have hnext:ir s[j]=true-> ∀(q:Nat) c,i<=q->q<j+1->s[q]? =some c->ir c=true:=fun hv q c h3 h4 h5=>by
    by_cases e:q=j
    ·subst e;rw[hx]at h5;cases h5;exact hv
    ·exact hq q c h3 (by omega) h5
   refine kT ?_
   refine kO3 ?_
   refine OF ?_;cases hbl:dH s[j]
   ·rw[hbl]at hcl
    refine kC (hcl) ?_
    refine kO3 ?_
    refine OF ?_;cases hbd:dt s[j]
    ·rw[hbd]at hcd
     refine kC (hcd) ?_
     refine kO4 ?_
     refine OF ?_
     by_cases h95:s[j].toNat=95
     ·refine kT ?_
      refine kW ?_;exact⟨j+1,⟨by omega,hlt,hnext (by simp[ir,h95])⟩,by omega,weak ⟨rfl,an (by omega) (by omega),rfl,trivial⟩ trivial rfl⟩
     ·refine kE ?_
      refine kW ?_;rw[<- hR,rG h1 h2 hq (.inr ⟨_,hx,by simp[ir,hbl,hbd,h95]⟩)];exact bV (T:=TT) rfl rfl
    ·rw[hbd]at hcd
     refine kQ (hcd) ?_;exact⟨j+1,⟨by omega,hlt,hnext (by simp[ir,hbd])⟩,by omega,weak ⟨rfl,an (by omega) (by omega),rfl,trivial⟩ trivial rfl⟩
   ·rw[hbl]at hcl
    refine kQ (hcl) ?_;exact⟨j+1,⟨by omega,hlt,hnext (by simp[ir,hbl])⟩,by omega,weak ⟨rfl,an (by omega) (by omega),rfl,trivial⟩ trivial rfl⟩
  ·refine kE ?_
   refine kW ?_;rw[<- hR,rG h1 h2 hq (.inl (by omega))];exact bV (T:=TT) rfl rfl
theorem AY:∀(l:List UInt8) (c:UInt8),0<=Lib.indexByte l c↔c∈l
 | [],c=>by simp[Lib.indexByte]
 |b::l,c=>by
  have ih:=AY l c;have hge:=Lib.indexByte_ge l c
  simp only[Lib.indexByte]
  by_cases h:b=c
  ·subst h
   simp
  ·have hb:(b == c)=false:=by simpa using h
   have h':¬c=b:=fun e=>h e.symm
   rw[hb]
   simp only[Bool.false_eq_true,if_false,List.mem_cons,h',false_or]
   rw[<- ih]
   by_cases h1:Lib.indexByte l c= -1
   ·simp[h1]
   ·have h2:(Lib.indexByte l c == -1)=false:=by simpa using h1
    rw[h2]
    simp only[Bool.false_eq_true,if_false]
    omega
def kh (s:List UInt8):Bool:=match s with
 | []=>false
 |c::_=>decide (s.length<=24) && (dH c && decide (bQ ir s=s.length))
theorem fM (s:List UInt8) (hl:s.length<=4611686018427387903):aa Tryz.prog 15 [dL s] (.one (dB (kh s))):=by
 have hB:=aF s;cases hs:s with
 |nil=>
  refine kU func15 ?_;refine gL ?_;refine C9 ?_;exact ap
 |cons c r=>
  have hn:kh s=(decide (s.length<=24) && (dH c && decide (bQ ir s=s.length))):=by rw[hs];rfl
  have hne:s≠[]:=by rw[hs];simp
  have h0:s[0]? =some c:=by rw[hs];rfl
  have c1:=ie c;have c2:=kK pv s (by omega);rw[<- hs,hn];generalize bQ ir s=n at *
  by_cases h24:s.length<=24
  ·rw[decide_eq_true h24,Bool.true_and]
   cases hb:dH c
   ·rw[hb]at c1
    refine kU func15 ?_;refine gL ?_;refine yx ?_;refine DO ?_;exact ap
   ·rw[hb]at c1
    by_cases he:n=s.length
    ·rw[decide_eq_true he]
     refine kU func15 ?_;refine gL ?_;refine yx ?_;refine DO ?_;refine Pq ?_;refine kT ?_;exact ap
    ·rw[decide_eq_false he]
     refine kU func15 ?_;refine gL ?_;refine yx ?_;refine DO ?_;refine Pq ?_;refine kE ?_;exact ap
  ·rw[decide_eq_false h24,Bool.false_and]
   refine kU func15 ?_;refine gL ?_;refine yx ?_;refine kE ?_;exact ap
theorem tN (s:List UInt8) (hl:s.length<=4611686018427387903):aa Tryz.prog 52 [dL s] (.one (dB (kh s))):=by
 have hB:=aF s;cases hs:s with
 |nil=>
  refine kU func52 ?_;refine gL ?_;refine C9 ?_;exact ap
 |cons c r=>
  have hn:kh s=(decide (s.length<=24) && decide (zK s=s.length)):=by
   rw[hs];show(decide ((c::r).length<=24) && (dH c && decide (bQ ir (c::r)=(c::r).length)))=(decide ((c::r).length<=24) && decide ((if dH c=true then bQ ir (c::r)else 0)=(c::r).length));cases dH c<;>simp
  have hne:s≠[]:=by rw[hs];simp
  have c2:aa Tryz.prog 91 [dL s,dN .i64 0] (.one (dN .i64 (zK s:Nat))):=by
   have:=zk s 0 (Nat.zero_le _) (by omega)
   rwa[List.drop_zero,Nat.zero_add]at this
  rw[<- hs,hn];generalize zK s=n at *
  by_cases h24:s.length<=24
  ·rw[decide_eq_true h24,Bool.true_and]
   by_cases he:n=s.length
   ·rw[decide_eq_true he]
    refine kU func52 ?_;refine gL ?_;refine yx ?_;refine kT ?_;refine Pq ?_;refine kT ?_;exact ap
   ·rw[decide_eq_false he]
    refine kU func52 ?_;refine gL ?_;refine yx ?_;refine kT ?_;refine Pq ?_;refine kE ?_;exact ap
  ·rw[decide_eq_false h24,Bool.false_and]
   refine kU func52 ?_;refine gL ?_;refine yx ?_;refine kE ?_;exact ap
section
variable {P:Program} {T:TypeId->Option Ty} {n:Nat} {ops:Array Oper} {id:Nat} {draw:Bool} {K:AS->Prop} {s:AS} {k:Nat} {o:Oper} {os:List Oper} {fps:List FP}
end
def dg (k:Nat):UInt8:=UInt8.ofNat (48+k)
theorem mo {k:Nat} (h:k<10):(dg k).toNat=48+k:=by unfold dg;rw[UInt8.toNat_ofNat'];omega
def i8 (n:Nat):List UInt8:=if _h:n=0 then []else i8 (n/10)++[dg (n%10)]
termination_by n
decreasing_by omega
theorem cH:i8 0=[]:=by rw[i8];simp
theorem de {n:Nat} (h:n≠0):i8 n=i8 (n/10)++[dg (n%10)]:=by rw[i8];simp[h]
def fmt (z:Int):List UInt8:=if z=0 then [48]else(if z<0 then [45]else [])++i8 z.natAbs
def dv (c:UInt8):Nat:=c.toNat-48
def eg (c:UInt8):Prop:=48<=c.toNat/\c.toNat<=57
instance (c:UInt8):Decidable (eg c):=inferInstanceAs (Decidable (_/\_))
def num (l:List UInt8):Nat:=l.foldl (fun a c=>10*a+dv c) 0
theorem jO (l:List UInt8) (c:UInt8):num (l++[c])=10*num l+dv c:=by simp[num]
theorem Oe {c:UInt8} (h:eg c):dv c<10:=by unfold dv;unfold eg at h;omega
theorem q8 {n:Nat} (h:n≠0):∃c r,i8 n=c::r/\c≠48:=by
 induction n using Nat.strongRecOn with
 |_ n ih=>
  rw[de h]
  by_cases h1:n/10=0
  ·rw[h1,cH]
   refine⟨dg (n%10),[],rfl,fun e=>?_⟩;have h2:=mo (show n%10<10 by omega);rw[e]at h2;have:(48:UInt8).toNat=48:=rfl;omega
  ·obtain⟨c,r,e,hc⟩:=ih (n/10) (by omega) h1
   exact⟨c,r++[dg (n%10)],by rw[e];rfl,hc⟩
theorem pW:∀(k n:Nat),n<10^k->(i8 n).length<=k
 |0,n,h=>by simp at h;subst h;rw[cH];simp
 |k+1,n,h=>by
  by_cases h0:n=0
  ·subst h0;rw[cH];simp
  ·rw[de h0,List.length_append]
   have:=pW k (n/10) (by rw[Nat.pow_succ]at h;omega)
   simp;omega
def i6 (neg:Bool) (ds:List UInt8):Prop:=ds≠[]/\(∀c∈ds,eg c)/\((∀c r,ds=c::r->c≠48)∨(ds.length=1/\neg=false))
def LI (neg:Bool) (n:Nat):Int:=if neg then -(n:Int)else n
def sg (neg:Bool) (ds:List UInt8):List UInt8:=if neg then 45::ds else ds
theorem Gs {a b:Nat} (h:(digs a).length<=4294967296) (hb0:0<b) (hb1:b<4294967296):aa Tryz.prog 223 [dW (digs a),dN .u32 b] (.tup [dW (digs (a/b)),dN .u32 (a%b:Nat)]):=
 ⟨aA func223 rfl rfl,fun S w vs hS hv=>by
  match vs,hv with
  | [v,u],⟨h1,h2,_⟩=>
   obtain rfl:=a6 h2;obtain⟨A,n,c,rfl,hx⟩:=fe h1 (ac _);have:=OB A n c b (digs a) w hx (by rw[<- hx.len];exact h) hb0 hb1;rw[af]at this;refine this.mono ?_;rintro e w' ⟨A',n',c',rfl,hq,hb⟩;refine⟨_,rfl,⟨[.slice A' n' c', .int .u32 (a%b:Nat)],rfl,rfl,fun i x u h1 h2=>?_⟩,hb⟩
   match i with
   |0=>simp at h1 h2;subst h1 h2;exact lL (hS.grow hb) hq
   |1=>simp at h1 h2;subst h1 h2;exact AV.M.val rfl
   |i+2=>simp at h1⟩
section
variable {P:Program} {T:TypeId->Option Ty} {n:Nat} {ops:Array Oper} {id:Nat} {draw:Bool} {K:AS->Prop} {s:AS} {k:Nat} {o:Oper} {os:List Oper} {fps:List FP}
theorem TS (hT:∀t d,T t=some d->a8 P t d) {t t' et:TypeId} {ty ty' te:Ty} {x:Operand} {l:List UInt8} {cs:List AV} (hcs:cs=l.map fun c=>AV.val (.int .u8 c.toNat)) (hl:l≠[]) (h1:gd ops s o=some true) (h2:o.op= .convert t t' x) (h5:T t=some ty) (h6:ty.elem=some (et,1)) (h7:T et=some te) (h8:te.ik=some .u8) (h9:T t'=some ty') (h10:ty'.isStr=true) (h11:s.ev x= .d (.leaf (.sl l.length cs)))
 (h3:aL n o.dst=true) (h4:fh draw ops (aB ops o ⟨.d (dL l),none⟩ []) k fps=true) (h:au P T n ops id draw K (k+1) os (s.eff o.dst ⟨.d (dL l),none⟩) (aB ops o ⟨.d (dL l),none⟩ []::fps)):au P T n ops id draw K k (o::os) s fps:=by
 refine .run h1 (.gen fun s2 ht _=>?_) h3 h4 h;have hx:=(ax ht (x:=x) (by simp[h2,Op.operands])).trans h11;have hu:=lQ (hT _ _ h9) h10;obtain⟨d,hd,_,hel,_⟩:=(hT _ _ h5).und;obtain⟨rfl,_⟩:=hel et 1 h6;obtain⟨d2,hd2,_,_,_,_,_,hik,_⟩:=(hT _ _ h7).und;obtain rfl:=hik _ h8;refine am fun n S0 w0 g a w hM=>⟨vL l,w,?_,Below.refl _ _,AV.M.val rfl⟩
 have hm:=hM.ev x;rw[hx]at hm;have hm:AV.M (Own S0 g s2) w (.sl l.length cs) (a.eval x):=hm;unfold execOp;rw[h2];obtain⟨v,hv⟩:∃v,a.eval x=v:=⟨_,rfl⟩;rw[hv]at hm;cases hm with
 |emp=>
  have:l=[]:=by simpa using hcs.symm
  exact absurd this hl
 |sl f g1 g2 g3 g4 g5 g6=>
  rename_i b off c
  have hc:∀i,i<l.length->w.cell? ⟨b,off+i,none⟩=some (.int .u8 ((l.map fun c=>(c.toNat:Int)).getD i 0)):=by
   intro i hi;have h12:cs[i]? =some (AV.val (.int .u8 (l[i].toNat:Int))):=by rw[hcs];simp[hi]
   rw[g5 i _ h12,a6 (g6 i _ h12)]
   simp[hi]
  simp only[hv,Sem.run_bind,run_convert_bytes_arg w t et hd hd2 b off l.length c (l.map fun c=>(c.toNat:Int)) (by simp) hc t' hu,Result.andThen_ok,Sem.run_pure]
  have:strOfNums (l.map fun c=>(c.toNat:Int))=Bs l:=by
   unfold strOfNums Bs
   congr 2
   rw[List.map_map]
   conv=>rhs;rw[<- List.map_id l]
   apply List.map_congr_left
   intro x _
   simp
  rw[this];rfl
end
theorem vD {na:Bool} {xs:List Nat} (hw:Wd xs) {z:Int} (hxz:bC na xs=z) (hz:cM z):aa Tryz.prog 157 [dI na xs] (.one (dL (fmt z))):=by
 have hN:(i8 z.natAbs).length<=42949672960:=by
  have h1:=bP (Nat.le_refl (digs z.natAbs).length);refine Nat.le_trans (pW (10*(digs z.natAbs).length) _ (Nat.lt_of_lt_of_le h1 ?_)) (by unfold cM at hz;omega);rw[Nat.pow_mul];exact Nat.pow_le_pow_left (by decide) _
 refine kV func157 ?_;refine kQ (d9 (na:=na) hw hxz) ?_;refine ay (Nat × List UInt8) (fun p=>i8 z.natAbs=i8 p.1++p.2/\(digs p.1).length<=2147483648) (fun p=>⟨[(1, .box 0 0),(3, .d (dL p.2)),(4, .d (dW (digs p.1)))],[(0,some (aZ z))]⟩) (fun p=>p.1) (z.natAbs,[]) ⟨by simp,hz⟩ kw ?_;rintro⟨a,t⟩ ⟨ha,hl⟩;dsimp only at ha hl ⊢;refine kW ?_;refine fU rfl (fun h=>?_) (fun h=>?_)
 ·have h0:a≠0:=fun e=>by rw[e,aK]at h;exact absurd h (by decide)
  have hdl:=congrArg List.length ha;rw[de h0]at hdl
  simp only[List.length_append,List.length_cons,List.length_nil]at hdl
  have hm10:a%10<10:=Nat.mod_lt _ (by decide)
  refine dV ?_;refine kW ?_;refine ae (Gs (b:=10) (Nat.le_trans hl (by decide)) (by decide) (by decide)) rfl rfl rfl rfl rfl rfl rfl ?_;refine kW ?_
  have hcv:(Value.int .u8 (IntKind.u8.wrap (IntKind.u32.wrap (48+((a%10:Nat):Int)))):Value)= .int .u8 ((dg (a%10)).toNat:Int):=by
   rw[IntWalk.u32_in _ (by omega),IntWalk.u8_in _ (by omega),mo hm10];rfl
  refine TS ah (l:=[dg (a%10)]) (congrArg (fun v=>[AV.val v]) hcv) (by simp) rfl rfl rfl rfl rfl rfl rfl rfl rfl rfl rfl ?_;refine kO ?_;refine aq rfl rfl rfl rfl rfl rfl rfl (aD (a:=[dg (a%10)]) (b:=t) (by simp;omega)) ?_;refine kW ?_;refine⟨(a/10,dg (a%10)::t),⟨?_,?_⟩,?_,weak ⟨rfl,rfl,rfl,trivial⟩ ⟨rfl,trivial⟩ rfl⟩
  ·rw[ha,de h0];simp
  ·exact Nat.le_trans (ib (Nat.div_le_self _ _)) hl
  ·dsimp only;omega
 ·have h0:a=0:=by
   have:=of_decide_eq_false h;exact aT.1 (by omega)
  subst h0;rw[cH,List.nil_append]at ha;refine ip ?_;refine ND ?_;refine aq rfl rfl rfl rfl rfl rfl rfl (iL (b:=[])) ?_;refine kW ?_
  by_cases hz0:z=0
  ·have ht:t=[]:=by rw[<- ha,hz0];exact cH
   subst hz0;refine fD (T:=TT) rfl ?_ ?_
   ·exact decide_eq_true ht
   exact ap
  ·have ht:t≠[]:=by
    rw[<- ha,de (by omega)]
    simp
   refine gU (T:=TT) rfl ?_ ?_
   ·exact decide_eq_false ht
   refine dV ?_;refine kW ?_;refine fU rfl (fun h=>?_) (fun h=>?_)
   ·have hneg:=of_decide_eq_true h
    refine AH ?_;refine kO ?_;refine aq rfl rfl rfl rfl rfl rfl rfl (aD (a:=[45]) (b:=t) (by rw[<- ha];simp;omega)) ?_;refine kW ?_
    have hf:fmt z=[45]++t:=by
     unfold fmt;rw[if_neg hz0,if_pos hneg,ha]
    rw[hf];exact bV (T:=TT) rfl rfl
   ·have hneg:=of_decide_eq_false h
    refine dV ?_;refine kW ?_
    have hf:fmt z=t:=by
     unfold fmt;rw[if_neg hz0,if_neg hneg,ha];rfl
    rw[hf];exact bV (T:=TT) rfl rfl
theorem tG {z:Int} (hz:cM z):aa Tryz.prog 157 [dZ z] (.one (dL (fmt z))):=vD (ac _) (aU z) hz
def ep:List UInt8->Bool
 |c::_=>c == 45
 | []=>false
def oA:List UInt8->List UInt8
 |c::r=>if c == 45 then r else c::r
 | []=>[]
theorem qk (s:List UInt8):(oA s).length<=s.length:=by
 cases s with
 |nil=>exact Nat.le_refl _
 |cons c r=>show(if(c == 45)=true then r else c::r).length<=_;split <;>simp
theorem wQ:∀(n:Nat) (l:List UInt8),l.length=n->(∀c∈l,eg c)->num l<10^n:=by
 intro n
 induction n with
 |zero=>intro l hl _;rw[List.eq_nil_of_length_eq_zero hl];decide
 |succ n ih=>
  intro l hl hd
  obtain⟨l',c,rfl⟩:∃l' c,l=l'++[c]:=by
   rcases List.eq_nil_or_concat l with h| ⟨l',c,h⟩
   ·subst h;simp at hl
   ·exact⟨l',c,by simpa using h⟩
  have:=ih l' (by simpa using hl) (fun c hc=>hd c (by simp[hc]));have hc:=Oe (hd c (by simp));rw[jO,Nat.pow_succ];omega
def RM (s:List UInt8):Prop:=s.length<=65536/\i6 (ep s) (oA s)
open Classical in
noncomputable def pz (s:List UInt8):Int × Int:=if RM s then(LI (ep s) (num (oA s)),0)else(0,2)
theorem Oj {s:List UInt8} (h:RM s):pz s=(LI (ep s) (num (oA s)),0):=by unfold pz;rw[if_pos h]
theorem sQ {s:List UInt8} (h:¬RM s):pz s=(0,2):=by unfold pz;rw[if_neg h]
theorem e0:aZ 0=[.val (.bool false), .sl 0 []]:=by
 unfold aZ aI aW;rw[show(0:Int).natAbs=0 from rfl,aK];rfl
def dk:Nat->Nat->List UInt8
 |0,_=>[]
 |k+1,c=>dk k (c/10)++[dg (c%10)]
def dd (c:Nat):List UInt8:=if c=0 then [48]else i8 c
theorem EC (k m c:Nat) (hm:0<m) (hc:c<10^k):i8 (m*10^k+c)=i8 m++dk k c:=by
 induction k generalizing c with
 |zero=>simp at hc;subst hc;simp[dk]
 |succ k ih=>
  rw[Nat.pow_succ]at hc;have hp:0<10^k:=Nat.pow_pos (by decide)
  have hmp:0<m*10^k:=Nat.mul_pos hm hp
  have e:m*10^(k+1)+c=10*(m*10^k)+c:=by rw[Nat.pow_succ,<- Nat.mul_assoc,Nat.mul_comm]
  rw[e,de (by omega),show(10*(m*10^k)+c)/10=m*10^k+c/10 by omega,show(10*(m*10^k)+c)%10=c%10 by omega,ih (c/10) (by omega),dk,List.append_assoc]
theorem K0 (k:Nat):dk k 0=List.replicate k 48:=by
 induction k with
 |zero=>rfl
 |succ k ih=>rw[dk,Nat.zero_div,ih,List.replicate_succ'];rfl
theorem jX {c:Nat} (h:c<10):dd c=[dg c]:=by
 unfold dd
 by_cases h0:c=0
 ·subst h0;rfl
 ·rw[if_neg h0,de h0,show c/10=0 by omega,cH,show c%10=c by omega];rfl
theorem Bq {c:Nat} (h:10<=c):dd c=dd (c/10)++[dg (c%10)]:=by
 unfold dd;rw[if_neg (by omega),if_neg (by omega),de (by omega)]
theorem OR (k:Nat):∀c,c<10^(k+1)->(dd c).length<=k+1/\dk (k+1) c=List.replicate (k+1-(dd c).length) 48++dd c:=by
 induction k with
 |zero=>
  intro c hc;have:c<10:=by simpa using hc
  rw[jX this,dk,dk,show c%10=c by omega];exact⟨Nat.le_refl _,rfl⟩
 |succ k ih=>
  intro c hc
  by_cases h:c<10
  ·rw[jX h,dk,show c/10=0 by omega,K0,show c%10=c by omega]
   exact⟨by simp,by simp⟩
  ·rw[Nat.pow_succ]at hc
   obtain⟨h1,h2⟩:=ih (c/10) (by omega);rw[Bq (by omega),dk,h2,List.length_append,List.length_singleton];refine⟨by omega,?_⟩;rw[show k+1+1-((dd (c/10)).length+1)=k+1-(dd (c/10)).length by omega,List.append_assoc]
theorem eQ (u:Nat):Lib.decDigits u=dd u:=by
 induction u using Nat.strongRecOn with
 |_ u ih=>
  by_cases h:u<10
  ·rw[Lib.decDigits,dif_pos h,jX h];rfl
  ·rw[Lib.decDigits,dif_neg h,Bq (by omega),ih _ (by omega)];rfl
def ui (c:Nat):List UInt8:=List.replicate (9-(dd c).length) 48++dd c
theorem BE (m c:Nat) (hm:0<m) (hc:c<1000000000):i8 (m*1000000000+c)=i8 m++ui c:=by
 have h:=EC 9 m c hm (by simpa using hc);rw[show(10:Nat)^9=1000000000 from rfl]at h;rw[h,(OR 8 c (by simpa using hc)).2];rfl
theorem vX {c:Nat} (hc:c<1000000000):1<=(dd c).length/\(dd c).length<=9:=by
 refine⟨?_,(OR 8 c (by simpa using hc)).1⟩;unfold dd
 by_cases h0:c=0
 ·rw[if_pos h0];exact Nat.le_refl _
 ·rw[if_neg h0,de h0];simp
def ch (n:Nat):List Nat:=if _h:n=0 then []else n%1000000000::ch (n/1000000000)
termination_by n
decreasing_by omega
theorem ku:ch 0=[]:=by rw[ch];simp
theorem sx {n:Nat} (h:n≠0):ch n=n%1000000000::ch (n/1000000000):=by rw[ch];simp[h]
def RI:List Nat->List UInt8
 | []=>[]
 |c::r=>dd c++r.flatMap ui
theorem G8 {l:List Nat} (h:l≠[]) (c:Nat):RI (l++[c])=RI l++ui c:=by
 cases l with
 |nil=>exact absurd rfl h
 |cons a r=>simp[RI,List.flatMap_append]
theorem I9:∀(k n:Nat),n<1000000000^k->(ch n).length<=k
 |0,n,h=>by simp at h;subst h;rw[ku];simp
 |k+1,n,h=>by
  by_cases h0:n=0
  ·subst h0;rw[ku];simp
  ·rw[sx h0]
   have:=I9 k (n/1000000000) (by rw[Nat.pow_succ]at h;omega)
   simp;omega
theorem Up (n:Nat):∀c∈ch n,c<1000000000:=by
 induction n using Nat.strongRecOn with
 |_ n ih=>
  by_cases h:n=0
  ·subst h;rw[ku];simp
  ·rw[sx h]
   intro c hc;rcases List.mem_cons.1 hc with rfl|hc
   ·omega
   ·exact ih _ (by omega) c hc
theorem np {xs:List Nat} (hw:Wd xs):(ch (val xs)).length<=2*xs.length:=by
 refine I9 _ _ (Nat.lt_of_lt_of_le (eP hw) ?_);rw[Nat.pow_mul];exact Nat.pow_le_pow_left (by decide) _
theorem Pz {n:Nat} (h:n≠0):ch n≠[]:=by rw[sx h];simp
theorem Qg (n:Nat):RI (ch n).reverse=i8 n:=by
 induction n using Nat.strongRecOn with
 |_ n ih=>
  by_cases h:n=0
  ·subst h;rw[ku,cH];rfl
  ·rw[sx h,List.reverse_cons]
   by_cases h1:n/1000000000=0
   ·rw[h1,ku]
    have:n%1000000000=n:=by omega
    rw[this];show dd n++[]=_;rw[List.append_nil];unfold dd;rw[if_neg h]
   ·rw[G8 (by simpa using Pz h1),ih _ (by omega),<- BE _ _ (by omega) (by omega)]
    congr 1
    omega
theorem Rm {k:Nat} (h:k<10):eg (dg k):=by
 unfold eg;rw[mo h];omega
theorem M4 (n:Nat):∀c∈i8 n,eg c:=by
 induction n using Nat.strongRecOn with
 |_ n ih=>
  by_cases h:n=0
  ·subst h;rw[cH];simp
  ·rw[de h]
   intro c hc;rcases List.mem_append.1 hc with hc|hc
   ·exact ih _ (by omega) c hc
   ·rw[List.mem_singleton]at hc;rw[hc];exact Rm (by omega)
theorem KY (n:Nat):num (i8 n)=n:=by
 induction n using Nat.strongRecOn with
 |_ n ih=>
  by_cases h:n=0
  ·subst h;rw[cH];rfl
  ·rw[de h,jO,ih _ (by omega)]
   unfold dv;rw[mo (by omega)];omega
theorem lg {a b:Int} (h1:cM a) (h2:cM b) {g:Nat} (hg:Nat.gcd a.natAbs b.natAbs=g):aa Tryz.prog 231 [dZ a,dZ b] (.one (dZ g)):=by
 have:=yL (na:=decide (a<0)) (nb:=decide (b<0)) (ac a.natAbs) (ac b.natAbs) h1 h2;rw[af,af,hg]at this;exact this
theorem wl {a b q r:Int} (h1:cM a) (h2:cM b) (h0:b≠0) (hq:a.fdiv b=q) (hr:a.fmod b=r):aa Tryz.prog 299 [dZ a,dZ b] (.tup [dZ q,dZ r,dN .i64 0]):=
 xx (ac _) (ac _) h1 h2 (by rw[aU];exact h0) (by rw[aU,aU];exact hq) (by rw[aU,aU];exact hr)
theorem rM {a b:Int} (h1:cM a) (h2:cM b) {g:Nat} (hg:Nat.gcd a.natAbs b.natAbs=g):aa Tryz.prog 221 [dZ a,dZ b] (.one (dZ g)):=by
 have:=uZ (na:=decide (a<0)) (nb:=decide (b<0)) (ac a.natAbs) (ac b.natAbs) h1 h2;rw[af,af,hg]at this;exact this
theorem tI {a b q r:Int} (h1:cM a) (h2:cM b) (h0:b≠0) (hq:a.fdiv b=q) (hr:a.fmod b=r):aa Tryz.prog 279 [dZ a,dZ b] (.tup [dZ q,dZ r,dN .i64 0]):=
 vm (ac _) (ac _) h1 h2 (by rw[aU];exact h0) (by rw[aU,aU];exact hq) (by rw[aU,aU];exact hr)
theorem J7 {q:Rat} {n:Int} {d:Nat} (hd:0<d) (hc:Nat.gcd n.natAbs d=1) (h:n*q.den=q.num*d):q.num=n/\q.den=d:=by
 have hp:(⟨n,d,by omega,hc⟩:Rat)=q:=by
  have h1:=Rat.num_divInt_den (⟨n,d,by omega,hc⟩:Rat);have h2:=Rat.num_divInt_den q;rw[<- h1,<- h2,Rat.divInt_eq_divInt_iff (by show(d:Int)≠0;omega) (by have:=q.den_nz;omega)];exact h
 exact⟨by rw[<- hp],by rw[<- hp]⟩
def gz (n d:Int):Int:=if d<0 then -((Nat.gcd n.natAbs d.natAbs:Nat):Int)else(Nat.gcd n.natAbs d.natAbs:Nat)
theorem JD {n d:Int} (h:d≠0):gz n d≠0:=by
 have:0<Nat.gcd n.natAbs d.natAbs:=Nat.gcd_pos_of_pos_right _ (by omega)
 unfold gz;split <;>omega
theorem oZ {a b c:Int} (h:b≠0) (e:a=b*c):a.fdiv b=c:=by rw[e];exact Int.mul_fdiv_cancel_left _ h
theorem zG {n d:Int} (hd:d≠0):n.fdiv (gz n d)=(Rat.divInt n d).num/\d.fdiv (gz n d)=((Rat.divInt n d).den:Int)/\n=gz n d*(Rat.divInt n d).num/\d=gz n d*((Rat.divInt n d).den:Int):=by
 have hg0:=JD (n:=n) hd;obtain⟨a,ha⟩:((Nat.gcd n.natAbs d.natAbs:Nat):Int)∣n:=Int.ofNat_dvd_left.2 (Nat.gcd_dvd_left _ _);obtain⟨b,hb⟩:((Nat.gcd n.natAbs d.natAbs:Nat):Int)∣d:=Int.ofNat_dvd_left.2 (Nat.gcd_dvd_right _ _);have hp:0<Nat.gcd n.natAbs d.natAbs:=Nat.gcd_pos_of_pos_right _ (by omega)
 obtain⟨G,hG⟩:∃G,Nat.gcd n.natAbs d.natAbs=G:=⟨_,rfl⟩;have hG':=hG;rw[hG]at ha hb hp
 have hab:Nat.gcd a.natAbs b.natAbs=1:=by
  rw[ha,hb,Int.natAbs_mul,Int.natAbs_mul,Int.natAbs_natCast,Nat.gcd_mul_left]at hG;exact Nat.eq_of_mul_eq_mul_left hp (by omega)
 obtain⟨s,hs1,hs2⟩:∃s:Int,gz n d=G*s/\(s=1/\0<b∨s= -1/\b<0):=by
  unfold gz;rw[hG'];have hb0:b≠0:=by rintro rfl;simp at hb;omega
  split
  ·refine⟨-1,by omega, .inr ⟨rfl,?_⟩⟩
   rcases Int.lt_trichotomy b 0 with h|h|h
   ·exact h
   ·omega
   ·have:0<(G:Int)*b:=Int.mul_pos (by omega) h
    omega
  ·refine⟨1,by omega, .inl ⟨rfl,?_⟩⟩
   rcases Int.lt_trichotomy b 0 with h|h|h
   ·have:0<(G:Int)*(-b):=Int.mul_pos (by omega) (by omega)
    rw[Int.mul_neg]at this;omega
   ·omega
   ·exact h
 have hq:(Rat.divInt n d).num=s*a/\(Rat.divInt n d).den=(s*b).toNat:=by
  refine J7 ?_ ?_ ?_
  ·rcases hs2 with⟨rfl,h⟩| ⟨rfl,h⟩<;>omega
  ·have e:(s*b).toNat=b.natAbs:=by rcases hs2 with⟨rfl,h⟩| ⟨rfl,h⟩<;>omega
   have e2:(s*a).natAbs=a.natAbs:=by rcases hs2 with⟨rfl,h⟩| ⟨rfl,h⟩<;>omega
   rw[e,e2,hab]
  ·have h1:=Rat.num_divInt_den (Rat.divInt n d)
   have h0:((Rat.divInt n d).den:Int)≠0:=by have:=(Rat.divInt n d).den_nz;omega
   have h2:=(Rat.divInt_eq_divInt_iff h0 hd).1 h1
   have h3:((s*b).toNat:Int)=s*b:=by
    have:0<=s*b:=by rcases hs2 with⟨rfl,h⟩| ⟨rfl,h⟩<;>omega
    omega
   rw[h3];generalize(Rat.divInt n d).num=p at *;generalize((Rat.divInt n d).den:Int)=q at *;rw[ha,hb]at h2
   have h4:(G:Int)*(p*b)=G*(a*q):=by
    rw[<- Int.mul_assoc,Int.mul_comm (G:Int) p,Int.mul_assoc,h2,Int.mul_assoc]
   have h5:=Int.eq_of_mul_eq_mul_left (by omega) h4;rw[Int.mul_assoc,<- h5]
   simp[Int.mul_left_comm,Int.mul_comm]
 have hss:s*s=1:=by rcases hs2 with⟨rfl,_⟩| ⟨rfl,_⟩<;>rfl
 have e1:n=gz n d*(Rat.divInt n d).num:=by
  rw[hs1,hq.1,Int.mul_assoc,<- Int.mul_assoc s s a,hss,Int.one_mul];exact ha
 have e2:d=gz n d*((Rat.divInt n d).den:Int):=by
  have h3:((s*b).toNat:Int)=s*b:=by
   have:0<=s*b:=by rcases hs2 with⟨rfl,h⟩| ⟨rfl,h⟩<;>omega
   omega
  rw[hs1,hq.2,h3,Int.mul_assoc,<- Int.mul_assoc s s b,hss,Int.one_mul];exact hb
 exact⟨oZ hg0 e1,oZ hg0 e2,e1,e2⟩
theorem qH (q:Rat):Rat.divInt q.num q.den=q:=Rat.num_divInt_den q
theorem da (q:Rat):0<(q.den:Int):=by have:=q.den_nz;omega
theorem tj (a b:Rat):Rat.divInt (a.num*b.den+b.num*a.den) (a.den*b.den)=a+b:=by
 have h:=Rat.divInt_add_divInt a.num b.num (d₁:=a.den) (d₂:=b.den) (by have:=da a;omega) (by have:=da b;omega);rw[Rat.num_divInt_den,Rat.num_divInt_den]at h;exact h.symm
theorem qK (a b:Rat):Rat.divInt (a.num*b.num) (a.den*b.den)=a*b:=by
 have h:=Rat.divInt_mul_divInt a.num b.num (d₁:=a.den) (d₂:=b.den);rw[Rat.num_divInt_den,Rat.num_divInt_den]at h;exact h.symm
theorem tf (a b:Rat):Rat.divInt (a.num*b.den) (a.den*b.num)=a/b:=by
 rw[Rat.div_def,Rat.inv_def];have h:=Rat.divInt_mul_divInt a.num b.den (d₁:=a.den) (d₂:=b.num);rw[Rat.num_divInt_den]at h;exact h.symm
theorem r9 {q:Rat} {n:Int} (h:q=n):q.num=n/\q.den=1:=by subst h;exact⟨rfl,rfl⟩
theorem kS {q:Rat} (h:q.den=1):q=(q.num:Rat):=Rat.ext rfl h
theorem Eh {a b:Rat} (ha:a.den=1) (hb:b.den=1):(a+b).num=a.num+b.num/\(a+b).den=1:=by
 refine r9 ?_;rw[kS ha,kS hb]
 simp
theorem m9 {a b:Rat} (ha:a.den=1) (hb:b.den=1):(a*b).num=a.num*b.num/\(a*b).den=1:=by
 refine r9 ?_;rw[kS ha,kS hb]
 simp
theorem Mp (a b:Rat):(a*b).num=(a.num/(Nat.gcd a.num.natAbs b.den:Nat))*(b.num/(Nat.gcd b.num.natAbs a.den:Nat))/\(a*b).den=(a.den/Nat.gcd b.num.natAbs a.den)*(b.den/Nat.gcd a.num.natAbs b.den):=by
 show(Rat.mul a b).num=_/\(Rat.mul a b).den=_;rw[Rat.mul.eq_1]
 simp only[Int.divExact_eq_ediv,Nat.divExact_eq_div]
 exact⟨trivial,trivial⟩
def KQ (q:Rat):Int:=q.num.sign
def yB (c:UInt8):Bool:=decide (eg c)
theorem iw {c:UInt8}:yB c=true↔eg c:=decide_eq_true_iff
def gb (t:List UInt8):List UInt8:=t.takeWhile yB
def lq (t:List UInt8):List UInt8:=t.dropWhile yB
theorem rB (t:List UInt8):gb t++lq t=t:=List.takeWhile_append_dropWhile
theorem qy (t:List UInt8):∀c∈gb t,eg c:=fun c hc=>iw.1 (List.all_eq_true.1 (List.all_takeWhile (p:=yB) (l:=t)) c hc)
theorem iC {a b:List UInt8} (h:∀c∈a,eg c):gb (a++b)=a++gb b/\lq (a++b)=lq b:=by
 induction a with
 |nil=>exact⟨rfl,rfl⟩
 |cons x a ih=>
  have hx:=iw.2 (h x (by simp));obtain⟨h1,h2⟩:=ih (fun c hc=>h c (by simp[hc]));unfold gb lq at *;rw[List.cons_append,List.takeWhile_cons_of_pos hx,List.dropWhile_cons_of_pos hx,h1,h2];exact⟨rfl,rfl⟩
theorem iK {c:UInt8} {b:List UInt8} (h:¬eg c):gb (c::b)=[]/\lq (c::b)=c::b:=by
 have hc:¬yB c=true:=fun e=>h (iw.1 e)
 unfold gb lq;exact⟨List.takeWhile_cons_of_neg hc,List.dropWhile_cons_of_neg hc⟩
theorem ET {a:List UInt8} (h:∀c∈a,eg c):gb a=a/\lq a=[]:=by
 have:=iC (b:=[]) h
 simpa[gb,lq]using this
theorem Fu {t:List UInt8} {c:UInt8} {b:List UInt8} (h:lq t=c::b):¬eg c:=by
 intro hc;unfold lq at h;have:=List.head?_dropWhile_not (p:=yB) (l:=t);rw[h]at this
 simp[iw.2 hc]at this
theorem rU {a:List UInt8} (h:¬∀c∈a,eg c):∃p c r,a=p++c::r/\(∀x∈p,eg x)/\ ¬eg c:=by
 have e:=rB a;cases hr:lq a with
 |nil=>
  rw[hr,List.append_nil]at e;exact absurd (fun c hc=>qy a c (by rw[e];exact hc)) h
 |cons c r=>exact⟨gb a,c,r,by rw[<- hr,e],qy a,Fu hr⟩
open Classical in
noncomputable def jt (t:List UInt8):Option Rat:=
 if i6 false (gb t)then
  match lq t with
  | []=>some ((num (gb t):Int):Rat)
  |c::b=>
   if c=46 then(if b≠[]/\(∀x∈b,eg x)then some (Rat.divInt ((num (gb t)*10^b.length+num b:Nat):Int) ((10^b.length:Nat):Int))else none)
   else if c=47 then(if i6 false b/\num b≠0/\num b≠1/\Nat.gcd (num (gb t)) (num b)=1 then some (Rat.divInt (num (gb t):Int) (num b:Int))else none)
   else none
 else none
theorem G6:¬eg 47:=by decide
theorem Qj:¬eg 46:=by decide
theorem dU {a:List UInt8} (h:i6 false a):∀c∈a,eg c:=h.2.1
open Classical in
theorem Fd {a b:List UInt8} (ha:47 ∉ a):jt (a++47::b)=if i6 false a/\i6 false b/\num b≠0/\num b≠1/\Nat.gcd (num a) (num b)=1 then some (Rat.divInt (num a:Int) (num b:Int))else none:=by
 by_cases h:∀c∈a,eg c
 ·have h1:=iC (b:=47::b) h
  obtain⟨h2,h3⟩:=iK (b:=b) G6;rw[h2,h3,List.append_nil]at h1;unfold jt;rw[h1.1,h1.2]
  by_cases ho:i6 false a
  ·rw[if_pos ho]
   dsimp only;rw[if_neg (by decide),if_pos rfl]
   by_cases hb:i6 false b/\num b≠0/\num b≠1/\Nat.gcd (num a) (num b)=1
   ·rw[if_pos hb,if_pos ⟨ho,hb⟩]
   ·rw[if_neg hb,if_neg (fun h=>hb h.2)]
  ·rw[if_neg ho,if_neg (fun h=>ho h.1)]
 ·rw[if_neg (fun e=>h (dU e.1))]
  obtain⟨p,c,r,rfl,hp,hc⟩:=rU h;have h1:=iC (b:=c::(r++47::b)) hp;obtain⟨h2,h3⟩:=iK (b:=r++47::b) hc;rw[h2,h3,List.append_nil]at h1;unfold jt;rw[show p++c::r++47::b=p++c::(r++47::b) by simp,h1.1,h1.2]
  split
  ·dsimp only
   split
   ·rw[if_neg (fun e=>G6 (e.2 47 (by simp)))]
   ·rw[if_neg (fun e=>ha (by rw[e];simp))]
  ·rfl
open Classical in
theorem D1 {a b:List UInt8} (h47:47 ∉ a++46::b) (ha:46 ∉ a):jt (a++46::b)=if i6 false a/\b≠[]/\(∀x∈b,eg x)then some (Rat.divInt ((num a*10^b.length+num b:Nat):Int) ((10^b.length:Nat):Int))else none:=by
 by_cases h:∀c∈a,eg c
 ·have h1:=iC (b:=46::b) h
  obtain⟨h2,h3⟩:=iK (b:=b) Qj;rw[h2,h3,List.append_nil]at h1;unfold jt;rw[h1.1,h1.2]
  by_cases ho:i6 false a
  ·rw[if_pos ho]
   dsimp only;rw[if_pos rfl]
   by_cases hb:b≠[]/\(∀x∈b,eg x)
   ·rw[if_pos hb,if_pos ⟨ho,hb⟩]
   ·rw[if_neg hb,if_neg (fun h=>hb h.2)]
  ·rw[if_neg ho,if_neg (fun h=>ho h.1)]
 ·rw[if_neg (fun e=>h (dU e.1))]
  obtain⟨p,c,r,rfl,hp,hc⟩:=rU h;have h1:=iC (b:=c::(r++46::b)) hp;obtain⟨h2,h3⟩:=iK (b:=r++46::b) hc;rw[h2,h3,List.append_nil]at h1;unfold jt;rw[show p++c::r++46::b=p++c::(r++46::b) by simp,h1.1,h1.2]
  split
  ·dsimp only
   rw[if_neg (fun e=>ha (by rw[e];simp)),if_neg (fun e=>h47 (by rw[e];simp))]
  ·rfl
open Classical in
theorem zV {a:List UInt8} (h47:47 ∉ a) (h46:46 ∉ a):jt a=if i6 false a then some ((num a:Int):Rat)else none:=by
 by_cases h:∀c∈a,eg c
 ·have h1:=ET h
  unfold jt;rw[h1.1,h1.2]
 ·rw[if_neg (fun e=>h (dU e))]
  obtain⟨p,c,r,rfl,hp,hc⟩:=rU h;have h1:=iC (b:=c::r) hp;obtain⟨h2,h3⟩:=iK (b:=r) hc;rw[h2,h3,List.append_nil]at h1;unfold jt;rw[h1.1,h1.2]
  split
  ·dsimp only
   rw[if_neg (fun e=>h46 (by rw[e];simp)),if_neg (fun e=>h47 (by rw[e];simp))]
  ·rfl
open Classical in
noncomputable def gJ (s:List UInt8):Option Rat:=
 if s.length<=65536 then
  match jt (oA s)with
  |none=>none
  |some q=>if ep s=true then(if q=0 then none else some (-q))else some q
 else none
def i7 (n:Nat):List UInt8:=if n=0 then [48]else i8 n
theorem qe (n:Nat):fmt (n:Int)=i7 n:=by
 unfold fmt i7
 by_cases h:n=0
 ·subst h;rfl
 ·rw[if_neg (by omega),if_neg h,if_neg (by omega),Int.natAbs_natCast];rfl
theorem EK (z:Int):fmt z=(if z<0 then [45]else [])++i7 z.natAbs:=by
 unfold fmt i7
 by_cases h:z=0
 ·subst h;rfl
 ·rw[if_neg h,if_neg (show ¬z.natAbs=0 by omega)]
theorem mN (n:Nat):∀c∈i7 n,eg c:=by
 unfold i7
 split
 ·intro c hc;simp at hc;subst hc;decide
 ·exact M4 n
theorem Ee (n:Nat):i6 false (i7 n):=by
 refine⟨?_,mN n,?_⟩
 ·unfold i7;split
  ·simp
  ·rename_i h;obtain⟨c,r,e,_⟩:=q8 h;rw[e];simp
 ·unfold i7;split
  ·exact .inr ⟨rfl,rfl⟩
  ·rename_i h;obtain⟨c,r,e,hc⟩:=q8 h
   exact .inl fun x y e2=>by rw[e]at e2;cases e2;exact hc
theorem zq (n:Nat):num (i7 n)=n:=by
 unfold i7;split
 ·rename_i h;subst h;rfl
 ·exact KY n
theorem Me (n:Nat) {c:UInt8} (hc:¬eg c):c ∉ i7 n:=fun h=>hc (mN n c h)
theorem AF {b:Bool} {l:List UInt8} (h:∀c r,l=c::r->eg c):oA ((if b=true then [45]else [])++l)=l/\ep ((if b=true then [45]else [])++l)=b:=by
 cases b
 ·simp only[Bool.false_eq_true,if_false,List.nil_append]
  cases l with
  |nil=>exact⟨rfl,rfl⟩
  |cons c r=>
   have h1:=h c r rfl;have:(c == 45)=false:=beq_eq_false_iff_ne.2 (fun e=>by subst e;exact absurd h1 (by decide));exact⟨by show(if(c == 45)=true then r else c::r)=_;rw[this];rfl,this⟩
 ·exact⟨rfl,rfl⟩
theorem F2 (k:Nat) (l:List UInt8):num (List.replicate k 48++l)=num l:=by
 induction k with
 |zero=>rfl
 |succ k ih=>rw[List.replicate_succ,List.cons_append];exact ih
def Jy (l:List UInt8):List UInt8:=l.dropWhile (· == 48)
theorem DB (l:List UInt8):num (Jy l)=num l:=by
 induction l with
 |nil=>rfl
 |cons c l ih=>
  unfold Jy at *
  by_cases h:c=48
  ·subst h;rw[List.dropWhile_cons_of_pos rfl,ih];rfl
  ·rw[List.dropWhile_cons_of_neg (by simpa using h)]
theorem Rf {l:List UInt8} (h:∀c∈l,eg c) (hn:Jy l≠[]):i6 false (Jy l):=by
 refine⟨hn,fun c hc=>h c (List.dropWhile_sublist _ |>.subset hc), .inl fun c r e=>?_⟩;have:=List.head?_dropWhile_not (p:=(· == (48:UInt8))) (l:=l);unfold Jy at e;rw[e]at this
 simpa using this
def aQ (q:Rat):List AV:=aZ q.num++aZ q.den
def dQ (q:Rat):DV:= .agg (aQ q)
def Ab (na:Bool) (xs:List Nat) (nb:Bool) (ys:List Nat):List AV:=aI na xs++aI nb ys
def Gb (na:Bool) (xs:List Nat) (nb:Bool) (ys:List Nat):DV:= .agg (Ab na xs nb ys)
def iP:List AV:=[.val (.bool false), .sl 0 [], .val (.bool false), .sl 0 []]
def Jw:DV:= .agg iP
def Sz (k:Nat) (z:Int):Prop:=z.natAbs<4294967296^k
theorem Sz.fit {k:Nat} {z:Int} (h:Sz k z) (hk:k<=2147483648):cM z:= .of_lt h hk
theorem Sz.mono {j k:Nat} {z:Int} (h:Sz j z) (hk:j<=k):Sz k z:=Nat.lt_of_lt_of_le h (Nat.pow_le_pow_right (by decide) hk)
theorem Sz.of_le {k:Nat} {a b:Int} (h:Sz k b) (hl:a.natAbs<=b.natAbs):Sz k a:=Nat.lt_of_le_of_lt hl h
theorem Sz.mul {j k:Nat} {a b:Int} (h:Sz j a) (h':Sz k b):Sz (j+k) (a*b):=by
 unfold Sz at *;rw[Int.natAbs_mul,Nat.pow_add];exact Nat.mul_lt_mul'' h h'
theorem Sz.add {k:Nat} {a b:Int} (h:Sz k a) (h':Sz k b):Sz (k+1) (a+b):=by
 unfold Sz at *;have:=Int.natAbs_add_le a b;have:0<4294967296^k:=Nat.pow_pos (by decide)
 rw[Nat.pow_succ];omega
theorem Sz.neg {k:Nat} {a:Int} (h:Sz k a):Sz k (-a):=by unfold Sz at *;rw[Int.natAbs_neg];exact h
theorem Sz.small {z:Int} (h:z.natAbs<4294967296):Sz 1 z:=by unfold Sz;simpa using h
theorem Sz.i64 {z:Int} (h1: -9223372036854775808<=z) (h2:z<9223372036854775808):Sz 2 z:=by unfold Sz;omega
theorem Sz.gcd {k:Nat} {n d:Int} (h:Sz k d) (hd:d≠0):Sz k (Nat.gcd n.natAbs d.natAbs:Nat):=by
 refine h.of_le ?_;rw[Int.natAbs_natCast];exact Nat.le_of_dvd (by omega) (Nat.gcd_dvd_right _ _)
theorem Sz.digs {k:Nat} {z:Int} (h:Sz k z):(digs z.natAbs).length<=k:=aP h
theorem Sz.of_digs {k:Nat} {z:Int} (h:(Go.Proofs.YtnchbpoopnjghaaGreatDoor.digs z.natAbs).length<=k):Sz k z:=bP h
def dO (k:Nat) (q:Rat):Prop:=Sz k q.num/\Sz k q.den
theorem dO.mono {j k:Nat} {q:Rat} (h:dO j q) (hk:j<=k):dO k q:=⟨h.1.mono hk,h.2.mono hk⟩
theorem dO.divInt {k:Nat} {n d:Int} (h:Sz k n) (h':Sz k d) (hd:d≠0):dO k (Rat.divInt n d):=by
 obtain⟨_,_,h1,h2⟩:=zG (n:=n) (d:=d) hd;have hg:0<(gz n d).natAbs:=by have:=JD (n:=n) hd;omega
 refine⟨h.of_le ?_,h'.of_le ?_⟩
 ·conv=>rhs;rw[h1,Int.natAbs_mul]
  exact Nat.le_mul_of_pos_left _ hg
 ·conv=>rhs;rw[h2,Int.natAbs_mul]
  exact Nat.le_mul_of_pos_left _ hg
theorem dO.add {j k:Nat} {a b:Rat} (h:dO j a) (h':dO k b):dO (j+k+1) (a+b):=by
 rw[<- tj];refine .divInt ?_ ((h.2.mul h'.2).mono (by omega)) (by have:=Int.mul_pos (da a) (da b);omega);exact Sz.add (h.1.mul h'.2) ((h'.1.mul h.2).mono (by omega))
theorem dO.neg {k:Nat} {a:Rat} (h:dO k a):dO k (-a):=⟨by rw[Rat.neg_num];exact h.1.neg,h.2⟩
theorem dO.mul {j k:Nat} {a b:Rat} (h:dO j a) (h':dO k b):dO (j+k) (a*b):=by
 rw[<- qK];exact .divInt (h.1.mul h'.1) (h.2.mul h'.2) (by have:=Int.mul_pos (da a) (da b);omega)
theorem dO.div {j k:Nat} {a b:Rat} (h:dO j a) (h':dO k b) (hb:b≠0):dO (j+k) (a/b):=by
 rw[<- tf];have h0:b.num≠0:=fun e=>hb (Rat.num_eq_zero.1 e)
 refine .divInt (h.1.mul h'.2) (h.2.mul h'.1) ?_;exact Int.mul_ne_zero (by have:=da a;omega) h0
theorem mC {z:Int}:(!decide (z<0) && decide (digs z.natAbs=[1]))=decide (z=1):=by
 by_cases h:z=1
 ·subst h;rw[show(1:Int).natAbs=1 from rfl,Bn (by decide) (by decide)];rfl
 ·rw[decide_eq_false h]
  by_cases hn:z<0
  ·simp[hn]
  ·have:digs z.natAbs≠[1]:=fun e=>by
    have h1:=congrArg val e;rw[af]at h1
    simp[val]at h1
    omega
   simp[this]
theorem jr {z:Int}:decide (((digs z.natAbs).length:Int)=0)=decide (z=0):=by
 have:=aT (n:=z.natAbs)
 by_cases h:z=0
 ·subst h;rw[decide_eq_true rfl];exact decide_eq_true (by have:=this.2 rfl;omega)
 ·rw[decide_eq_false h];exact decide_eq_false (fun e=>h (by have:=this.1 (by omega);omega))
theorem zC:aa Tryz.prog 191 [] (.one (dZ 1)):=by
 refine kV func191 ?_;refine ae (dA 1 (by decide) (by decide)) rfl rfl rfl rfl rfl rfl rfl ?_;exact ap
theorem B8 {na:Bool} {xs:List Nat} {b:Bool} (hb:(!na && decide (xs=[1]))=b):aa Tryz.prog 189 [dI na xs] (.one (dB b)):=by
 subst hb;cases na
 ·match xs with
  | []=>
   refine kU func189 ?_;exact ap
  | [x]=>
   refine kV func189 ?_;refine aG (cs':=[AV.val (bR x)]) (i:=0) (Nat.lt_succ_self 0) (fun j a h=>by simpa using h) (Nat.lt_succ_self 0) rfl rfl rfl rfl rfl rfl rfl rfl ?_;refine kW ?_;rw[show(!false && decide ([x]=[1]))=decide ((x:Int)=1) by by_cases h:x=1<;>simp[h]<;>omega];exact bV (T:=TT) rfl rfl
  |x::y::r=>
   refine kU func189 ?_;refine kR ?_;refine kI ?_
   iterate 7 refine kO ?_
   refine kB false ?_ ?_
   ·exact decide_eq_false (by simp only[List.length_cons];omega)
   refine kW ?_;rw[show(!false && decide (x::y::r=[1]))=false by simp];exact bV (T:=TT) rfl rfl
 ·refine kU func189 ?_
  exact ap
theorem EG {na:Bool} {xs:List Nat} {b:Bool} (hb:(!na && decide (xs=[1]))=b):aa Tryz.prog 220 [dI na xs] (.one (dB b)):=by
 subst hb
 match xs with
 | []=>
  refine kV func220 ?_;rw[show(!na && decide (([]:List Nat)=[1]))=false by simp];exact bV (T:=TT) rfl rfl
 | [x]=>
  refine kV func220 ?_;refine aG (cs':=[AV.val (bR x)]) (i:=0) (Nat.lt_succ_self 0) (fun j a h=>by simpa using h) (Nat.lt_succ_self 0) rfl rfl rfl rfl rfl rfl rfl rfl ?_;refine kO ?_
  by_cases h:x=1
  ·refine kT ?_
   refine kW ?_;rw[show(!na && decide ([x]=[1]))=!na by simp[h]];exact bV (T:=TT) rfl rfl
  ·refine kE ?_
   refine kW ?_;rw[show(!na && decide ([x]=[1]))=false by simp[h]];exact bV (T:=TT) rfl rfl
 |x::y::r=>
  refine kU func220 ?_;refine Ok ?_;refine kB false ?_ ?_
  ·exact decide_eq_false (by simp only[List.length_cons];omega)
  refine kW ?_;rw[show(!na && decide (x::y::r=[1]))=false by simp];exact bV (T:=TT) rfl rfl
theorem bA {z:Int} {b:Bool} (hb:decide (z=1)=b):aa Tryz.prog 189 [dZ z] (.one (dB b)):=B8 (by rw[mC,hb])
theorem fv {z:Int} {b:Bool} (hb:decide (z=1)=b):aa Tryz.prog 220 [dZ z] (.one (dB b)):=EG (by rw[mC,hb])
theorem cU {z:Int} {b:Bool} (hb:decide (z=0)=b):aa Tryz.prog 298 [dZ z] (.one (dB b)):=by
 refine kV func298 ?_;rw[<- hb,<- jr];exact bV (T:=TT) rfl rfl
theorem nj {a b c:Int} (h1:cM a) (h2:cM b) (hb:b≠0) (h:a.fdiv b=c):aa Tryz.prog 261 [dZ a,dZ b] (.one (dZ c)):=by
 by_cases h1':b=1
 ·subst h1'
  rw[Int.fdiv_one]at h;subst h;refine kV func261 ?_;refine kC (bA (z:=1) (b:=true) rfl) ?_;exact ap
 ·refine kV func261 ?_;refine kQ (bA (z:=b) (b:=false) (decide_eq_false h1')) ?_;refine kC (wl h1 h2 hb h rfl) ?_;exact ap
theorem lc {a b c:Int} (h1:cM a) (h2:cM b) (hb:b≠0) (h:a.fdiv b=c):aa Tryz.prog 225 [dZ a,dZ b] (.one (dZ c)):=by
 refine kV func225 ?_;refine kC (tI h1 h2 hb h rfl) ?_;exact ap
theorem Rb {n d:Int} {g:Nat} (hg:Nat.gcd n.natAbs d.natAbs=g) (h:¬d<0):gz n d=g:=by unfold gz;rw[if_neg h,hg]
theorem Rp {n d:Int} {g:Nat} (hg:Nat.gcd n.natAbs d.natAbs=g) (h:d<0):gz n d= -(g:Int):=by unfold gz;rw[if_pos h,hg]
theorem fL {k:Nat} {n d:Int} {q:Rat} (h1:Sz k n) (h2:Sz k d) (hk:k<=2147483648) (hd:d≠0) (hq:Rat.divInt n d=q):aa Tryz.prog 193 [dZ n,dZ d] (.one (dQ q)):=by
 subst hq;obtain⟨e1,e2,_,_⟩:=zG (n:=n) hd;have hg0:=JD (n:=n) hd;have hsg:=h2.gcd (n:=n) hd;obtain⟨g,hg⟩:∃g,Nat.gcd n.natAbs d.natAbs=g:=⟨_,rfl⟩;rw[hg]at hsg
 by_cases h:d<0
 ·rw[Rp hg h]at e1 e2 hg0
  refine kV func193 ?_;refine kQ (lg (h1.fit hk) (h2.fit hk) hg) ?_;refine fD (T:=TT) rfl ?_ ?_
  ·exact decide_eq_true h
  refine kW ?_;refine kQ (uq (hsg.fit hk)) ?_;refine kQ (nj (h1.fit hk) (hsg.neg.fit hk) hg0 e1) ?_;refine kC (nj (h2.fit hk) (hsg.neg.fit hk) hg0 e2) ?_;exact ap
 ·rw[Rb hg h]at e1 e2 hg0
  refine kV func193 ?_;refine kQ (lg (h1.fit hk) (h2.fit hk) hg) ?_;refine gU (T:=TT) rfl ?_ ?_
  ·exact decide_eq_false h
  refine kW ?_;refine kQ (nj (h1.fit hk) (hsg.fit hk) hg0 e1) ?_;refine kC (nj (h2.fit hk) (hsg.fit hk) hg0 e2) ?_;exact ap
theorem Sz.of_val {na:Bool} {xs:List Nat} {n:Int} {k:Nat} (hw:Wd xs) (h:xs.length<=k) (hn:bC na xs=n):Sz k n:=by
 rw[<- hn];unfold Sz;rw[eB];exact Nat.lt_of_lt_of_le (eP hw) (Nat.pow_le_pow_right (by decide) h)
theorem Fa {na nb:Bool} {xs ys:List Nat} {n d:Int} {q:Rat} (hw:Wd xs) (hw':Wd ys) (h1:xs.length<=1000) (h2:ys.length<=1000) (hn:bC na xs=n) (hd:bC nb ys=d) (h0:d≠0) (hq:Rat.divInt n d=q):aa Tryz.prog 297 [dI na xs,dI nb ys] (.tup [dQ q,dN .i64 0]):=by
 have s1:Sz 1000 n:=Sz.of_val hw h1 hn;have s2:Sz 1000 d:=Sz.of_val hw' h2 hd;refine PO ?_;refine kQ (cU (decide_eq_false h0)) ?_;refine ae (fL s1 s2 (by decide) h0 hq) rfl rfl rfl rfl rfl rfl rfl ?_;exact ap
theorem Ay {na nb:Bool} {xs ys:List Nat} {n d:Int} (hw:Wd xs) (hw':Wd ys) (h1:xs.length<=1000) (h2:ys.length<=1000) (hn:bC na xs=n) (hd:bC nb ys=d) (h0:d=0):aa Tryz.prog 297 [dI na xs,dI nb ys] (.tup [Jw,dN .i64 6]):=by
 refine PO ?_;refine kC (cU (decide_eq_true h0)) ?_;exact ap
theorem A7 {n d:Int} {q:Rat} (h1:Sz 1000 n) (h2:Sz 1000 d) (h0:d≠0) (hq:Rat.divInt n d=q):aa Tryz.prog 297 [dZ n,dZ d] (.tup [dQ q,dN .i64 0]):=
 Fa (ac _) (ac _) h1.digs h2.digs (aU n) (aU d) h0 hq
theorem js (k:Int) (h1: -9223372036854775808<=k) (h2:k<9223372036854775808) {q:Rat} (hq:(k:Rat)=q):aa Tryz.prog 135 [dN .i64 k] (.one (dQ q)):=by
 subst hq;refine kV func135 ?_;refine kC (dA k h1 h2) ?_;exact si
theorem ij (k:Int) (h1: -9223372036854775808<=k) (h2:k<9223372036854775808) {q:Rat} (hq:(k:Rat)=q):aa Tryz.prog 36 [dN .i64 k] (.one (dQ q)):=by
 subst hq;refine kV func36 ?_;refine kQ (fE k h1 h2) ?_;refine ae (fE 1 (by decide) (by decide)) rfl rfl rfl rfl rfl rfl rfl ?_;exact ap
theorem vI (n:Int):Rat.divInt n 0=((0:Int):Rat):=by simp
theorem iH (n d:Int) (h1: -9223372036854775808<=n) (h2:n<9223372036854775808) (h3: -9223372036854775808<=d) (h4:d<9223372036854775808) {q:Rat} (hq:Rat.divInt n d=q):aa Tryz.prog 253 [dN .i64 n,dN .i64 d] (.one (dQ q)):=by
 by_cases h0:d=0
 ·refine G7 ?_
  refine ae (Ay (na:=decide (n<0)) (nb:=decide (d<0)) (ac _) (ac _) ((Sz.i64 h1 h2).mono (k:=1000) (by decide)).digs ((Sz.i64 h3 h4).mono (k:=1000) (by decide)).digs (aU n) (aU d) h0) rfl rfl rfl rfl rfl rfl rfl ?_;refine kW ?_;refine ae (js 0 (by decide) (by decide) (q:=q) (by subst h0;rw[<- vI n];exact hq)) rfl rfl rfl rfl rfl rfl rfl ?_;exact ap
 ·refine G7 ?_
  refine ae (A7 ((Sz.i64 h1 h2).mono (by decide)) ((Sz.i64 h3 h4).mono (by decide)) h0 hq) rfl rfl rfl rfl rfl rfl rfl ?_;exact ap
theorem zj {k:Nat} {a q:Rat} (h:dO k a) (hk:k<=2147483648) (hq: -a=q):aa Tryz.prog 254 [dQ a] (.one (dQ q)):=by
 subst hq;refine kV func254 ?_;refine kC (uq (h.1.fit hk)) ?_;exact ap
theorem nP (a:Rat):aa Tryz.prog 97 [dQ a] (.one (dN .i64 (KQ a))):=by
 refine kV func97 ?_;refine kC (Av a.num) ?_;exact ap
theorem sH (a:Rat):aa Tryz.prog 58 [dQ a] (.one (dN .i64 (KQ a))):=by
 refine kV func58 ?_;refine kC (jV a.num) ?_;exact ap
theorem zg {q:Rat} {n d:Int} (h1:q.num=n) (h2:(q.den:Int)=d):dQ q= .agg (aZ n++aZ d):=by unfold dQ aQ;rw[h1,h2]
theorem Kt (a:Rat):decide ((a.den:Int)=1)=decide (a.den=1):=by by_cases h:a.den=1<;>simp[h]<;>omega
theorem uG {a:Rat} (h:a.den=1):decide ((a.den:Int)=1)=true:=by rw[Kt];exact decide_eq_true h
theorem vb {a:Rat} (h:¬a.den=1):decide ((a.den:Int)=1)=false:=by rw[Kt];exact decide_eq_false h
theorem PA {z:Int} (h:z=0):decide (((digs z.natAbs).length:Int)=0)=true:=jr.trans (decide_eq_true h)
theorem I6 {z:Int} (h:¬z=0):decide (((digs z.natAbs).length:Int)=0)=false:=jr.trans (decide_eq_false h)
theorem r8 (a:Int) (g:Nat):a.fdiv g=a/g:=Int.fdiv_eq_ediv_of_nonneg _ (by omega)
theorem D6 (a g:Nat):(a:Int).fdiv g=((a/g:Nat):Int):=by rw[r8];rfl
theorem m4 {j k:Nat} {a b q:Rat} (h:dO j a) (h':dO k b) (hk:j+k+1<=2147483648) (hq:a+b=q):aa Tryz.prog 134 [dQ a,dQ b] (.one (dQ q)):=by
 subst hq;have d0:(a.den:Int)*b.den≠0:=by have:=Int.mul_pos (da a) (da b);omega
 by_cases ha:a.den=1
 ·by_cases hb:b.den=1
  ·rw[zg (Eh ha hb).1 (d:=1) (by rw[(Eh ha hb).2];rfl)]
   refine kU func134 ?_;refine OJ ?_;refine kQ (bA (uG hb)) ?_;refine ae (oe (h.1.fit (by omega)) (h'.1.fit (by omega))) rfl rfl rfl rfl rfl rfl rfl ?_;exact si
  ·refine kU func134 ?_
   refine OJ ?_;refine kC (bA (vb hb)) ?_;refine Ud ?_;exact ap
 ·refine kV func134 ?_;refine kC (bA (vb ha)) ?_;refine Ud ?_;exact ap
theorem q7 {j k:Nat} {a b q:Rat} (h:dO j a) (h':dO k b) (hk:j+k<=2147483648) (hq:a*b=q):aa Tryz.prog 176 [dQ a,dQ b] (.one (dQ q)):=by
 subst hq;have d0:(a.den:Int)*b.den≠0:=by have:=Int.mul_pos (da a) (da b);omega
 by_cases ha:a.den=1
 ·by_cases hb:b.den=1
  ·rw[zg (m9 ha hb).1 (d:=1) (by rw[(m9 ha hb).2];rfl)]
   refine kU func176 ?_;refine OJ ?_;refine kQ (bA (uG hb)) ?_;refine ae (dl (h.1.fit (by omega)) (h'.1.fit (by omega))) rfl rfl rfl rfl rfl rfl rfl ?_;exact si
  ·refine kU func176 ?_
   refine OJ ?_;refine kC (bA (vb hb)) ?_;refine zh ?_;exact ap
 ·refine kV func176 ?_;refine kC (bA (vb ha)) ?_;refine zh ?_;exact ap
theorem zc {j k:Nat} {a b q:Rat} (h:dO j a) (h':dO k b) (hk:j+k<=2147483648) (hb:b≠0) (hq:a/b=q):aa Tryz.prog 256 [dQ a,dQ b] (.tup [dQ q,dN .i64 0]):=by
 subst hq;have h0:b.num≠0:=fun e=>hb (Rat.num_eq_zero.1 e)
 refine kV func256 ?_;refine kQ (cU (decide_eq_false h0)) ?_;refine ae (dl (h.1.fit (by omega)) (h'.2.fit (by omega))) rfl rfl rfl rfl rfl rfl rfl ?_;refine kW ?_;refine ae (dl (h.2.fit (by omega)) (h'.1.fit (by omega))) rfl rfl rfl rfl rfl rfl rfl ?_;refine kW ?_;refine ae (fL (h.1.mul h'.2) (h.2.mul h'.1) hk (Int.mul_ne_zero (by have:=da a;omega) h0) (tf a b)) rfl rfl rfl rfl rfl rfl rfl ?_;exact ap
theorem Es {a b:Rat} (hb:b=0):aa Tryz.prog 256 [dQ a,dQ b] (.tup [Jw,dN .i64 6]):=by
 refine kV func256 ?_;refine kC (cU (decide_eq_true (Rat.num_eq_zero.2 hb))) ?_;exact ap
theorem FF {j k:Nat} {a b q:Rat} (h:dO j a) (h':dO k b) (hk:j+k<=2147483648) (hq:a*b=q):aa Tryz.prog 158 [dQ a,dQ b] (.one (dQ q)):=by
 subst hq
 by_cases ha0:a.num=0
 ·have e:a*b=0:=by rw[Rat.num_eq_zero.1 ha0];exact Rat.zero_mul b
  refine kU func158 ?_;refine mH ?_;refine kB true ?_ ?_
  ·exact PA ha0
  exact Ob
 by_cases hb0:b.num=0
 ·have e:a*b=0:=by rw[Rat.num_eq_zero.1 hb0];exact Rat.mul_zero a
  refine jZ ?_;refine kB true ?_ ?_
  ·exact PA hb0
  exact Ob
 by_cases hab:a.den=1/\b.den=1
 ·rw[zg (m9 hab.1 hab.2).1 (d:=a.den) (by rw[(m9 hab.1 hab.2).2,hab.1])]
  refine jZ ?_;refine kB false ?_ ?_
  ·exact I6 hb0
  refine kW ?_;refine kQ (fv (uG hab.1)) ?_;refine kQ (fv (uG hab.2)) ?_;refine ae (jn (h.1.fit (by omega)) (h'.1.fit (by omega))) rfl rfl rfl rfl rfl rfl rfl ?_;exact ap
 have e:=Mp a b;obtain⟨g,hg⟩:∃g,Nat.gcd a.num.natAbs b.den=g:=⟨_,rfl⟩;obtain⟨t,ht⟩:∃t,Nat.gcd b.num.natAbs a.den=t:=⟨_,rfl⟩;rw[hg,ht]at e;have hgz:Nat.gcd a.num.natAbs (b.den:Int).natAbs=g:=by rw[Int.natAbs_natCast];exact hg
 have htz:Nat.gcd b.num.natAbs (a.den:Int).natAbs=t:=by rw[Int.natAbs_natCast];exact ht
 have hg0:0<g:=by rw[<- hg];exact Nat.gcd_pos_of_pos_right _ (Nat.pos_of_ne_zero b.den_nz)
 have ht0:0<t:=by rw[<- ht];exact Nat.gcd_pos_of_pos_right _ (Nat.pos_of_ne_zero a.den_nz)
 have sg:Sz k g:=by rw[<- hgz];exact h'.2.gcd (by have:=da b;omega)
 have st:Sz j t:=by rw[<- htz];exact h.2.gcd (by have:=da a;omega)
 have s1:Sz j (a.num/g):=h.1.of_le (Int.natAbs_ediv_le_natAbs _ _);have s2:Sz k (b.num/t):=h'.1.of_le (Int.natAbs_ediv_le_natAbs _ _);have s3:Sz j (a.den/t:Nat):=h.2.of_le (by rw[Int.natAbs_natCast,Int.natAbs_natCast];exact Nat.div_le_self _ _);have s4:Sz k (b.den/g:Nat):=h'.2.of_le (by rw[Int.natAbs_natCast,Int.natAbs_natCast];exact Nat.div_le_self _ _);rw[zg e.1 (d:=(a.den/t:Nat)*(b.den/g:Nat)) (by rw[e.2];rfl)];refine jZ ?_;refine kB false ?_ ?_
 ·exact I6 hb0
 refine kW ?_
 by_cases ha:a.den=1
 ·have hb:¬b.den=1:=fun e=>hab ⟨ha,e⟩
  refine kQ (fv (uG ha)) ?_;refine kC (fv (vb hb)) ?_;refine T4 ?_;exact ap
 ·refine kC (fv (vb ha)) ?_
  refine T4 ?_;exact ap
end Go.Proofs.YtnchbpoopnjghaaGreatDoor
