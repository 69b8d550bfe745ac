/- Parts of a proof: contracts of the functions that the laws reach. -/
import Derived.Test.YtnchbpoopnjghaaGreatDoorHZ9
set_option maxHeartbeats 100000000
set_option linter.all false
open Go.Proofs.Tryz
namespace Go.Proofs.YtnchbpoopnjghaaGreatDoor
open Go.RowKit
theorem oL {na nb:Bool} {xs ys:List Nat} (hl:xs.length<=2147483648) (hl':ys.length<=2147483648):aa Tryz.prog 24 [Gb na xs nb ys,Gb na xs nb ys] (.one (dB true)):=by
 have c1:aa Tryz.prog 59 [dI na xs,dI na xs] (.one (dB true)):=fH hl (j0 rfl);have c2:aa Tryz.prog 59 [dI nb ys,dI nb ys] (.one (dB true)):=fH hl' (j0 rfl);refine kU func24 ?_;refine io ?_;refine kC (c2) ?_;exact ap
inductive KT:Rx->Prop
 |mk {op:Int} {na:Bool} {xs:List Nat} {nb:Bool} {ys:List Nat} {nm:List UInt8} {args:List Rx}:xs.length<=2147483648->ys.length<=2147483648->args.length<=1000000->(∀x∈args,KT x)->KT (.mk op na xs nb ys nm args)
theorem f4.lw:∀(e:Ex),f4 e->KT (rx e)
 | .num v u,h=> .mk (Nat.le_trans h.2.1.1.digs (by decide)) (Nat.le_trans h.2.1.2.digs (by decide)) (by simp) (fun x hx=>by cases hx)
 | .nam s,h=> .mk (by simp) (by simp) (by simp) (fun x hx=>by cases hx)
 | .neg a,h=> .mk (by simp) (by simp) (by simp) (fun x hx=>by cases List.mem_singleton.1 hx;exact f4.lw a h)
 | .bin k a b,h=> .mk (by simp) (by simp) (by simp) (fun x hx=>by
  rcases List.mem_cons.1 hx with rfl|hx
  ·exact f4.lw a h.1
  ·cases List.mem_singleton.1 hx;exact f4.lw b h.2)
theorem tV:∀(x:Rx),KT x->aa Tryz.prog 70 [dR x,dR x] (.one (dB true)):=by
 refine ef fun op na xs nb ys nm args ih hx=>?_
 obtain⟨h1,h2,h3,h4⟩:=hx;have cs:=oL (na:=na) (nb:=nb) h1 h2;show aa Tryz.prog _ [.agg (ab op na xs nb ys nm args.length (dY args)), .agg (ab op na xs nb ys nm args.length (dY args))] _;refine kU func70 ?_;refine mH ?_;refine kB false ?_ ?_
 ·exact(by simp)
 refine kO5 ?_
 refine aq rfl rfl rfl rfl rfl rfl rfl (gx (a:=nm) (b:=nm) rfl) ?_
 iterate 8 refine kO ?_
 refine kB false ?_ ?_
 ·exact(by simp)
 iterate 6 refine kO ?_
 refine kQ (cs) ?_
 refine ay Nat (fun i=>i<=args.length) (fun i=>⟨[(2, .box 0 0),(3, .box 1 0),(4, .d (dB false)),(5, .d (dN .i64 i))],[(0,some (ab op na xs nb ys nm args.length (dY args))),(1,some (ab op na xs nb ys nm args.length (dY args)))]⟩) (fun i=>args.length-i) 0 (Nat.zero_le _)
  kw ?_
 intro i hi;refine kI ?_
 refine kO4 ?_
 by_cases hlt:i<args.length
 ·refine kT ?_
  obtain⟨o1,na1,xs1,nb1,ys1,nm1,n1,cs1,hA⟩:=aM args[i];have hx:args[i]? =some args[i]:=by simp[hlt]
  have hat:∀(j:Nat) (a:AV),(ab o1 na1 xs1 nb1 ys1 nm1 n1 cs1)[j]? =some a->(dY args)[i*7+j]? =some a:=fun j a h=>dP args i args[i] hx j a (by rw[hA];exact h)
  have c:=ih args[i] (List.getElem_mem hlt) (h4 _ (List.getElem_mem hlt));rw[show dR args[i]= .agg (ab o1 na1 xs1 nb1 ys1 nm1 n1 cs1) from congrArg DV.agg hA]at c;refine KL ?_;refine GL ?_;refine kW ?_;exact⟨i+1,hlt,by omega,weak ⟨rfl,rfl,rfl,an (by omega) (by omega),trivial⟩ ⟨rfl,rfl,trivial⟩ rfl⟩
 ·refine kE ?_
  exact ap
theorem Sl:fmt 2=[50]:=by
 unfold fmt;rw[if_neg (by decide),if_neg (by decide)];show []++i8 2=_;rw[de (by decide)];show []++(i8 0++[dg 2])=_;rw[cH];rfl
theorem Vd:fmt 1=[49]:=by
 unfold fmt;rw[if_neg (by decide),if_neg (by decide)];show []++i8 1=_;rw[de (by decide)];show []++(i8 0++[dg 1])=_;rw[cH];rfl
theorem VL:fg ((2:Int):Rat)=some [50]:=by
 unfold fg;rw[if_neg (by decide),lr,if_pos (by rfl),show(pw ((2:Int):Rat) 0).num=2 from rfl,Sl];rfl
theorem Ar (q:Rat):∀k,pw q k=q*(((10^k:Nat):Int):Rat)
 |0=>by simp[pw]
 |k+1=>by
  have e:(((10^(k+1):Nat):Int):Rat)=(((10^k:Nat):Int):Rat)*((10:Int):Rat):=by
   rw[<- Rat.intCast_mul];congr 1
  rw[pw,Ar q k,e,Rat.mul_assoc]
theorem M6 {q:Rat} {k:Nat} (h:((pw q k).den:Int)=1):Rat.divInt (pw q k).num ((10^k:Nat):Int)=q:=by
 have h1:((pw q k).num:Rat)=pw q k:=by
  have hd:(pw q k).den=1:=by omega
  have:=Rat.num_divInt_den (pw q k);rw[hd]at this;rw[<- this];exact(Rat.num_divInt_den (((pw q k).num:Int):Rat)).symm ▸ rfl
 have hp:(((10^k:Nat):Int):Rat)≠0:=by
  intro h;have:=Rat.intCast_eq_zero_iff.1 h;have hp:=Nat.pow_pos (n:=k) (show 0<10 by decide);omega
 rw[Rat.divInt_eq_div,h1,Ar,Rat.div_def,Rat.mul_assoc,Rat.mul_inv_cancel _ hp,Rat.mul_one]
def Rz (t:List UInt8):Prop:=∃a,i6 false a/\(t=a∨ ∃b,b≠[]/\(∀x∈b,eg x)/\t=a++46::b)
theorem jf {q:Rat} {t:List UInt8} (h:fg q=some t):Rz t/\t.length<=40/\gJ t=some q:=by
 have hs:¬KQ q<0:=fun hn=>by rw[fg,if_pos hn]at h;cases h
 obtain⟨K,hK,_,hc⟩:=lT hs;rcases hc with⟨_,hc⟩| ⟨hK,hd,hc⟩
 ·rw[hc]at h;cases h
 rw[hc]at h
 split at h
 ·rename_i hlen
  cases h;have hq:=M6 hd
  have hpos:0<=(pw q K).num:=by
   have h0:0<=q.num:=by
    have:=Int.sign_nonneg_iff (x:=q.num);unfold KQ at hs;omega
   have:(0:Rat)<=pw q K:=by
    rw[Ar];exact Rat.mul_nonneg (Rat.num_nonneg.1 h0) (Rat.intCast_nonneg.2 (Int.natCast_nonneg _))
   exact Rat.num_nonneg.2 this
  obtain⟨N,hN⟩:=Int.eq_ofNat_of_zero_le hpos;rw[hN]at hq hlen ⊢;rw[qe]at hlen ⊢;have hu:=mN N;have hok:=Ee N;have hnum:=zq N
  have hhd:1<(i7 N).length-> ∀c r,i7 N=c::r->c≠48:=fun hl=>by
   rcases hok.2.2 with h|h
   ·exact h
   ·omega
  generalize i7 N=u at *;have hne:0<u.length:=List.length_pos_iff.2 hok.1
  have hpl:=yY K u
  have hpD:∀c∈du K u,eg c:=fun c hc=>by
   unfold du at hc;rcases List.mem_append.1 hc with hc|hc
   ·rw[List.eq_of_mem_replicate hc];decide
   ·exact hu c hc
  have hpn:num (du K u)=N:=by rw[du,F2,hnum]
  by_cases h0:0<K
  ·have hsp:=List.take_append_drop ((du K u).length-K) (du K u)
   have hph:K+1<u.length->du K u=u:=fun hl=>by
    unfold du;rw[show K+1-u.length=0 by omega];rfl
   rw[jc,if_pos h0]at hlen ⊢;have hal:((du K u).take ((du K u).length-K)).length=(du K u).length-K:=by rw[List.length_take];omega
   have hbl:((du K u).drop ((du K u).length-K)).length=K:=by rw[List.length_drop];omega
   have haD:∀c∈(du K u).take ((du K u).length-K),eg c:=fun c hc=>hpD c (List.mem_of_mem_take hc)
   have hbD:∀c∈(du K u).drop ((du K u).length-K),eg c:=fun c hc=>hpD c (List.mem_of_mem_drop hc)
   have hah:∀c r,(du K u).take ((du K u).length-K)=c::r->1<(du K u).length-K->c≠48:=fun c r e hl=>by
    rw[hph (by omega)]at e hl hpl;cases hc:u with
    |nil=>rw[hc]at hne;simp at hne
    |cons x y=>
     have:=hhd (by omega) x y hc;rw[hc]at e;obtain⟨m,hm⟩:∃m,(x::y).length-K=m+1:=⟨(x::y).length-K-1,by rw[<- hc];omega⟩;rw[hm,List.take_succ_cons]at e;cases e;exact this
   have hsum:num ((du K u).take ((du K u).length-K))*10^K+num ((du K u).drop ((du K u).length-K))=N:=by
    rw[<- hpn]
    conv=>rhs;rw[<- hsp]
    rw[ri,hbl]
   generalize(du K u).take ((du K u).length-K)=a at *;generalize(du K u).drop ((du K u).length-K)=b at *;rw[List.append_assoc,List.singleton_append]at hlen ⊢
   have hoa:i6 false a:=⟨fun e=>by rw[e]at hal;simp at hal;omega,haD,by
    by_cases h1:1<(du K u).length-K
    ·exact .inl fun c r e=>hah c r e h1
    ·exact .inr ⟨by omega,rfl⟩⟩
   have hb0:b≠[]:=fun e=>by rw[e]at hbl;simp at hbl;omega
   refine⟨⟨a,hoa, .inr ⟨b,hb0,hbD,rfl⟩⟩,hlen,?_⟩
   have hhd:∀c r,a++46::b=c::r->eg c:=fun c r e=>by
    cases a with
    |nil=>exact absurd rfl hoa.1
    |cons x y=>cases e;exact haD _ (by simp)
   have hp:=AF (b:=false) hhd
   simp only[Bool.false_eq_true,if_false,List.nil_append]at hp
   have hpq:jt (a++46::b)=some q:=by
    rw[D1 (fun hm=>?_) (fun hm=>Qj (haD _ hm)),if_pos ⟨hoa,hb0,hbD⟩,hbl,hsum]
    ·rw[show((N:Nat):Int)=(N:Int) from rfl,hq]
    ·rcases List.mem_append.1 hm with hm|hm
     ·exact G6 (haD _ hm)
     ·rcases List.mem_cons.1 hm with hm|hm
      ·exact absurd hm (by decide)
      ·exact G6 (hbD _ hm)
   unfold gJ;rw[if_pos (by omega),hp.1,hp.2,hpq];rfl
  ·obtain rfl:K=0:=by omega
   have ht:jc 0 u=u:=by
    rw[jc,if_neg h0,du,show 0+1-u.length=0 by omega];rfl
   rw[ht]at hlen ⊢;refine⟨⟨u,hok, .inl rfl⟩,hlen,?_⟩;have hhd:∀c r,u=c::r->eg c:=fun c r e=>hu c (by rw[e];simp)
   have hp:=AF (b:=false) hhd
   simp only[Bool.false_eq_true,if_false,List.nil_append]at hp
   have hpq:jt u=some q:=by
    rw[zV (fun hm=>G6 (hu _ hm)) (fun hm=>Qj (hu _ hm)),if_pos hok,hnum]
    congr 1
    rw[<- hq];exact(Rat.num_divInt_den ((N:Int):Rat)).symm
   unfold gJ;rw[if_pos (by omega),hp.1,hp.2,hpq];rfl
 ·cases h
def KO (r:List UInt8):Prop:=∀c r',r=c::r'->c=32∨c=41
theorem li {p:UInt8->Bool} {a r:List UInt8} (ha:∀c∈a,p c=true) (hr:∀c r',r=c::r'->p c=false):bQ p (a++r)=a.length:=by
 unfold bQ;rw[List.takeWhile_append_of_pos ha];cases r with
 |nil=>simp
 |cons c r=>rw[List.takeWhile_cons,hr c r rfl];simp
theorem uE {p:UInt8->Bool} {s:List UInt8} (h:bQ p s=s.length):∀c∈s,p c=true:=by
 induction s with
 |nil=>intro c hc;cases hc
 |cons a s ih=>
  unfold bQ at h ih;rw[List.takeWhile_cons]at h
  split at h
  ·rename_i hp
   intro c hc;rcases List.mem_cons.1 hc with rfl|hc
   ·exact hp
   ·exact ih (by simpa using h) c hc
  ·simp at h
theorem Rq {r:List UInt8} (h:KO r):∀c r',r=c::r'->ir c=false:=fun c r' e=>by
 rcases h c r' e with rfl|rfl <;>rfl
theorem Bk {s r:List UInt8} (h:kh s=true) (hr:KO r):ln (s++r)=(1,s.length)/\s.length<=24:=by
 cases s with
 |nil=>cases h
 |cons c s=>
  simp only[kh,Bool.and_eq_true,decide_eq_true_eq]at h
  obtain⟨h1,h2,h3⟩:=h;refine⟨?_,h1⟩;rw[List.cons_append,ln,if_pos h2,<- List.cons_append,li (uE h3) (Rq hr)]
theorem mS {c:UInt8}:dt c=true↔eg c:=by
 unfold dt eg
 simp
theorem KW {c:UInt8} (h:eg c):dH c=false:=by
 unfold eg at h;unfold dH
 simp
 omega
theorem Nd {t r:List UInt8} (h:Rz t) (hr:KO r):xd (t++r)=t.length:=by
 obtain⟨a,ha,h⟩:=h;have hda:∀c∈a,dt c=true:=fun c hc=>mS.2 (ha.2.1 c hc)
 have hdr:∀c r',r=c::r'->dt c=false:=fun c r' e=>by rcases hr c r' e with rfl|rfl <;>rfl
 rcases h with rfl| ⟨b,hb,hbD,rfl⟩
 ·have e:=li hda hdr
  unfold xd;rw[e,if_neg];rintro⟨h1,_⟩;rw[List.getElem?_append_right (Nat.le_refl _),Nat.sub_self]at h1;cases r with
  |nil=>cases h1
  |cons c r=>
   cases h1;rcases hr 46 r rfl with h|h<;>exact absurd h (by decide)
 ·have e:bQ dt (a++46::b++r)=a.length:=by
   rw[List.append_assoc];exact li hda (fun c r' e=>by cases e;rfl)
  have e2:(a++46::b++r).drop (a.length+1)=b++r:=by
   rw[List.append_assoc,List.drop_append]
   simp
  have e3:bQ dt (b++r)=b.length:=li (fun c hc=>mS.2 (hbD c hc)) hdr
  have e4:(a++46::b++r)[a.length]? =some 46:=by
   rw[List.append_assoc,List.getElem?_append_right (Nat.le_refl _),Nat.sub_self];rfl
  unfold xd;rw[e,e2,e3,e4,if_pos ⟨rfl,List.length_pos_iff.2 hb⟩]
  simp
  omega
theorem Rz.head {t:List UInt8} (h:Rz t):∃c r,t=c::r/\eg c:=by
 obtain⟨a,ha,h⟩:=h;cases a with
 |nil=>exact absurd rfl ha.1
 |cons c a=>
  have hc:=ha.2.1 c (by simp);rcases h with rfl| ⟨b,_,_,rfl⟩
  ·exact⟨c,a,rfl,hc⟩
  ·exact⟨c,a++46::b,rfl,hc⟩
theorem Q1 {t r:List UInt8} (h:Rz t) (hr:KO r):ln (t++r)=(2,t.length):=by
 have hn:=Nd h hr;obtain⟨c,s,rfl,hc⟩:=h.head;rw[List.cons_append]at hn ⊢;rw[ln,KW hc,mS.2 hc,hn];rfl
def Lu (c:UInt8):Bool:=c == 40 || c == 41 || c == 43 || c == 45 || c == 42 || c == 47
theorem Ql {c:UInt8} (r:List UInt8) (h:Lu c=true):ln (c::r)=(4,1):=by
 simp only[Lu,Bool.or_eq_true,beq_iff_eq]at h
 have key:∀c:UInt8,dH c=false->dt c=false->c≠34->c≠10->MZ c=true->ln (c::r)=(4,1):=fun c h1 h2 h3 h4 h5=>by
  simp[ln,h1,h2,h3,h4,h5]
 rcases h with((((rfl|rfl)|rfl)|rfl)|rfl)|rfl <;>exact key _ (by decide) (by decide) (by decide) (by decide) (by decide)
def TR (r:List UInt8) (p:Nat) (T:List Tk) (r':List UInt8) (p':Nat):Prop:=∀f acc,r.length<f-> ∃f',r'.length<f'/\iU f r p acc=iU f' r' p' (acc++T)
theorem TR.trans {r r' r2:List UInt8} {p p' p2:Nat} {T T':List Tk} (h:TR r p T r' p') (h':TR r' p' T' r2 p2):TR r p (T++T') r2 p2:=fun f acc hf=>by
 obtain⟨f1,h1,e1⟩:=h f acc hf;obtain⟨f2,h2,e2⟩:=h' f1 (acc++T) h1;exact⟨f2,h2,by rw[e1,e2,List.append_assoc]⟩
theorem TR.sp (r:List UInt8) (p:Nat):TR (32::r) p [] r (p+1):=fun f acc h=>by
 obtain⟨f,rfl⟩:∃k,f=k+1:=⟨f-1,by omega⟩;exact⟨f,by simp at h;omega,by rw[iU,if_pos (.inl rfl),List.append_nil]⟩
theorem TR.one {x r:List UInt8} {k:Nat} (p:Nat) (h:ln (x++r)=(k,x.length)) (h0:∃c y,x=c::y/\ ¬(c=32∨c=9)) (hk:k=1->x.length<=24):TR (x++r) p [(k,x,p)] r (p+x.length):=fun f acc hf=>by
 obtain⟨c,y,rfl,hc⟩:=h0;obtain⟨f,rfl⟩:∃k,f=k+1:=⟨f-1,by omega⟩;refine⟨f,by simp at hf;omega,?_⟩;rw[List.cons_append,iU,if_neg hc,<- List.cons_append,h];dsimp only;rw[if_neg (by simp),if_neg (fun h=>by have:=hk h.1;omega),List.drop_left,List.take_left]
theorem TR.sy {c:UInt8} (r:List UInt8) (p:Nat) (h:Lu c=true):TR (c::r) p [(4,[c],p)] r (p+1):=by
 refine TR.one (x:=[c]) p (Ql r h) ⟨c,[],rfl,?_⟩ (fun h=>by cases h);rintro(rfl|rfl)<;>cases h
theorem TR.nm {s r:List UInt8} (p:Nat) (h:kh s=true) (hr:KO r):TR (s++r) p [(1,s,p)] r (p+s.length):=by
 obtain⟨h1,h2⟩:=Bk h hr;refine TR.one p h1 ?_ (fun _=>h2);cases s with
 |nil=>cases h
 |cons c s=>
  simp only[kh,Bool.and_eq_true,decide_eq_true_eq]at h
  exact⟨c,s,rfl,by rintro(rfl|rfl)<;>exact absurd h.2.1 (by decide)⟩
theorem TR.dc {t r:List UInt8} (p:Nat) (h:Rz t) (hr:KO r):TR (t++r) p [(2,t,p)] r (p+t.length):=by
 refine TR.one p (Q1 h hr) ?_ (fun h=>by cases h);obtain⟨c,s,rfl,hc⟩:=h.head;exact⟨c,s,rfl,by rintro(rfl|rfl)<;>exact absurd hc (by decide)⟩
def Fn (T:List Tk) (p p':Nat):Prop:=∀t∈T,t.1≠0/\(t.1=4-> ∃c,t.2.1=[c])/\t.2.1.length<=500/\p<=t.2.2/\t.2.2<p'
theorem Fn.app {T T':List Tk} {p p1 p2 p':Nat} (h:Fn T p p1) (h':Fn T' p2 p') (h1:p1<=p') (h2:p<=p2):Fn (T++T') p p':=fun t ht=>by
 rcases List.mem_append.1 ht with ht|ht
 ·obtain⟨a,b,c,d,e⟩:=h t ht;exact⟨a,b,c,d,by omega⟩
 ·obtain⟨a,b,c,d,e⟩:=h' t ht;exact⟨a,b,c,by omega,e⟩
theorem Fn.one {k p p' q:Nat} {x:List UInt8} (h0:k≠0) (h4:k=4-> ∃c,x=[c]) (hx:x.length<=500) (h1:p<=q) (h2:q<p'):Fn [(k,x,q)] p p':=fun t ht=>by
 cases List.mem_singleton.1 ht;exact⟨h0,h4,hx,h1,h2⟩
def PP (m:Md) (ts:List Tk) (x:lN):Prop:=∃f,pP f m ts=some x
def UO (r:List Tk):Prop:=∀t u,r=t::u->t.1≠1
def VH (r:List Tk):Prop:=fT true r=none
def S3 (e:Ex) (T:List Tk):Prop:=∀r,UO r->PP .un (T++r) (.ok (e,r))
def S2 (e:Ex) (T:List Tk):Prop:=∀r x,UO r->PP (.more true e) r x->PP .prod (T++r) x
def S1 (e:Ex) (T:List Tk):Prop:=∀r x,UO r->VH r->PP (.more false e) r x->PP .sum (T++r) x
theorem S3.s2 {e:Ex} {T:List Tk} (h:S3 e T):S2 e T:=fun r x h1 ⟨f,hf⟩=>by
 obtain⟨g,hg⟩:=h r h1;exact⟨max f g+1,by rw[gZ,jP (Nat.le_max_right f g) hg];exact jP (Nat.le_max_left f g) hf⟩
theorem mz {two:Bool} {e:Ex} {r:List Tk} (h:fT two r=none):PP (.more two e) r (.ok (e,r)):=⟨1,by rw[eW,h]⟩
theorem S2.s1 {e:Ex} {T:List Tk} (h:S2 e T):S1 e T:=fun r x h1 h2 ⟨f,hf⟩=>by
 obtain⟨g,hg⟩:=h r _ h1 (mz h2);exact⟨max f g+1,by rw[jL,jP (Nat.le_max_right f g) hg];exact jP (Nat.le_max_left f g) hf⟩
theorem Q5 {e:Ex} {T:List Tk} {p p':Nat} (h:∀r,PP .sum (T++(4,[41],p')::r) (.ok (e,(4,[41],p')::r))):S3 e ([(4,[40],p)]++T++[(4,[41],p')]):=fun r h1=>by
 obtain⟨f,hf⟩:=h r;refine⟨f+2,?_⟩;have e1:[(4,[40],p)]++T++[(4,[41],p')]++r=(4,[40],p)::(T++(4,[41],p')::r):=by simp
 have e2:bJ 45 ((4,[40],p)::(T++(4,[41],p')::r))=none:=by simp[bJ]
 have e3:bJ 40 ((4,[40],p)::(T++(4,[41],p')::r))=some (T++(4,[41],p')::r):=by simp[bJ]
 have e4:bJ 41 ((4,[41],p')::r)=some r:=by simp[bJ]
 rw[e1,kl,e2];dsimp only;rw[fC,e3];dsimp only;rw[hf];dsimp only;rw[e4]
theorem S1.par {e:Ex} {T:List Tk} {p p':Nat} (h:S1 e T):S3 e ([(4,[40],p)]++T++[(4,[41],p')]):=
 Q5 fun r=>h ((4,[41],p')::r) (.ok (e,(4,[41],p')::r)) (fun t u e=>by cases e;show(4:Nat)≠1;decide) (by rfl) (mz (by rfl))
theorem S3.neg {e:Ex} {T:List Tk} {p:Nat} (h:S3 e T):S3 (.neg e) ([(4,[45],p)]++T):=fun r h1=>by
 obtain⟨f,hf⟩:=h r h1;refine⟨f+1,?_⟩;have e2:bJ 45 ([(4,[45],p)]++T++r)=some (T++r):=by simp[bJ]
 rw[kl,e2];dsimp only;rw[hf]
theorem S3.nam (s:List UInt8) (p:Nat):S3 (.nam s) [(1,s,p)]:=fun r _=>⟨2,by simp[kl,fC,bJ]⟩
theorem S3.num {q:Rat} {t u:List UInt8} (p p':Nat) (h:fg q=some t):S3 (.num q u) ((2,t,p)::if u=[]then []else [(1,u,p')]):=fun r h1=>by
 refine⟨2,?_⟩;have hp:=(jf h).2.2;have e1:∀L,bJ 45 ((2,t,p)::L)=none:=fun L=>by simp[bJ]
 have e2:∀L,bJ 40 ((2,t,p)::L)=none:=fun L=>by simp[bJ]
 rw[List.cons_append,kl,e1];dsimp only;rw[fC,e2];dsimp only;rw[if_pos rfl]
 congr 1
 unfold jB;dsimp only;rw[hp];dsimp only;rw[h];dsimp only
 by_cases hu:u=[]
 ·subst hu
  rw[if_pos rfl,List.nil_append];cases r with
  |nil=>rfl
  |cons v r=>dsimp only;rw[if_neg (h1 v r rfl)]
 ·rw[if_neg hu]
  rfl
theorem Vq {k:B4} {a b:Ex} {Ta Tb:List Tk} {p:Nat} {c:UInt8} (hk:tA false [c]=some k) (h2:tA true [c]=none) (ha:S1 a Ta) (hb:S2 b Tb):S1 (.bin k a b) (Ta++[(4,[c],p)]++Tb):=fun r x h1 ho ⟨f,hf⟩=>by
 obtain⟨g,hg⟩:=hb r _ h1 (mz ho);have e:Ta++[(4,[c],p)]++Tb++r=Ta++((4,[c],p)::(Tb++r)):=by simp
 rw[e];refine ha _ x (fun t u e=>by cases e;show(4:Nat)≠1;decide) (by simp[VH,fT,h2]) ⟨max f g+1,?_⟩;have e2:fT false ((4,[c],p)::(Tb++r))=some (k,Tb++r):=by simp[fT,hk]
 exact Nq
theorem U5 {k:B4} {a b:Ex} {Ta Tb:List Tk} {p:Nat} {c:UInt8} (hk:tA true [c]=some k) (ha:S2 a Ta) (hb:S3 b Tb):S2 (.bin k a b) (Ta++[(4,[c],p)]++Tb):=fun r x h1 ⟨f,hf⟩=>by
 obtain⟨g,hg⟩:=hb r h1;have e:Ta++[(4,[c],p)]++Tb++r=Ta++((4,[c],p)::(Tb++r)):=by simp
 rw[e];refine ha _ x (fun t u e=>by cases e;show(4:Nat)≠1;decide) ⟨max f g+1,?_⟩;have e2:fT true ((4,[c],p)::(Tb++r))=some (k,Tb++r):=by simp[fT,hk]
 exact Nq
def Sx:Nat->Ex->List Tk->Prop
 |0,e,T=>S1 e T
 |1,e,T=>S1 e T
 |2,e,T=>S2 e T
 |_+3,e,T=>S3 e T
theorem Sx.of3 {e:Ex} {T:List Tk} (h:S3 e T):∀n,Sx n e T
 |0=>h.s2.s1
 |1=>h.s2.s1
 |2=>h.s2
 |_+3=>h
theorem Sx.low {e:Ex} {T:List Tk}:∀{n m:Nat},n<=m->Sx m e T->Sx n e T
 |0,0,_,h=>h
 |0,1,_,h=>h
 |0,2,_,h=>S2.s1 h
 |0,_+3,_,h=>h.s2.s1
 |1,1,_,h=>h
 |1,2,_,h=>S2.s1 h
 |1,_+3,_,h=>h.s2.s1
 |2,2,_,h=>h
 |2,_+3,_,h=>h.s2
 |_+3,_+3,_,h=>h
 |1,0,h,_=>absurd h (by decide)
 |2,0,h,_=>absurd h (by decide)
 |2,1,h,_=>absurd h (by decide)
 |n+3,0,h,_=>absurd h (by omega)
 |n+3,1,h,_=>absurd h (by omega)
 |n+3,2,h,_=>absurd h (by omega)
def Uz (e:Ex) (n:Nat):Prop:=∀p r,KO r-> ∃T,TR (aH e n++r) p T r (p+(aH e n).length)/\Fn T p (p+(aH e n).length)/\Sx n e T
theorem L4 (e:Ex):1<=tw e:=by
 cases e with
 |num=>exact Nat.le_of_ble_eq_true rfl
 |nam=>exact Nat.le_of_ble_eq_true rfl
 |neg=>exact Nat.le_of_ble_eq_true rfl
 |bin k=>cases k<;>exact Nat.le_of_ble_eq_true rfl
theorem Uz.lift {e:Ex} (h:Uz e (tw e)) (n:Nat) (hn:n<=3):Uz e n:=by
 intro p r hr;have h0:aH e (tw e)=aH e 0:=by rw[mw e (tw e),fS,if_neg (Nat.lt_irrefl _)]
 have hw:=mw e n
 by_cases hl:tw e<n
 ·rw[fS,if_pos hl]at hw
  have hs:KO (41::r):=fun c r' e=>by cases e;exact .inr rfl
  obtain⟨T,t1,t2,t3⟩:=h (p+1) (41::r) hs;rw[h0]at t1 t2;have hlen:(aH e n).length=(aH e 0).length+2:=by rw[hw];simp
  rw[hlen];have e1:aH e n++r=40::(aH e 0++41::r):=by rw[hw];simp
  rw[e1];refine⟨[(4,[40],p)]++T++[(4,[41],p+1+(aH e 0).length)],?_,?_,?_⟩
  ·have:=((TR.sy (aH e 0++41::r) p (c:=40) rfl).trans t1).trans (TR.sy (c:=41) r _ rfl)
   rwa[show p+((aH e 0).length+2)=p+1+(aH e 0).length+1 by omega]
  ·exact((Fn.one (p':=p+1) (by decide) (fun _=>⟨_,rfl⟩) (by decide) (Nat.le_refl _) (by omega)).app t2 (by omega) (by omega)).app (Fn.one (p:=p) (p':=p+((aH e 0).length+2)) (by decide) (fun _=>⟨_,rfl⟩) (by decide) (by omega) (by omega)) (by omega) (Nat.le_refl _)
  ·exact Sx.of3 (S1.par (Sx.low (L4 e) t3)) n
 ·rw[fS,if_neg hl,<- h0]at hw
  obtain⟨T,t1,t2,t3⟩:=h p r hr;rw[hw];exact⟨T,t1,t2,Sx.low (by omega) t3⟩
theorem SL (k:B4):∃c,f8 k=[32,c,32]/\Lu c=true/\((bO k=1/\tA false [c]=some k/\tA true [c]=none)∨(bO k=2/\tA true [c]=some k)):=by
 cases k
 ·exact⟨43,rfl,rfl, .inl ⟨rfl,rfl,rfl⟩⟩
 ·exact⟨45,rfl,rfl, .inl ⟨rfl,rfl,rfl⟩⟩
 ·exact⟨42,rfl,rfl, .inr ⟨rfl,rfl⟩⟩
 ·exact⟨47,rfl,rfl, .inr ⟨rfl,rfl⟩⟩
theorem v6:∀(e:Ex),f4 e->Uz e (tw e)
 | .num v u,hf=>by
  intro p r hr;obtain⟨h1,h2,h3⟩:=hf;obtain⟨t,ht⟩:=Option.isSome_iff_exists.1 h1;obtain⟨d1,d2,_⟩:=jf ht
  have e0:aH (.num v u) (tw (.num v u))=t++el u:=by
   show fS 4 4 (tW v++el u)=_;rw[fS,if_neg (by decide),tW,ht];rfl
  rw[e0]
  by_cases hu:u=[]
  ·subst hu
   refine⟨[(2,t,p)],?_,?_,?_⟩
   ·have:=TR.dc p d1 hr
    simpa[el]using this
   ·obtain⟨c,y,rfl,_⟩:=d1.head
    exact Fn.one (by decide) (fun h=>by cases h) (by omega) (Nat.le_refl _) (by simp)
   ·exact Sx.of3 (S3.num (u:=[]) p 0 ht) _
  ·have hn:=h3.resolve_left hu
   have hl:=(Bk (r:=[]) hn (fun c r' e=>by cases e)).2;have hsp:KO (32::(u++r)):=fun c r' e=>by cases e;exact .inl rfl
   have e1:el u=32::u:=if_neg hu;have e2:t++el u++r=t++(32::(u++r)):=by rw[e1];simp
   have e3:(t++el u).length=t.length+1+u.length:=by rw[e1];simp;omega
   rw[e2,e3];refine⟨[(2,t,p)]++[]++[(1,u,p+t.length+1)],?_,?_,?_⟩
   ·have:=((TR.dc p d1 hsp).trans (TR.sp (u++r) _)).trans (TR.nm _ hn hr)
    rwa[show p+(t.length+1+u.length)=p+t.length+1+u.length by omega]
   ·obtain⟨c,y,rfl,_⟩:=d1.head
    have hup:0<u.length:=List.length_pos_iff.2 hu
    rw[List.append_nil];exact(Fn.one (p':=p+((c::y).length+1+u.length)) (by decide) (fun h=>by cases h) (by omega) (Nat.le_refl _) (by omega)).app (Fn.one (p:=p) (by decide) (fun h=>by cases h) (by omega) (by omega) (by omega)) (Nat.le_refl _) (Nat.le_refl _)
   ·have:=S3.num (u:=u) p (p+t.length+1) ht
    rw[if_neg hu]at this;exact Sx.of3 this _
 | .nam s,hf=>by
  intro p r hr;have hf:kh s=true:=hf;have hl:=(Bk (r:=[]) hf (fun c r' e=>by cases e)).2
  have e0:aH (.nam s) (tw (.nam s))=s:=by
   show fS 4 4 s=_;rw[fS,if_neg (by decide)]
  rw[e0];refine⟨[(1,s,p)],TR.nm p hf hr,?_,Sx.of3 (S3.nam s p) _⟩
  have:0<s.length:=by
   cases s with
   |nil=>cases hf
   |cons c s=>simp
  exact Fn.one (by decide) (fun h=>by cases h) (by omega) (Nat.le_refl _) (by omega)
 | .neg a,hf=>by
  intro p r hr
  have e0:aH (.neg a) (tw (.neg a))=45::aH a 3:=by
   show fS 3 3 ([45]++aH a 3)=_;rw[fS,if_neg (by decide)];rfl
  rw[e0];obtain⟨T,t1,t2,t3⟩:=(v6 a hf).lift 3 (Nat.le_refl _) (p+1) r hr;refine⟨[(4,[45],p)]++T,?_,?_,?_⟩
  ·have:=(TR.sy (aH a 3++r) p (c:=45) rfl).trans t1
   rwa[show p+(45::aH a 3).length=p+1+(aH a 3).length by simp;omega]
  ·rw[show p+(45::aH a 3).length=p+1+(aH a 3).length by simp;omega]
   exact(Fn.one (p':=p+1) (by decide) (fun _=>⟨_,rfl⟩) (by decide) (Nat.le_refl _) (by omega)).app t2 (by omega) (by omega)
  ·exact Sx.of3 (S3.neg t3) _
 | .bin k a b,hf=>by
  intro p r hr;obtain⟨c,hc,hs,hk⟩:=SL k
  have e0:aH (.bin k a b) (tw (.bin k a b))=aH a (bO k)++[32,c,32]++aH b (bO k+1):=by
   show fS (bO k) (bO k) (aH a (bO k)++f8 k++aH b (bO k+1))=_;rw[fS,if_neg (Nat.lt_irrefl _),hc]
  have hk3:bO k<=2:=by cases k<;>decide
  have e1:aH (.bin k a b) (tw (.bin k a b))++r=aH a (bO k)++(32::c::32::(aH b (bO k+1)++r)):=by rw[e0];simp
  have e2:(aH (.bin k a b) (tw (.bin k a b))).length=(aH a (bO k)).length+3+(aH b (bO k+1)).length:=by rw[e0];simp;omega
  rw[e1,e2];have hsp:∀l,KO (32::l):=fun l c r' e=>by cases e;exact .inl rfl
  obtain⟨Ta,a1,a2,a3⟩:=(v6 a hf.1).lift (bO k) (by omega) p (32::c::32::(aH b (bO k+1)++r)) (hsp _);obtain⟨Tb,b1,b2,b3⟩:=(v6 b hf.2).lift (bO k+1) (by omega) (p+(aH a (bO k)).length+3) r hr;refine⟨Ta++[(4,[c],p+(aH a (bO k)).length+1)]++Tb,?_,?_,?_⟩
  ·have:=(((a1.trans (TR.sp _ _)).trans (TR.sy _ _ hs)).trans (TR.sp _ _)).trans b1
   simp only[List.append_nil]at this
   rwa[show p+((aH a (bO k)).length+3+(aH b (bO k+1)).length)=p+(aH a (bO k)).length+3+(aH b (bO k+1)).length by omega]
  ·rw[show p+((aH a (bO k)).length+3+(aH b (bO k+1)).length)=p+(aH a (bO k)).length+3+(aH b (bO k+1)).length by omega]
   exact(a2.app (Fn.one (p:=p) (p':=p+(aH a (bO k)).length+3) (by decide) (fun _=>⟨_,rfl⟩) (by simp) (by omega) (by omega)) (by omega) (Nat.le_refl _)).app b2 (by omega) (by omega)
  ·show Sx (bO k) _ _
   rcases hk with⟨h1,h2,h3⟩| ⟨h1,h2⟩
   ·rw[h1]at a3 b3 ⊢
    exact Vq h2 h3 a3 b3
   ·rw[h1]at a3 b3 ⊢
    exact U5 h2 a3 b3
theorem yT {e:Ex} (hf:f4 e) (hd:pO (rx e)<=40) (hl:(aH e 0).length<=65536):∃T,iU ((aH e 0).length+1) (aH e 0) 0 []= .ok T/\Ia T (aH e 0).length/\Fj T 0 (aH e 0).length= .ok e:=by
 obtain⟨T,t1,t2,t3⟩:=(v6 e hf).lift 0 (by decide) 0 [] (fun c r' e=>by cases e);rw[List.append_nil,Nat.zero_add]at t1;rw[Nat.zero_add]at t2;obtain⟨f,h1,h2⟩:=t1 ((aH e 0).length+1) [] (Nat.lt_succ_self _);obtain⟨f,rfl⟩:∃k,f=k+1:=⟨f-1,by simp at h1;omega⟩;rw[List.nil_append,iU]at h2;have hlen:=qT _ _ _ _ _ h2;generalize(aH e 0).length=E at *
 have hw:∀T,Fn T 0 E->fj (T++[(0,[],E)]):=by
  intro T
  induction T with
  |nil=>intro _;rfl
  |cons t T ih=>
   intro h;have ht:=h t (by simp);have:=ih (fun u hu=>h u (by simp[hu]));cases T with
   |nil=>exact⟨⟨ht.1,ht.2.1,fun _=>ht.2.2.1⟩,this⟩
   |cons u T=>exact⟨⟨ht.1,ht.2.1,fun _=>ht.2.2.1⟩,this⟩
 refine⟨_,h2,⟨hw T t2,fun t ht=>?_,fun t ht=>?_,?_⟩,?_⟩
 ·rcases List.mem_append.1 ht with ht|ht
  ·have:=t2 t ht
   exact⟨fun h=>absurd h this.1,fun _=>this.2.2.2.2⟩
  ·cases List.mem_singleton.1 ht
   exact⟨fun _=>rfl,fun h=>absurd rfl h⟩
 ·rcases List.mem_append.1 ht with ht|ht
  ·have:=(t2 t ht).2.2.1;omega
  ·cases List.mem_singleton.1 ht;exact Nat.zero_le _
 ·simp at hlen ⊢;omega
 ·obtain⟨g,hg⟩:=t3 [(0,[],E)] (.ok (e,[(0,[],E)])) (fun t u e=>by cases e;show(0:Nat)≠1;decide) rfl (mz rfl)
  obtain⟨x,hx⟩:=qY (T++[(0,[],E)]);have h1:=jP (Nat.le_max_left g (5*(T++[(0,[],E)]).length+5)) hg;have h3:=jP (Nat.le_max_right g (5*(T++[(0,[],E)]).length+5)) hx;rw[h3]at h1;cases h1;unfold Fj;rw[hx];dsimp only;rw[if_neg (fun h=>h rfl),if_neg (fun h=>h rfl),if_pos hd]
theorem wh (x:Rx) (hx:ls x):aa Tryz.prog 19 [dR x] (.one (dB (decide (tl x 120<=120) && qm x))):=by
 have c1:=Jz x hx 120 (by decide);have c2:=HX x hx;have hn:=vu x 120;obtain⟨o1,na1,xs1,nb1,ys1,nm1,n1,cs1,hA⟩:=aM x;rw[show dR x= .agg (ab o1 na1 xs1 nb1 ys1 nm1 n1 cs1) from congrArg DV.agg hA]at c1 c2 ⊢;generalize tl x 120=k at *
 by_cases hk:k<=120
 ·rw[decide_eq_true hk,Bool.true_and]
  refine kV func19 ?_;refine kC (c1) ?_;refine kX ?_;refine kC (c2) ?_;exact ap
 ·rw[decide_eq_false hk,Bool.false_and]
  refine kV func19 ?_;refine kC (c1) ?_;refine kE ?_;exact ap
inductive BG:Rx->Prop
 |mk {op:Int} {na:Bool} {xs:List Nat} {nb:Bool} {ys:List Nat} {nm:List UInt8} {args:List Rx}:xs.length<=510->ys.length<=510->nm.length<=65536->(∀x∈args,BG x)->BG (.mk op na xs nb ys nm args)
theorem BG.of_lt:∀x,qm x=true->BG x:=by
 refine ef fun op na xs nb ys nm args ih hlt=>?_
 rw[qm,Bool.and_eq_true,Bool.and_eq_true,Bool.and_eq_true,decide_eq_true_eq,decide_eq_true_eq,decide_eq_true_eq]at hlt;obtain⟨hla,⟨l1,l2⟩,l3⟩:=hlt;exact .mk (by omega) (by omega) (by omega) fun y hy=>ih y hy (r7 hla y hy)
theorem wB {s:List UInt8} (h:kh s=true):s.length<=24:=by
 cases s with
 |nil=>simp
 |cons c r=>simp only[kh,Bool.and_eq_true,decide_eq_true_eq]at h;exact h.1
theorem f4.lm:∀e,f4 e->BG (rx e)
 | .num v u,h=> .mk h.2.1.1.digs h.2.1.2.digs (by
  rcases h.2.2 with rfl|h
  ·simp
  ·have:=wB h;omega) (fun x hx=>by cases hx)
 | .nam s,h=> .mk (by simp) (by simp) (by have:=wB h;omega) (fun x hx=>by cases hx)
 | .neg a,h=> .mk (by simp) (by simp) (by simp) (fun x hx=>by cases List.mem_singleton.1 hx;exact f4.lm a h)
 | .bin k a b,h=> .mk (by simp) (by simp) (by simp) (fun x hx=>by
  rcases List.mem_cons.1 hx with rfl|hx
  ·exact f4.lm a h.1
  ·cases List.mem_singleton.1 hx;exact f4.lm b h.2)
theorem nc {na nb:Bool} {xs ys:List Nat} {q:Rat} (e:Ab na xs nb ys=aQ q) (e1:xs=digs q.num.natAbs) (e2:ys=digs (q.den:Int).natAbs) (hv:fw na xs nb ys=true):lR na xs nb ys=fg q:=by
 have e3:na=decide (q.num<0):=by
  have:=congrArg (fun l:List AV=>l[0]?) e;exact Ps
 have e4:nb=decide ((q.den:Int)<0):=by
  have:=congrArg (fun l:List AV=>l[2]?) e;exact Ps
 unfold lR;rw[if_pos hv]
 congr 1
 have t1:bC na xs=q.num:=by
  rw[e1,e3,xv]
  by_cases h:q.num<0
  ·rw[decide_eq_true h,if_pos rfl];omega
  ·rw[decide_eq_false h,if_neg (by decide)];omega
 have t2:bC nb ys=q.den:=by
  rw[e2,e4,xv,decide_eq_false (by omega),if_neg (by decide)];omega
 rw[t1,t2,Rat.num_divInt_den]
theorem yl {na nb:Bool} {xs ys:List Nat} (hw:Wd xs) (hw':Wd ys) (h1:xs.length<=510) (h2:ys.length<=510):
 ∃t,aa Tryz.prog 111 [Gb na xs nb ys] (.tup [dL t,dB (lR na xs nb ys).isSome])/\ ∀u,lR na xs nb ys=some u->t=u:=by
 cases hv:fw na xs nb ys with
 |false=>
  have hd:lR na xs nb ys=none:=if_neg (by rw[hv];decide);rw[hd];refine⟨[],?_,fun u h=>by cases h⟩;refine kV func111 ?_;refine ae (mF hw hw' (Nat.le_trans h1 (by decide)) (Nat.le_trans h2 (by decide)) hv) rfl rfl rfl rfl rfl rfl rfl ?_;exact ap
 |true=>
  obtain⟨q,e,e1,e2⟩:=nU hw hw' hv;have sq:dO 510 q:=⟨Sz.of_digs (by rw[<- e1];exact h1),Sz.of_digs (by rw[<- e2];exact h2)⟩;rw[nc e e1 e2 hv,show Gb na xs nb ys=dQ q from congrArg DV.agg e];exact oX sq (by decide)
theorem FY {na nb:Bool} {xs ys:List Nat} (hw:Wd xs) (hw':Wd ys) (h1:xs.length<=510) (h2:ys.length<=510):
 ∃t,aa Tryz.prog 125 [Gb na xs nb ys] (.tup [dL t,dB (lR na xs nb ys).isSome])/\ ∀u,lR na xs nb ys=some u->t=u:=by
 cases hv:fw na xs nb ys with
 |false=>
  have hd:lR na xs nb ys=none:=if_neg (by rw[hv];decide);rw[hd];refine⟨[],?_,fun u h=>by cases h⟩;refine kV func125 ?_;refine ae (oP hw hw' (Nat.le_trans h1 (by decide)) (Nat.le_trans h2 (by decide)) hv) rfl rfl rfl rfl rfl rfl rfl ?_;exact ap
 |true=>
  obtain⟨q,e,e1,e2⟩:=nU hw hw' hv;have sq:dO 510 q:=⟨Sz.of_digs (by rw[<- e1];exact h1),Sz.of_digs (by rw[<- e2];exact h2)⟩;rw[nc e e1 e2 hv,show Gb na xs nb ys=dQ q from congrArg DV.agg e];exact iN sq (by decide)
def oj (na:Bool) (xs:List Nat) (nb:Bool) (ys:List Nat):Bool:=!na && (!nb && (decide (xs.length=0) && decide (ys.length=0)))
theorem BS {na nb:Bool} {xs ys:List Nat} (h:oj na xs nb ys=true):na=false/\nb=false/\xs=[]/\ys=[]:=by
 unfold oj at h
 simp only[Bool.and_eq_true,Bool.not_eq_true',decide_eq_true_eq]at h
 exact⟨h.1,h.2.1,List.eq_nil_of_length_eq_zero h.2.2.1,List.eq_nil_of_length_eq_zero h.2.2.2⟩
def qb (op:Int) (d p m:Bool) (nm:List UInt8) (n:Nat):Bool:=if op=1 then d && (decide (nm=[]) || m) && decide (n=0)else if op=2 then p && m && decide (n=0)else if op=3 then p && decide (nm=[]) && decide (n=1)
 else if op=4∨op=5∨op=6∨op=7 then p && decide (nm=[]) && decide (n=2)else false
theorem Gr {op:Int} {na:Bool} {xs:List Nat} {nb:Bool} {ys:List Nat} {nm:List UInt8} {args:List Rx} {t:List UInt8} {d m:Bool} (hdec:aa Tryz.prog 111 [Gb na xs nb ys] (.tup [dL t,dB d])) (hm:aa Tryz.prog 52 [dL nm] (.one (dB m))):
 aa Tryz.prog 129 [dR (.mk op na xs nb ys nm args)] (.one (dB (qb op d (oj na xs nb ys) m nm args.length))):=by
 obtain⟨b,hbb⟩:∃b,qb op d (oj na xs nb ys) m nm args.length=b:=⟨_,rfl⟩;have b1:op=1->b=(d && (decide (nm=[]) || m) && decide (args.length=0)):=fun h=>by rw[<- hbb,qb,if_pos h]
 have b2:op=2->b=(oj na xs nb ys && m && decide (args.length=0)):=fun h=>by rw[<- hbb,qb,if_neg (by omega),if_pos h]
 have b3:op=3->b=(oj na xs nb ys && decide (nm=[]) && decide (args.length=1)):=fun h=>by rw[<- hbb,qb,if_neg (by omega),if_neg (by omega),if_pos h]
 have b4:op=4∨op=5∨op=6∨op=7->b=(oj na xs nb ys && decide (nm=[]) && decide (args.length=2)):=fun h=>by rw[<- hbb,qb,if_neg (by omega),if_neg (by omega),if_neg (by omega),if_pos h]
 have b0:op≠1->op≠2->op≠3->op≠4->op≠5->op≠6->op≠7->b=false:=fun h1 h2 h3 h4 h5 h6 h7=>by rw[<- hbb,qb,if_neg h1,if_neg h2,if_neg h3,if_neg (by omega)]
 rw[hbb];clear hbb;show aa Tryz.prog _ [.agg (ab op na xs nb ys nm args.length (dY args))] _;generalize hp:oj na xs nb ys=p at *;refine kU func129 ?_;refine kR ?_;refine u6 ⟨[(1, .box 0 0),(3, .d (dB p))],[(0,some (ab op na xs nb ys nm args.length (dY args)))]⟩ (fun s' hw2=>?_) (fun R hR _=>?_)
 ·refine eT hw2 rfl ?_
  by_cases o1:op=1
  ·have hb:=b1 o1
   clear b1 b2 b3 b4 b0;subst o1;refine kW ?_;refine kC (hdec) ?_;cases d
   ·exact Ov
   ·refine kG ?_
    refine kO4 ?_
    by_cases hnm:nm=[]
    ·refine aq rfl rfl rfl rfl rfl rfl rfl (bv (a:=nm) (b:=[]) hnm) ?_
     iterate 10 refine kO ?_
     by_cases hl:args.length=0
     ·exact NP
     ·exact Dp
    ·refine R5 ?_
     refine kO3 ?_
     refine kC (hm) ?_;cases m
     ·exact OL
     ·iterate 6 refine kO ?_
      exact Pk
  by_cases o2:op=2
  ·have hb:=b2 o2
   clear b1 b2 b3 b4 b0;subst o2;cases p
   ·exact Ov
   ·refine kW ?_
    refine kC (hm) ?_;cases m
    ·exact Ov
    ·refine kO5 ?_
     exact Pk
  by_cases o3:op=3
  ·have hb:=b3 o3
   clear b1 b2 b3 b4 b0;subst o3;cases p
   ·exact Ov
   ·iterate 4 refine kG ?_
    refine kO4 ?_
    by_cases hnm:nm=[]
    ·refine Un ?_
     by_cases hl:args.length=1
     ·exact NP
     ·exact Dp
    ·refine R5 ?_
     exact OL
  by_cases o4:op=4
  ·have hb:=b4 (by omega)
   clear b1 b2 b3 b4 b0;subst o4;cases p
   ·exact Ov
   ·iterate 5 refine kG ?_
    exact OZ
  by_cases o5:op=5
  ·have hb:=b4 (by omega)
   clear b1 b2 b3 b4 b0;subst o5;cases p
   ·exact Ov
   ·iterate 6 refine kG ?_
    exact OZ
  by_cases o6:op=6
  ·have hb:=b4 (by omega)
   clear b1 b2 b3 b4 b0;subst o6;cases p
   ·exact Ov
   ·iterate 7 refine kG ?_
    exact OZ
  by_cases o7:op=7
  ·have hb:=b4 (by omega)
   clear b1 b2 b3 b4 b0;subst o7;cases p
   ·exact Ov
   ·iterate 8 refine kG ?_
    exact OZ
  obtain rfl:b=false:=b0 o1 o2 o3 o4 o5 o6 o7;refine kG ?_;refine kB false ?_ ?_
  ·exact decide_eq_false o1
  refine kG ?_;refine kB false ?_ ?_
  ·exact decide_eq_false o2
  refine kG ?_;refine kB false ?_ ?_
  ·exact decide_eq_false o3
  refine kG ?_;refine kB false ?_ ?_
  ·exact decide_eq_false o4
  refine kG ?_;refine kB false ?_ ?_
  ·exact decide_eq_false o5
  refine kG ?_;refine kB false ?_ ?_
  ·exact decide_eq_false o6
  refine kG ?_;refine kB false ?_ ?_
  ·exact decide_eq_false o7
  exact ap
 ·clear b1 b2 b3 b4 b0
  subst hp;cases na
  ·cases nb
   ·refine kG ?_
    iterate 18 refine kO ?_
    by_cases l1:xs.length=0
    ·refine kT ?_
     iterate 7 refine kO ?_
     by_cases l2:ys.length=0
     ·refine kT ?_
      refine kW ?_;rw[show oj false xs false ys=true by unfold oj;rw[decide_eq_true l1,decide_eq_true l2];rfl]at hR;exact hR _ kw
     ·refine kE ?_
      refine kW ?_;rw[show oj false xs false ys=false by unfold oj;rw[decide_eq_true l1,decide_eq_false l2];rfl]at hR;exact hR _ kw
    ·refine kE ?_
     refine kW ?_;rw[show oj false xs false ys=false by unfold oj;rw[decide_eq_false l1];rfl]at hR;exact hR _ kw
   ·refine kW ?_
    exact hR _ kw
  ·refine kW ?_
   exact hR _ kw
mutual
def rF:Rx->Bool
 | .mk op na xs nb ys nm args=>qb op (lR na xs nb ys).isSome (oj na xs nb ys) (kh nm) nm args.length && lp args
def lp:List Rx->Bool
 | []=>true
 |y::r=>rF y && lp r
end
theorem mG:∀l:List Rx,lp l=l.all rF
 | []=>by simp[lp]
 |y::r=>by rw[lp,mG r,List.all_cons]
theorem um:∀(x:Rx),ls x->BG x->aa Tryz.prog 89 [dR x] (.one (dB (rF x))):=by
 refine ef fun op na xs nb ys nm args ih hx hlt=>?_
 obtain⟨_,_,hw,hw',hnm,hlen,hargs⟩:=hx;obtain⟨l1,l2,l3,hla⟩:=hlt;obtain⟨t,hdec,_⟩:=yl (na:=na) (nb:=nb) hw hw' l1 l2;have hm:=tN nm (by omega);have hsh:=Gr (op:=op) (args:=args) hdec hm;rw[rF,mG];generalize qb op (lR na xs nb ys).isSome (oj na xs nb ys) (kh nm) nm args.length=s0 at *;have hsh:aa Tryz.prog 129 [.agg (ab op na xs nb ys nm args.length (dY args))] (.one (dB s0)):=hsh;refine Qe ?_;cases s0 with
 |false=>
  rw[Bool.false_and];refine kV func89 ?_;refine kC (hsh) ?_;exact ap
 |true=>
  rw[Bool.true_and];refine kV func89 ?_;refine kQ (hsh) ?_
  refine ay Nat (fun i=>i<=args.length/\ ∀(q:Nat) y,q<i->args[q]? =some y->rF y=true) (fun i=>⟨[(1, .box 0 0),(2, .d (dB false)),(3, .d (dN .i64 i))],[(0,some (ab op na xs nb ys nm args.length (dY args)))]⟩) (fun i=>args.length-i) 0 ⟨Nat.zero_le _,fun q y h=>absurd h (Nat.not_lt_zero _)⟩
   kw ?_
  rintro i ⟨hi,hq⟩;refine kI ?_
  refine kO4 ?_
  by_cases hlt:i<args.length
  ·refine kT ?_
   obtain⟨o1,na1,xs1,nb1,ys1,nm1,n1,cs1,hA⟩:=aM args[i];have hx:args[i]? =some args[i]:=by simp[hlt]
   have hat:∀(j:Nat) (a:AV),(ab o1 na1 xs1 nb1 ys1 nm1 n1 cs1)[j]? =some a->(dY args)[i*7+j]? =some a:=fun j a h=>dP args i args[i] hx j a (by rw[hA];exact h)
   have c:=ih args[i] (List.getElem_mem hlt) (hargs _ (List.getElem_mem hlt)) (hla _ (List.getElem_mem hlt));rw[show dR args[i]= .agg (ab o1 na1 xs1 nb1 ys1 nm1 n1 cs1) from congrArg DV.agg hA]at c;refine KL ?_;refine kO ?_;cases hb:rF args[i]
   ·rw[hb]at c
    refine kQ (c) ?_
    rw[show args.all rF=false by
     cases h:args.all rF
     ·rfl
     ·rw[List.all_eq_true.1 h _ (List.getElem_mem hlt)]at hb;cases hb]
    exact bV (T:=TT) rfl rfl
   ·exact Nx
  ·refine kE ?_
   refine kW ?_
   rw[show args.all rF=true by
    rw[List.all_eq_true];intro y hy;obtain⟨q,h⟩:=List.getElem?_of_mem hy;exact hq q y (by have:=(List.getElem?_eq_some_iff.1 h).1;omega) h]
   exact bV (T:=TT) rfl rfl
def iI (x:Rx):Int:=if rF x=true then(if pO x<=40 then 0 else 3)else 1
theorem mI (x:Rx) (hx:ls x) (hl:BG x) (hs:fi x<=1000000):aa Tryz.prog 48 [dR x] (.one (dN .i64 (iI x))):=by
 have c1:=um x hx hl;have c2:=J6 x hx hs;obtain⟨o1,na1,xs1,nb1,ys1,nm1,n1,cs1,hA⟩:=aM x;rw[show dR x= .agg (ab o1 na1 xs1 nb1 ys1 nm1 n1 cs1) from congrArg DV.agg hA]at c1 c2 ⊢;unfold iI;cases hb:rF x with
 |false=>
  rw[hb]at c1;rw[if_neg (by decide)];refine kU func48 ?_;exact NU
 |true=>
  rw[hb]at c1;rw[if_pos rfl]
  by_cases hd:pO x<=40
  ·rw[if_pos hd]
   refine kU func48 ?_;exact PR
  ·rw[if_neg hd]
   refine kU func48 ?_;refine io ?_;refine kC (c2) ?_;refine kT ?_;exact ap
theorem rO:∀e,f4 e->rF (rx e)=true
 | .num v u,h=>by
  obtain⟨h1,h2,h3⟩:=h;show(qb 1 (lR (decide (v.num<0)) (digs v.num.natAbs) (decide ((v.den:Int)<0)) (digs (v.den:Int).natAbs)).isSome _ (kh u) u 0 && lp [])=true;rw[nc (q:=v) rfl rfl rfl (me v),h1,lp];rcases h3 with h|h<;>simp[qb,h]
 | .nam s,h=>by
  show(qb 2 _ (oj false [] false []) (kh s) s 0 && lp [])=true;have h:kh s=true:=h;rw[h,lp];rfl
 | .neg a,h=>by
  show(qb 3 (lR false [] false []).isSome (oj false [] false []) (kh []) [] 1 && lp [rx a])=true;rw[lp,lp,rO a h];rfl
 | .bin k a b,h=>by
  show(qb k.code (lR false [] false []).isSome (oj false [] false []) (kh []) [] 2 && lp [rx a,rx b])=true;rw[lp,lp,lp,rO a h.1,rO b h.2];cases k<;>rfl
theorem Qy:∀(x:Rx),ls x->BG x->rF x=true-> ∃e,x=rx e/\f4 e:=by
 refine ef fun op na xs nb ys nm args ih hx hlt hf=>?_
 obtain⟨_,_,hw,hw',_,hlen,hargs⟩:=hx;obtain⟨l1,l2,l3,hla⟩:=hlt;rw[rF,mG,Bool.and_eq_true]at hf;obtain⟨hsh,hall⟩:=hf;have hall:∀y∈args,∃e,y=rx e/\f4 e:=fun y hy=>ih y hy (hargs y hy) (hla y hy) (List.all_eq_true.1 hall y hy)
 unfold qb at hsh
 split at hsh
 ·rename_i ho
  subst ho
  simp only[Bool.and_eq_true,Bool.or_eq_true,decide_eq_true_eq]at hsh
  obtain⟨⟨h1,h2⟩,h3⟩:=hsh;obtain rfl:=List.eq_nil_of_length_eq_zero h3;cases hv:fw na xs nb ys with
  |false=>rw[lR,if_neg (by rw[hv];decide)]at h1;cases h1
  |true=>
   obtain⟨q,e,e1,e2⟩:=nU hw hw' hv;have sq:dO 510 q:=⟨Sz.of_digs (by rw[<- e1];exact l1),Sz.of_digs (by rw[<- e2];exact l2)⟩;rw[nc e e1 e2 hv]at h1
   have e3:na=decide (q.num<0):=by
    have:=congrArg (fun l:List AV=>l[0]?) e;exact Ps
   have e4:nb=decide ((q.den:Int)<0):=by
    have:=congrArg (fun l:List AV=>l[2]?) e;exact Ps
   subst e3 e4 e1 e2;exact⟨.num q nm,rfl,h1,sq,h2⟩
 ·split at hsh
  ·rename_i ho
   subst ho
   simp only[Bool.and_eq_true,decide_eq_true_eq]at hsh
   obtain⟨⟨h1,h2⟩,h3⟩:=hsh;obtain rfl:=List.eq_nil_of_length_eq_zero h3;obtain⟨rfl,rfl,rfl,rfl⟩:=BS h1;exact⟨.nam nm,rfl,h2⟩
  ·split at hsh
   ·rename_i ho
    subst ho
    simp only[Bool.and_eq_true,decide_eq_true_eq]at hsh
    obtain⟨⟨h1,rfl⟩,h3⟩:=hsh;obtain⟨rfl,rfl,rfl,rfl⟩:=BS h1
    match args,h3,hall with
    | [a],_,hall=>
     obtain⟨ea,rfl,oa⟩:=hall a (by simp);exact⟨.neg ea,rfl,oa⟩
   ·split at hsh
    ·rename_i ho
     simp only[Bool.and_eq_true,decide_eq_true_eq]at hsh
     obtain⟨⟨h1,rfl⟩,h3⟩:=hsh;obtain⟨rfl,rfl,rfl,rfl⟩:=BS h1
     match args,h3,hall with
     | [a,b],_,hall=>
      obtain⟨ea,rfl,oa⟩:=hall a (by simp);obtain⟨eb,rfl,ob⟩:=hall b (by simp);rcases ho with rfl|rfl|rfl|rfl
      ·exact⟨.bin .add ea eb,rfl,oa,ob⟩
      ·exact⟨.bin .sub ea eb,rfl,oa,ob⟩
      ·exact⟨.bin .mul ea eb,rfl,oa,ob⟩
      ·exact⟨.bin .div ea eb,rfl,oa,ob⟩
    ·cases hsh
section
open Go.ChangeShapes Go.WideShapes Go.ChangeAt Go.RowKit Go.Joins
theorem yS {H:Type} {enc:TypeId × Value->H} {W:World} {P:Program} {L:List TypeId} (hL:wu P L=true) {t:TypeId} (ht:t∈L) {fs:Array Field} (hu:P.underlying t=some (.struct fs)) {r:Reach} {b0:Nat} {v:Value} {d:DataW H} {p:List MemPlace} (hv:Value.okWide P W r b0 t v) (h:DataW.Trod enc P W 0 (fun _=>true) true t v d p):
 ∃n cs,DV.M (fun _=>False) W (.agg cs) v/\Sh P n t cs:=by
 obtain⟨cs,rfl,_⟩:=okWide_struct hu hv;obtain⟨n,xs,h1,h2⟩:=LA hL ht h;exact⟨n,xs,RC h1,h2⟩
theorem yk:∀(e:Ex),f4 e-> ∀n,(aH e n).length<=67*fi (rx e)
 | .num v u,h,n=>by
  obtain⟨h1,_,h3⟩:=h;obtain⟨t,ht⟩:=Option.isSome_iff_exists.1 h1;obtain⟨_,h4,_⟩:=jf ht;have e1:aH (.num v u) n=fS 4 n (t++el u):=by show fS 4 n (tW v++el u)=_;rw[tW,ht];rfl
  have h5:(el u).length<=25:=by
   unfold el;rcases h3 with rfl|h3
   ·simp
   ·have:=wB h3;split <;>simp;omega
  have:=(g8 4 n (t++el u)).2;rw[List.length_append]at this;rw[e1]
  simp only[rx,fi,dX]
  omega
 | .nam s,h,n=>by
  have:=(g8 4 n s).2;have:=wB h;show(fS 4 n s).length<=_
  simp only[rx,fi,dX]
  omega
 | .neg a,h,n=>by
  have:=(g8 3 n ([45]++aH a 3)).2;have:=yk a h 3;show(fS 3 n ([45]++aH a 3)).length<=_
  simp only[rx,fi,dX,List.length_append,List.length_cons,List.length_nil]at *
  omega
 | .bin k a b,h,n=>by
  have:=(g8 (bO k) n (aH a (bO k)++f8 k++aH b (bO k+1))).2;have:=yk a h.1 (bO k);have:=yk b h.2 (bO k+1);have:(f8 k).length=3:=by cases k<;>rfl
  show(fS (bO k) n (aH a (bO k)++f8 k++aH b (bO k+1))).length<=_
  simp only[rx,fi,dX,List.length_append]at *
  omega
theorem vU {e:Ex} (hf:f4 e) (hw:ls (rx e)) (hs:fi (rx e)<=900) (hd:pO (rx e)<=40):aa Tryz.prog 63 [dE e] (.tup [dL (aH e 0),dN .i64 0])/\aa Tryz.prog 35 [dL (aH e 0)] (.tup [dE e,dN .i64 0,dN .i64 0]) /\
 aa Tryz.prog 48 [dE e] (.one (dN .i64 0))/\aa Tryz.prog 70 [dE e,dE e] (.one (dB true)):=by
 have hl:=yk e hf 0;obtain⟨T,h1,h2,h3⟩:=yT hf hd (by omega);have cT:=zH (aH e 0) (by omega);rw[h1]at cT;have cP:=yF (aH e 0) T cT h2;rw[h3]at cP;have cV:=mI (rx e) hw (f4.lm e hf) (by omega);rw[iI,rO e hf,if_pos rfl,if_pos hd]at cV;exact⟨xM hf hw (by omega) hd (by omega),cP,cV,tV (rx e) (f4.lw e hf)⟩
end
section
open Go.ChangeShapes Go.WideShapes Go.ChangeAt Go.RowKit Go.Joins
def di (l:List Int):List AV:=l.map fun z=>AV.val (.int .i64 z)
def pB (l:List Int):DV:= .leaf (.sl l.length (di l))
theorem Jh (l:List Int):(di l).length=l.length:=by simp[di]
theorem M0 {l:List Int} {i:Nat} {z:Int} (h:l[i]? =some z):(di l)[i*1]? =some (.val (.int .i64 z)):=by simp[di,h]
theorem bf {l:List Int} {i:Nat} {z:Int} (h:l[i]? =some z):∀(j:Nat) (a:AV),[AV.val (.int .i64 z)][j]? =some a->(di l)[i*1+j]? =some a:=fun j a hj=>by
 cases j with
 |zero=>simp at hj;subst hj;exact M0 h
 |succ j=>simp at hj
def pL (k:Int):Option Kd:=if 1<=k/\k<=17 then mZ[k.toNat-1]? else none
def tB (s:List UInt8):Int:=if mZ.findIdx (fun r=>decide (r.nm=s))<17 then(mZ.findIdx (fun r=>decide (r.nm=s)):Int)+1 else 0
structure Cn where
 k:Int
 ps:List Int
 cs:List Int
 vs:List Rx
 s:Int
def aC (c:Cn):List AV:=[.val (.int .i64 c.k), .sl c.ps.length (di c.ps), .sl c.cs.length (di c.cs), .sl c.vs.length (dY c.vs), .val (.int .i64 c.s)]
def dC (c:Cn):DV:= .agg (aC c)
def RY (z:Int):Prop:= -9223372036854775808<=z/\z<=9223372036854775807
structure R8 (c:Cn):Prop where
 k:RY c.k
 ps:∀z∈c.ps,RY z
 cs:∀z∈c.cs,RY z
 vs:∀x∈c.vs,ls x
 s:RY c.s
def Tc:List TypeId:=[30,27,40,38,36,4,34,135,3,9,28]
theorem HH:wu Tryz.prog Tc=true:=by kernel_rfl
theorem DH {n:Nat} {cs:List AV} (h:Sh Tryz.prog n 27 cs):∃l:List Int,cs=[.sl l.length (di l)]/\ ∀z∈l,RY z:=by
 cases n with
 |zero=>exact h.elim
 |succ n=>
  simp only[Sh,underlying27]at h
  obtain⟨rows,rfl,_,hr⟩:=h
  have key:∀rows:List (List AV),(∀r∈rows,Sh Tryz.prog n 3 r/\r.length=Tryz.prog.cellsOf 3)-> ∃l:List Int,rows.length=l.length/\rows.flatten=di l/\ ∀z∈l,RY z:=by
   intro rows
   induction rows with
   |nil=>intro _;exact⟨[],rfl,rfl,fun x hx=>by cases hx⟩
   |cons r rows ih=>
    intro hr;obtain⟨l,h1,h2,h3⟩:=ih (fun r hm=>hr r (by simp[hm]));obtain⟨i,h4,h5⟩:=wA (hr r (by simp)).1;refine⟨i::l,by simp[h1],by rw[List.flatten_cons,h2,h4];rfl,fun x hx=>?_⟩;rcases List.mem_cons.1 hx with rfl|hx
    ·exact h5
    ·exact h3 x hx
  obtain⟨l,h1,h2,h3⟩:=key rows hr;exact⟨l,by rw[h1,h2],h3⟩
set_option maxRecDepth 100000 in
theorem Ir {n:Nat} {cs:List AV} (h:Sh Tryz.prog n 28 cs):∃l:List Rx,cs=[.sl l.length (dY l)]/\ ∀x∈l,ls x:=by
 cases n with
 |zero=>exact h.elim
 |succ n=>
  simp only[Sh,underlying28]at h
  obtain⟨rows,rfl,_,hr⟩:=h
  have key:∀rows:List (List AV),(∀r∈rows,Sh Tryz.prog n 40 r/\r.length=Tryz.prog.cellsOf 40)-> ∃l:List Rx,rows.length=l.length/\rows.flatten=dY l/\ ∀x∈l,ls x:=by
   intro rows
   induction rows with
   |nil=>intro _;exact⟨[],rfl,rfl,fun x hx=>by cases hx⟩
   |cons r rows ih=>
    intro hr;obtain⟨l,h1,h2,h3⟩:=ih (fun r hm=>hr r (by simp[hm]));obtain⟨x,h4,h5⟩:=LB n _ (hr r (by simp)).1;refine⟨x::l,by simp[h1],by rw[List.flatten_cons,h2,h4];rfl,fun y hy=>?_⟩;rcases List.mem_cons.1 hy with rfl|hy
    ·exact h5
    ·exact h3 y hy
  obtain⟨l,h1,h2,h3⟩:=key rows hr;exact⟨l,by rw[h1,h2],h3⟩
set_option maxRecDepth 100000 in
theorem Ld {n:Nat} {cs:List AV} (h:Sh Tryz.prog n 30 cs):∃c:Cn,cs=aC c/\R8 c:=by
 cases n with
 |zero=>exact h.elim
 |succ n=>
  simp only[Sh,underlying30,List.forall_mem_cons,List.not_mem_nil,false_imp_iff,implies_true,and_true]at h
  obtain⟨hl,h0,h1,h2,h3,h4⟩:=h;rw[show Tryz.prog.cellsOf 30=5 by kernel_rfl]at hl;rw[show Tryz.prog.cellsOf 3=1 by kernel_rfl]at h0 h4;rw[show Tryz.prog.cellsOf 27=1 by kernel_rfl]at h1 h2;rw[show Tryz.prog.cellsOf 28=1 by kernel_rfl]at h3
  match cs,hl with
  | [c0,c1,c2,c3,c4],_=>
   obtain⟨k,e0,hk⟩:=wA h0;obtain⟨p,e1,hp⟩:=DH h1;obtain⟨q,e2,hq⟩:=DH h2;obtain⟨v,e3,hv⟩:=Ir h3;obtain⟨s,e4,hs⟩:=wA h4
   simp at e0 e1 e2 e3 e4
   exact⟨⟨k,p,q,v,s⟩,by rw[e0,e1,e2,e3,e4];rfl,hk,hp,hq,hv,hs⟩
set_option maxRecDepth 100000 in
theorem EV {H:Type} {enc:TypeId × Value->H} {W:World} {r:Reach} {b0:Nat} {v:Value} {d:DataW H} {p:List MemPlace} (hv:Value.okWide Tryz.prog W r b0 30 v) (h:DataW.Trod enc Tryz.prog W 0 (fun _=>true) true 30 v d p):
 ∃c:Cn,DV.M (fun _=>False) W (dC c) v/\R8 c:=by
 obtain⟨n,cs,h1,h2⟩:=yS HH (by decide) underlying30 hv h;obtain⟨c,rfl,h3⟩:=Ld h2;exact⟨c,h1,h3⟩
end
theorem y9 {x:UInt8} {b a t:List UInt8} (hx:x ∉ a) {i:Nat} (hi:i<a.length):Lib.occAt (a++t) (x::b) i=false:=by
 cases h:Lib.occAt (a++t) (x::b) i with
 |false=>rfl
 |true=>
  have:=Lib.occAt_head rfl h;rw[List.getElem?_append_left hi]at this;exact absurd (List.mem_of_getElem? this) hx
theorem Kh {a t:List UInt8} (hx:(61:UInt8) ∉ a) (ht:t=[]∨ ∃t',t=32::t') {i:Nat} (hi:i<a.length):Lib.occAt (a++t) [32,61,32] i=false:=by
 cases h:Lib.occAt (a++t) [32,61,32] i with
 |false=>rfl
 |true=>
  have:=Lib.occAt_second rfl h
  by_cases h1:i+1<a.length
  ·rw[List.getElem?_append_left h1]at this
   exact absurd (List.mem_of_getElem? this) hx
  ·rw[List.getElem?_append_right (by omega),show i+1-a.length=0 by omega]at this
   rcases ht with rfl| ⟨t',rfl⟩<;>simp at this
theorem uF {a b r:List UInt8} (h:∀i,i<a.length->Lib.occAt (a++(b++r)) b i=false):Lib.index (a++(b++r)) b=(a.length:Nat):=by
 refine Lib.index_first (by simp) ?_ h;unfold Lib.occAt;rw[List.drop_left];exact List.isPrefixOf_iff_prefix.2 ⟨r,rfl⟩
theorem zy {b s:List UInt8} (hb:b≠[]) (h:∀i,i<s.length->Lib.occAt s b i=false):Lib.index s b= -1:=by
 refine Lib.index_none fun j hj=>?_
 by_cases hlt:j<s.length
 ·exact h j hlt
 ·cases ho:Lib.occAt s b j with
  |false=>rfl
  |true=>
   rcases Lib.occAt_room ho with h1|h1
   ·have:=List.length_pos_iff.2 hb;omega
   ·exact absurd h1 hb
theorem Li {a b r:List UInt8} (h:∀i,i<a.length->Lib.occAt (a++(b++r)) b i=false):Lib.cut (a++(b++r)) b=(a,r,true):=by
 unfold Lib.cut;rw[uF h,if_pos (by omega),Int.toNat_natCast,List.take_left,<- List.append_assoc,List.drop_left' (by simp)]
theorem RD {b s:List UInt8} (hb:b≠[]) (h:∀i,i<s.length->Lib.occAt s b i=false):Lib.cut s b=(s,[],false):=by
 unfold Lib.cut;rw[zy hb h,if_neg (by decide)]
theorem Vj {a:List UInt8} (hx:(61:UInt8) ∉ a) (r:List UInt8):Lib.cut (a++([32,61,32]++r)) [32,61,32]=(a,r,true):=Li fun _ hi=>Kh hx (.inr ⟨_,rfl⟩) hi
theorem LY {a:List UInt8} (hx:(61:UInt8) ∉ a):Lib.cut a [32,61,32]=(a,[],false):=RD (by simp) fun i hi=>by have:=Kh (t:=[]) hx (.inl rfl) hi;simpa using this
theorem ov {s b:List UInt8} {i:Nat} (hb:b≠[]) (h:Lib.index s b=i):Lib.split s b=s.take i::Lib.split (s.drop (i+b.length)) b:=by
 unfold Lib.split;rw[Lib.count_hit hb h,Nat.add_comm,Lib.splitK,h,if_neg (by rw[beq_iff_eq];omega),Int.toNat_natCast,Nat.add_zero]
theorem jb {s b:List UInt8} (h:Lib.index s b= -1):Lib.split s b=[s]:=by
 unfold Lib.split;rw[Lib.count_miss h];rfl
theorem gu (x y b:List UInt8) (r:List (List UInt8)):Lib.join (x::y::r) b=x++(b++Lib.join (y::r) b):=by
 rw[Lib.join_cons,Lib.join_cons]
 simp[Lib.joinTail]
theorem mh {x:UInt8} {b:List UInt8}:∀(l:List (List UInt8)),l≠[]->(∀y∈l,x ∉ y)->Lib.split (Lib.join l (x::b)) (x::b)=l
 | [],h,_=>absurd rfl h
 | [y],_,hx=>by
  rw[Lib.join_one];exact jb (zy (by simp) fun i hi=>by have:=y9 (b:=b) (t:=[]) (hx y (by simp)) hi;simpa using this)
 |y::z::r,_,hx=>by
  have hy:=hx y (by simp);rw[gu,ov (by simp) (uF fun _ hi=>y9 hy hi),List.take_left,<- List.append_assoc,List.drop_left' (by simp),mh (z::r) (by simp) fun w hw=>hx w (by simp[List.mem_cons.1 hw])]
theorem Mk {s b:List UInt8} {i:Nat} (h:Lib.index s b=i):Lib.cut s b=(s.take i,s.drop (i+b.length),true):=by
 unfold Lib.cut;rw[h,if_pos (by omega),Int.toNat_natCast]
theorem H3 {s b:List UInt8} (h:Lib.index s b= -1):Lib.cut s b=(s,[],false):=by
 unfold Lib.cut;rw[h,if_neg (by decide)]
theorem uz {s b:List UInt8} (hb:b≠[]):Lib.split s b=if(Lib.cut s b).2.2=true then(Lib.cut s b).1::Lib.split (Lib.cut s b).2.1 b else [(Lib.cut s b).1]:=by
 rcases Lib.index_spec s b with⟨h,_⟩| ⟨i,h,_⟩
 ·rw[H3 h,if_neg (by simp)]
  exact jb h
 ·rw[Mk h,if_pos rfl]
  exact ov hb h
theorem oU {s b:List UInt8} (hb:b≠[]) (h:(Lib.cut s b).2.2=true):(Lib.cut s b).2.1.length<s.length:=by
 have hl:=List.length_pos_iff.2 hb;unfold Lib.cut at h ⊢
 split at h
 ·rename_i h0
  rw[if_pos h0];have:=Lib.index_room s b h0
  simp only[List.length_drop]
  omega
 ·cases h
theorem Ax {s b:List UInt8}:(Lib.cut s b).1.length<=s.length/\(Lib.cut s b).2.1.length<=s.length:=by
 unfold Lib.cut
 split
 ·simp only[List.length_take,List.length_drop];omega
 ·simp
end Go.Proofs.YtnchbpoopnjghaaGreatDoor
