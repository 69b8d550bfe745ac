/- Parts of a proof: contracts of the functions that the laws reach. -/
import Derived.Test.YtikbnnljjeefgaaGreatDoorXZ12
import Derived.Test.YtikbnnljjeefgaaGreatDoorXZ6
import Derived.ChangeMaps5
set_option maxHeartbeats 100000000
set_option linter.all false
open Go.Proofs.Tryz
namespace Go.Proofs.YtikbnnljjeefgaaGreatDoor
open Go.RowKit
theorem yD (q:Rat):∀k,pw q k=q*(((10^k:Nat):Int):Rat)
 |0=>by simp[pw]
 |k+1=>by
  have e:(((10^(k+1):Nat):Int):Rat)=(((10^k:Nat):Int):Rat)*((10:Int):Rat):=by
   rw[← Rat.intCast_mul];congr 1
  rw[pw,yD q k,e,Rat.mul_assoc]
theorem F5 {q:Rat} {k:Nat} (h:((pw q k).den:Int)=1):Rat.divInt (pw q k).num ((10^k:Nat):Int)=q:=by
 have h1:((pw q k).num:Rat)=pw q k:=by
  have hd:(pw q k).den=1:=by omega
  have:=Rat.num_divInt_den (pw q k);rw[hd]at this;rw[← this];exact(Rat.num_divInt_den (((pw q k).num:Int):Rat)).symm ▸ rfl
 have hp:(((10^k:Nat):Int):Rat)≠0:=by
  intro h;have:=Rat.intCast_eq_zero_iff.1 h;have hp:=Nat.pow_pos (n:=k) (show 0<10 by decide);omega
 rw[Rat.divInt_eq_div,h1,yD,Rat.div_def,Rat.mul_assoc,Rat.mul_inv_cancel _ hp,Rat.mul_one]
def Im (t:List UInt8):Prop:=∃a,iC false a∧(t=a∨ ∃b,b≠[]∧(∀x∈b,di x)∧t=a++46::b)
theorem mn {q:Rat} {t:List UInt8} (h:eY q=some t):Im t∧t.length≤40∧bE t=some q:=by
 have hs:¬Cd q<0:=fun hn=>by rw[eY,if_pos hn]at h;cases h
 obtain⟨K,hK,_,hc⟩:=mG hs;rcases hc with⟨_,hc⟩| ⟨hK,hd,hc⟩
 ·rw[hc]at h;cases h
 rw[hc]at h
 split at h
 ·rename_i hlen
  cases h;have hq:=F5 hd
  have hpos:0≤(pw q K).num:=by
   have h0:0≤q.num:=by
    have:=Int.sign_nonneg_iff (x:=q.num);unfold Cd at hs;omega
   have:(0:Rat)≤pw q K:=by
    rw[yD];exact Rat.mul_nonneg (Rat.num_nonneg.1 h0) (Rat.intCast_nonneg.2 (Int.natCast_nonneg _))
   exact Rat.num_nonneg.2 this
  obtain⟨N,hN⟩:=Int.eq_ofNat_of_zero_le hpos;rw[hN]at hq hlen ⊢;rw[Fe]at hlen ⊢;have hu:=xc N;have hok:=FM N;have hnum:=C1 N
  have hhd:1<(lU N).length→ ∀c r,lU N=c::r→c≠48:=fun hl=>by
   rcases hok.2.2 with h|h
   ·exact h
   ·omega
  generalize lU N=u at *;have hne:0<u.length:=List.length_pos_iff.2 hok.1
  have hpl:=xl K u
  have hpD:∀c∈d9 K u,di c:=fun c hc=>by
   unfold d9 at hc;rcases List.mem_append.1 hc with hc|hc
   ·rw[List.eq_of_mem_replicate hc];decide
   ·exact hu c hc
  have hpn:num (d9 K u)=N:=by rw[d9,AU,hnum]
  by_cases h0:0<K
  ·have hsp:=List.take_append_drop ((d9 K u).length-K) (d9 K u)
   have hph:K+1<u.length→d9 K u=u:=fun hl=>by
    unfold d9;rw[show K+1-u.length=0 by omega];rfl
   rw[jc,if_pos h0]at hlen ⊢;have hal:((d9 K u).take ((d9 K u).length-K)).length=(d9 K u).length-K:=by rw[List.length_take];omega
   have hbl:((d9 K u).drop ((d9 K u).length-K)).length=K:=by rw[List.length_drop];omega
   have haD:∀c∈(d9 K u).take ((d9 K u).length-K),di c:=fun c hc=>hpD c (List.mem_of_mem_take hc)
   have hbD:∀c∈(d9 K u).drop ((d9 K u).length-K),di c:=fun c hc=>hpD c (List.mem_of_mem_drop hc)
   have hah:∀c r,(d9 K u).take ((d9 K u).length-K)=c::r→1<(d9 K u).length-K→c≠48:=fun c r e hl=>by
    rw[hph (by omega)]at e hl hpl;cases hc:u with
    |nil=>rw[hc]at hne;simp at hne
    |cons x y=>
     have:=hhd (by omega) x y hc;rw[hc]at e;obtain⟨m,hm⟩:∃m,(x::y).length-K=m+1:=⟨(x::y).length-K-1,by rw[← hc];omega⟩;rw[hm,List.take_succ_cons]at e;cases e;exact this
   have hsum:num ((d9 K u).take ((d9 K u).length-K))*10^K+num ((d9 K u).drop ((d9 K u).length-K))=N:=by
    rw[← hpn]
    conv=>rhs;rw[← hsp]
    rw[mA,hbl]
   generalize(d9 K u).take ((d9 K u).length-K)=a at *;generalize(d9 K u).drop ((d9 K u).length-K)=b at *;rw[List.append_assoc,List.singleton_append]at hlen ⊢
   have hoa:iC false a:=⟨fun e=>by rw[e]at hal;simp at hal;omega,haD,by
    by_cases h1:1<(d9 K u).length-K
    ·exact .inl fun c r e=>hah c r e h1
    ·exact .inr ⟨by omega,rfl⟩⟩
   have hb0:b≠[]:=fun e=>by rw[e]at hbl;simp at hbl;omega
   refine⟨⟨a,hoa, .inr ⟨b,hb0,hbD,rfl⟩⟩,hlen,?_⟩
   have hhd:∀c r,a++46::b=c::r→di c:=fun c r e=>by
    cases a with
    |nil=>exact absurd rfl hoa.1
    |cons x y=>cases e;exact haD _ (by simp)
   have hp:=yv (b:=false) hhd
   simp only[Bool.false_eq_true,if_false,List.nil_append]at hp
   have hpq:fg (a++46::b)=some q:=by
    rw[zO (fun hm=>?_) (fun hm=>GS (haD _ hm)),if_pos ⟨hoa,hb0,hbD⟩,hbl,hsum]
    ·rw[show((N:Nat):Int)=(N:Int) from rfl,hq]
    ·rcases List.mem_append.1 hm with hm|hm
     ·exact D6 (haD _ hm)
     ·rcases List.mem_cons.1 hm with hm|hm
      ·exact absurd hm (by decide)
      ·exact D6 (hbD _ hm)
   unfold bE;rw[if_pos (by omega),hp.1,hp.2,hpq];rfl
  ·obtain rfl:K=0:=by omega
   have ht:jc 0 u=u:=by
    rw[jc,if_neg h0,d9,show 0+1-u.length=0 by omega];rfl
   rw[ht]at hlen ⊢;refine⟨⟨u,hok, .inl rfl⟩,hlen,?_⟩;have hhd:∀c r,u=c::r→di c:=fun c r e=>hu c (by rw[e];simp)
   have hp:=yv (b:=false) hhd
   simp only[Bool.false_eq_true,if_false,List.nil_append]at hp
   have hpq:fg u=some q:=by
    rw[vS (fun hm=>D6 (hu _ hm)) (fun hm=>GS (hu _ hm)),if_pos hok,hnum]
    congr 1
    rw[← hq];exact(Rat.num_divInt_den ((N:Int):Rat)).symm
   unfold bE;rw[if_pos (by omega),hp.1,hp.2,hpq];rfl
 ·cases h
def EQ (r:List UInt8):Prop:=∀c r',r=c::r'→c=32∨c=41
theorem lz {p:UInt8→Bool} {a r:List UInt8} (ha:∀c∈a,p c=true) (hr:∀c r',r=c::r'→p c=false):aO p (a++r)=a.length:=by
 unfold aO;rw[List.takeWhile_append_of_pos ha];cases r with
 |nil=>simp
 |cons c r=>rw[List.takeWhile_cons,hr c r rfl];simp
theorem AB {p:UInt8→Bool} {s:List UInt8} (h:aO p s=s.length):∀c∈s,p c=true:=by
 induction s with
 |nil=>intro c hc;cases hc
 |cons a s ih=>
  unfold aO at h ih;rw[List.takeWhile_cons]at h
  split at h
  ·rename_i hp
   intro c hc;rcases List.mem_cons.1 hc with rfl|hc
   ·exact hp
   ·exact ih (by simpa using h) c hc
  ·simp at h
theorem G3 {r:List UInt8} (h:EQ r):∀c r',r=c::r'→fM c=false:=fun c r' e=>by
 rcases h c r' e with rfl|rfl <;>rfl
theorem yr {s r:List UInt8} (h:nj s=true) (hr:EQ r):ga (s++r)=(1,s.length)∧s.length≤24:=by
 cases s with
 |nil=>cases h
 |cons c s=>
  simp only[nj,Bool.and_eq_true,decide_eq_true_eq]at h
  obtain⟨h1,h2,h3⟩:=h;refine⟨?_,h1⟩;rw[List.cons_append,ga,if_pos h2,← List.cons_append,lz (AB h3) (G3 hr)]
theorem qH {c:UInt8}:ct c=true↔di c:=by
 unfold ct di
 simp
theorem F3 {c:UInt8} (h:di c):ee c=false:=by
 unfold di at h;unfold ee
 simp
 omega
theorem Fv {t r:List UInt8} (h:Im t) (hr:EQ r):gW (t++r)=t.length:=by
 obtain⟨a,ha,h⟩:=h;have hda:∀c∈a,ct c=true:=fun c hc=>qH.2 (ha.2.1 c hc)
 have hdr:∀c r',r=c::r'→ct c=false:=fun c r' e=>by rcases hr c r' e with rfl|rfl <;>rfl
 rcases h with rfl| ⟨b,hb,hbD,rfl⟩
 ·have e:=lz hda hdr
  unfold gW;rw[e,if_neg];rintro⟨h1,_⟩;rw[List.getElem?_append_right (Nat.le_refl _),Nat.sub_self]at h1;cases r with
  |nil=>cases h1
  |cons c r=>
   cases h1;rcases hr 46 r rfl with h|h<;>exact absurd h (by decide)
 ·have e:aO ct (a++46::b++r)=a.length:=by
   rw[List.append_assoc];exact lz hda (fun c r' e=>by cases e;rfl)
  have e2:(a++46::b++r).drop (a.length+1)=b++r:=by
   rw[List.append_assoc,List.drop_append]
   simp
  have e3:aO ct (b++r)=b.length:=lz (fun c hc=>qH.2 (hbD c hc)) hdr
  have e4:(a++46::b++r)[a.length]? =some 46:=by
   rw[List.append_assoc,List.getElem?_append_right (Nat.le_refl _),Nat.sub_self];rfl
  unfold gW;rw[e,e2,e3,e4,if_pos ⟨rfl,List.length_pos_iff.2 hb⟩]
  simp
  omega
theorem Im.head {t:List UInt8} (h:Im t):∃c r,t=c::r∧di c:=by
 obtain⟨a,ha,h⟩:=h;cases a with
 |nil=>exact absurd rfl ha.1
 |cons c a=>
  have hc:=ha.2.1 c (by simp);rcases h with rfl| ⟨b,_,_,rfl⟩
  ·exact⟨c,a,rfl,hc⟩
  ·exact⟨c,a++46::b,rfl,hc⟩
theorem Hn {t r:List UInt8} (h:Im t) (hr:EQ r):ga (t++r)=(2,t.length):=by
 have hn:=Fv h hr;obtain⟨c,s,rfl,hc⟩:=h.head;rw[List.cons_append]at hn ⊢;rw[ga,F3 hc,qH.2 hc,hn];rfl
def DA (c:UInt8):Bool:=c == 40 || c == 41 || c == 43 || c == 45 || c == 42 || c == 47
theorem H4 {c:UInt8} (r:List UInt8) (h:DA c=true):ga (c::r)=(4,1):=by
 simp only[DA,Bool.or_eq_true,beq_iff_eq]at h
 have key:∀c:UInt8,ee c=false→ct c=false→c≠34→c≠10→r8 c=true→ga (c::r)=(4,1):=fun c h1 h2 h3 h4 h5=>by
  simp[ga,h1,h2,h3,h4,h5]
 rcases h with((((rfl|rfl)|rfl)|rfl)|rfl)|rfl <;>exact key _ (by decide) (by decide) (by decide) (by decide) (by decide)
def TR (r:List UInt8) (p:Nat) (T:List Tk) (r':List UInt8) (p':Nat):Prop:=∀f acc,r.length<f→ ∃f',r'.length<f'∧cJ f r p acc=cJ f' r' p' (acc++T)
theorem TR.nil {r:List UInt8} {p:Nat}:TR r p [] r p:=fun f acc h=>⟨f,h,by rw[List.append_nil]⟩
theorem TR.trans {r r' r2:List UInt8} {p p' p2:Nat} {T T':List Tk} (h:TR r p T r' p') (h':TR r' p' T' r2 p2):TR r p (T++T') r2 p2:=fun f acc hf=>by
 obtain⟨f1,h1,e1⟩:=h f acc hf;obtain⟨f2,h2,e2⟩:=h' f1 (acc++T) h1;exact⟨f2,h2,by rw[e1,e2,List.append_assoc]⟩
theorem TR.sp (r:List UInt8) (p:Nat):TR (32::r) p [] r (p+1):=fun f acc h=>by
 obtain⟨f,rfl⟩:∃k,f=k+1:=⟨f-1,by omega⟩;exact⟨f,by simp at h;omega,by rw[cJ,if_pos (.inl rfl),List.append_nil]⟩
theorem TR.one {x r:List UInt8} {k:Nat} (p:Nat) (h:ga (x++r)=(k,x.length)) (h0:∃c y,x=c::y∧ ¬(c=32∨c=9)) (hk:k=1→x.length≤24):TR (x++r) p [(k,x,p)] r (p+x.length):=fun f acc hf=>by
 obtain⟨c,y,rfl,hc⟩:=h0;obtain⟨f,rfl⟩:∃k,f=k+1:=⟨f-1,by omega⟩;refine⟨f,by simp at hf;omega,?_⟩;rw[List.cons_append,cJ,if_neg hc,← List.cons_append,h];dsimp only;rw[if_neg (by simp),if_neg (fun h=>by have:=hk h.1;omega),List.drop_left,List.take_left]
theorem TR.sy {c:UInt8} (r:List UInt8) (p:Nat) (h:DA c=true):TR (c::r) p [(4,[c],p)] r (p+1):=by
 refine TR.one (x:=[c]) p (H4 r h) ⟨c,[],rfl,?_⟩ (fun h=>by cases h);rintro(rfl|rfl)<;>cases h
theorem TR.nm {s r:List UInt8} (p:Nat) (h:nj s=true) (hr:EQ r):TR (s++r) p [(1,s,p)] r (p+s.length):=by
 obtain⟨h1,h2⟩:=yr h hr;refine TR.one p h1 ?_ (fun _=>h2);cases s with
 |nil=>cases h
 |cons c s=>
  simp only[nj,Bool.and_eq_true,decide_eq_true_eq]at h
  exact⟨c,s,rfl,by rintro(rfl|rfl)<;>exact absurd h.2.1 (by decide)⟩
theorem TR.dc {t r:List UInt8} (p:Nat) (h:Im t) (hr:EQ r):TR (t++r) p [(2,t,p)] r (p+t.length):=by
 refine TR.one p (Hn h hr) ?_ (fun h=>by cases h);obtain⟨c,s,rfl,hc⟩:=h.head;exact⟨c,s,rfl,by rintro(rfl|rfl)<;>exact absurd hc (by decide)⟩
def Fn (T:List Tk) (p p':Nat):Prop:=∀t∈T,t.1≠0∧(t.1=4→ ∃c,t.2.1=[c])∧t.2.1.length≤500∧p≤t.2.2∧t.2.2<p'
theorem Fn.app {T T':List Tk} {p p1 p2 p':Nat} (h:Fn T p p1) (h':Fn T' p2 p') (h1:p1≤p') (h2:p≤p2):Fn (T++T') p p':=fun t ht=>by
 rcases List.mem_append.1 ht with ht|ht
 ·obtain⟨a,b,c,d,e⟩:=h t ht;exact⟨a,b,c,d,by omega⟩
 ·obtain⟨a,b,c,d,e⟩:=h' t ht;exact⟨a,b,c,by omega,e⟩
theorem Fn.one {k p p' q:Nat} {x:List UInt8} (h0:k≠0) (h4:k=4→ ∃c,x=[c]) (hx:x.length≤500) (h1:p≤q) (h2:q<p'):Fn [(k,x,q)] p p':=fun t ht=>by
 cases List.mem_singleton.1 ht;exact⟨h0,h4,hx,h1,h2⟩
def PP (m:Md) (ts:List Tk) (x:gR):Prop:=∃f,pP f m ts=some x
def Jn (r:List Tk):Prop:=∀t u,r=t::u→t.1≠1
def JM (r:List Tk):Prop:=dw true r=none
def S3 (e:Ex) (T:List Tk):Prop:=∀r,Jn r→PP .un (T++r) (.ok (e,r))
def S2 (e:Ex) (T:List Tk):Prop:=∀r x,Jn r→PP (.more true e) r x→PP .prod (T++r) x
def S1 (e:Ex) (T:List Tk):Prop:=∀r x,Jn r→JM r→PP (.more false e) r x→PP .sum (T++r) x
theorem S3.s2 {e:Ex} {T:List Tk} (h:S3 e T):S2 e T:=fun r x h1 ⟨f,hf⟩=>by
 obtain⟨g,hg⟩:=h r h1;exact⟨max f g+1,by rw[eI,fQ (Nat.le_max_right f g) hg];exact fQ (Nat.le_max_left f g) hf⟩
theorem jr {two:Bool} {e:Ex} {r:List Tk} (h:dw two r=none):PP (.more two e) r (.ok (e,r)):=⟨1,by rw[cg,h]⟩
theorem S2.s1 {e:Ex} {T:List Tk} (h:S2 e T):S1 e T:=fun r x h1 h2 ⟨f,hf⟩=>by
 obtain⟨g,hg⟩:=h r _ h1 (jr h2);exact⟨max f g+1,by rw[fT,fQ (Nat.le_max_right f g) hg];exact fQ (Nat.le_max_left f g) hf⟩
theorem x7 {e:Ex} {T:List Tk} {p p':Nat} (h:∀r,PP .sum (T++(4,[41],p')::r) (.ok (e,(4,[41],p')::r))):S3 e ([(4,[40],p)]++T++[(4,[41],p')]):=fun r h1=>by
 obtain⟨f,hf⟩:=h r;refine⟨f+2,?_⟩;have e1:[(4,[40],p)]++T++[(4,[41],p')]++r=(4,[40],p)::(T++(4,[41],p')::r):=by simp
 have e2:aU 45 ((4,[40],p)::(T++(4,[41],p')::r))=none:=by simp[aU]
 have e3:aU 40 ((4,[40],p)::(T++(4,[41],p')::r))=some (T++(4,[41],p')::r):=by simp[aU]
 have e4:aU 41 ((4,[41],p')::r)=some r:=by simp[aU]
 rw[e1,fX,e2];dsimp only;rw[dl,e3];dsimp only;rw[hf];dsimp only;rw[e4]
theorem S1.par {e:Ex} {T:List Tk} {p p':Nat} (h:S1 e T):S3 e ([(4,[40],p)]++T++[(4,[41],p')]):=
 x7 fun r=>h ((4,[41],p')::r) (.ok (e,(4,[41],p')::r)) (fun t u e=>by cases e;show(4:Nat)≠1;decide) (by rfl) (jr (by rfl))
theorem S3.neg {e:Ex} {T:List Tk} {p:Nat} (h:S3 e T):S3 (.neg e) ([(4,[45],p)]++T):=fun r h1=>by
 obtain⟨f,hf⟩:=h r h1;refine⟨f+1,?_⟩;have e2:aU 45 ([(4,[45],p)]++T++r)=some (T++r):=by simp[aU]
 rw[fX,e2];dsimp only;rw[hf]
theorem S3.nam (s:List UInt8) (p:Nat):S3 (.nam s) [(1,s,p)]:=fun r _=>⟨2,by simp[fX,dl,aU]⟩
theorem S3.num {q:Rat} {t u:List UInt8} (p p':Nat) (h:eY q=some t):S3 (.num q u) ((2,t,p)::if u=[]then []else [(1,u,p')]):=fun r h1=>by
 refine⟨2,?_⟩;have hp:=(mn h).2.2;have e1:∀L,aU 45 ((2,t,p)::L)=none:=fun L=>by simp[aU]
 have e2:∀L,aU 40 ((2,t,p)::L)=none:=fun L=>by simp[aU]
 rw[List.cons_append,fX,e1];dsimp only;rw[dl,e2];dsimp only;rw[if_pos rfl]
 congr 1
 unfold dV;dsimp only;rw[hp];dsimp only;rw[h];dsimp only
 by_cases hu:u=[]
 ·subst hu
  rw[if_pos rfl,List.nil_append];cases r with
  |nil=>rfl
  |cons v r=>dsimp only;rw[if_neg (h1 v r rfl)]
 ·rw[if_neg hu]
  rfl
theorem I3 {k:B4} {a b:Ex} {Ta Tb:List Tk} {p:Nat} {c:UInt8} (hk:gY false [c]=some k) (h2:gY true [c]=none) (ha:S1 a Ta) (hb:S2 b Tb):S1 (.bin k a b) (Ta++[(4,[c],p)]++Tb):=fun r x h1 ho ⟨f,hf⟩=>by
 obtain⟨g,hg⟩:=hb r _ h1 (jr ho);have e:Ta++[(4,[c],p)]++Tb++r=Ta++((4,[c],p)::(Tb++r)):=by simp
 rw[e];refine ha _ x (fun t u e=>by cases e;show(4:Nat)≠1;decide) (by simp[JM,dw,h2]) ⟨max f g+1,?_⟩;have e2:dw false ((4,[c],p)::(Tb++r))=some (k,Tb++r):=by simp[dw,hk]
 rw[cg,e2];dsimp only[ej];rw[fQ (Nat.le_max_right f g) hg];exact fQ (Nat.le_max_left f g) hf
theorem IW {k:B4} {a b:Ex} {Ta Tb:List Tk} {p:Nat} {c:UInt8} (hk:gY true [c]=some k) (ha:S2 a Ta) (hb:S3 b Tb):S2 (.bin k a b) (Ta++[(4,[c],p)]++Tb):=fun r x h1 ⟨f,hf⟩=>by
 obtain⟨g,hg⟩:=hb r h1;have e:Ta++[(4,[c],p)]++Tb++r=Ta++((4,[c],p)::(Tb++r)):=by simp
 rw[e];refine ha _ x (fun t u e=>by cases e;show(4:Nat)≠1;decide) ⟨max f g+1,?_⟩;have e2:dw true ((4,[c],p)::(Tb++r))=some (k,Tb++r):=by simp[dw,hk]
 rw[cg,e2];dsimp only[ej];rw[fQ (Nat.le_max_right f g) hg];exact fQ (Nat.le_max_left f g) hf
def Sx:Nat→Ex→List Tk→Prop
 |0,e,T=>S1 e T
 |1,e,T=>S1 e T
 |2,e,T=>S2 e T
 |_+3,e,T=>S3 e T
theorem Sx.of3 {e:Ex} {T:List Tk} (h:S3 e T):∀n,Sx n e T
 |0=>h.s2.s1
 |1=>h.s2.s1
 |2=>h.s2
 |_+3=>h
theorem Sx.low {e:Ex} {T:List Tk}:∀{n m:Nat},n≤m→Sx m e T→Sx n e T
 |0,0,_,h=>h
 |0,1,_,h=>h
 |0,2,_,h=>S2.s1 h
 |0,_+3,_,h=>h.s2.s1
 |1,1,_,h=>h
 |1,2,_,h=>S2.s1 h
 |1,_+3,_,h=>h.s2.s1
 |2,2,_,h=>h
 |2,_+3,_,h=>h.s2
 |_+3,_+3,_,h=>h
 |1,0,h,_=>absurd h (by decide)
 |2,0,h,_=>absurd h (by decide)
 |2,1,h,_=>absurd h (by decide)
 |n+3,0,h,_=>absurd h (by omega)
 |n+3,1,h,_=>absurd h (by omega)
 |n+3,2,h,_=>absurd h (by omega)
def Jy (e:Ex) (n:Nat):Prop:=∀p r,EQ r→ ∃T,TR (aV e n++r) p T r (p+(aV e n).length)∧Fn T p (p+(aV e n).length)∧Sx n e T
theorem FU (e:Ex):1≤rW e:=by
 cases e with
 |num=>exact Nat.le_of_ble_eq_true rfl
 |nam=>exact Nat.le_of_ble_eq_true rfl
 |neg=>exact Nat.le_of_ble_eq_true rfl
 |bin k=>cases k<;>exact Nat.le_of_ble_eq_true rfl
theorem Jy.lift {e:Ex} (h:Jy e (rW e)) (n:Nat) (hn:n≤3):Jy e n:=by
 intro p r hr;have h0:aV e (rW e)=aV e 0:=by rw[j6 e (rW e),ji,if_neg (Nat.lt_irrefl _)]
 have hw:=j6 e n
 by_cases hl:rW e<n
 ·rw[ji,if_pos hl]at hw
  have hs:EQ (41::r):=fun c r' e=>by cases e;exact .inr rfl
  obtain⟨T,t1,t2,t3⟩:=h (p+1) (41::r) hs;rw[h0]at t1 t2;have hlen:(aV e n).length=(aV e 0).length+2:=by rw[hw];simp
  rw[hlen];have e1:aV e n++r=40::(aV e 0++41::r):=by rw[hw];simp
  rw[e1];refine⟨[(4,[40],p)]++T++[(4,[41],p+1+(aV e 0).length)],?_,?_,?_⟩
  ·have:=((TR.sy (aV e 0++41::r) p (c:=40) rfl).trans t1).trans (TR.sy (c:=41) r _ rfl)
   rwa[show p+((aV e 0).length+2)=p+1+(aV e 0).length+1 by omega]
  ·exact((Fn.one (p':=p+1) (by decide) (fun _=>⟨_,rfl⟩) (by decide) (Nat.le_refl _) (by omega)).app t2 (by omega) (by omega)).app (Fn.one (p:=p) (p':=p+((aV e 0).length+2)) (by decide) (fun _=>⟨_,rfl⟩) (by decide) (by omega) (by omega)) (by omega) (Nat.le_refl _)
  ·exact Sx.of3 (S1.par (Sx.low (FU e) t3)) n
 ·rw[ji,if_neg hl,← h0]at hw
  obtain⟨T,t1,t2,t3⟩:=h p r hr;rw[hw];exact⟨T,t1,t2,Sx.low (by omega) t3⟩
theorem Jg (k:B4):∃c,il k=[32,c,32]∧DA c=true∧((cK k=1∧gY false [c]=some k∧gY true [c]=none)∨(cK k=2∧gY true [c]=some k)):=by
 cases k
 ·exact⟨43,rfl,rfl, .inl ⟨rfl,rfl,rfl⟩⟩
 ·exact⟨45,rfl,rfl, .inl ⟨rfl,rfl,rfl⟩⟩
 ·exact⟨42,rfl,rfl, .inr ⟨rfl,rfl⟩⟩
 ·exact⟨47,rfl,rfl, .inr ⟨rfl,rfl⟩⟩
theorem uG:∀(e:Ex),jC e→Jy e (rW e)
 | .num v u,hf=>by
  intro p r hr;obtain⟨h1,h2,h3⟩:=hf;obtain⟨t,ht⟩:=Option.isSome_iff_exists.1 h1;obtain⟨d1,d2,_⟩:=mn ht
  have e0:aV (.num v u) (rW (.num v u))=t++gH u:=by
   show ji 4 4 (yJ v++gH u)=_;rw[ji,if_neg (by decide),yJ,ht];rfl
  rw[e0]
  by_cases hu:u=[]
  ·subst hu
   refine⟨[(2,t,p)],?_,?_,?_⟩
   ·have:=TR.dc p d1 hr
    simpa[gH]using this
   ·obtain⟨c,y,rfl,_⟩:=d1.head
    exact Fn.one (by decide) (fun h=>by cases h) (by omega) (Nat.le_refl _) (by simp)
   ·exact Sx.of3 (S3.num (u:=[]) p 0 ht) _
  ·have hn:=h3.resolve_left hu
   have hl:=(yr (r:=[]) hn (fun c r' e=>by cases e)).2;have hsp:EQ (32::(u++r)):=fun c r' e=>by cases e;exact .inl rfl
   have e1:gH u=32::u:=if_neg hu;have e2:t++gH u++r=t++(32::(u++r)):=by rw[e1];simp
   have e3:(t++gH u).length=t.length+1+u.length:=by rw[e1];simp;omega
   rw[e2,e3];refine⟨[(2,t,p)]++[]++[(1,u,p+t.length+1)],?_,?_,?_⟩
   ·have:=((TR.dc p d1 hsp).trans (TR.sp (u++r) _)).trans (TR.nm _ hn hr)
    rwa[show p+(t.length+1+u.length)=p+t.length+1+u.length by omega]
   ·obtain⟨c,y,rfl,_⟩:=d1.head
    have hup:0<u.length:=List.length_pos_iff.2 hu
    rw[List.append_nil];exact(Fn.one (p':=p+((c::y).length+1+u.length)) (by decide) (fun h=>by cases h) (by omega) (Nat.le_refl _) (by omega)).app (Fn.one (p:=p) (by decide) (fun h=>by cases h) (by omega) (by omega) (by omega)) (Nat.le_refl _) (Nat.le_refl _)
   ·have:=S3.num (u:=u) p (p+t.length+1) ht
    rw[if_neg hu]at this;exact Sx.of3 this _
 | .nam s,hf=>by
  intro p r hr;have hf:nj s=true:=hf;have hl:=(yr (r:=[]) hf (fun c r' e=>by cases e)).2
  have e0:aV (.nam s) (rW (.nam s))=s:=by
   show ji 4 4 s=_;rw[ji,if_neg (by decide)]
  rw[e0];refine⟨[(1,s,p)],TR.nm p hf hr,?_,Sx.of3 (S3.nam s p) _⟩
  have:0<s.length:=by
   cases s with
   |nil=>cases hf
   |cons c s=>simp
  exact Fn.one (by decide) (fun h=>by cases h) (by omega) (Nat.le_refl _) (by omega)
 | .neg a,hf=>by
  intro p r hr
  have e0:aV (.neg a) (rW (.neg a))=45::aV a 3:=by
   show ji 3 3 ([45]++aV a 3)=_;rw[ji,if_neg (by decide)];rfl
  rw[e0];obtain⟨T,t1,t2,t3⟩:=(uG a hf).lift 3 (Nat.le_refl _) (p+1) r hr;refine⟨[(4,[45],p)]++T,?_,?_,?_⟩
  ·have:=(TR.sy (aV a 3++r) p (c:=45) rfl).trans t1
   rwa[show p+(45::aV a 3).length=p+1+(aV a 3).length by simp;omega]
  ·rw[show p+(45::aV a 3).length=p+1+(aV a 3).length by simp;omega]
   exact(Fn.one (p':=p+1) (by decide) (fun _=>⟨_,rfl⟩) (by decide) (Nat.le_refl _) (by omega)).app t2 (by omega) (by omega)
  ·exact Sx.of3 (S3.neg t3) _
 | .bin k a b,hf=>by
  intro p r hr;obtain⟨c,hc,hs,hk⟩:=Jg k
  have e0:aV (.bin k a b) (rW (.bin k a b))=aV a (cK k)++[32,c,32]++aV b (cK k+1):=by
   show ji (cK k) (cK k) (aV a (cK k)++il k++aV b (cK k+1))=_;rw[ji,if_neg (Nat.lt_irrefl _),hc]
  have hk3:cK k≤2:=by cases k<;>decide
  have e1:aV (.bin k a b) (rW (.bin k a b))++r=aV a (cK k)++(32::c::32::(aV b (cK k+1)++r)):=by rw[e0];simp
  have e2:(aV (.bin k a b) (rW (.bin k a b))).length=(aV a (cK k)).length+3+(aV b (cK k+1)).length:=by rw[e0];simp;omega
  rw[e1,e2];have hsp:∀l,EQ (32::l):=fun l c r' e=>by cases e;exact .inl rfl
  obtain⟨Ta,a1,a2,a3⟩:=(uG a hf.1).lift (cK k) (by omega) p (32::c::32::(aV b (cK k+1)++r)) (hsp _);obtain⟨Tb,b1,b2,b3⟩:=(uG b hf.2).lift (cK k+1) (by omega) (p+(aV a (cK k)).length+3) r hr;refine⟨Ta++[(4,[c],p+(aV a (cK k)).length+1)]++Tb,?_,?_,?_⟩
  ·have:=(((a1.trans (TR.sp _ _)).trans (TR.sy _ _ hs)).trans (TR.sp _ _)).trans b1
   simp only[List.append_nil]at this
   rwa[show p+((aV a (cK k)).length+3+(aV b (cK k+1)).length)=p+(aV a (cK k)).length+3+(aV b (cK k+1)).length by omega]
  ·rw[show p+((aV a (cK k)).length+3+(aV b (cK k+1)).length)=p+(aV a (cK k)).length+3+(aV b (cK k+1)).length by omega]
   exact(a2.app (Fn.one (p:=p) (p':=p+(aV a (cK k)).length+3) (by decide) (fun _=>⟨_,rfl⟩) (by simp) (by omega) (by omega)) (by omega) (Nat.le_refl _)).app b2 (by omega) (by omega)
  ·show Sx (cK k) _ _
   rcases hk with⟨h1,h2,h3⟩| ⟨h1,h2⟩
   ·rw[h1]at a3 b3 ⊢
    exact I3 h2 h3 a3 b3
   ·rw[h1]at a3 b3 ⊢
    exact IW h2 a3 b3
theorem Cm {e:Ex} (hf:jC e) (hd:iT (rx e)≤40) (hl:(aV e 0).length≤65536):∃T,cJ ((aV e 0).length+1) (aV e 0) 0 []= .ok T∧vk T (aV e 0).length∧gg T 0 (aV e 0).length= .ok e:=by
 obtain⟨T,t1,t2,t3⟩:=(uG e hf).lift 0 (by decide) 0 [] (fun c r' e=>by cases e);rw[List.append_nil,Nat.zero_add]at t1;rw[Nat.zero_add]at t2;obtain⟨f,h1,h2⟩:=t1 ((aV e 0).length+1) [] (Nat.lt_succ_self _);obtain⟨f,rfl⟩:∃k,f=k+1:=⟨f-1,by simp at h1;omega⟩;rw[List.nil_append,cJ]at h2;have hlen:=jw _ _ _ _ _ h2;generalize(aV e 0).length=E at *
 have hw:∀T,Fn T 0 E→cO (T++[(0,[],E)]):=by
  intro T
  induction T with
  |nil=>intro _;rfl
  |cons t T ih=>
   intro h;have ht:=h t (by simp);have:=ih (fun u hu=>h u (by simp[hu]));cases T with
   |nil=>exact⟨⟨ht.1,ht.2.1,fun _=>ht.2.2.1⟩,this⟩
   |cons u T=>exact⟨⟨ht.1,ht.2.1,fun _=>ht.2.2.1⟩,this⟩
 refine⟨_,h2,⟨hw T t2,fun t ht=>?_,fun t ht=>?_,?_⟩,?_⟩
 ·rcases List.mem_append.1 ht with ht|ht
  ·have:=t2 t ht
   exact⟨fun h=>absurd h this.1,fun _=>this.2.2.2.2⟩
  ·cases List.mem_singleton.1 ht
   exact⟨fun _=>rfl,fun h=>absurd rfl h⟩
 ·rcases List.mem_append.1 ht with ht|ht
  ·have:=(t2 t ht).2.2.1;omega
  ·cases List.mem_singleton.1 ht;exact Nat.zero_le _
 ·simp at hlen ⊢;omega
 ·obtain⟨g,hg⟩:=t3 [(0,[],E)] (.ok (e,[(0,[],E)])) (fun t u e=>by cases e;show(0:Nat)≠1;decide) rfl (jr rfl)
  obtain⟨x,hx⟩:=fx (T++[(0,[],E)]);have h1:=fQ (Nat.le_max_left g (5*(T++[(0,[],E)]).length+5)) hg;have h3:=fQ (Nat.le_max_right g (5*(T++[(0,[],E)]).length+5)) hx;rw[h3]at h1;cases h1;unfold gg;rw[hx];dsimp only;rw[if_neg (fun h=>h rfl),if_neg (fun h=>h rfl),if_pos hd]
theorem nW (x:Rx) (hx:oL x):aa Tryz.prog 11 [dR x] (.one (dB (decide (tp x 120≤120) && Ae x))):=by
 have c1:=El x hx 120 (by decide);have c2:=EF x hx;have hn:=qB x 120;obtain⟨o1,na1,xs1,nb1,ys1,nm1,n1,cs1,hA⟩:=aS x;rw[show dR x= .agg (ac o1 na1 xs1 nb1 ys1 nm1 n1 cs1) from congrArg DV.agg hA]at c1 c2 ⊢;generalize tp x 120=k at *
 by_cases hk:k≤120
 ·rw[decide_eq_true hk,Bool.true_and]
  refine kV func11 ?_;refine kC (c1) ?_;refine kX ?_;refine kC (c2) ?_;exact kF
 ·rw[decide_eq_false hk,Bool.false_and]
  refine kV func11 ?_;refine kC (c1) ?_;refine kE ?_;exact kF
inductive Cc:Rx→Prop
 |mk {op:Int} {na:Bool} {xs:List Nat} {nb:Bool} {ys:List Nat} {nm:List UInt8} {args:List Rx}:xs.length≤510→ys.length≤510→nm.length≤65536→(∀x∈args,Cc x)→Cc (.mk op na xs nb ys nm args)
theorem Cc.of_lt:∀x,Ae x=true→Cc x:=by
 refine gM fun op na xs nb ys nm args ih hlt=>?_
 rw[Ae,Bool.and_eq_true,Bool.and_eq_true,Bool.and_eq_true,decide_eq_true_eq,decide_eq_true_eq,decide_eq_true_eq]at hlt;obtain⟨hla,⟨l1,l2⟩,l3⟩:=hlt;exact .mk (by omega) (by omega) (by omega) fun y hy=>ih y hy (rf hla y hy)
theorem uH {s:List UInt8} (h:nj s=true):s.length≤24:=by
 cases s with
 |nil=>simp
 |cons c r=>simp only[nj,Bool.and_eq_true,decide_eq_true_eq]at h;exact h.1
theorem jC.lm:∀e,jC e→Cc (rx e)
 | .num v u,h=> .mk h.2.1.1.digs h.2.1.2.digs (by
  rcases h.2.2 with rfl|h
  ·simp
  ·have:=uH h;omega) (fun x hx=>by cases hx)
 | .nam s,h=> .mk (by simp) (by simp) (by have:=uH h;omega) (fun x hx=>by cases hx)
 | .neg a,h=> .mk (by simp) (by simp) (by simp) (fun x hx=>by cases List.mem_singleton.1 hx;exact jC.lm a h)
 | .bin k a b,h=> .mk (by simp) (by simp) (by simp) (fun x hx=>by
  rcases List.mem_cons.1 hx with rfl|hx
  ·exact jC.lm a h.1
  ·cases List.mem_singleton.1 hx;exact jC.lm b h.2)
theorem nw {na nb:Bool} {xs ys:List Nat} {q:Rat} (e:zt na xs nb ys=aQ q) (e1:xs=digs q.num.natAbs) (e2:ys=digs (q.den:Int).natAbs) (hv:f9 na xs nb ys=true):mx na xs nb ys=eY q:=by
 have e3:na=decide (q.num<0):=by
  have:=congrArg (fun l:List AV=>l[0]?) e
  injection this with this
  injection this with this
  injection this
 have e4:nb=decide ((q.den:Int)<0):=by
  have:=congrArg (fun l:List AV=>l[2]?) e
  injection this with this
  injection this with this
  injection this
 unfold mx;rw[if_pos hv]
 congr 1
 have t1:ak na xs=q.num:=by
  rw[e1,e3,jx]
  by_cases h:q.num<0
  ·rw[decide_eq_true h,if_pos rfl];omega
  ·rw[decide_eq_false h,if_neg (by decide)];omega
 have t2:ak nb ys=q.den:=by
  rw[e2,e4,jx,decide_eq_false (by omega),if_neg (by decide)];omega
 rw[t1,t2,Rat.num_divInt_den]
theorem xb {na nb:Bool} {xs ys:List Nat} (hw:Wd xs) (hw':Wd ys) (h1:xs.length≤510) (h2:ys.length≤510):
 ∃t,aa Tryz.prog 35 [ES na xs nb ys] (.tup [dL t,dB (mx na xs nb ys).isSome])∧ ∀u,mx na xs nb ys=some u→t=u:=by
 cases hv:f9 na xs nb ys with
 |false=>
  have hd:mx na xs nb ys=none:=if_neg (by rw[hv];decide);rw[hd];refine⟨[],?_,fun u h=>by cases h⟩;refine kV func35 ?_;refine ae (nQ hw hw' (Nat.le_trans h1 (by decide)) (Nat.le_trans h2 (by decide)) hv) rfl rfl rfl rfl rfl rfl rfl ?_;exact kF
 |true=>
  obtain⟨q,e,e1,e2⟩:=om hw hw' hv;have sq:iV 510 q:=⟨Sz.of_digs (by rw[← e1];exact h1),Sz.of_digs (by rw[← e2];exact h2)⟩;rw[nw e e1 e2 hv,show ES na xs nb ys=dQ q from congrArg DV.agg e];exact kp sq (by decide)
theorem Ay {na nb:Bool} {xs ys:List Nat} (hw:Wd xs) (hw':Wd ys) (h1:xs.length≤510) (h2:ys.length≤510):
 ∃t,aa Tryz.prog 58 [ES na xs nb ys] (.tup [dL t,dB (mx na xs nb ys).isSome])∧ ∀u,mx na xs nb ys=some u→t=u:=by
 cases hv:f9 na xs nb ys with
 |false=>
  have hd:mx na xs nb ys=none:=if_neg (by rw[hv];decide);rw[hd];refine⟨[],?_,fun u h=>by cases h⟩;refine kV func58 ?_;refine ae (oS hw hw' (Nat.le_trans h1 (by decide)) (Nat.le_trans h2 (by decide)) hv) rfl rfl rfl rfl rfl rfl rfl ?_;exact kF
 |true=>
  obtain⟨q,e,e1,e2⟩:=om hw hw' hv;have sq:iV 510 q:=⟨Sz.of_digs (by rw[← e1];exact h1),Sz.of_digs (by rw[← e2];exact h2)⟩;rw[nw e e1 e2 hv,show ES na xs nb ys=dQ q from congrArg DV.agg e];exact jB sq (by decide)
def of (na:Bool) (xs:List Nat) (nb:Bool) (ys:List Nat):Bool:=!na && (!nb && (decide (xs.length=0) && decide (ys.length=0)))
theorem xR {na nb:Bool} {xs ys:List Nat} (h:of na xs nb ys=true):na=false∧nb=false∧xs=[]∧ys=[]:=by
 unfold of at h
 simp only[Bool.and_eq_true,Bool.not_eq_true',decide_eq_true_eq]at h
 exact⟨h.1,h.2.1,List.eq_nil_of_length_eq_zero h.2.2.1,List.eq_nil_of_length_eq_zero h.2.2.2⟩
def mK (op:Int) (d p m:Bool) (nm:List UInt8) (n:Nat):Bool:=if op=1 then d && (decide (nm=[]) || m) && decide (n=0)else if op=2 then p && m && decide (n=0)else if op=3 then p && decide (nm=[]) && decide (n=1)
 else if op=4∨op=5∨op=6∨op=7 then p && decide (nm=[]) && decide (n=2)else false
theorem Eh {op:Int} {na:Bool} {xs:List Nat} {nb:Bool} {ys:List Nat} {nm:List UInt8} {args:List Rx} {t:List UInt8} {d m:Bool} (hdec:aa Tryz.prog 35 [ES na xs nb ys] (.tup [dL t,dB d])) (hm:aa Tryz.prog 84 [dL nm] (.one (dB m))):
 aa Tryz.prog 55 [dR (.mk op na xs nb ys nm args)] (.one (dB (mK op d (of na xs nb ys) m nm args.length))):=by
 obtain⟨b,hbb⟩:∃b,mK op d (of na xs nb ys) m nm args.length=b:=⟨_,rfl⟩;have b1:op=1→b=(d && (decide (nm=[]) || m) && decide (args.length=0)):=fun h=>by rw[← hbb,mK,if_pos h]
 have b2:op=2→b=(of na xs nb ys && m && decide (args.length=0)):=fun h=>by rw[← hbb,mK,if_neg (by omega),if_pos h]
 have b3:op=3→b=(of na xs nb ys && decide (nm=[]) && decide (args.length=1)):=fun h=>by rw[← hbb,mK,if_neg (by omega),if_neg (by omega),if_pos h]
 have b4:op=4∨op=5∨op=6∨op=7→b=(of na xs nb ys && decide (nm=[]) && decide (args.length=2)):=fun h=>by rw[← hbb,mK,if_neg (by omega),if_neg (by omega),if_neg (by omega),if_pos h]
 have b0:op≠1→op≠2→op≠3→op≠4→op≠5→op≠6→op≠7→b=false:=fun h1 h2 h3 h4 h5 h6 h7=>by rw[← hbb,mK,if_neg h1,if_neg h2,if_neg h3,if_neg (by omega)]
 rw[hbb];clear hbb;show aa Tryz.prog _ [.agg (ac op na xs nb ys nm args.length (jX args))] _;generalize hp:of na xs nb ys=p at *;refine kU func55 ?_;refine kR ?_;refine sK ⟨[(1, .box 0 0),(3, .d (dB p))],[(0,some (ac op na xs nb ys nm args.length (jX args)))]⟩ (fun s' hw2=>?_) (fun R hR _=>?_)
 ·refine gL hw2 rfl ?_
  by_cases o1:op=1
  ·have hb:=b1 o1
   clear b1 b2 b3 b4 b0;subst o1;refine kW ?_;refine kC (hdec) ?_;cases d
   ·obtain rfl:b=false:=by rw[hb];rfl
    exact kF
   ·refine kG ?_
    refine kO4 ?_
    by_cases hnm:nm=[]
    ·refine aj rfl rfl rfl rfl rfl rfl rfl (bC (a:=nm) (b:=[]) hnm) ?_
     iterate 10 refine kO ?_
     by_cases hl:args.length=0
     ·refine kT ?_
      obtain rfl:b=true:=by rw[hb];simp[hnm,hl]
      exact kF
     ·refine kE ?_
      obtain rfl:b=false:=by rw[hb,decide_eq_false hl,Bool.and_false]
      exact kF
    ·refine aj rfl rfl rfl rfl rfl rfl rfl (dj (a:=nm) (b:=[]) hnm) ?_
     refine kO3 ?_
     refine kC (hm) ?_;cases m
     ·obtain rfl:b=false:=by rw[hb];simp[hnm]
      exact kF
     ·iterate 6 refine kO ?_
      by_cases hl:args.length=0
      ·refine kT ?_
       obtain rfl:b=true:=by rw[hb];simp[hl]
       exact kF
      ·refine kE ?_
       obtain rfl:b=false:=by rw[hb,decide_eq_false hl,Bool.and_false]
       exact kF
  by_cases o2:op=2
  ·have hb:=b2 o2
   clear b1 b2 b3 b4 b0;subst o2;cases p
   ·obtain rfl:b=false:=by rw[hb];rfl
    exact kF
   ·refine kW ?_
    refine kC (hm) ?_;cases m
    ·obtain rfl:b=false:=by rw[hb];rfl
     exact kF
    ·refine kO5 ?_
     by_cases hl:args.length=0
     ·refine kT ?_
      obtain rfl:b=true:=by rw[hb];simp[hl]
      exact kF
     ·refine kE ?_
      obtain rfl:b=false:=by rw[hb,decide_eq_false hl,Bool.and_false]
      exact kF
  by_cases o3:op=3
  ·have hb:=b3 o3
   clear b1 b2 b3 b4 b0;subst o3;cases p
   ·obtain rfl:b=false:=by rw[hb];rfl
    exact kF
   ·iterate 4 refine kG ?_
    refine kO4 ?_
    by_cases hnm:nm=[]
    ·refine aj rfl rfl rfl rfl rfl rfl rfl (bC (a:=nm) (b:=[]) hnm) ?_
     refine kO5 ?_
     by_cases hl:args.length=1
     ·refine kT ?_
      obtain rfl:b=true:=by rw[hb];simp[hnm,hl]
      exact kF
     ·refine kE ?_
      obtain rfl:b=false:=by rw[hb,decide_eq_false hl,Bool.and_false]
      exact kF
    ·refine aj rfl rfl rfl rfl rfl rfl rfl (dj (a:=nm) (b:=[]) hnm) ?_
     obtain rfl:b=false:=by rw[hb];simp[hnm]
     exact kF
  by_cases o4:op=4
  ·have hb:=b4 (by omega)
   clear b1 b2 b3 b4 b0;subst o4;cases p
   ·obtain rfl:b=false:=by rw[hb];rfl
    exact kF
   ·iterate 5 refine kG ?_
    refine kO4 ?_
    by_cases hnm:nm=[]
    ·refine aj rfl rfl rfl rfl rfl rfl rfl (bC (a:=nm) (b:=[]) hnm) ?_
     refine kO5 ?_
     by_cases hl:args.length=2
     ·refine kT ?_
      obtain rfl:b=true:=by rw[hb];simp[hnm,hl]
      exact kF
     ·refine kE ?_
      obtain rfl:b=false:=by rw[hb,decide_eq_false hl,Bool.and_false]
      exact kF
    ·refine aj rfl rfl rfl rfl rfl rfl rfl (dj (a:=nm) (b:=[]) hnm) ?_
     obtain rfl:b=false:=by rw[hb];simp[hnm]
     exact kF
  by_cases o5:op=5
  ·have hb:=b4 (by omega)
   clear b1 b2 b3 b4 b0;subst o5;cases p
   ·obtain rfl:b=false:=by rw[hb];rfl
    exact kF
   ·iterate 6 refine kG ?_
    refine kO4 ?_
    by_cases hnm:nm=[]
    ·refine aj rfl rfl rfl rfl rfl rfl rfl (bC (a:=nm) (b:=[]) hnm) ?_
     refine kO5 ?_
     by_cases hl:args.length=2
     ·refine kT ?_
      obtain rfl:b=true:=by rw[hb];simp[hnm,hl]
      exact kF
     ·refine kE ?_
      obtain rfl:b=false:=by rw[hb,decide_eq_false hl,Bool.and_false]
      exact kF
    ·refine aj rfl rfl rfl rfl rfl rfl rfl (dj (a:=nm) (b:=[]) hnm) ?_
     obtain rfl:b=false:=by rw[hb];simp[hnm]
     exact kF
  by_cases o6:op=6
  ·have hb:=b4 (by omega)
   clear b1 b2 b3 b4 b0;subst o6;cases p
   ·obtain rfl:b=false:=by rw[hb];rfl
    exact kF
   ·iterate 7 refine kG ?_
    refine kO4 ?_
    by_cases hnm:nm=[]
    ·refine aj rfl rfl rfl rfl rfl rfl rfl (bC (a:=nm) (b:=[]) hnm) ?_
     refine kO5 ?_
     by_cases hl:args.length=2
     ·refine kT ?_
      obtain rfl:b=true:=by rw[hb];simp[hnm,hl]
      exact kF
     ·refine kE ?_
      obtain rfl:b=false:=by rw[hb,decide_eq_false hl,Bool.and_false]
      exact kF
    ·refine aj rfl rfl rfl rfl rfl rfl rfl (dj (a:=nm) (b:=[]) hnm) ?_
     obtain rfl:b=false:=by rw[hb];simp[hnm]
     exact kF
  by_cases o7:op=7
  ·have hb:=b4 (by omega)
   clear b1 b2 b3 b4 b0;subst o7;cases p
   ·obtain rfl:b=false:=by rw[hb];rfl
    exact kF
   ·iterate 8 refine kG ?_
    refine kO4 ?_
    by_cases hnm:nm=[]
    ·refine aj rfl rfl rfl rfl rfl rfl rfl (bC (a:=nm) (b:=[]) hnm) ?_
     refine kO5 ?_
     by_cases hl:args.length=2
     ·refine kT ?_
      obtain rfl:b=true:=by rw[hb];simp[hnm,hl]
      exact kF
     ·refine kE ?_
      obtain rfl:b=false:=by rw[hb,decide_eq_false hl,Bool.and_false]
      exact kF
    ·refine aj rfl rfl rfl rfl rfl rfl rfl (dj (a:=nm) (b:=[]) hnm) ?_
     obtain rfl:b=false:=by rw[hb];simp[hnm]
     exact kF
  obtain rfl:b=false:=b0 o1 o2 o3 o4 o5 o6 o7;refine kG ?_;refine kB false ?_ ?_
  ·exact decide_eq_false o1
  refine kG ?_;refine kB false ?_ ?_
  ·exact decide_eq_false o2
  refine kG ?_;refine kB false ?_ ?_
  ·exact decide_eq_false o3
  refine kG ?_;refine kB false ?_ ?_
  ·exact decide_eq_false o4
  refine kG ?_;refine kB false ?_ ?_
  ·exact decide_eq_false o5
  refine kG ?_;refine kB false ?_ ?_
  ·exact decide_eq_false o6
  refine kG ?_;refine kB false ?_ ?_
  ·exact decide_eq_false o7
  exact kF
 ·clear b1 b2 b3 b4 b0
  subst hp;cases na
  ·cases nb
   ·refine kG ?_
    iterate 18 refine kO ?_
    by_cases l1:xs.length=0
    ·refine kT ?_
     iterate 7 refine kO ?_
     by_cases l2:ys.length=0
     ·refine kT ?_
      refine kW ?_;rw[show of false xs false ys=true by unfold of;rw[decide_eq_true l1,decide_eq_true l2];rfl]at hR;exact hR _ (weak ⟨rfl,rfl,trivial⟩ ⟨rfl,trivial⟩ rfl)
     ·refine kE ?_
      refine kW ?_;rw[show of false xs false ys=false by unfold of;rw[decide_eq_true l1,decide_eq_false l2];rfl]at hR;exact hR _ (weak ⟨rfl,rfl,trivial⟩ ⟨rfl,trivial⟩ rfl)
    ·refine kE ?_
     refine kW ?_;rw[show of false xs false ys=false by unfold of;rw[decide_eq_false l1];rfl]at hR;exact hR _ (weak ⟨rfl,rfl,trivial⟩ ⟨rfl,trivial⟩ rfl)
   ·refine kW ?_
    exact hR _ (weak ⟨rfl,rfl,trivial⟩ ⟨rfl,trivial⟩ rfl)
  ·refine kW ?_
   exact hR _ (weak ⟨rfl,rfl,trivial⟩ ⟨rfl,trivial⟩ rfl)
mutual
def pI:Rx→Bool
 | .mk op na xs nb ys nm args=>mK op (mx na xs nb ys).isSome (of na xs nb ys) (nj nm) nm args.length && lT args
def lT:List Rx→Bool
 | []=>true
 |y::r=>pI y && lT r
end
theorem nH:∀l:List Rx,lT l=l.all pI
 | []=>by simp[lT]
 |y::r=>by rw[lT,nH r,List.all_cons]
theorem rU:∀(x:Rx),oL x→Cc x→aa Tryz.prog 30 [dR x] (.one (dB (pI x))):=by
 refine gM fun op na xs nb ys nm args ih hx hlt=>?_
 obtain⟨_,_,hw,hw',hnm,hlen,hargs⟩:=hx;obtain⟨l1,l2,l3,hla⟩:=hlt;obtain⟨t,hdec,_⟩:=xb (na:=na) (nb:=nb) hw hw' l1 l2;have hm:=rT nm (by omega);have hsh:=Eh (op:=op) (args:=args) hdec hm;rw[pI,nH];generalize mK op (mx na xs nb ys).isSome (of na xs nb ys) (nj nm) nm args.length=s0 at *;have hsh:aa Tryz.prog 55 [.agg (ac op na xs nb ys nm args.length (jX args))] (.one (dB s0)):=hsh;show aa Tryz.prog _ [.agg (ac op na xs nb ys nm args.length (jX args))] _;cases s0 with
 |false=>
  rw[Bool.false_and];refine kV func30 ?_;refine kC (hsh) ?_;exact kF
 |true=>
  rw[Bool.true_and];refine kV func30 ?_;refine kQ (hsh) ?_
  refine bh Nat (fun i=>i≤args.length∧ ∀(q:Nat) y,q<i→args[q]? =some y→pI y=true) (fun i=>⟨[(1, .box 0 0),(2, .d (dB false)),(3, .d (dN .i64 i))],[(0,some (ac op na xs nb ys nm args.length (jX args)))]⟩) (fun i=>args.length-i) 0 ⟨Nat.zero_le _,fun q y h=>absurd h (Nat.not_lt_zero _)⟩
   (weak ⟨rfl,rfl,rfl,trivial⟩ ⟨rfl,trivial⟩ rfl) ?_
  rintro i ⟨hi,hq⟩;refine kI ?_
  refine kO4 ?_
  by_cases hlt:i<args.length
  ·refine kT ?_
   obtain⟨o1,na1,xs1,nb1,ys1,nm1,n1,cs1,hA⟩:=aS args[i];have hx:args[i]? =some args[i]:=by simp[hlt]
   have hat:∀(j:Nat) (a:AV),(ac o1 na1 xs1 nb1 ys1 nm1 n1 cs1)[j]? =some a→(jX args)[i*7+j]? =some a:=fun j a h=>ks args i args[i] hx j a (by rw[hA];exact h)
   have c:=ih args[i] (List.getElem_mem hlt) (hargs _ (List.getElem_mem hlt)) (hla _ (List.getElem_mem hlt));rw[show dR args[i]= .agg (ac o1 na1 xs1 nb1 ys1 nm1 n1 cs1) from congrArg DV.agg hA]at c;refine kW ?_;refine bJ (i:=i) (cs':=ac o1 na1 xs1 nb1 ys1 nm1 n1 cs1) hlt hat (Nat.zero_lt_succ 6) rfl rfl rfl rfl rfl rfl rfl rfl ?_;refine kO ?_;cases hb:pI args[i]
   ·rw[hb]at c
    refine kQ (c) ?_
    rw[show args.all pI=false by
     cases h:args.all pI
     ·rfl
     ·rw[List.all_eq_true.1 h _ (List.getElem_mem hlt)]at hb;cases hb]
    exact bO (T:=TT) rfl rfl
   ·rw[hb]at c
    refine kQ (c) ?_
    exact⟨i+1,⟨hlt,fun q y h1 h2=>by
     by_cases e:q=i
     ·subst e;rw[hx]at h2;cases h2;exact hb
     ·exact hq q y (by omega) h2⟩,by omega,weak ⟨rfl,rfl,bd (by omega) (by omega),trivial⟩ ⟨rfl,trivial⟩ rfl⟩
  ·refine kE ?_
   refine kW ?_
   rw[show args.all pI=true by
    rw[List.all_eq_true];intro y hy;obtain⟨q,h⟩:=List.getElem?_of_mem hy;exact hq q y (by have:=(List.getElem?_eq_some_iff.1 h).1;omega) h]
   exact bO (T:=TT) rfl rfl
def Ep (x:Rx):Int:=if pI x=true then(if iT x≤40 then 0 else 3)else 1
theorem jM (x:Rx) (hx:oL x) (hl:Cc x) (hs:jj x≤1000000):aa Tryz.prog 12 [dR x] (.one (dN .i64 (Ep x))):=by
 have c1:=rU x hx hl;have c2:=rv x hx hs;obtain⟨o1,na1,xs1,nb1,ys1,nm1,n1,cs1,hA⟩:=aS x;rw[show dR x= .agg (ac o1 na1 xs1 nb1 ys1 nm1 n1 cs1) from congrArg DV.agg hA]at c1 c2 ⊢;unfold Ep;cases hb:pI x with
 |false=>
  rw[hb]at c1;rw[if_neg (by decide)];refine kV func12 ?_;refine kC (c1) ?_;exact kF
 |true=>
  rw[hb]at c1;rw[if_pos rfl]
  by_cases hd:iT x≤40
  ·rw[if_pos hd]
   refine kV func12 ?_;refine kQ (c1) ?_;refine kC (c2) ?_;refine kE ?_;exact kF
  ·rw[if_neg hd]
   refine kV func12 ?_;refine kQ (c1) ?_;refine kC (c2) ?_;refine kT ?_;exact kF
theorem uo:∀e,jC e→pI (rx e)=true
 | .num v u,h=>by
  obtain⟨h1,h2,h3⟩:=h;show(mK 1 (mx (decide (v.num<0)) (digs v.num.natAbs) (decide ((v.den:Int)<0)) (digs (v.den:Int).natAbs)).isSome _ (nj u) u 0 && lT [])=true;rw[nw (q:=v) rfl rfl rfl (mw v),h1,lT];rcases h3 with h|h<;>simp[mK,h]
 | .nam s,h=>by
  show(mK 2 _ (of false [] false []) (nj s) s 0 && lT [])=true;have h:nj s=true:=h;rw[h,lT];rfl
 | .neg a,h=>by
  show(mK 3 (mx false [] false []).isSome (of false [] false []) (nj []) [] 1 && lT [rx a])=true;rw[lT,lT,uo a h];rfl
 | .bin k a b,h=>by
  show(mK k.code (mx false [] false []).isSome (of false [] false []) (nj []) [] 2 && lT [rx a,rx b])=true;rw[lT,lT,lT,uo a h.1,uo b h.2];cases k<;>rfl
theorem Ej:∀(x:Rx),oL x→Cc x→pI x=true→ ∃e,x=rx e∧jC e:=by
 refine gM fun op na xs nb ys nm args ih hx hlt hf=>?_
 obtain⟨_,_,hw,hw',_,hlen,hargs⟩:=hx;obtain⟨l1,l2,l3,hla⟩:=hlt;rw[pI,nH,Bool.and_eq_true]at hf;obtain⟨hsh,hall⟩:=hf;have hall:∀y∈args,∃e,y=rx e∧jC e:=fun y hy=>ih y hy (hargs y hy) (hla y hy) (List.all_eq_true.1 hall y hy)
 unfold mK at hsh
 split at hsh
 ·rename_i ho
  subst ho
  simp only[Bool.and_eq_true,Bool.or_eq_true,decide_eq_true_eq]at hsh
  obtain⟨⟨h1,h2⟩,h3⟩:=hsh;obtain rfl:=List.eq_nil_of_length_eq_zero h3;cases hv:f9 na xs nb ys with
  |false=>rw[mx,if_neg (by rw[hv];decide)]at h1;cases h1
  |true=>
   obtain⟨q,e,e1,e2⟩:=om hw hw' hv;have sq:iV 510 q:=⟨Sz.of_digs (by rw[← e1];exact l1),Sz.of_digs (by rw[← e2];exact l2)⟩;rw[nw e e1 e2 hv]at h1
   have e3:na=decide (q.num<0):=by
    have:=congrArg (fun l:List AV=>l[0]?) e
    injection this with this
    injection this with this
    injection this
   have e4:nb=decide ((q.den:Int)<0):=by
    have:=congrArg (fun l:List AV=>l[2]?) e
    injection this with this
    injection this with this
    injection this
   subst e3 e4 e1 e2;exact⟨.num q nm,rfl,h1,sq,h2⟩
 ·split at hsh
  ·rename_i ho
   subst ho
   simp only[Bool.and_eq_true,decide_eq_true_eq]at hsh
   obtain⟨⟨h1,h2⟩,h3⟩:=hsh;obtain rfl:=List.eq_nil_of_length_eq_zero h3;obtain⟨rfl,rfl,rfl,rfl⟩:=xR h1;exact⟨.nam nm,rfl,h2⟩
  ·split at hsh
   ·rename_i ho
    subst ho
    simp only[Bool.and_eq_true,decide_eq_true_eq]at hsh
    obtain⟨⟨h1,rfl⟩,h3⟩:=hsh;obtain⟨rfl,rfl,rfl,rfl⟩:=xR h1
    match args,h3,hall with
    | [a],_,hall=>
     obtain⟨ea,rfl,oa⟩:=hall a (by simp);exact⟨.neg ea,rfl,oa⟩
   ·split at hsh
    ·rename_i ho
     simp only[Bool.and_eq_true,decide_eq_true_eq]at hsh
     obtain⟨⟨h1,rfl⟩,h3⟩:=hsh;obtain⟨rfl,rfl,rfl,rfl⟩:=xR h1
     match args,h3,hall with
     | [a,b],_,hall=>
      obtain⟨ea,rfl,oa⟩:=hall a (by simp);obtain⟨eb,rfl,ob⟩:=hall b (by simp);rcases ho with rfl|rfl|rfl|rfl
      ·exact⟨.bin .add ea eb,rfl,oa,ob⟩
      ·exact⟨.bin .sub ea eb,rfl,oa,ob⟩
      ·exact⟨.bin .mul ea eb,rfl,oa,ob⟩
      ·exact⟨.bin .div ea eb,rfl,oa,ob⟩
    ·cases hsh
section
open Go.ChangeShapes Go.WideShapes Go.ChangeAt Go.RowKit Go.Joins
theorem xu {H:Type} {enc:TypeId × Value→H} {W:World} {P:Program} {L:List TypeId} (hL:ux P L=true) {t:TypeId} (ht:t∈L) {fs:Array Field} (hu:P.underlying t=some (.struct fs)) {r:Reach} {b0:Nat} {v:Value} {d:DataW H} {p:List MemPlace} (hv:Value.okWide P W r b0 t v) (h:DataW.Trod enc P W 0 (fun _=>true) true t v d p):
 ∃n cs,DV.M (fun _=>False) W (.agg cs) v∧Sh P n t cs:=by
 obtain⟨cs,rfl,_⟩:=okWide_struct hu hv;obtain⟨n,xs,h1,h2⟩:=Fo hL ht h;exact⟨n,xs,G0 h1,h2⟩
def Ix:List TypeId:=[29,26,24,4,22,82,3,9,27]
theorem Cj:ux Tryz.prog Ix=true:=by kernel_rfl
set_option maxRecDepth 100000 in
theorem sQ {H:Type} {enc:TypeId × Value→H} {W:World} {r:Reach} {b0:Nat} {v:Value} {d:DataW H} {p:List MemPlace} (hv:Value.okWide Tryz.prog W r b0 29 v) (h:DataW.Trod enc Tryz.prog W 0 (fun _=>true) true 29 v d p):
 ∃x,DV.M (fun _=>False) W (dR x) v∧oL x:=by
 obtain⟨n,cs,h1,h2⟩:=xu Cj (by decide) underlying29 hv h;obtain⟨x,rfl,h3⟩:=FQ n cs h2;exact⟨x,h1,h3⟩
theorem xE:∀(e:Ex),jC e→ ∀n,(aV e n).length≤67*jj (rx e)
 | .num v u,h,n=>by
  obtain⟨h1,_,h3⟩:=h;obtain⟨t,ht⟩:=Option.isSome_iff_exists.1 h1;obtain⟨_,h4,_⟩:=mn ht;have e1:aV (.num v u) n=ji 4 n (t++gH u):=by show ji 4 n (yJ v++gH u)=_;rw[yJ,ht];rfl
  have h5:(gH u).length≤25:=by
   unfold gH;rcases h3 with rfl|h3
   ·simp
   ·have:=uH h3;split <;>simp;omega
  have:=(iS 4 n (t++gH u)).2;rw[List.length_append]at this;rw[e1]
  simp only[rx,jj,kd]
  omega
 | .nam s,h,n=>by
  have:=(iS 4 n s).2;have:=uH h;show(ji 4 n s).length≤_
  simp only[rx,jj,kd]
  omega
 | .neg a,h,n=>by
  have:=(iS 3 n ([45]++aV a 3)).2;have:=xE a h 3;show(ji 3 n ([45]++aV a 3)).length≤_
  simp only[rx,jj,kd,List.length_append,List.length_cons,List.length_nil]at *
  omega
 | .bin k a b,h,n=>by
  have:=(iS (cK k) n (aV a (cK k)++il k++aV b (cK k+1))).2;have:=xE a h.1 (cK k);have:=xE b h.2 (cK k+1);have:(il k).length=3:=by cases k<;>rfl
  show(ji (cK k) n (aV a (cK k)++il k++aV b (cK k+1))).length≤_
  simp only[rx,jj,kd,List.length_append]at *
  omega
theorem tR {s:List UInt8} (hl:s.length≤500) {p:Nat} {c:Int} (h:ge s= .error (p,c)):c≠0:=by
 have hsp:=gk (s.length+1) s 0 [] (Nat.lt_succ_self _)
 have key:∀(T:List Tk) (b:Int) (E:Nat),cO T→du E T→gg T b E= .error (p,c)→c≠0:=fun T b E hw hz hf=>by
  obtain⟨x,hx⟩:=fx T
  have hpos:=ek (E:=E) _ _ _ _ hw (fun u hu=>by
   by_cases h0:u.1=0
   ·exact Nat.le_of_eq ((hz u hu).1 h0)
   ·exact Nat.le_of_lt ((hz u hu).2 h0)) hx
  unfold gg at hf;rw[hx]at hf;cases x with
  |error z=>
   dsimp only at hf;cases hf;exact my hpos.2
  |ok z=>
   obtain⟨e,r⟩:=z;cases r with
   |nil=>exact absurd hpos (fun h=>h)
   |cons t r=>
    dsimp only at hf
    split at hf
    ·cases hf;decide
    ·split at hf
     ·rename_i hb;cases hf;exact hb
     ·split at hf
      ·cases hf
      ·cases hf;decide
 unfold ge at h;cases hR:cJ (s.length+1) s 0 []with
 |ok L=>
  rw[hR]at h hsp;obtain⟨T0,_,h0,hg⟩:=hsp;rw[List.nil_append]at h0;subst h0;exact key _ _ _ (hg.w hl) (by have:=hg.z;rwa[Nat.zero_add]at this) h
 |error y=>
  obtain⟨a,b⟩:=y;rw[hR]at h hsp;obtain⟨hb,_,ha,T,h0,h2,hg⟩:=hsp;rw[Nat.sub_zero]at h2;have hta:(s.take a).length=a:=by rw[List.length_take];omega
  have e:=h2 (a+1) [] (Nat.lt_succ_self _);rw[List.nil_append]at e;dsimp only at h;rw[hta,e]at h;exact key _ _ _ (hg.w hl) hg.z h
theorem Am {e:Ex} (hf:jC e) (hw:oL (rx e)) (hs:jj (rx e)≤900) (hd:iT (rx e)≤40):aa Tryz.prog 13 [dE e] (.tup [dL (aV e 0),dN .i64 0])∧aa Tryz.prog 16 [dL (aV e 0)] (.tup [dE e,dN .i64 0,dN .i64 0]) ∧
 aa Tryz.prog 12 [dE e] (.one (dN .i64 0))∧aa Tryz.prog 18 [dE e,dE e] (.one (dB true)):=by
 have hl:=xE e hf 0;obtain⟨T,h1,h2,h3⟩:=Cm hf hd (by omega);have cT:=kz (aV e 0) (by omega);rw[h1]at cT;have cP:=oT (aV e 0) T cT h2;rw[h3]at cP;have cV:=jM (rx e) hw (jC.lm e hf) (by omega);rw[Ep,uo e hf,if_pos rfl,if_pos hd]at cV;exact⟨ls hf hw (by omega) hd (by omega),cP,cV,fm (rx e) (jC.lw e hf)⟩
end
end Go.Proofs.YtikbnnljjeefgaaGreatDoor
