/- Texts in parentheses have the same tokens, and are read as the same, plain. -/
import Derived.Test.YtikbnnljjeefgaaGreatDoorXZ13
set_option maxHeartbeats 100000000
set_option linter.all false
namespace Go.Proofs.YtikbnnljjeefgaaGreatDoor
theorem lA {p:UInt8→Bool} (h:p 41=false) (z:List UInt8):∀r:List UInt8,aO p (r++41::z)=aO p r
 | []=>by simp[aO,List.takeWhile_cons,h]
 |c::r=>by
  have ih:=lA h z r;unfold aO at ih ⊢;rw[List.cons_append,List.takeWhile_cons,List.takeWhile_cons]
  split
  ·rw[List.length_cons,List.length_cons,ih]
  ·rfl
theorem DL (z r:List UInt8):gW (r++41::z)=gW r:=by
 have e1:=lA (p:=ct) rfl z r;have hle:=fW ct r;unfold gW;rw[e1];generalize aO ct r=d at *
 by_cases hd:d<r.length
 ·rw[List.getElem?_append_left hd,List.drop_append_of_le_length (by omega),lA rfl]
 ·obtain rfl:d=r.length:=by omega
  rw[List.getElem?_append_right (Nat.le_refl _),Nat.sub_self];rw[if_neg (fun h=>by cases h.1),if_neg (fun h=>by rw[List.getElem?_eq_none (Nat.le_refl _)]at h;cases h.1)]
theorem C4 (z:List UInt8):∀(n:Nat) (r:List UInt8) (i:Nat),r.length≤n→0<ep r i→ep (r++41::z) i=ep r i:=by
 intro n
 induction n using Nat.strongRecOn with
 |_ n ih=>
  intro r i hl h0
  match r,hl with
  | [],_=>simp[ep]at h0
  | [c],_=>
   by_cases hq:c=34
   ·subst hq
    rw[List.cons_append,iY,iY]
   ·rw[m6 hq]at h0;omega
  |c::d::r,hl=>
   by_cases hq:c=34
   ·subst hq
    rw[List.cons_append,iY,iY]
   ·by_cases hc:c.toNat<32
    ·rw[nL hq hc]at h0;omega
    ·by_cases hb:c=92
     ·subst hb
      rw[List.cons_append,List.cons_append,iz,iz];rw[iz]at h0
      split at h0
      ·omega
      ·rename_i he
       rw[if_neg he,if_neg he]
       simp at hl
       exact ih (n-2) (by omega) r (i+2) (by omega) h0
     ·rw[jO hq hc hb]at h0
      rw[List.cons_append,jO hq hc hb,jO hq hc hb]
      simp at hl
      exact ih (n-1) (by omega) (d::r) (i+1) (by simp;omega) h0
theorem Fi (z:List UInt8) {r:List UInt8} (h0:0<(ga r).2):ga (r++41::z)=ga r:=by
 cases r with
 |nil=>cases h0
 |cons c r=>
  have e1:aO fM (c::(r++41::z))=aO fM (c::r):=lA rfl z (c::r);have e2:gW (c::(r++41::z))=gW (c::r):=DL z (c::r);rw[List.cons_append]
  simp only[ga]at h0 ⊢
  rw[e1,e2]
  split
  ·rfl
  ·rename_i h1
   rw[if_neg h1]at h0
   split
   ·rfl
   ·rename_i h2
    rw[if_neg h2]at h0
    split
    ·rename_i h3
     rw[if_pos h3]at h0;have:lS (c::(r++41::z))=lS (c::r):=C4 z _ r 1 (Nat.le_refl _) h0;rw[this]
    ·rfl
inductive xJ (E:List Tk):List Tk→List Tk→Prop
 |nil {t:Tk}:t.1=0→xJ E [t] E
 |cons {k p q:Nat} {x:List UInt8} {ts us:List Tk}:k≠0→xJ E ts us→xJ E ((k,x,p)::ts) ((k,x,q)::us)
theorem tU (z:List UInt8):∀(f:Nat) (r:List UInt8) (p q:Nat) (acc L:List Tk),r.length≤500→cJ f r p acc= .ok L→ ∃T,L=acc++T∧ ∃T',TR (r++41::z) q T' (41::z) (q+r.length)∧Fn T' q (q+r.length)∧ ∀E,xJ E T (T'++E)
 |0,_,_,_,_,_,_,h=>by cases h
 |f+1,[],p,q,acc,L,_,h=>by
  rw[cJ]at h;cases h;exact⟨[(0,[],p)],rfl,[],(TR.nil:TR (41::z) q [] (41::z) q),(fun t ht=>by cases ht),fun E=>xJ.nil (t:=(0,[],p)) rfl⟩
 |f+1,c::r,p,q,acc,L,hl,h=>by
  rw[cJ]at h
  split at h
  ·rename_i hc
   obtain⟨T,h1,T',h2,h3,h4⟩:=tU z f r (p+1) (q+1) acc L (by simp at hl;omega) h;have hlen:q+(c::r).length=q+1+r.length:=by simp;omega
   refine⟨T,h1,T',?_,fun t ht=>?_,h4⟩
   ·rw[hlen]
    intro g acc' hg;obtain⟨g,rfl⟩:∃k,g=k+1:=⟨g-1,by omega⟩;obtain⟨g',e1,e2⟩:=h2 g acc' (by simp at hg ⊢;omega);exact⟨g',e1,by rw[List.cons_append,cJ,if_pos hc,e2]⟩
   ·obtain⟨a,b,c,d,e⟩:=h3 t ht;exact⟨a,b,c,by omega,by omega⟩
  ·rename_i hc
   split at h
   ·cases h
   ·rename_i hn
    split at h
    ·cases h
    ·rename_i hk
     have hle:=rm (c::r);have hx:=Fi z (r:=c::r) (by omega);cases hN:ga (c::r)with
     |mk k n=>
     rw[hN]at h hn hk hle hx;dsimp only at h hn hk hle;have hi:=EB hN (by omega);obtain⟨T,h1,T',h2,h3,h4⟩:=tU z f ((c::r).drop n) (p+n) (q+n) _ L (by rw[List.length_drop];omega) h;have hlen:q+n+((c::r).drop n).length=q+(c::r).length:=by rw[List.length_drop];omega
     rw[hlen]at h2 h3;have hxl:((c::r).take n).length=n:=by rw[List.length_take];omega
     have hsp:c::r++41::z=(c::r).take n++((c::r).drop n++41::z):=by rw[← List.append_assoc,List.take_append_drop]
     rw[hsp]at hx ⊢
     have hone:TR ((c::r).take n++((c::r).drop n++41::z)) q [(k,(c::r).take n,q)] ((c::r).drop n++41::z) (q+n):=by
      have:=TR.one (x:=(c::r).take n) (r:=(c::r).drop n++41::z) (k:=k) q (by rw[hxl];exact hx) (by
       obtain⟨n,rfl⟩:∃m,n=m+1:=⟨n-1,by omega⟩;exact⟨c,r.take n,rfl,hc⟩) (fun h1=>by rw[hxl];omega)
      rwa[hxl]at this
     refine⟨(k,(c::r).take n,p)::T,by rw[h1,List.append_assoc];rfl,(k,(c::r).take n,q)::T',hone.trans h2,?_,fun E=>xJ.cons hi.1 (h4 E)⟩;have hf1:Fn [(k,(c::r).take n,q)] q (q+(c::r).length):=Fn.one hi.1 hi.2 (by rw[hxl];omega) (Nat.le_refl _) (by simp);exact hf1.app h3 (Nat.le_refl _) (by omega)
theorem xJ.head {E:List Tk} {ts us:List Tk} (h:xJ E ts us) (hE:∃p u,E=(4,[41],p)::u):(∀two,dw two ts=none→dw two us=none)∧(∀c,c≠41→aU c ts=none→aU c us=none) ∧
 (∀two k r,dw two ts=some (k,r)→ ∃r',dw two us=some (k,r')∧xJ E r r')∧ ∀c r,aU c ts=some r→ ∃r',aU c us=some r'∧xJ E r r':=by
 obtain⟨p,u,rfl⟩:=hE;cases h with
 |nil ht=>
  refine⟨fun two _=>by cases two<;>rfl,fun c hc _=>?_,fun two k r h=>?_,fun c r h=>?_⟩
  ·simp only[aU]
   rw[if_neg];rintro⟨_,h⟩;exact hc (List.cons.inj h).1.symm
  ·simp only[dw]at h
   rw[if_neg (by omega)]at h;cases h
  ·simp only[aU]at h
   rw[if_neg (by omega)]at h;cases h
 |cons hk h=>
  refine⟨fun two h1=>?_,fun c hc h1=>?_,fun two k r h1=>?_,fun c r h1=>?_⟩
  ·simp only[dw]at h1 ⊢
   split at h1
   ·rename_i h4
    rw[if_pos h4]
    split at h1
    ·cases h1
    ·rfl
   ·rename_i h4;rw[if_neg h4]
  ·simp only[aU]at h1 ⊢
   split at h1
   ·cases h1
   ·rename_i h4;rw[if_neg h4]
  ·simp only[dw]at h1 ⊢
   split at h1
   ·rename_i h4
    rw[if_pos h4]
    split at h1
    ·rename_i e
     cases h1;exact⟨_,rfl,h⟩
    ·cases h1
   ·cases h1
  ·simp only[aU]at h1 ⊢
   split at h1
   ·rename_i h4
    cases h1;exact⟨_,by rw[if_pos h4],h⟩
   ·cases h1
theorem Do {E:List Tk} (hE:∃p u,E=(4,[41],p)::u) {k p q:Nat} {x:List UInt8} {ts us r:List Tk} {e:Ex} (h:xJ E ts us) (hp:dV (k,x,p) ts= .ok (e,r)):∃r',dV (k,x,q) us= .ok (e,r')∧xJ E r r':=by
 unfold dV at hp ⊢;dsimp only at hp ⊢;cases h1:bE x with
 |none=>rw[h1]at hp;cases hp
 |some v=>
  rw[h1]at hp;dsimp only at hp ⊢;cases h2:eY v with
  |none=>rw[h2]at hp;cases hp
  |some d=>
   rw[h2]at hp;dsimp only at hp ⊢;cases h with
   |nil ht=>
    obtain⟨p,u,rfl⟩:=hE;dsimp only at hp ⊢;rw[if_neg (by omega)]at hp;cases hp;exact⟨_,by rw[if_neg (by decide)],xJ.nil ht⟩
   |cons hk h=>
    dsimp only at hp ⊢
    split at hp
    ·rename_i hc
     cases hp;exact⟨_,by rw[if_pos hc],h⟩
    ·rename_i hc
     cases hp;exact⟨_,by rw[if_neg hc],xJ.cons hk h⟩
theorem jb {E:List Tk} (hE:∃p u,E=(4,[41],p)::u):∀(f:Nat) (m:Md) (ts us:List Tk) (e:Ex) (r:List Tk),xJ E ts us→pP f m ts=some (.ok (e,r))→ ∃r',pP f m us=some (.ok (e,r'))∧xJ E r r'
 |0,_,_,_,_,_,_,h=>by cases h
 |f+1, .sum,ts,us,e,r,hs,h=>by
  rw[fT]at h ⊢
  split at h
  ·rename_i e1 r1 h1
   obtain⟨r2,h2,h3⟩:=jb hE f _ _ _ _ _ hs h1;rw[h2];exact jb hE f _ _ _ _ _ h3 h
  ·rename_i hn;exact absurd h (hn e r)
 |f+1, .prod,ts,us,e,r,hs,h=>by
  rw[eI]at h ⊢
  split at h
  ·rename_i e1 r1 h1
   obtain⟨r2,h2,h3⟩:=jb hE f _ _ _ _ _ hs h1;rw[h2];exact jb hE f _ _ _ _ _ h3 h
  ·rename_i hn;exact absurd h (hn e r)
 |f+1, .more two e0,ts,us,e,r,hs,h=>by
  rw[cg]at h ⊢
  split at h
  ·rename_i k r1 h0
   obtain⟨u1,g0,hs1⟩:=(hs.head hE).2.2.1 _ _ _ h0;rw[g0];dsimp only
   split at h
   ·rename_i e1 r2 h1
    obtain⟨r3,h2,h3⟩:=jb hE f _ _ _ _ _ hs1 h1;rw[h2];exact jb hE f _ _ _ _ _ h3 h
   ·rename_i hn;exact absurd h (hn e r)
  ·rename_i h0
   cases h;rw[(hs.head hE).1 _ h0];exact⟨us,rfl,hs⟩
 |f+1, .un,ts,us,e,r,hs,h=>by
  rw[fX]at h ⊢
  split at h
  ·rename_i r1 h0
   obtain⟨u1,g0,hs1⟩:=(hs.head hE).2.2.2 _ _ h0;rw[g0];dsimp only
   split at h
   ·rename_i e1 r2 h1
    obtain⟨r3,h2,h3⟩:=jb hE f _ _ _ _ _ hs1 h1;rw[h2];cases h;exact⟨r3,rfl,h3⟩
   ·rename_i hn;exact absurd h (hn e r)
  ·rename_i h0
   rw[(hs.head hE).2.1 _ (by decide) h0];exact jb hE f _ _ _ _ _ hs h
 |f+1, .prim,ts,us,e,r,hs,h=>by
  rw[dl]at h ⊢
  split at h
  ·rename_i r1 h0
   obtain⟨u1,g0,hs1⟩:=(hs.head hE).2.2.2 _ _ h0;rw[g0];dsimp only
   split at h
   ·rename_i e1 r2 h1
    obtain⟨r3,h2,h3⟩:=jb hE f _ _ _ _ _ hs1 h1;rw[h2];dsimp only
    split at h
    ·rename_i r4 h4
     obtain⟨r5,h5,h6⟩:=(h3.head hE).2.2.2 _ _ h4;cases h;rw[h5];exact⟨r5,rfl,h6⟩
    ·cases h
   ·rename_i hn;exact absurd h (hn e r)
  ·rename_i h0
   rw[(hs.head hE).2.1 _ (by decide) h0];dsimp only;cases hs with
   |nil ht=>
    dsimp only at h;rw[if_neg (by omega),if_neg (by omega)]at h;cases h
   |cons hk hs=>
    dsimp only at h ⊢
    split at h
    ·rename_i h2
     rw[if_pos h2]
     injection h with h
     obtain⟨r',e1,e2⟩:=Do (q:=_) hE hs h;exact⟨r',by rw[e1],e2⟩
    ·rename_i h2
     rw[if_neg h2]
     split at h
     ·rename_i h1
      rw[if_pos h1];cases h;exact⟨_,rfl,hs⟩
     ·cases h
theorem Dd {s:List UInt8} (hl:s.length≤500) {e:Ex} (h:ge s= .ok e) (z:List UInt8) (q:Nat):∃T',TR (s++41::z) q T' (41::z) (q+s.length)∧Fn T' q (q+s.length)∧ ∀p r,PP .sum (T'++(4,[41],p)::r) (.ok (e,(4,[41],p)::r)):=by
 have hsp:=gk (s.length+1) s 0 [] (Nat.lt_succ_self _)
 have key:∀(T:List Tk) (b:Int) (E:Nat),cO T→du E T→gg T b E= .ok e→b=0∧ ∃f t,t.1=0∧pP f .sum T=some (.ok (e,[t])):=fun T b E hw hz hf=>by
  unfold gg at hf
  split at hf
  ·rename_i e1 t r hp
   split at hf
   ·cases hf
   ·rename_i ht
    split at hf
    ·cases hf
    ·rename_i hb
     split at hf
     ·cases hf
      have ht:t.1=0:=Decidable.of_not_not ht
      have h2:cO (t::r):=ek (E:=E) _ _ _ _ hw (fun u hu=>by
       by_cases h0:u.1=0
       ·exact Nat.le_of_eq ((hz u hu).1 h0)
       ·exact Nat.le_of_lt ((hz u hu).2 h0)) hp
      cases r with
      |nil=>exact⟨Decidable.of_not_not hb,_,t,ht,hp⟩
      |cons u r=>exact absurd ht h2.1.1
     ·cases hf
  ·cases hf
  ·cases hf
 unfold ge at h;cases hR:cJ (s.length+1) s 0 []with
 |ok L=>
  rw[hR]at h hsp;obtain⟨T0,_,h0,hg⟩:=hsp;obtain⟨T,h1,T',h2,h3,h4⟩:=tU z _ s 0 q [] L hl hR;rw[List.nil_append]at h0 h1;subst h0;subst h1;obtain⟨_,f,t,ht,hp⟩:=key _ _ _ (hg.w hl) (by have:=hg.z;rwa[Nat.zero_add]at this) h;refine⟨T',h2,h3,fun p r=>?_⟩;obtain⟨r',e1,e2⟩:=jb ⟨p,r,rfl⟩ _ _ _ _ _ _ (h4 ((4,[41],p)::r)) hp;cases e2 with
  |nil _=>exact⟨f,e1⟩
  |cons hk _=>exact absurd ht hk
 |error y=>
  obtain⟨a,b⟩:=y;rw[hR]at h hsp;obtain⟨hb,_,ha,T,h0,h2,hg⟩:=hsp;rw[Nat.sub_zero]at h2;have hta:(s.take a).length=a:=by rw[List.length_take];omega
  have e:=h2 (a+1) [] (Nat.lt_succ_self _);rw[List.nil_append]at e;dsimp only at h;rw[hta,e]at h;have:=(key _ _ _ (hg.w hl) hg.z h).1;omega
def oj:Nat→UInt8
 |0=>43
 |1=>45
 |2=>42
 |_=>47
def Cl:Nat→B4
 |0=> .add
 |1=> .sub
 |2=> .mul
 |_=> .div
theorem GY (k:Nat):DA (oj k)=true∧((gY false [oj k]=some (Cl k)∧gY true [oj k]=none)∨gY true [oj k]=some (Cl k)):=by
 match k with
 |0=>exact⟨rfl, .inl ⟨rfl,rfl⟩⟩
 |1=>exact⟨rfl, .inl ⟨rfl,rfl⟩⟩
 |2=>exact⟨rfl, .inr rfl⟩
 |_+3=>exact⟨rfl, .inr rfl⟩
theorem F1 {s t:List UInt8} (hs:s.length≤200) (ht:t.length≤200) {a b:Ex} (ha:ge s= .ok a) (hb:ge t= .ok b) (k:Nat):
 ge ([40]++s++[41]++[oj k]++[40]++t++[41])=if iT (rx a)<40∧iT (rx b)<40 then .ok (.bin (Cl k) a b)else .error (0,3):=by
 obtain⟨hc,hk⟩:=GY k;obtain⟨Ta,a1,a2,a3⟩:=Dd (s:=s) (by omega) ha (oj k::40::(t++[41])) 1;obtain⟨Tb,b1,b2,b3⟩:=Dd (s:=t) (by omega) hb [] (1+s.length+1+1+1);have e0:[40]++s++[41]++[oj k]++[40]++t++[41]=40::(s++41::oj k::40::(t++[41])):=by simp
 have hR:=(((((TR.sy (s++41::oj k::40::(t++[41])) 0 (c:=40) rfl).trans a1).trans (TR.sy (oj k::40::(t++[41])) _ (c:=41) rfl)).trans (TR.sy _ _ hc)).trans (TR.sy _ _ (c:=40) rfl)).trans (b1.trans (TR.sy [] _ (c:=41) rfl))
 have hS:∀p p' q q' q2 r,Jn r→JM r→dw false r=none→PP .sum ((((((([(4,[40],p)])++Ta)++[(4,[41],p')])++[(4,[oj k],q)])++[(4,[40],q')])++(Tb++[(4,[41],q2)]))++r) (.ok (.bin (Cl k) a b,r)):=fun p p' q q' q2 r h1 h2 h3=>by
  have Sa:S3 a ([(4,[40],p)]++Ta++[(4,[41],p')]):=x7 (a3 p');have Sb:S3 b ([(4,[40],q')]++Tb++[(4,[41],q2)]):=x7 (b3 q2);have e:(((((([(4,[40],p)])++Ta)++[(4,[41],p')])++[(4,[oj k],q)])++[(4,[40],q')])++(Tb++[(4,[41],q2)]))++r=(([(4,[40],p)]++Ta++[(4,[41],p')])++[(4,[oj k],q)]++([(4,[40],q')]++Tb++[(4,[41],q2)]))++r:=by simp
  rw[e];rcases hk with⟨k1,k2⟩|k1
  ·exact I3 k1 k2 Sa.s2.s1 Sb.s2 r _ h1 h2 (jr h3)
  ·exact(IW k1 Sa.s2 Sb).s1 r _ h1 h2 (jr h3)
 rw[e0];generalize hL:40::(s++41::oj k::40::(t++[41]))=L at *;obtain⟨f,h1,h2⟩:=hR (L.length+1) [] (Nat.lt_succ_self _);obtain⟨f,rfl⟩:∃k,f=k+1:=⟨f-1,by simp at h1;omega⟩;rw[cJ,List.nil_append]at h2;have hpos:∀T:List Tk,∀r,xn ((((((([(4,[40],0)])++Ta)++[(4,[41],1+s.length)])++[(4,[oj k],1+s.length+1)])++[(4,[40],1+s.length+1+1)])++T)++r)=0:=fun T r=>by simp[xn]
 unfold ge;rw[h2];dsimp only;have hP:=fun E=>hS 0 (1+s.length) (1+s.length+1) (1+s.length+1+1) (1+s.length+1+1+1+t.length) [(0,[],E)] (fun t u e=>by cases e;show(0:Nat)≠1;decide) rfl rfl
 have hP:=hP (1+s.length+1+1+1+t.length+1);have hpos:=hpos (Tb++[(4,[41],1+s.length+1+1+1+t.length)]) [(0,[],1+s.length+1+1+1+t.length+1)];generalize((((((([(4,[40],0)])++Ta)++[(4,[41],1+s.length)])++[(4,[oj k],1+s.length+1)])++[(4,[40],1+s.length+1+1)])++(Tb++[(4,[41],1+s.length+1+1+1+t.length)]))++[(0,[],1+s.length+1+1+1+t.length+1)])=T at *;obtain⟨g,hg⟩:=hP;obtain⟨x,hx⟩:=fx T;have h3:=fQ (Nat.le_max_left g (5*T.length+5)) hg;have h4:=fQ (Nat.le_max_right g (5*T.length+5)) hx;rw[h4]at h3;cases h3;have hd:iT (rx (.bin (Cl k) a b))=max (iT (rx a)) (iT (rx b))+1:=by simp[rx,iT,jW]
 unfold gg;rw[hx];dsimp only;rw[if_neg (fun h=>h rfl),if_neg (fun h=>h rfl),hd,hpos]
 by_cases h:iT (rx a)<40∧iT (rx b)<40
 ·rw[if_pos h,if_pos (by omega)]
 ·rw[if_neg h,if_neg (by omega)]
end Go.Proofs.YtikbnnljjeefgaaGreatDoor
