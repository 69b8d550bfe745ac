/- What the machine of HmA reckons is what the model does: operations that make memory or write it. -/
import Derived.Test.YtnchbpoopnjghaaGreatDoorRHmC
set_option maxHeartbeats 100000000
set_option linter.all false
namespace Go.Proofs.YtnchbpoopnjghaaGreatDoor
open Go.RowKit
def fG(h:Nat->Option HB)(j:Nat)(b:HB):Nat->Option HB:=fun i=>if i=j then some b else h i
def dH(g:Nat->Option HG)(j:Nat)(u:HG):Nat->Option HG:=fun i=>if i=j then some u else g i
def cY(h:Tr HB)(j:Nat)(b:HB):(h.put j b).get=fG h.get j b:=funext fun i=>Tr.get_put h j i b
section
variable {P:Program}{g g':Nat->Option HG}{w0 w w':World}{h:Nat->Option HB}{k:Nat}
def MR.mono(b:yx g g'):∀{a:List (List Nat × HV)}{l:List MapEntry},MR g a l->MR g' a l
 | [],_,r=>r
 |_::_,_,⟨e,l,c,d,f,i⟩=>⟨e,l,c,d,f.mono b,MR.mono b i⟩
def CR.mono(d:yx g g'){cs:List HV}{vs:List Value}(h:CR g cs vs):CR g' cs vs:=fun o x e=>by obtain⟨a,v,b,c⟩:=h o x e;exact⟨a,v,b,c.mono d⟩
def iF.keep{u:HG}{b:HB}(s:yx g g')(y:ll b=true->w'.heap[u.b]? =w.heap[u.b]?)(h:iF g w0 w u b):iF g' w0 w' u b:=by
 cases b with
 |c t e q=>obtain⟨d,f,j,z,i,n,p,A,B⟩:mJ g w0 w t e q u:=h;exact mJ.mk d f ⟨j,z,(y rfl).trans i,n,p,A,B.mono s⟩
 |m D=>obtain⟨d,a,l,f,i⟩:=h;exact⟨d,a,l,(y rfl).trans f,i.mono s⟩
 |r t=>obtain⟨d,f⟩:=h;exact⟨d,fun o x C=>by obtain⟨i,v,n,p⟩:=f o x C;exact⟨i,v,n,p.mono s⟩⟩
 |x=>trivial
def iF.lt{u:HG}{b:HB}(h:iF g w0 w u b)(l:ll b=true):u.b<w.heap.size/\w0.heap.size<=u.b:=by
 cases b with
 |c d e q=>obtain⟨i,a,n,s,j,_⟩:mJ g w0 w d e q u:=h;exact⟨(A_.1 j).1,a⟩
 |m p=>obtain⟨i,f,o,a,j⟩:=h;exact⟨(A_.1 a).1,i⟩
 |r d=>cases l
 |x=>cases l
def HR.lt_k(d:HR g w0 h k w){i:Nat}{b:HB}(c:h i=some b):i<k:=by
 rcases Nat.lt_or_ge i k with a|a
 ·exact a
 ·rw[d.nh i a]at c;cases c
def HR.ext(c:HR g w0 h k w)(d:gM k g g'):yx g g':=fun i u b=>by
 rcases Nat.lt_or_ge i k with a|a
 ·rw[d i a];exact b
 ·rw[c.nx i a]at b;cases b
def HR.kill(c:HR g w0 h k w){j:Nat}(d:j<k):HR g w0 (fG h j .x) k w where
 tb:=c.tb
 bel:=c.bel
 nx:=c.nx
 nh i hi:=by unfold fG;rw[if_neg O_];exact c.nh i hi
 gl:=c.gl
 blk i b u h1 h2:=by
  unfold fG at h1;split at h1
  ·cases h1;trivial
  ·exact c.blk i b u h1 h2
 inj i i' a b u u' h1 h2 h3 h4 h5 h6 h7:=by
  unfold fG at h1 h2;split at h1
  ·cases h1;cases h3
  ·split at h2
   ·cases h2;cases h4
   ·exact c.inj i i' a b u u' h1 h2 h3 h4 h5 h6 h7
def HR.world(a:HR g w0 h k w)(d:Below w0.heap.size w w')(e:∀i b u,h i=some b->ll b=true->g i=some u->w'.heap[u.b]? =w.heap[u.b]?):HR g w0 h k w' where
 tb:=a.tb
 bel:=a.bel.trans d
 nx:=a.nx
 nh:=a.nh
 gl:=a.gl
 blk i b u h1 h2:=(a.blk i b u h1 h2).keep (yx.refl g) (fun c=>e i b u h1 c h2)
 inj:=a.inj
def HR.set(d:HR g w0 h k w)(q:Below w0.heap.size w w'){j:Nat}{f b:HB}{u:HG}(n:h j=some f)(h0:ll f=true)(t:ll b=true)(p:g j=some u)(r:iF g w0 w' u b)(s:∀i,i≠u.b->i<w.heap.size->w'.heap[i]? =w.heap[i]?):HR g w0 (fG h j b) k w' where
 tb:=d.tb
 bel:=d.bel.trans q
 nx:=d.nx
 nh i hi:=by unfold fG;rw[if_neg (by have:=d.lt_k n;omega)];exact d.nh i hi
 gl:=d.gl
 blk i b' u' h2 h3:=by
  unfold fG at h2;split at h2
  ·rename_i e;cases h2;subst e;rw[p]at h3;cases h3;exact r
  ·rename_i e;refine(d.blk i b' u' h2 h3).keep (yx.refl g) fun l=>s _ (fun m=>e (d.inj i j b' f u' u h2 n l h0 h3 p m)) ((d.blk i b' u' h2 h3).lt l).1
 inj i i' a c v v' h2 h3 l m h6 h7 h8:=by
  unfold fG at h2 h3;split at h2
  ·rename_i e;split at h3
   ·rename_i o;rw[e,o]
   ·subst e;exact d.inj i i' f c v v' n h3 h0 m h6 h7 h8
  ·split at h3
   ·rename_i o;subst o;exact d.inj i i' a f v v' h2 n l h0 h6 h7 h8
   ·exact d.inj i i' a c v v' h2 h3 l m h6 h7 h8
def HR.new(j:HR g w0 h k w)(B:Below w0.heap.size w w'){b:HB}{u:HG}(E:ll b=true)(C:iF (dH g k u) w0 w' u b)(s:∀i q o,h i=some q->ll q=true->g i=some o->o.b≠u.b/\w'.heap[o.b]? =w.heap[o.b]?):HR (dH g k u) w0 (fG h k b) (k+1) w'/\gM k g (dH g k u):=by
 have y:gM k g (dH g k u):=fun i hi=>by unfold dH;rw[if_neg O_]
 have x:=j.ext y;refine⟨⟨j.tb,j.bel.trans B,fun i hi=>?_,fun i hi=>?_,fun i hi=>?_,fun i q o f d=>?_,fun i z a c v A f d h4 t p m r=>?_⟩,y⟩
 ·unfold dH;rw[if_neg O_];exact j.nx i O_
 ·unfold fG;rw[if_neg O_];exact j.nh i O_
 ·obtain⟨n,D⟩:=j.gl i hi;exact⟨n,x i _ D⟩
 ·unfold fG at f;split at f
  ·rename_i e;cases f;subst e;unfold dH at d;rw[if_pos rfl]at d;cases d;exact C
  ·rename_i e;unfold dH at d;rw[if_neg e]at d;exact(j.blk i q o f d).keep x fun h4=>(s i q o f h4 d).2
 ·unfold fG at f d;unfold dH at p m;split at f
  ·rename_i e;rw[if_pos e]at p;cases p;split at d
   ·rename_i l;rw[e,l]
   ·rename_i l;rw[if_neg l]at m;exact absurd r.symm (s z c A d t m).1
  ·rename_i e;rw[if_neg e]at p;split at d
   ·rename_i l;rw[if_pos l]at m;cases m;exact absurd r (s i a v f h4 p).1
   ·rename_i l;rw[if_neg l]at m;exact j.inj i z a c v A f d h4 t p m r
def pO:∀{l:List HV},(∀x∈l,j4 x=true)->da l=true
 | [],_=>rfl
 |x::l,h=>by simp only[da,h x S_];exact pO fun y a=>h y (by simp[a])
def CF{a b:List HV}(c:da a=true)(d:da b=true):da (a++b)=true:=pO fun x e=>by
 rcases List.mem_append.1 e with h|h
 ·exact dT c x h
 ·exact dT d x h
def ni(g:Nat->Option HG)(w0:World)(k:Nat)(m:HM)(v:Value)(w':World):Prop:=∃g',gM k g g'/\HR g' w0 m.h.get m.k w'/\VR g' m.x v/\k<=m.k
def bi.CR{cs:List HV}{vs:List Value}(h:bi g cs vs)(b:da cs=true):CR g cs vs:=fun o x a=>by obtain⟨v,c,d⟩:=h.at o x a;exact⟨dT b x (M_ a),v,c,d⟩
def CR.app{cs:List HV}{vs us:List Value}(h:CR g cs vs):CR g cs (vs++us):=fun o x d=>by obtain⟨b,v,a,c⟩:=h o x d;exact⟨b,v,by rw[List.getElem?_append_left (G_.1 a).1];exact a,c⟩
def C5{h:Tr HB}(a:HR g w0 h.get k w){cs:List HV}{e:TypeId}{q:Bool}{x:HV}{m:HM}{arr:Array Value}{fz:Nat × Nat}{d:Nat}{v:Value}(f:hnew h k cs e q x=some m)(s:da cs=true->CR g cs arr.toList)(r:CO q cs.length arr.size)(p:sT arr fz)(t:VR (dH g k ⟨w.heap.size,0,arr.size⟩) x v):ni g w0 k m v { w with heap:=w.heap.push (.cells arr e fz),drawn:=d }:=by
 unfold hnew at f;split at f
 ·rename_i n;cases f;have o:Below w0.heap.size w { w with heap:=w.heap.push (.cells arr e fz),drawn:=d }:=⟨rfl,rfl,rfl,by simp,fun i hi=>by have:=a.bel.size;rw[Array.getElem?_push,if_neg O_]⟩
  obtain⟨j,l⟩:=a.new (w':={ w with heap:=w.heap.push (.cells arr e fz),drawn:=d }) o (b:= .c cs e q) (u:=⟨w.heap.size,0,arr.size⟩) rfl (mJ.mk rfl a.bel.size ⟨arr,fz,by simp,p,rfl,r,(s n).mono (a.ext (fun i hi=>by unfold dH;rw[if_neg O_]))⟩) (fun i b' u' h4 h5 h6=>by have:=((a.blk i b' u' h4 h6).lt h5).1;exact⟨by simp;omega,by rw[Array.getElem?_push,if_neg O_]⟩)
  exact⟨_,l,by rw[cY];exact j,t,by simp⟩
 ·cases f
def sT.zero(arr:Array Value):sT arr (0,0):=fun o _ h=>by simp at h
def kp{B:Nat}{e:TypeId}{fz:Nat × Nat}:∀(c:List Value)(o:Nat)(w:World)(b:Array Value),w.heap[B]? =some (.cells b e fz)->o+c.length<=b.size ->
 ∃a:Array Value,(w.setCells B o c).heap[B]? =some (.cells a e fz)/\a.size=b.size/\(∀i,i<o∨o+c.length<=i->a[i]? =b[i]?)/\ ∀i,i<c.length->a[o+i]? =c[i]?
 | [],o,w,b,h,_=>⟨b,h,rfl,fun i _=>rfl,fun i d=>absurd d S_⟩
 |v::c,o,w,b,h,p=>by
  simp only[List.length_cons]at p;have j:(w.setCell ⟨B,o,none⟩ v).heap[B]? =some (.cells (b.setIfInBounds o v) e fz):=by simp only[World.setCell,Array.getElem?_modify,if_true,h,Option.map_some];rfl
  obtain⟨a,l,m,f,n⟩:=kp c (o+1) _ _ j (by simp;omega);refine⟨a,l,by simpa using m,fun i d=>?_,fun i d=>?_⟩
  ·rw[f i (by simp only[List.length_cons]at d;omega),Array.getElem?_setIfInBounds_ne (by simp only[List.length_cons]at d;omega)]
  ·cases i with
   |zero=>rw[Nat.add_zero,f o (.inl (m_ o)),Array.getElem?_setIfInBounds_self_of_lt O_];rfl
   |succ i=>have:=n i (by simpa using d);rw[show o+(i+1)=o+1+i by omega,this];rfl
def hJ{B:Nat}:∀(a:List Value)(o:Nat)(w:World),(∀i,i≠B->(w.setCells B o a).heap[i]? =w.heap[i]?)/\(w.setCells B o a).heap.size=w.heap.size/\(w.setCells B o a).os=w.os/\(w.setCells B o a).tape=w.tape/\(w.setCells B o a).output=w.output
 | [],o,w=>⟨fun _ _=>rfl,rfl,rfl,rfl,rfl⟩
 |v::a,o,w=>by obtain⟨c,d,e,f,j⟩:=hJ a (o+1) (w.setCell ⟨B,o,none⟩ v);exact⟨fun i b=>(c i b).trans (RowKit.Below.heap_setCell w ⟨B,o,none⟩ v i b),d.trans (by simp[World.setCell]),e,f,j⟩
def Ch{h F:Tr HB}(L:HR g w0 h.get k w){b o:Nat}{cs:List HV}{vs:List Value}{u:HG}(m:hwr h b o cs=some F)(K:g b=some u)(D:bi g cs vs):
 HR g w0 F.get k (w.setCells u.b (u.d+o) vs)/\(∀v∈vs,v.oneCell'=true)/\(∀j,j<vs.length->(w.cell? ⟨u.b,u.d+o+j,none⟩).isSome=true)/\ ∀j,j<vs.length->w.frozen? ⟨u.b,u.d+o+j,none⟩=false:=by
 unfold hwr at m;split at m
 ·rename_i l e q H G;split at m
  ·rename_i l' hl;cases m;obtain⟨I,C,a,W,A,J,hn,hlen,Z⟩:mJ g w0 w l e q u:=L.blk b _ u H K;obtain⟨s1,s2,s3⟩:=lH hl;have ag:=D.len;have ad:=tD hlen;have r:o+vs.length<=a.size:=O_;obtain⟨n,N,O,Q,R⟩:=kp vs o w a A r;obtain⟨E,S,T,U,V⟩:=hJ (B:=u.b) vs o w;rw[I,J_];have z:Below w0.heap.size w (w.setCells u.b o vs):=⟨T,U,V,Nat.le_of_eq S.symm,fun i hi=>E i O_⟩;refine⟨?_,fun v hv'=>?_,fun j hj=>?_,fun j hj=>?_⟩
   ·rw[cY];refine L.set z H rfl (b:= .c l' e q) rfl K (mJ.mk I C ⟨n,W,N,fun i hi=>J i O_,by omega,by rw[s2,O];exact hlen,fun i x hx=>?_⟩) (fun i hi _=>E i hi);rcases s3 i x hx with⟨X,t⟩| ⟨X,t⟩
    ·obtain⟨f,v,p,Y⟩:=Z i x t;refine⟨f,v,?_,Y⟩;have:=Q i O_;rw[Array.getElem?_toList,this];simpa using p
    ·obtain⟨v,f,p⟩:=D.at _ x t;refine⟨dT G x (M_ t),v,?_,p⟩;have s:=(G_.1 f).1;have:=R (i-o) s;rw[show o+(i-o)=i by omega]at this;rw[Array.getElem?_toList,this,f]
   ·obtain⟨i,hi⟩:=W_ hv';have s:=(G_.1 hi).1;obtain⟨y,f,p⟩:=D.at i (cs[i]'(by omega)) S_;rw[hi]at f;cases f;exact p.one (dT G _ (List.getElem_mem _))
   ·have:o+j<a.size:=O_;simp[World.cell?,A,this]
   ·have:=J (o+j) O_;simp only[World.frozen?,A];simpa using this
  ·cases m
 ·cases m
def wN(n:Nat):VR g (kb n) (.int .u8 ((UInt8.ofNat n).toNat:Nat)):=by have:(UInt8.ofNat n).toNat=n%256:=S_;rw[this];exact VR.vok rfl
def Ly{h:Tr HB}{e sz S m:Nat}{x:HV}{z:List HV}{D:List HV}{r:HM}{u v:Value}{vs:List Value}{t tx ty:TypeId}(Y:HR g w0 h.get k w)(F:A0 h k e sz S x m D=some r)(ht:P.underlying t=some (.slice e))(N:hsz P e=some sz)(W:hby P e=some S)(hz:oJ P e=some z)(ci:z.length=sz)(I:VR g x u)(hs:Src P sz tx v m vs w)(hv:bi g D vs):∃q w',(Builtin.append_ #[t,tx] ty #[u,v]).run P w= .ok q w'/\ni g w0 k r q w':=by
 obtain⟨i,hi,H⟩:∃i,P.info? e=some i/\i.size=sz:=by
  unfold hsz at N;split at N
  ·cases N;exact⟨_,by assumption,rfl⟩
  ·cases N
 have b1:i.bytes=S:=by unfold hby at W;rw[hi]at W;cases W;rfl
 obtain⟨zv,cf,cj⟩:∃zv,i.zero=some zv/\zv.cells.size=sz:=by
  unfold oJ at hz;rw[hi]at hz;dsimp only at hz;split at hz
  ·rename_i zv ck;cases hz;exact⟨zv,ck,by rw[<- ci];simp⟩
  ·cases hz
 have a5:Src P i.size tx v m vs w:=by rw[H];exact hs
 have bs:=hv.len;unfold A0 at F;split at F
 ·rename_i c1 c2 c3;have c1:=Nat.eq_of_beq_eq_true c1;rw[bI]at c1;have c2:=N_ c2;have c3:=N_ c3;have a9:∀{a:Nat},a*S<=140737488355328->a<=140737488355328:=fun{a}h=>V_ (Nat.le_mul_of_pos_right a c3) h;have T:∀(L:Option Addr)(n c:Nat)(A:List HV)(p:List Value)(U:Tr HB),HR g w0 U.get k w->c<n+m->(n+m)*S<=140737488355328->bi g A p->p.length=n*sz->(Builtin.firstCells i.size n (.slice L n c)).run P w.drew= .ok p.toArray w.drew ->
   hnew U k (A++D) e true (.s k 0 (n+m) sz true)=some r->u= .slice L n c-> ∃q w',(Builtin.append_ #[t,tx] ty #[u,v]).run P w= .ok q w'/\ni g w0 k r q w':=by
   intro L n c A p U ca hc E ho bq b0 hn hu;subst hu;have hrun:=run_append_grow_src (P:=P) w t tx ty e i zv ht hi cf L n c p b0 v m vs a5 hc (by have:=a9 E;omega) (by rw[b1];exact growslice_fits hc E);have bk:=grownCap_ge w (n+m) c e;have bm:=grownCap_le_maxLen w (n+m) c e (by have:=a9 E;unfold maxLen;omega);unfold maxLen at bm;have Z:((p++vs).toArray++Builtin.zeroCells zv.cells (grownCap w (n+m) c e-(n+m))).size=grownCap w (n+m) c e*sz:=by rw[Array.size_append,size_zeroCells,cj];simp only[List.size_toArray,L_,bq,<- bs,c1];rw[<- Nat.add_mul,<- Nat.add_mul];congr 1;omega
   refine⟨_,_,hrun,?_⟩;refine C5 ca hn (fun ha=>?_) ?_ (sT.zero _) ?_
   ·have:=(ho.append hv).CR ha;simpa using this.app
   ·show(A++D).length<=_;rw[Z,L_,ho.len,bq,c1,<- Nat.add_mul];exact P_ _ bk
   ·rw[Z,VR];refine⟨_,_,if_pos rfl,rfl,bk,bm,?_⟩;show 0+_*sz=_;exact J_ _
  have al:∀(b o n c cc:Nat)(q:HG)(Q:Bool)(U:Tr HB),g b=some q->n+m<=cc->cc<=9223372036854775807->Ku Q o q.n c cc->hwr h b (o+n*sz) D=some U->r=⟨.s b o (n+m) c Q,U,k⟩->u= .slice (some ⟨q.b,q.d+o,none⟩) n cc-> ∃q w',(Builtin.append_ #[t,tx] ty #[u,v]).run P w= .ok q w'/\ni g w0 k r q w':=by intro b o n c cc q Q U hg f R G hw cb hu;subst hu cb;obtain⟨w1,w2,w3,w4⟩:=Ch Y hw hg hv;have hrun:=run_append_room_src (P:=P) w t tx ty e i ht hi q.b (q.d+o) n cc v m vs a5 f (by rw[H,Nat.add_assoc];exact w3) (by rw[H,Nat.add_assoc];exact w4);rw[H,Nat.add_assoc]at hrun;exact⟨_,_,hrun,g,fun _ _=>rfl,w1,by rw[VR];exact⟨q,cc,hg,rfl,f,R,G⟩,l_ _⟩
  split at F
  ·split at F
   ·rename_i hm E;have hm:=N_ hm;have E:=N_ E;have bx:hnew h k ([]++D) e true (.s k 0 (0+m) sz true)=some r:=by rw[List.nil_append,J_];exact F
    exact T none 0 0 [] [] h Y O_ (by rw[J_];exact E) (bi.nil g) S_ (run_firstCells_none w.drew i.size 0 0 0) bx I.v_inv
   ·cases F
  ·rename_i b o n c;obtain⟨q,J,hg,hu,hn,R,G⟩:=I.s_inv;have K:J=c:=G;subst K;split at F
   ·rename_i f;have f:=N_ f;split at F
    ·rename_i U hw;cases F;exact al b o n J J q false U hg f R rfl hw rfl hu
    ·cases F
   ·rename_i f;have f:¬n+m<=J:=fun e=>by rw[Nat.ble_eq_true_of_le e]at f;cases f
    split at F
    ·rename_i A E hrd;have E:=N_ E;obtain⟨l1,p,l2,l3,_,l4⟩:=pp Y hrd hg;refine T (some ⟨q.b,q.d+o,none⟩) n J A p h Y O_ E l2 l3 ?_ F hu;exact run_firstCells_some (P:=P) w.drew i.size n ⟨q.b,q.d+o,none⟩ n J p (by rw[H];exact l3) (fun j v hj=>by rw[bt];exact l4 j v hj)
    ·cases F
  ·rename_i b o n c;obtain⟨q,J,hg,hu,hn,R,G⟩:=I.s_inv;split at F
   ·rename_i hc;have hc:=Nat.eq_of_beq_eq_true hc;subst hc;have K:o+J*c=q.n:=G;split at F
    ·rename_i U hw;cases F;have f:n+m<=J:=by
      unfold hwr at hw;split at hw
      ·rename_i l e' Q V _;split at hw
       ·rename_i l' hl;obtain⟨_,_,O,_,_,_,a0,hlen,_⟩:mJ g w0 w l e' Q q:=Y.blk b _ q V hg;obtain⟨s1,_,_⟩:=lH hl;have:=tD hlen;rw[c1]at s1;have h9:(n+m)*c<=J*c:=by rw[Nat.add_mul];omega
        exact Nat.le_of_mul_le_mul_right h9 c2
       ·cases hw
      ·cases hw
     exact al b o n c J q true U hg f R G hw rfl hu
    ·split at F
     ·rename_i cs e' ho E V;have ho:=Nat.eq_of_beq_eq_true ho;subst ho;have E:=N_ E;split at F
      ·rename_i A ao cd ag;have ao:=Nat.eq_of_beq_eq_true ao;subst ao;cases F;obtain⟨hd,b2,O,fz,hh,hf,a0,hlen,hc⟩:mJ g w0 w cs e true q:=Y.blk b _ q V hg;have hlen:cs.length<=O.size:=hlen;obtain⟨t1,t2,t3⟩:=sL cd;have bo:b<k:=Y.lt_k V;have bb:∀i b' u',fG h.get b .x i=some b'->ll b'=true->g i=some u'->u'.b≠q.b:=fun i b' u' k1 k2 k3 k4=>by
        unfold fG at k1;split at k1
        ·cases k1;cases k2
        ·rename_i ne;exact ne (Y.inj i b b' _ u' q k1 V k2 rfl k3 hg k4)
       obtain⟨p,l2,l3,l4⟩:=bi.of (g:=g) (xs:=A) (C:=fun i v=>O.toList[i]? =some v) (fun i x I=>by
        have:cs[i]? =some x:=by
         rw[t1,List.getElem?_take]at I;split at I
         ·exact I
         ·cases I
        obtain⟨_,v,e1,e2⟩:=hc i x this;exact⟨v,e1,e2⟩)
       have br:da A=true:=by
        have:∀x∈A,j4 x=true:=fun x I=>by
         obtain⟨i,hi⟩:=W_ I;rw[t1,List.getElem?_take]at hi;split at hi
         ·exact(hc i x hi).1
         ·cases hi
        exact pO this
       have X:p.length=n*c:=O_;by_cases f:n+m<=J
       ·have bj:n*c+vs.length<=O.size:=by rw[<- bs,c1,<- Nat.add_mul,a0,<- K,J_];exact P_ _ f
        obtain⟨ad,a1,a2,a3,a4⟩:=kp vs (n*c) w O hh bj;obtain⟨d1,d2,d3,d4,d5⟩:=hJ (B:=q.b) vs (n*c) w;have bN:Below w0.heap.size w (w.setCells q.b (n*c) vs):=⟨d3,d4,d5,Nat.le_of_eq d2.symm,fun i hi=>d1 i O_⟩;have hrun:=run_append_room_src (P:=P) w t tx ty e i ht hi q.b (q.d+0) n J v m vs a5 f (fun j hj=>by
         simp only[H,hd,J_];have:n*c+j<O.size:=O_;simp[World.cell?,hh,this]) (fun j hj=>by
         simp only[H,hd,J_];have:=hf (n*c+j) O_;simp only[World.frozen?,hh];simpa using this)
        simp only[H,hd,J_]at hrun;obtain⟨b3,b4⟩:=(Y.kill bo).new (w':=w.setCells q.b (n*c) vs) bN (b:= .c (A++D) e true) (u:=⟨q.b,0,q.n⟩) rfl (by
         refine mJ.mk rfl b2 ⟨ad,fz,a1,fun i hi=>hf i O_,a2.trans a0,?_,fun i x I=>?_⟩
         ·show(A++D).length<=ad.size;rw[L_];omega
         ·have be:yx g (dH g k ⟨q.b,0,q.n⟩):=Y.ext (fun i hi=>by unfold dH;rw[if_neg O_]);rw[List.getElem?_append]at I;split at I
          ·rename_i cm;obtain⟨y,e1,e2⟩:=l2.at i x I;refine⟨dT br x (M_ I),y,?_,e2.mono be⟩;rw[Array.getElem?_toList,a3 i (.inl O_)];simpa using l4 i y e1
          ·rename_i cl;obtain⟨y,e1,e2⟩:=hv.at _ x I;refine⟨dT ag x (M_ I),y,?_,e2.mono be⟩;have bp:=(G_.1 e1).1;have:=a4 (i-A.length) bp;rw[show n*c+(i-A.length)=i by omega]at this;rw[Array.getElem?_toList,this,e1]) (fun i b' u' k1 k2 k3=>⟨bb i b' u' k1 k2 k3,d1 _ (bb i b' u' k1 k2 k3)⟩)
        subst hu;refine⟨_,_,by rw[hd];exact hrun,_,b4,by rw[cY,cY];exact b3,?_,by simp⟩;rw[VR];exact⟨_,J,if_pos rfl,rfl,f,R,G⟩
       ·have b9:hnew (h.put b .x) k (A++D) e true (.s k 0 (n+m) c true)=some ⟨.s k 0 (n+m) c true,(h.put b .x).put k (.c (A++D) e true),k+1⟩:=by unfold hnew;rw[CF br ag]
        refine T (some ⟨q.b,q.d+0,none⟩) n J A p (h.put b .x) (by rw[cY];exact Y.kill bo) O_ E l2 X ?_ b9 hu;exact run_firstCells_some (P:=P) w.drew i.size n ⟨q.b,q.d+0,none⟩ n J p (by rw[H];exact X) (fun j v hj=>by simp only[bt,hd,J_];show w.cell? _=_;have:=l4 j v hj;simpa[World.cell?,hh]using this)
      ·cases F
     ·cases F
   ·cases F
  ·cases F
 ·cases F
def FV{f:TypeId}(hk:Ed (P.underlying f)=true){sz:Nat}(A:Addr)(n c:Nat)(a:List Value)(d:a.length=n*sz)(b:∀(j:Nat)u,a[j]? =some u->w.cell? (A.add j)=some u)(i:∀u∈a,u.oneCell'=true):Src P sz f (.slice (some A) n c) n a w:=by refine⟨?_,fun _=>rfl,run_firstCells_some w sz n A n c a d b,run_firstCells_some w.drew sz n A n c a d (by simpa using b),d,i⟩;exact Ur
def JD{a:TypeId}(hk:Ed (P.underlying a)=true):(∃b,P.underlying a=some (.slice b))∨P.underlying a=some .string:=by exact Ur
def vt(l:List Nat):byteCells (eC l)=l.map fun n=>Value.int .u8 ((UInt8.ofNat n).toNat:Nat):=by simp[byteCells,eC]
def ra(sz n:Nat)(l:List Nat)(w:World):(Builtin.firstCells sz n (.string (eC l))).run P w= .ok ((l.take n).map fun n=>Value.int .u8 ((UInt8.ofNat n).toNat:Nat)).toArray w:=by show Result.ok _ w=_;congr 1;apply Array.ext';simp[eC,List.map_take,ByteArray.data_extract,Function.comp_def]
def GR{h:Tr HB}{b:Builtin}{l:List HV}{ts:List TypeId}{r:HM}{vs:List Value}{ty:TypeId}{cs:Array Bool}(G:HR g w0 h.get k w)(a:Ai P h k b l ts=some r)(hv:bi g l vs):
 ∃q w',(builtin b ts.toArray ty cs vs.toArray).run P w= .ok (.value q) w'/\ni g w0 k r q w':=by
 unfold Ai at a;split at a
 ·rename_i x y t tx;obtain⟨u,r1,rfl,Y,E⟩:=hv.cons_inv;obtain⟨v,rfl,H⟩:=E.one_inv;split at a
  ·rename_i e ht hs;split at a
   ·rename_i B ad z s T hz;have D:∀(m:Nat)(f:List HV)(C:List Value),A0 h k e B ad x m f=some r->z.length=B->Src P B tx v m C w->bi g f C-> ∃q w',(builtin .append [t,tx].toArray ty cs [u,v].toArray).run P w= .ok (.value q) w'/\ni g w0 k r q w':=by intro m f C h2 h3 h4 h5;obtain⟨q,w',h6,h7⟩:=Ly (ty:=ty) G h2 ht s T hz h3 Y h4 h5;refine⟨q,w',?_,h7⟩;simp only[builtin,Y_];erw[h6];rfl
    split at a
    ·rename_i b o m _ _ p;have p:=Nat.eq_of_beq_eq_true p;rw[bI]at p;split at a
     ·rename_i f hrd;obtain⟨q,c,R,rfl,_⟩:=H.s_inv;obtain⟨l1,C,l2,l3,l4,l5⟩:=pp G hrd R;refine D m f C a p (FV hs _ m c C l3 (fun j u hj=>by rw[bt];exact l5 j u hj) fun u hu=>?_) l2;obtain⟨i,hi⟩:=W_ hu;have a1:=(G_.1 hi).1;obtain⟨y,e1,e2⟩:=l2.at i (f[i]'(by omega)) S_;rw[hi]at e1;cases e1;exact e2.one (l4 _ (List.getElem_mem _))
     ·cases a
    ·rename_i l p;have p:=Nat.eq_of_beq_eq_true p;rw[bI]at p;split at a
     ·rename_i K;have K:=Nat.eq_of_beq_eq_true K;subst K;rw[bI]at a;refine D l.length (l.map kb) _ a p ?_ (bi.map fun n _=>wN n);rw[H.z_inv,<- vt];have A:(eC l).size=l.length:=d8 l;refine⟨JD hs,fun _=>by rw[<- A];rfl,by rw[<- A];exact firstCells_string (eC l) w,by rw[<- A];exact firstCells_string (eC l) w.drew,by rw[byteCells_length,A,o_],fun u hu=>?_⟩;obtain⟨_,_,rfl⟩:=List.mem_map.1 hu;rfl
     ·cases a
    ·cases a
   ·cases a
  ·cases a
 ·rename_i x y pt it;obtain⟨u,r1,rfl,Y,E⟩:=hv.cons_inv;obtain⟨v,rfl,H⟩:=E.one_inv;split at a
  ·rename_i n b hn;obtain rfl:=KW hn H;split at a
   ·rename_i et ag e Q al hb;split at a
    ·rename_i Z O L V F;have V:=N_ V;cases a;have O:=Nat.eq_of_beq_eq_true O;have L:=Nat.eq_of_beq_eq_true L;subst O;obtain⟨q,R,rfl⟩:=Y.p_inv;obtain⟨hd,a0,I,fz,hh,hf,a2,hlen,hc⟩:mJ g w0 w ag et Q q:=G.blk b _ q hb R;unfold Hp at F;split at F
     ·rename_i lc hrd;obtain⟨l1,C,l2,l3,l4,l5⟩:=pp G hrd R;obtain⟨m1,m2⟩:=Ad F;have S:Z.length=n+1:=O_;have ao:w.shape? q.b=some (et,I.size):=by simp[World.shape?,hh]
      have N:∀(j:Nat)x,(Z.map UInt8.ofNat)[j]? =some x->w.cell? ((⟨q.b,0,none⟩:Addr).add j)=some (.int .u8 x.toNat):=fun j x hj=>by
       rw[List.getElem?_map]at hj;cases hq:Z[j]? with
       |none=>rw[hq]at hj;cases hj
       |some m=>
        rw[hq]at hj;cases hj;obtain⟨y,e1,e2⟩:=m2 j m hq;obtain⟨u',e3,e4⟩:=l2.at j y e1;obtain⟨e5,e6⟩:=Cs e2 e4;have:=l5 j u' e3;rw[hd,J_]at this;rw[bt,J_,this,e5];have:(UInt8.ofNat m).toNat=m:=by simp;omega
        rw[this]
      have hcut:n+1<=I.size:=by unfold MQ at hrd;rw[hb]at hrd;have:=(xB hrd).2.1;have:=tD hlen;omega
      have h9:=Lib.run_unsafeString_row (P:=P) w pt it ty et al L q.b I.size ao (Z.map UInt8.ofNat) (by intro e;have:=congrArg List.length e;simp at this;rw[this]at S;simp at S) (by simp;omega) (by simp;omega) N;simp only[j_,S]at h9;refine⟨.string (eC Z),w.freeze ⟨q.b,0,none⟩ (n+1),?_,g,fun _ _=>rfl,?_,VR.zok,l_ _⟩
      ·simp only[builtin,Y_];rw[hd];erw[h9];rfl
      ·rw[cY];have U:∀i,i≠q.b->(w.freeze ⟨q.b,0,none⟩ (n+1)).heap[i]? =w.heap[i]?:=fun i hi=>by unfold World.freeze;rw[if_neg O_];simp only[Array.getElem?_modify];rw[if_neg (fun e=>hi e.symm)]
       refine(G.kill (G.lt_k hb)).world ⟨?_,?_,?_,?_,fun i hi=>U i O_⟩ fun i b' u' k1 k2 k3=>U _ fun k4=>?_
       ·unfold World.freeze;split <;>rfl
       ·unfold World.freeze;split <;>rfl
       ·unfold World.freeze;split <;>rfl
       ·unfold World.freeze;split <;>simp
       ·unfold fG at k1;split at k1
        ·cases k1;cases k2
        ·rename_i ne;exact ne (G.inj i b b' _ u' q k1 hb k2 rfl k3 R k4)
     ·cases F
    ·cases a
   ·cases a
  ·cases a
 ·rename_i x y t ts;obtain⟨u,r1,rfl,Y,E⟩:=hv.cons_inv;obtain⟨v,rfl,H⟩:=E.one_inv;split at a
  ·rename_i e b o n _ _ ht;obtain⟨q,c,R,rfl,_⟩:=Y.s_inv;have D:∀(m n':Nat)(f:List HV)(C:List Value)(J:Tr HB)(B:Nat),hsz P e=some B->hwr h b o f=some J->bi g f C->(Builtin.lenOf v).run P w= .ok m w->Nat.min m n=n'->(Builtin.firstCells B n' v).run P w= .ok C.toArray w->r=⟨.v (.int .i64 n'),J,k⟩ ->
    ∃q' w',(builtin .copy (t::ts).toArray ty cs [Value.slice (some ⟨q.b,q.d+o,none⟩) n c,v].toArray).run P w= .ok (.value q') w'/\ni g w0 k r q' w':=by
    intro m n' f C J B h2 h3 h4 h5 h6 h7 h8;subst h8;obtain⟨w1,w2,w3,w4⟩:=Ch G h3 R h4;have W:=run_storeCells_cells (P:=P) q.b (q.d+o) C 0 w (by simpa using w3) (by simpa using w4) w2;simp only[Nat.add_zero]at W;refine⟨.int .i64 n',_,?_,g,fun _ _=>rfl,w1,VR.vok rfl,l_ _⟩;simp only[builtin,Y_,Builtin.copy_];simp[run_underlying ht,h5,h6,eS h2 w,h7,W,goInt]
   split at a
   ·rename_i B l s;split at a
    ·rename_i J hw;cases a;refine D (fh l) (Nat.min (fh l) n) _ _ J B s hw (bi.map fun n _=>wN n) ?_ rfl ?_ rfl
     ·rw[H.z_inv,bI,<- d8];rfl
     ·rw[H.z_inv];exact ra B _ l w
    ·cases a
   ·rename_i B s;split at a
    ·rename_i J hw;cases a;have X:=H.v_inv;exact D 0 0 [] [] J B s hw (bi.nil g) (by rw[X];rfl) (Nat.zero_min n) (by rw[X];exact run_firstCells_none w B 0 0 0) rfl
    ·cases a
   ·cases a
  ·cases a
 ·cases a
def sR(z:List HV):∀n,(uo z n).length=n*z.length
 |0=>by simp[uo]
 |n+1=>by simp[uo,sR z n,Nat.add_mul];omega
def zu(z:List HV)(a:0<z.length):∀(n i:Nat),(uo z n)[i]? =if i<n*z.length then z[i%z.length]? else none
 |0,i=>by simp[uo]
 |n+1,i=>by
  simp only[uo,List.getElem?_append];by_cases h:i<z.length
  ·rw[if_pos h,if_pos (by rw[Nat.add_mul];omega),Nat.mod_eq_of_lt h]
  ·rw[if_neg h,zu z a n,Nat.mod_eq_sub_mod (by omega:i>=z.length)];have:(i-z.length<n*z.length)↔(i<(n+1)*z.length):=by rw[Nat.add_mul];omega
   simp only[this]
def bi.ofAt:∀{a:List HV}{b:List Value},a.length=b.length->(∀(i:Nat)x y,a[i]? =some x->b[i]? =some y->VR g x y)->bi g a b
 | [],[],_,_=>bi.nil g
 | [],_::_,h,_=>by simp at h
 |_::_,[],h,_=>by simp at h
 |x::a,y::b,h,c=>bi.cons (c 0 x y rfl rfl) (bi.ofAt (by simpa using h) fun i x y d e=>c (i+1) x y (by simpa using d) (by simpa using e))
def yZ{z:List HV}{b:Value}{sz:Nat}(m:bi g z b.cells.toList)(e:z.length=sz)(n:Nat):bi g (uo z n) ((Array.range (n*sz)).map (b.cells[· %b.cells.size]!)).toList/\b.cells.size=sz:=by
 have l:b.cells.size=sz:=by have:=m.len;simp at this;omega
 refine⟨bi.ofAt (by rw[sR,e];simp) fun i x y d f=>?_,l⟩;have a:i<n*sz:=by have:=(G_.1 d).1;rw[sR,e]at this;exact this
 have c:0<sz:=by
  rcases Nat.eq_zero_or_pos sz with h|h
  ·subst h;simp at a
  ·exact h
 rw[zu z O_,e,if_pos a]at d;obtain⟨v,o,p⟩:=m.at _ _ d;have q:i%sz<sz:=Nat.mod_lt _ c;have:y=v:=by
  have j:b.cells[i%sz]? =some v:=by simpa using o
  simp[a,l]at f;rw[<- f,getElem!_pos _ _ O_];rw[getElem?_pos _ _ O_]at j;exact Option.some.inj j
 rw[this];exact p
def MR.app{b:List (List Nat × HV)}:∀{l:List MapEntry},MR g b l-> ∀{a:List Nat}{x:HV}{e:MapEntry},e.key= .string (eC a)->VR g x e.val->MR g (b++[(a,x)]) (l++[e]):=by
 induction b with
 |nil=>intro l h a x e c d;have h:l=[]:=h;subst h;exact⟨e,[],rfl,c,d,rfl⟩
 |cons p r n=>intro l h a x e c d;obtain⟨f,o,rfl,i,j,m⟩:=h;exact⟨f,o++[e],rfl,i,j,n m c d⟩
def zX{α:Type}(a:Array α)(o:α)(f:α->α):(a.push o).modify a.size f=a.push (f o):=by
 apply Array.ext_getElem?;intro i;rw[Array.getElem?_modify,Array.getElem?_push,Array.getElem?_push];by_cases h:i=a.size
 ·subst h;simp
 ·rw[if_neg h,if_neg h,if_neg (fun e=>h e.symm)]
def Hu{h:Tr HB}{t:TypeId}{x y z:HV}{m:HM}{u v q:Value}(G:HR g w0 h.get k w)(e:yc P h k t x y z=some m)(J:VR g x u)(K:VR g y v)(L:VR g z q):
 ∃n r w',(do Instr.mapUpdate t u v q;pure .skip:Sem Next).run P w= .ok n w'/\(n= .value r∨n= .skip /\r=undef)/\ni g w0 k m r w':=by
 unfold yc at e;split at e
 ·rename_i O N b d I;split at e
  ·rename_i j E B;split at e
   ·rename_i H;cases e;obtain⟨w',C,rfl⟩:=J.m_inv;obtain⟨o,c,a,D,F⟩:iF g w0 w w' (.m j):=G.blk b _ w' B C;rw[K.z_inv];have p:w'.b<w.heap.size:=(A_.1 D).1;have l:=gy (P:=P) (w:=w) false 9999 E (eC d);have A:=mD d j c.toList 0 F;rw[H]at A;have s:∀i,i≠w'.b->(w.heap.setIfInBounds w'.b (.map (c.push ⟨.string (eC d),q,a⟩) (a+1)))[i]? =w.heap[i]?:=fun i f=>Array.getElem?_setIfInBounds_ne (Ne.symm f);refine⟨.skip,undef,{ w with heap:=w.heap.setIfInBounds w'.b (.map (c.push ⟨.string (eC d),q,a⟩) (a+1)) },?_, .inr ⟨rfl,rfl⟩,g,fun _ _=>rfl,?_,by rw[VR];exact⟨[],rfl,bi.nil g⟩,l_ _⟩
    ·simp[Instr.mapUpdate,run_underlying I,getObj,setObj,Sem.run,D,l,Instr.findKey,run_underlying E,A]
    ·rw[cY];exact G.set (w':={ w with heap:=w.heap.setIfInBounds w'.b (.map (c.push ⟨.string (eC d),q,a⟩) (a+1)) }) ⟨rfl,rfl,rfl,by simp,fun i f=>s i O_⟩ B rfl (b:= .m (j++[(d,z)])) rfl C ⟨o,c.push ⟨.string (eC d),q,a⟩,a+1,by simp[p],by rw[Array.toList_push];exact F.app rfl L⟩ fun i f _=>s i f
   ·cases e
  ·cases e
 ·cases e
def tP{cs:List HV}{e:TypeId}{q:Bool}{x a:Nat->HV}{b:HB}(h:Ri cs e q x=some (b,a)):da cs=true/\b= .c cs e q/\a=x:=by
 unfold Ri at h;split at h
 ·cases h;exact⟨by assumption,rfl,rfl⟩
 ·cases h
def v8(g:Nat->Option HG)(b:Obj)(n:Nat):HB->Prop
 | .c d e q=>∃a f,b= .cells a e f/\sT a f/\a.size=n/\CO q d.length a.size/\CR g d a.toList
 | .m i=>i=[]/\b= .map #[] 0
 |_=>False
def v8.own{a:Obj}{n:Nat}{b:HB}(h:v8 g a n b):ll b=true:=by
 cases b with
 |c=>rfl
 |m=>rfl
 |r=>exact h.elim
 |x=>exact h.elim
def v8.blk{a:Obj}{n d:Nat}{b:HB}(h:v8 g a n b)(t:yx g g')(i:w0.heap.size<=w.heap.size):iF g' w0 { w with heap:=w.heap.push a,drawn:=d } ⟨w.heap.size,0,n⟩ b:=by
 cases b with
 |c u e q=>obtain⟨f,j,rfl,l,o,p,s⟩:=h;exact mJ.mk rfl i ⟨f,j,by simp,l,o,p,s.mono t⟩
 |m v=>obtain⟨rfl,rfl⟩:=h;exact⟨i,#[],0,by simp,rfl⟩
 |r=>exact h.elim
 |x=>exact h.elim
def sG{a:Obj}{d N:Nat}(h:N<=w.heap.size):Below N w { w with heap:=w.heap.push a,drawn:=d }:=⟨rfl,rfl,rfl,by simp,fun i hi=>by rw[Array.getElem?_push,if_neg O_]⟩
def It{f:Tr HV}{a:Act}{o:Oper}{b:HB}{xf:Nat->HV}(m:hmk P f o=some (b,xf))(hE:Se g f a o.op.operands.toList)(w:World):
 ∃V n v d,(execOp a.eval o).run P w= .ok (.value v) { w with heap:=w.heap.push V,drawn:=d }/\v8 g V n b/\ ∀(g2:Nat->Option HG)j,g2 j=some ⟨w.heap.size,0,n⟩->VR g2 (xf j) v:=by
 have N:∀y,y∈o.op.operands.toList->VR g (hev f y) (a.eval y):=hE;unfold hmk at m;unfold execOp;split at m<;>rename_i Z<;>(try rw[Z]at N)<;>(try simp only[Z])
 ·rename_i t;split at m
  ·rename_i z U;obtain⟨G,A,F⟩:=nN (g:=g) U w;obtain⟨H,rfl,rfl⟩:=tP m;exact⟨.cells G.cells t (0,0),G.cells.size, .pointer (some ⟨w.heap.size,0,none⟩),w.drawn,by simp only[Instr.alloc,Y_,A,R_];rfl,⟨G.cells,(0,0),rfl,sT.zero _,rfl,by rw[F.len,Array.length_toList];rfl,F.CR H⟩,fun g2 j hj=>by rw[VR];exact⟨_,hj,by simp⟩⟩
  ·cases m
 ·rename_i t x;have O:=N x (by simp[Op.operands]);obtain⟨H,rfl,rfl⟩:=tP m;have X:=O.cells H;exact⟨.cells (a.eval x).cells t (0,0),(a.eval x).cells.size, .pointer (some ⟨w.heap.size,0,none⟩),w.drawn,rfl,⟨_,(0,0),rfl,sT.zero _,rfl,by rw[X.len,Array.length_toList];rfl,X.CR H⟩,fun g2 j hj=>by rw[VR];exact⟨_,hj,by simp⟩⟩
 ·rename_i t n r;have a3:LT g (r.toList.map fun p=>(p.1,hev f p.2)) (r.toList.map fun p=>(p.1,a.eval p.2)):=LT.map fun p hp=>N p.2 (by simp only[Op.operands];simp;exact⟨p.1,by simpa using hp⟩);have e:(r.map fun x=>match x with|(i,y)=>(i,a.eval y)).toList=r.toList.map fun(p:Nat × Operand)=>(p.1,a.eval p.2):=S_;split at m
  ·rename_i B T;split at m
   ·rename_i W z u U;split at m
    ·rename_i cs s q hf;have q:=Nat.eq_of_beq_eq_true q;rw[bI]at q;obtain⟨G,A,F⟩:=nN (g:=g) U w;obtain⟨Q,h3⟩:=yZ F q n;obtain⟨I,R,S⟩:=r6 _ _ _ _ _ Q a3 hf;obtain⟨H,rfl,rfl⟩:=tP m;refine⟨.cells I B (0,0),I.size, .slice (some ⟨w.heap.size,0,none⟩) n n,w.drawn,?_,⟨I,(0,0),rfl,sT.zero _,rfl,by rw[S.len,Array.length_toList];rfl,S.CR H⟩,fun g2 j hj=>?_⟩
     ·simp only[Instr.buildSlice,Y_,run_underlying T,R_,eS u w];rw[if_neg (by simp only[B_]at s;have:=N_ s.1;omega)];split
      ·rename_i h0;have a2:((Array.range (n*W)).map (fun x=>(#[]:Array Value)[x%(#[]:Array Value).size]!))=((Array.range (n*W)).map (G.cells[· %G.cells.size]!)):=by rw[h0];simp
       simp only[Y_,a_,R_,a2,e,R];rfl
      ·simp only[Y_,A,a_,R_,e,R];rfl
     ·rw[VR];simp only[B_]at s;exact⟨_,n,hj,by simp,l_ _,by have:=N_ s.2;omega,rfl⟩
    ·cases m
   ·cases m
  ·cases m
 ·rename_i t x y;have O:=N x (by simp[Op.operands]);have hy:=N y (by simp[Op.operands]);split at m
  ·rename_i B n c T hn X;obtain⟨ik,al⟩:=jm hn O;obtain⟨bk,ag⟩:=jm X hy;split at m
   ·rename_i W ad z u E U;split at m
    ·rename_i Q h3 R q;have Q:=N_ Q;have h3:=N_ h3;have R:=N_ R;have q:=Nat.eq_of_beq_eq_true q;rw[bI]at q;obtain⟨G,A,F⟩:=nN (g:=g) U w;obtain⟨S,h6⟩:=yZ F q c;obtain⟨i,Y,a1⟩:∃i,P.info? B=some i/\i.bytes=ad:=by
      unfold hby at E;split at E
      ·cases E;exact⟨_,by assumption,rfl⟩
      ·cases E
     obtain⟨H,rfl,rfl⟩:=tP m;refine⟨.cells ((Array.range (c*W)).map (G.cells[· %G.cells.size]!)) B (0,0),_, .slice (some ⟨w.heap.size,0,none⟩) n c,w.drawn,?_,⟨_,(0,0),rfl,sT.zero _,rfl,by rw[S.len,Array.length_toList];rfl,S.CR H⟩,fun g2 j hj=>?_⟩
     ·obtain⟨bj,a9⟩:i.zero=some G/\i.size=W:=by
       constructor
       ·unfold zeroValue typeInfo at A;cases hq:i.zero with
        |none=>simp[Y,hq,unsupported,Sem.run]at A
        |some z'=>simp[Y,hq]at A;rw[A]
       ·unfold hsz at u;rw[Y]at u;cases u;rfl
      have a0:(i.bytes:Int)*(c:Nat)<=281474976710656:=by
       have:((i.bytes*c:Nat):Int)<=281474976710656:=by rw[Nat.mul_comm,a1];omega
       rwa[Int.natCast_mul]at this
      have hrun:=run_make (P:=P) w t B i G T Y bj ik bk n c O_ O_ a0 O_;simp only[Int.toNat_natCast,a9]at hrun;simp only[al,ag,Y_,hrun];rfl
     ·rw[VR];exact⟨_,c,hj,by simp,Q,by omega,rfl⟩
    ·cases m
   ·cases m
  ·cases m
 ·rename_i t t' x;have O:=N x (by simp[Op.operands]);split at m
  ·rename_i B l T bb be;rw[be]at O;split at m
   ·rename_i he;split at m
    ·rename_i L;have L:=N_ L;rw[bI]at L;have hv:bi g (l.map kb) (byteCells (eC l)):=by rw[vt];exact bi.map fun n _=>wN n
     have K:(byteCells (eC l)).length=l.length:=by rw[byteCells_length,d8]
     have J:=grownCap_ge w l.length 0 B;have s:=grownCap_le_maxLen w l.length 0 B (by unfold maxLen;omega);unfold maxLen at s;generalize hC:grownCap w l.length 0 B=C at J s;have D:((byteCells (eC l)).toArray++Array.replicate (C-l.length) (Value.int .u8 0)).size=C:=by simp only[Array.size_append,List.size_toArray,K,Array.size_replicate];omega
     obtain⟨H,rfl,rfl⟩:=tP m;refine⟨.cells ((byteCells (eC l)).toArray++Array.replicate (C-l.length) (Value.int .u8 0)) B (C,C+1),C, .slice (some ⟨w.heap.size,0,none⟩) l.length C,w.drawn+1,?_,⟨_,(C,C+1),rfl,fun o Z h=>by rw[D]at Z;omega,D,?_,?_⟩,fun g2 j hj=>?_⟩
     ·have a4:(eC l).size=l.length:=d8 l;have a5:World.shape? { w with heap:=w.heap.push (.cells ((byteCells (eC l)).toArray++Array.replicate (C-l.length) (Value.int .u8 0)) B (0,0)),drawn:=w.drawn+1 } w.heap.size=some (B,C):=by simp only[World.shape?,Array.getElem?_push_size,D]
      have ao:(eC l).data.map (fun b=>Value.int .u8 b.toNat)=(byteCells (eC l)).toArray:=Array.ext' (by simp[byteCells]);have hcut:(Question.appendCap l.length 0 B).cut (w.tape w.drawn (Question.appendCap l.length 0 B))=C:=hC;simp only[O.z_inv,convert,Y_,run_underlying T,run_underlying bb,run_underlying he,R_,Conv.stringToBytes,a4,choose,Sem.run,Question.forced,Bool.false_eq_true,if_false,hcut,newRow,newObj,markStringish,shape,ao,a5,freeze,pure,Sem.pure];simp only[World.freeze,Nat.one_ne_zero,if_false,zX];rfl
     ·show(l.map kb).length<=_;rw[D,j_];exact J
     ·have:=hv.CR H;simpa using this.app
     ·rw[VR];exact⟨_,C,hj,by rw[bI],by rw[bI];exact J,s,by show 0+C*1=C;omega⟩
    ·cases m
   ·cases m
  ·cases m
 ·cases m;exact⟨.map #[] 0,0, .map (some w.heap.size),w.drawn,rfl,⟨rfl,rfl⟩,fun g2 j hj=>by rw[VR];exact⟨_,hj,rfl⟩⟩
 ·cases m
def Mq{h:Tr HB}{f:Tr HV}{a:Act}{o:Oper}{m:HM}(j:HR g w0 h.get k w)(c:hmem P f h k o=some m)(K:Se g f a o.op.operands.toList):
 ∃n v w',(execOp a.eval o).run P w= .ok n w'/\(n= .value v∨n= .skip /\v=undef)/\ni g w0 k m v w':=by
 have l:∀y,y∈o.op.operands.toList->VR g (hev f y) (a.eval y):=K;unfold hmem at c;split at c
 ·rename_i b xf hmk;cases c;obtain⟨J,n,v,d,C,u,D⟩:=It hmk K w;have U:gM k g (dH g k ⟨w.heap.size,0,n⟩):=fun i hi=>by unfold dH;rw[if_neg O_]
  obtain⟨E,F⟩:=j.new (w':={ w with heap:=w.heap.push J,drawn:=d }) (sG j.bel.size) u.own (u.blk (j.ext U) j.bel.size) (fun i Q X D E F=>by have:=((j.blk i Q X D F).lt E).1;exact⟨by simp;omega,by simp only;rw[Array.getElem?_push,if_neg O_]⟩)
  exact⟨_,v,_,C, .inl rfl,_,F,by rw[cY];exact E,D _ _ (by unfold dH;simp),by simp⟩
 unfold execOp;split at c<;>rename_i N<;>(try rw[N]at l)<;>(try simp only[N])
 ·rename_i t x y;have O:=l x (by simp[Op.operands]);have B:=l y (by simp[Op.operands]);split at c
  ·rename_i b W n I T;rw[I]at O;obtain⟨q,S,R⟩:=O.p_inv;split at c
   ·rename_i h' H A;cases c;have H:=Nat.eq_of_beq_eq_true H;rw[bI]at H;have G:da (hcells (hev f y))=true:=by
     unfold hwr at A;split at A
     ·assumption
     ·cases A
    have L:=B.cells G;obtain⟨Y,Z,w3,w4⟩:=Ch j A S L;have r:=run_storeCells_cells (P:=P) q.b (q.d+W) (a.eval y).cells.toList 0 w (by simpa using w3) (by simpa using w4) Z;simp only[Nat.add_zero]at r;have s:(a.eval y).cells.size=n:=by have:=L.len;simp at this;omega
    refine⟨.skip,undef,_,?_, .inr ⟨rfl,rfl⟩,g,fun _ _=>rfl,Y,by rw[VR];exact⟨[],rfl,bi.nil g⟩,l_ _⟩;simp[R,Instr.storeAt,Instr.sureAddr,storeVar,eS T w,s,r]
   ·cases c
  ·cases c
 ·rename_i t x y z;exact Hu j c (l x (by simp[Op.operands])) (l y (by simp[Op.operands])) (l z (by simp[Op.operands]))
 ·rename_i b args ts;have V:bi g (args.toList.map (hev f)) (args.toList.map a.eval):=bi.map (fun y B=>l y (by simp[Op.operands,Call.operands]at B ⊢;exact B));refine Tl ?_;obtain⟨q,w',C,u⟩:=GR (ty:=o.type) (cs:=args.map fun| .const _=>true|_=>false) j c V;exact⟨_,q,w',C, .inl rfl,u⟩
 ·cases c
end
end Go.Proofs.YtnchbpoopnjghaaGreatDoor
