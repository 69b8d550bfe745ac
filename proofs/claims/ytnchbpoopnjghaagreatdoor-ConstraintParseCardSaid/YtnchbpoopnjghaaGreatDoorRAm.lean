/- Plain data over the model's memory: what a value reads as, kept while memory grows. The operations of the model over plain data, one at a time. The operations of the model over plain data: what each does to what is known. One operation, as a function of what is known; calls by what is known of the callee. A region whose operations may come in any order: its operations one behind the other, where those that meet at a place are ordered. Code over plain data, and the contract of a function out of it. -/
import Derived.Test.YtnchbpoopnjghaaGreatDoorRAmG
set_option maxHeartbeats 100000000
set_option linter.all false
namespace Go.Proofs.YtnchbpoopnjghaaGreatDoor
open Go.RowKit
inductive AV where
 |val (v:Value)
 |sl (n:Nat) (cs:List AV)
 |ow (j n k e:Nat)
 |bp (j o:Nat)
 |nl
def iV:Value->Bool
 | .int .u32 _=>false
 |_=>true
structure b7 (S:Nat->Prop) (w w':World):Prop where
 size:w.heap.size<=w'.heap.size
 blk:∀b,b<w.heap.size-> ¬S b->w'.heap[b]? =w.heap[b]?
def b7.of_below{S:Nat->Prop}{w w':World}(h:Below w.heap.size w w'):b7 S w w':=⟨h.size,fun b hb _=>h.block b hb⟩
def b7.refl(S:Nat->Prop)(w:World):b7 S w w:=⟨l_ _,fun _ _ _=>rfl⟩
inductive AV.M (S:Nat->Prop) (w:World):AV->Value->Prop
 |val {v:Value}:v.oneCell'=true->AV.M S w (.val v) v
 |emp {A:Option Addr} {n c:Nat}:n<=c->c<=9223372036854775807->(A=none->c=0)->AV.M S w (.sl n []) (.slice A n c)
 |sl {b off n c:Nat} {cs:List AV} (f:Nat->Value):n<=c->c<=9223372036854775807-> ¬S b->b<w.heap.size->(∀i a,cs[i]? =some a->w.cell? ⟨b,off+i,none⟩=some (f i))->(∀i a,cs[i]? =some a->AV.M S w a (f i)) ->
  AV.M S w (.sl n cs) (.slice (some ⟨b,off,none⟩) n c)
 |ow {v:Value} {j n k e:Nat}:v.oneCell'=true->AV.M S w (.ow j n k e) v
 |bp {v:Value} {j o:Nat}:v.oneCell'=true->AV.M S w (.bp j o) v
 |nl:AV.M S w .nl (.slice none 0 0)
def AV.M.agree{S j:Nat->Prop}{w w':World}{a:AV}{v:Value}(h:AV.M S w a v)(l:b7 S w w')(q:∀b,b<w.heap.size->j b->S b):AV.M j w' a v:=by
 induction h with
 |val h=>exact .val h
 |emp c d p=>exact .emp c d p
 |sl f c d m e r _ u=>exact .sl f c d (fun h=>m (q _ e h)) (k_ e l.size) (fun i a t=>(World.cell?_of_block (l.blk _ e m)).trans (r i a t)) u
 |ow h=>exact .ow h
 |bp h=>exact .bp h
 |nl=>exact .nl
def AV.M.plain{S:Nat->Prop}{w:World}{a:AV}{v:Value}(h:AV.M S w a v):v.oneCell'=true:=by
 cases h with
 |val h=>exact h
 |emp=>rfl
 |sl=>rfl
 |ow h=>exact h
 |bp h=>exact h
 |nl=>rfl
def kH{v:Value}(h:v.oneCell'=true):v.cells= #[v]:=by cases v<;>first|rfl|(simp[Value.oneCell']at h)
inductive DV where
 |leaf (a:AV)
 |agg (cs:List AV)
def DV.cells:DV->List AV
 | .leaf a=>[a]
 | .agg b=>b
def CM(S:Nat->Prop)(w:World)(cs:List AV)(vs:List Value):Prop:=cs.length=vs.length/\ ∀(i:Nat)(a:AV)(v:Value),cs[i]? =some a->vs[i]? =some v->AV.M S w a v
def DV.M(S:Nat->Prop)(w:World):DV->Value->Prop
 | .leaf a,v=>AV.M S w a v
 | .agg c,v=>∃b:List Value,v= .agg b.toArray/\CM S w c b
def CM.nil(S:Nat->Prop)(w:World):CM S w [] []:=⟨rfl,fun i a v h=>by simp at h⟩
def CM.cons{S:Nat->Prop}{w:World}{a:AV}{v:Value}{cs:List AV}{vs:List Value}(h:AV.M S w a v)(e:CM S w cs vs):CM S w (a::cs) (v::vs):=by
 refine⟨by simp[e.1],fun i b u c d=>?_⟩;cases i with
 |zero=>simp at c d;subst c d;exact h
 |succ i=>exact e.2 i b u (by simpa using c) (by simpa using d)
def CM.agree{S c:Nat->Prop}{w w':World}{cs:List AV}{vs:List Value}(h:CM S w cs vs)(j:b7 S w w')(f:∀b,b<w.heap.size->c b->S b):CM c w' cs vs:=
 ⟨h.1,fun i a v d e=>(h.2 i a v d e).agree j f⟩
def CM.drop{S:Nat->Prop}{w:World}{cs:List AV}{vs:List Value}(h:CM S w cs vs)(o:Nat):CM S w (cs.drop o) (vs.drop o):=
 ⟨by simp[h.1],fun i a v b c=>h.2 (o+i) a v (by simpa using b) (by simpa using c)⟩
def CM.take{S:Nat->Prop}{w:World}{cs:List AV}{vs:List Value}(h:CM S w cs vs)(k:Nat):CM S w (cs.take k) (vs.take k):=
 ⟨by simp[h.1],fun i a v b c=>by
  rw[List.getElem?_take]at b c;split at b
  ·rw[if_pos (by assumption)]at c;exact h.2 i a v b c
  ·cases b⟩
def CM.append{S:Nat->Prop}{w:World}{cs ds:List AV}{vs us:List Value}(h:CM S w cs vs)(k:CM S w ds us):CM S w (cs++ds) (vs++us):=by
 refine⟨by simp[h.1,k.1],fun i a v c b=>?_⟩;rw[List.getElem?_append]at c b;have:=h.1;split at c
 ·rw[if_pos O_]at b;exact h.2 i a v c b
 ·rw[if_neg O_,<- this]at b;exact k.2 _ a v c b
def CM.plain{S:Nat->Prop}{w:World}{cs:List AV}{vs:List Value}(h:CM S w cs vs):∀v∈vs,v.oneCell'=true:=by
 intro v d;obtain⟨i,b⟩:=W_ d;have c:i<cs.length:=by rw[h.1];exact(G_.1 b).1
 exact(h.2 i cs[i] v (by simp[c]) b).plain
def jO(S:Nat->Prop)(w:World)(cs:List AV)(vs:List Value):Prop:=cs.length<=vs.length/\ ∀(i:Nat)(a:AV)(v:Value),cs[i]? =some a->vs[i]? =some v->AV.M S w a v
def CM.cp{S:Nat->Prop}{w:World}{cs:List AV}{vs:List Value}(h:CM S w cs vs):jO S w cs vs:=⟨Nat.le_of_eq h.1,h.2⟩
def jO.agree{S c:Nat->Prop}{w w':World}{cs:List AV}{vs:List Value}(h:jO S w cs vs)(j:b7 S w w')(f:∀b,b<w.heap.size->c b->S b):jO c w' cs vs:=
 ⟨h.1,fun i a v d e=>(h.2 i a v d e).agree j f⟩
def jO.cm{S:Nat->Prop}{w:World}{cs:List AV}{vs:List Value}(h:jO S w cs vs):CM S w cs (vs.take cs.length):=
 ⟨by have:=h.1;simp;omega,fun i a v c b=>by
  rw[List.getElem?_take]at b;split at b
  ·exact h.2 i a v c b
  ·cases b⟩
def jO.sub{S:Nat->Prop}{w:World}{cs:List AV}{vs:List Value}(h:jO S w cs vs){off k:Nat}(b:off+k<=cs.length):CM S w ((cs.drop off).take k) ((vs.drop off).take k):=by
 have:=(h.cm.drop off).take k;have e:((vs.take cs.length).drop off).take k=(vs.drop off).take k:=by rw[List.drop_take,List.take_take];congr 1;omega
 rwa[e]at this
def DV.M.agree{S c:Nat->Prop}{w w':World}{d:DV}{v:Value}(h:DV.M S w d v)(i:b7 S w w')(f:∀b,b<w.heap.size->c b->S b):DV.M c w' d v:=by
 cases d with
 |leaf a=>exact AV.M.agree h i f
 |agg m=>obtain⟨l,e,j⟩:=h;exact⟨l,e,j.agree i f⟩
def DV.M.cells{S:Nat->Prop}{w:World}{d:DV}{v:Value}(h:DV.M S w d v):CM S w d.cells v.cells.toList:=by
 cases d with
 |leaf a=>rw[kH (AV.M.plain h)];exact CM.cons h (CM.nil _ _)
 |agg c=>obtain⟨e,rfl,b⟩:=h;exact b
structure Kd where
 nm:List UInt8
 p:Nat
 c:Nat
 n:Nat
 v:Nat
 q:Nat
 s:Bool
def mz:List Kd:=[⟨[102,105,120],1,0,2,1,2,false⟩,⟨[100,105,115,116,97,110,99,101],2,0,1,2,1,false⟩,⟨[105,110,99,105,100,101,110,116],3,0,0,0,1,false⟩,⟨[111,102,102,115,101,116],3,0,1,2,1,true⟩,⟨[97,110,103,108,101],4,0,1,3,1,false⟩,⟨[112,97,114,97,108,108,101,108],4,0,0,0,1,false⟩,⟨[112,101,114,112,101,110,100,105,99,117,108,97,114],4,0,0,0,1,false⟩,⟨[101,113,117,97,108],4,0,0,0,1,false⟩,⟨[109,105,100,112,111,105,110,116],3,0,0,0,2,false⟩,⟨[115,121,109,109,101,116,114,105,99],4,0,0,0,2,false⟩,⟨[104,111,114,105,122,111,110,116,97,108],2,0,0,0,1,false⟩,⟨[118,101,114,116,105,99,97,108],2,0,0,0,1,false⟩,⟨[111,110,99,105,114,99,108,101],1,1,0,0,1,false⟩,⟨[114,97,100,105,117,115],0,1,1,2,1,false⟩,⟨[115,97,109,101,114,97,100,105,117,115],0,2,0,0,1,false⟩,⟨[116,97,110,103,101,110,116,108,105,110,101],2,1,0,0,1,true⟩,⟨[116,97,110,103,101,110,116,99,105,114,99,108,101],0,2,0,0,1,true⟩]
def RS(r:Kd):List AV:=[.val (.string ⟨r.nm.toArray⟩), .val (.int .i64 r.p), .val (.int .i64 r.c), .val (.int .i64 r.n), .val (.int .i64 r.q), .val (.bool r.s), .val (.bool (Nat.beq r.v 1 || Nat.beq r.v 2)), .val (.bool (Nat.beq r.v 2))]
def GT:List (Nat × List AV):=
 (4,[.sl 5 [.val (.string ⟨#[99,109]⟩), .val (.int .i64 10), .val (.int .i64 1), .val (.string ⟨#[102,116]⟩), .val (.int .i64 1524), .val (.int .i64 5), .val (.string ⟨#[105,110]⟩), .val (.int .i64 127), .val (.int .i64 5), .val (.string ⟨#[109]⟩), .val (.int .i64 1000), .val (.int .i64 1), .val (.string ⟨#[109,109]⟩), .val (.int .i64 1), .val (.int .i64 1)]]) ::
 (2,[.val (.string ⟨#[]⟩), .val (.string ⟨#[]⟩), .val (.string ⟨#[]⟩), .val (.string ⟨#[45]⟩), .val (.string ⟨#[32,43,32]⟩), .val (.string ⟨#[32,45,32]⟩), .val (.string ⟨#[32,42,32]⟩), .val (.string ⟨#[32,47,32]⟩)]) ::
 (0,RS ⟨[],0,0,0,0,0,false⟩++mz.flatMap RS) ::
 (1,[.val (.int .i64 0), .val (.int .i64 0), .val (.int .i64 0), .val (.int .i64 1), .val (.int .i64 2), .val (.int .i64 2), .val (.int .i64 2), .val (.int .i64 2)]) ::
 []
def iO(j:Nat):Bool:=Nat.beq (j%1000000/100) 9
structure fw where
 w:World
 x:Nat->Prop
 d:List Deferred
 p:Nat->Option Nat
abbrev fw.heap(b:fw):Array Obj:=b.w.heap
structure cu (x:Nat->Prop) (w w':World):Prop where
 os:w'.os=w.os
 tape:w'.tape=w.tape
 output:w'.output=w.output
 size:w.heap.size<=w'.heap.size
 block:∀k,k<w.heap.size-> ¬x k->w'.heap[k]? =w.heap[k]?
 shp:∀k,k<w.heap.size->x k-> ∀arr e fz,w.heap[k]? =some (.cells arr e fz)-> ∃arr' fz',w'.heap[k]? =some (.cells arr' e fz')/\arr'.size=arr.size
def cu.refl(x:Nat->Prop)(w:World):cu x w w:=⟨rfl,rfl,rfl,l_ _,fun _ _ _=>rfl,fun _ _ _ b _ c h=>⟨b,c,h,rfl⟩⟩
def cu.go{x y:Nat->Prop}{w w' i:World}(h:cu x w w')(k:cu y w' i)(B:∀b,y b->w.heap.size<=b∨x b):cu x w i:=by
 refine⟨k.os.trans h.os,k.tape.trans h.tape,k.output.trans h.output,V_ h.size k.size,fun b d j=>?_,fun b d j l e u A=>?_⟩
 ·rw[k.block b (k_ d h.size) (fun c=>by rcases B b c with f|f;exact absurd d (Nat.not_lt.2 f);exact j f)];exact h.block b d j
 ·obtain⟨m,p,f,q⟩:=h.shp b d j l e u A;by_cases c:y b
  ·obtain⟨r,t,v,z⟩:=k.shp b (k_ d h.size) c m e p f;exact⟨r,t,v,z.trans q⟩
  ·exact⟨m,p,(k.block b (k_ d h.size) c).trans f,q⟩
def cu.of_below{w w':World}(h:Below w.heap.size w w'):cu (fun _=>False) w w':=⟨h.os,h.tape,h.output,h.size,fun k hk _=>h.block k hk,fun _ _ h=>h.elim⟩
def cu.below{w w':World}(h:cu (fun _=>False) w w'):Below w.heap.size w w':=⟨h.os,h.tape,h.output,h.size,fun k b=>h.block k b (fun h=>h)⟩
def cu.step{x:Nat->Prop}{w w' b:World}(h:cu x w w')(k:Below w'.heap.size w' b):cu x w b:=h.go (.of_below k) (fun _ h=>h.elim)
def L9(b:fw):Prop:=∀w',cu b.x b.w w'->H3 w'
def L9.here{b:fw}(h:L9 b){w:World}(c:cu b.x b.w w):lX w:=fun w' d=>h w' (c.step d)
def lX.base{w:World}(h:lX w)(d:List Deferred)(p:Nat->Option Nat):L9 ⟨w,fun _=>False,d,p⟩:=fun w' b=>h w' b.below
inductive CV where
 |val (v:Value)
 |box (j o:Nat)
inductive TV where
 |d (x:DV)
 |tup (ts:List DV)
 |box (j o:Nat)
 |rp (cs:List AV)
 |own (j n k e:Nat)
 |clo (fn:Fn) (fs cs:List CV)
 |dfr (f:FuncId) (cs:List CV)
 |vw (j o n k:Nat)
 |vs (j o n c k e:Nat)
 |mp (es:List (Value × Value))
 |nil
 |und
 |junk
def ak{α:Type}:List (Nat × α)->Nat->Option α
 | [],_=>none
 |(k,v)::r,i=>match Nat.beq k i with
  |true=>some v
  |false=>ak r i
structure AS where
 t:List (Nat × TV)
 b:List (Nat × Option (List AV))
def AS.tv(s:AS)(k:Nat):TV:=match ak s.t k with
 |some v=>v
 |none=> .junk
def AS.bx(s:AS)(j:Nat):Option (List AV):=match ak s.b j with
 |some (some c)=>some c
 |_=>none
def AS.kn(s:AS)(j:Nat):Prop:=∃x,ak s.b j=some x
def cL(j:Nat):Bool:=Nat.ble 1000000 j
def cX(j:Nat):Bool:=Nat.beq (j/50) 16 || Nat.beq (j/50) 17 || Nat.beq (j/50) 19
def im(j:Nat):Bool:=Nat.beq (j/10) 85 || Nat.beq (j/10) 95
def oC{j:Nat}(h:im j=true):cX j=true:=by unfold im at h;unfold cX;simp only[Bool.or_eq_true,Nat.beq_eq]at h ⊢;omega
def wm:TypeId:=139
def LI:AV->Bool
 | .ow _ _ _ _=>false
 | .bp _ _=>false
 |_=>true
def ap{α:Type}(k:Nat)(v:α)(r:List (Nat × α)):ak ((k,v)::r) k=some v:=by simp[ak]
def az{α:Type}{k i:Nat}(v:α)(r:List (Nat × α))(h:k≠i):ak ((k,v)::r) i=ak r i:=by
 simp only[ak];cases hb:Nat.beq k i
 ·rfl
 ·exact absurd (Nat.eq_of_beq_eq_true hb) h
def AS.bx_same(t:List (Nat × TV))(b:List (Nat × Option (List AV)))(j:Nat)(cs:List AV):(AS.mk t ((j,some cs)::b)).bx j=some cs:=by simp only[AS.bx,ap]
def AS.bx_dead(t:List (Nat × TV))(b:List (Nat × Option (List AV)))(j:Nat):(AS.mk t ((j,none)::b)).bx j=none:=by simp only[AS.bx,ap]
def AS.bx_ne(t c:List (Nat × TV))(b:List (Nat × Option (List AV))){j i:Nat}(x:Option (List AV))(h:i≠j):(AS.mk t ((j,x)::b)).bx i=(AS.mk c b).bx i:=by simp only[AS.bx,az x b (fun e=>h e.symm)]
def AS.kn_cons{t d:List (Nat × TV)}{b:List (Nat × Option (List AV))}{j i:Nat}(x:Option (List AV))(h:(AS.mk t b).kn i):(AS.mk d ((j,x)::b)).kn i:=by
 by_cases e:j=i
 ·subst e;exact⟨x,ap _ _ _⟩
 ·obtain⟨y,c⟩:=h;exact⟨y,by simp only[az x b e];exact c⟩
def AS.kn_of{s:AS}{j:Nat}{cs:List AV}(h:s.bx j=some cs):s.kn j:=by
 unfold AS.bx at h;split at h
 ·rename_i x b;exact⟨_,b⟩
 ·cases h
def Own(S0:Nat->Prop)(g:Nat->Nat)(s:AS)(b:Nat):Prop:=S0 b∨ ∃j c,s.bx j=some c/\g j=b
def CV.M(g:Nat->Nat)(s:AS):CV->Value->Prop
 | .val u,v=>v=u
 | .box j o,v=>s.kn j/\ ∀b,s.bx j=some b->v= .pointer (some ⟨g j,o,none⟩)
def rd(g:Nat->Nat)(s:AS):List CV->List Value->Prop
 | [],[]=>True
 |c::b,v::d=>CV.M g s c v/\rd g s b d
 |_,_=>False
def TV.M(S:Nat->Prop)(g:Nat->Nat)(s:AS)(w:World):TV->Value->Prop
 | .d x,v=>DV.M S w x v
 | .tup y,v=>∃p:List Value,v= .tuple p.toArray/\y.length=p.length/\ ∀(i:Nat)(x:DV)(u:Value),y[i]? =some x->p[i]? =some u->DV.M S w x u
 | .box j o,v=>s.kn j/\ ∀h,s.bx j=some h->v= .pointer (some ⟨g j,o,none⟩)
 | .rp h,v=>∃(b q:Nat)(f:Nat->Value),v= .pointer (some ⟨b,q,none⟩)/\ ¬S b/\b<w.heap.size/\(∀i a,h[i]? =some a->w.cell? ⟨b,q+i,none⟩=some (f i))/\ ∀i a,h[i]? =some a->AV.M S w a (f i)
 | .own j n k e,v=>s.kn j/\ ∀h,s.bx j=some h-> ∃c,v= .slice (some ⟨g j,0,none⟩) n c/\n<=c/\c<=9223372036854775807/\n*k<=h.length/\ ∃l,w.heap[g j]? =some (.cells l e (0,0))/\l.size=c*k
 | .clo B C h,v=>∃z p:List Value,v= .func B z.toArray p.toArray/\rd g s C z/\rd g s h p
 | .mp A,v=>∃(r:Nat)(m:Array MapEntry)(t:Nat),v= .map (some r)/\w.heap[r]? =some (.map m t)/\ ¬S r/\m.toList.map (fun e=>(e.key,e.val))=A
 | .nil,v=>v= .slice none 0 0
 | .und,v=>v=undef
 | .junk,_=>True
 | .dfr _ _,_=>True
 | .vw j o n k,v=>s.kn j/\ ∀h,s.bx j=some h-> ∃c,v= .slice (some ⟨g j,o*k,none⟩) n c/\n<=c/\c<=9223372036854775807/\(o+n)*k<=h.length
 | .vs j o n c k e,v=>s.kn j/\ ∀h,s.bx j=some h->v= .slice (some ⟨g j,o*k,none⟩) n c/\n<=c/\c<=9223372036854775807/\ ∃l,w.heap[g j]? =some (.cells l e (0,0))/\l.size=(o+c)*k
def x1(S:Nat->Prop)(g:Nat->Nat)(s:AS)(w:World):AV->Value->Prop
 | .ow j n k e,v=>TV.M S g s w (.own j n k e) v
 | .bp j o,v=>TV.M S g s w (.box j o) v
 |_,_=>True
def I0{S:Nat->Prop}{g:Nat->Nat}{s:AS}{w:World}{a:AV}{v:Value}(h:LI a=true):x1 S g s w a v:=by
 cases a with
 |ow=>cases h
 |bp=>cases h
 |val=>trivial
 |sl=>trivial
 |nl=>trivial
def nV(S:Nat->Prop)(g:Nat->Nat)(s:AS)(w:World)(j:Nat)(cs:List AV)(B:Nat):Prop:=∃(b:Array Value)(e:TypeId),w.heap[B]? =some (.cells b e (0,0))/\jO S w cs b.toList/\(cL j=false-> ∀v∈b.toList,iV v=true)/\(cX j=true-> ∀(i:Nat)(a:AV)(v:Value),cs[i]? =some a->b.toList[i]? =some v->x1 S g s w a v)/\(im j=true->e=wm/\b.size=2)
structure jP (s s':AS) (g g':Nat->Nat) (w w':World):Prop where
 kn:∀j,s.kn j->s'.kn j
 al:∀j cs',s.kn j->s'.bx j=some cs'-> ∃cs,s.bx j=some cs/\cs.length<=cs'.length/\g' j=g j/\ ∀arr e,w.heap[g j]? =some (.cells arr e (0,0))-> ∃arr',w'.heap[g j]? =some (.cells arr' e (0,0))/\arr'.size=arr.size
def CV.M.agree{g g':Nat->Nat}{s s':AS}{w w':World}{x:CV}{v:Value}(h:CV.M g s x v)(hg:jP s s' g g' w w'):CV.M g' s' x v:=by
 cases x with
 |val u=>exact h
 |box j o=>exact UD
def rd.agree{g g':Nat->Nat}{s s':AS}{w w':World}(b:jP s s' g g' w w'):∀{d:List CV}{c:List Value},rd g s d c->rd g' s' d c
 | [],[],_=>trivial
 |_::_,_::_,h=>⟨CV.M.agree h.1 b,rd.agree b h.2⟩
 | [],_::_,h=>h.elim
 |_::_,[],h=>h.elim
def TV.M.agree{S Q:Nat->Prop}{g g':Nat->Nat}{s s':AS}{w w':World}{x:TV}{v:Value}(h:TV.M S g s w x v)(t:b7 S w w')(C:∀b,b<w.heap.size->Q b->S b)(hg:jP s s' g g' w w'):TV.M Q g' s' w' x v:=by
 cases x with
 |d x=>exact DV.M.agree h t C
 |tup Z=>obtain⟨vs,e,D,hc⟩:=h;exact⟨vs,e,D,fun i x u h1 l=>(hc i x u h1 l).agree t C⟩
 |box j o=>exact UD
 |rp cs=>obtain⟨b,O,f,e,R,D,h1,l⟩:=h;exact⟨b,O,f,e,fun h=>R (C _ D h),k_ D t.size,fun i a N=>(World.cell?_of_block (t.blk _ D R)).trans (h1 i a N),fun i a N=>(l i a N).agree t C⟩
 |own j n k e=>obtain⟨hk,h⟩:=h;refine⟨hg.kn j hk,fun cs' hc=>?_⟩;obtain⟨cs,h1,l,h3,L⟩:=hg.al j cs' hk hc;obtain⟨c,y,z,A,F,q,G,H⟩:=h cs h1;obtain⟨m,I,J⟩:=L q e G;exact⟨c,by rw[y,h3],z,A,V_ F l,m,by rw[h3];exact I,J.trans H⟩
 |clo X Y cs=>obtain⟨V,vs,e,h1,l⟩:=h;exact⟨V,vs,e,h1.agree hg,l.agree hg⟩
 |mp W=>obtain⟨r,B,E,e,h1,l,h3⟩:=h;have U:r<w.heap.size:=(A_.1 h1).1;exact⟨r,B,E,e,(t.blk r U l).trans h1,fun h=>l (C r U h),h3⟩
 |nil=>exact h
 |und=>exact h
 |junk=>trivial
 |dfr=>trivial
 |vw j o n k=>obtain⟨hk,h⟩:=h;refine⟨hg.kn j hk,fun cs' hc=>?_⟩;obtain⟨cs,h1,l,h3,_⟩:=hg.al j cs' hk hc;obtain⟨c,y,z,A,F⟩:=h cs h1;exact⟨c,by rw[y,h3],z,A,V_ F l⟩
 |vs j o n c k e=>obtain⟨hk,h⟩:=h;refine⟨hg.kn j hk,fun cs' hc=>?_⟩;obtain⟨cs,h1,_,h3,L⟩:=hg.al j cs' hk hc;obtain⟨y,z,A,q,G,H⟩:=h cs h1;obtain⟨m,I,J⟩:=L q e G;exact⟨by rw[y,h3],z,A,m,by rw[h3];exact I,J.trans H⟩
def x1.agree{S c:Nat->Prop}{g g':Nat->Nat}{s s':AS}{w w':World}{x:AV}{v:Value}(h:x1 S g s w x v)(e:b7 S w w')(d:∀b,b<w.heap.size->c b->S b)(f:jP s s' g g' w w'):x1 c g' s' w' x v:=by
 cases x with
 |ow=>exact TV.M.agree (x:= .own _ _ _ _) h e d f
 |bp=>exact TV.M.agree (x:= .box _ _) h e d f
 |val=>trivial
 |sl=>trivial
 |nl=>trivial
def rd.sameB{g:Nat->Nat}{s s':AS}(c:s'.b=s.b):∀{f:List CV}{d:List Value},rd g s f d->rd g s' f d
 | [],[],_=>trivial
 | .val u::f,v::d,h=>⟨h.1,rd.sameB c h.2⟩
 | .box j o::f,v::d,h=>by
  have e:∀j,s'.bx j=s.bx j:=fun j=>by unfold AS.bx;rw[c]
  exact⟨⟨by have:=h.1.1;unfold AS.kn at *;rw[c];exact this,fun i l=>h.1.2 i (by rw[<- e];exact l)⟩,rd.sameB c h.2⟩
 | [],_::_,h=>h.elim
 |_::_,[],h=>h.elim
def TV.M.sameB{S:Nat->Prop}{g:Nat->Nat}{s s':AS}{w:World}{x:TV}{v:Value}(h:TV.M S g s w x v)(i:s'.b=s.b):TV.M S g s' w x v:=by
 have e:∀j,s'.bx j=s.bx j:=fun j=>by unfold AS.bx;rw[i]
 cases x with
 |d x=>exact h
 |tup y=>exact h
 |box j o=>exact⟨by have:=h.1;unfold AS.kn at *;rw[i];exact this,fun f l=>h.2 f (by rw[<- e];exact l)⟩
 |rp f=>exact h
 |own j n k e0=>exact⟨by have:=h.1;unfold AS.kn at *;rw[i];exact this,fun f l=>h.2 f (by rw[<- e];exact l)⟩
 |clo t u f=>obtain⟨q,vs,e,m,p⟩:=h;exact⟨q,vs,e,m.sameB i,p.sameB i⟩
 |mp r=>exact h
 |nil=>exact h
 |und=>exact h
 |junk=>trivial
 |dfr=>trivial
 |vw j o n k=>exact⟨by have:=h.1;unfold AS.kn at *;rw[i];exact this,fun f l=>h.2 f (by rw[<- e];exact l)⟩
 |vs j o n c k e0=>exact⟨by have:=h.1;unfold AS.kn at *;rw[i];exact this,fun f l=>h.2 f (by rw[<- e];exact l)⟩
def DK:Nat:=1000000000
def AP(g:Nat->Nat)(s:AS):TV->List Deferred->List Deferred->Prop
 | .dfr f e,c,b=>∃d:List Value,c=⟨.fn (.func f) #[],d.toArray⟩::b/\rd g s e d
 |_,c,b=>c=b
def zx:TV->Bool
 | .dfr _ _=>false
 |_=>true
def AP.agree{g g':Nat->Nat}{s s':AS}{w w':World}{x:TV}{ds b:List Deferred}(h:AP g s x ds b)(d:jP s s' g g' w w'):AP g' s' x ds b:=by
 cases x with
 |dfr f j=>obtain⟨i,e,c⟩:=h;exact⟨i,e,c.agree d⟩
 |_=>exact h
def AP.sameB{g:Nat->Nat}{s s':AS}{x:TV}{ds c:List Deferred}(h:AP g s x ds c)(i:s'.b=s.b):AP g s' x ds c:=by
 cases x with
 |dfr f l=>obtain⟨j,e,d⟩:=h;exact⟨j,e,d.sameB i⟩
 |_=>exact h
def AP.no{g:Nat->Nat}{s:AS}{x:TV}{ds b:List Deferred}(c:zx x=true):AP g s x ds b↔ds=b:=by
 cases x with
 |dfr f d=>cases c
 |_=>exact Iff.rfl
def xO(a:Act)(d:Option Nat)(v:Value):(a.put d v).defers=a.defers:=by cases d<;>rfl
def rK{t:List (Nat × TV)}{b b':List (Nat × Option (List AV))}{d k n:Nat}{x:TV}(c:d<n)(e:n<=k):(AS.mk ((d,x)::t) b).tv k=(AS.mk t b').tv k:=by simp only[AS.tv,az x t (show d≠k by omega)]
structure MG (n:Nat) (S0:Nat->Prop) (w0:fw) (g:Nat->Nat) (s:AS) (a:Act) (w:World):Prop where
 tm:∀k,TV.M (Own S0 g s) g s w (s.tv k) (a.tmps.getD k undef)
 bm:∀j cs,s.bx j=some cs->(w0.heap.size<=g j∨w0.x (g j))/\nV (Own S0 g s) g s w j cs (g j)
 inj:∀i j ci cj,s.bx i=some ci->s.bx j=some cj->g i=g j->i=j
 grow:cu w0.x w0.w w
 df:AP g s (s.tv DK) a.defers w0.d
 sz:a.tmps.size=n
 cl:∀b,S0 b->b<w0.heap.size/\ ¬w0.x b/\ ∀off v,w0.w.cell? ⟨b,off,none⟩=some v->iV v=true
 tg:L9 w0
 gl:∀k cs,ak GT k=some cs->TV.M (Own S0 g s) g s w (.rp cs) (.pointer (some ⟨k,0,none⟩))
 gp:∀j q cs,iO j=true->w0.p j=some q->s.bx j=some cs->g j=q
 nk:n<=DK
def M(n:Nat)(S0:Nat->Prop)(w0:fw)(s:AS)(a:Act)(w:World):Prop:=∃g,MG n S0 w0 g s a w
def j6(s:AS):Prop:=∀j b,s.bx j=some b->cL j=false
def xF(x:Nat):List Nat->Bool
 | []=>false
 |y::r=>match Nat.beq y x with
  |true=>true
  |false=>xF x r
def kv{x:Nat}:∀{l:List Nat},xF x l=true↔x∈l
 | []=>by simp[xF]
 |y::r=>by
  simp only[xF,f_];cases h:Nat.beq y x
  ·have:y≠x:=fun e=>by subst e;simp at h
   simp only[kv (l:=r)];constructor
   ·exact .inr
   ·rintro(e|e)
    ·exact absurd e.symm this
    ·exact e
  ·have:=Nat.eq_of_beq_eq_true h;simp[this]
def P9:Option (List AV)->Bool
 |some _=>true
 |none=>false
def dV:List Nat->List (Nat × Option (List AV))->Bool
 |_,[]=>true
 |b,(j,o)::r=>(xF j b || !(P9 o) || !(cL j)) && dV (j::b) r
def lz:∀{c:List Nat}{b:List (Nat × Option (List AV))},dV c b=true-> ∀j d,j ∉ c->ak b j=some (some d)->cL j=false
 |_,[],_,j,d,_,h=>by cases h
 |c,(i,o)::r,h,j,d,m,f=>by
  simp only[dV,B_]at h;by_cases e:i=j
  ·subst e;rw[ap]at f;cases f;have l:=h.1;have p:xF i c=false:=by
    cases hq:xF i c
    ·rfl
    ·exact absurd (kv.1 hq) m
   rw[p]at l;simpa[P9]using l
  ·rw[az _ _ e]at f;exact lz h.2 j d (by simp[m];exact fun h=>e h.symm) f
def lC{s:AS}(h:dV [] s.b=true):j6 s:=by
 intro j e c;unfold AS.bx at c;split at c
 ·rename_i x d;cases c;exact lz h j _ S_ d
 ·cases c
def nV.lt{S:Nat->Prop}{g:Nat->Nat}{s:AS}{w:World}{j:Nat}{cs:List AV}{B:Nat}(h:nV S g s w j cs B):B<w.heap.size:=by obtain⟨b,e,h,_⟩:=h;exact(A_.1 h).1
def nV.agree{S d:Nat->Prop}{g g':Nat->Nat}{s s':AS}{w w':World}{j:Nat}{cs:List AV}{B:Nat}(h:nV S g s w j cs B)(u:w'.heap[B]? =w.heap[B]?)(l:b7 S w w')(f:∀b,b<w.heap.size->d b->S b)(y:jP s s' g g' w w'):nV d g' s' w' j cs B:=by obtain⟨c,e,m,p,q,r,t⟩:=h;exact⟨c,e,u.trans m,p.agree l f,q,fun z i a v x A=>(r z i a v x A).agree l f y,t⟩
section
variable {n:Nat}{S0:Nat->Prop}{w0:fw}{g:Nat->Nat}{s:AS}{a:Act}{w w':World}
def jP.same(m:Below w.heap.size w w'){s':AS}(i:s'.b=s.b):jP s s' g g w w':=by
 have l:∀j,s'.bx j=s.bx j:=fun j=>by unfold AS.bx;rw[i]
 refine⟨fun j p=>by unfold AS.kn at *;rw[i];exact p,fun j d _ f=>?_⟩;rw[l]at f;exact⟨d,f,l_ _,rfl,fun c e h=>⟨c,(m.block _ (A_.1 h).1).trans h,rfl⟩⟩
def MG.put(h:MG n S0 w0 g s a w){d:Nat}(c:d<n){x:TV}{v:Value}(hb:Below w.heap.size w w')(f:TV.M (Own S0 g s) g s w' x v):MG n S0 w0 g { s with t:=(d,x)::s.t } (a.put (some d) v) w':=by
 have e:Own S0 g { s with t:=(d,x)::s.t }=Own S0 g s:=rfl;refine⟨fun k=>?_,fun j cs hj=>?_,h.inj,h.grow.step hb,by rw[xO,rK (b':=s.b) c h.nk];exact h.df.sameB rfl,by simpa[Act.put]using h.sz,h.cl,h.tg,fun k cs hk=>(h.gl k cs hk).agree (.of_below hb) (fun _ _ h=>h) (jP.same hb rfl),h.gp,h.nk⟩
 ·by_cases hk:d=k
  ·subst hk;have h1:(AS.mk ((d,x)::s.t) s.b).tv d=x:=by simp[AS.tv,ap]
   rw[h1];have h2:(a.put (some d) v).tmps.getD d undef=v:=by simp[Act.put,h.sz,c]
   rw[h2];exact f.sameB rfl
  ·have h1:(AS.mk ((d,x)::s.t) s.b).tv k=s.tv k:=by simp[AS.tv,az _ _ hk]
   rw[h1];have h2:(a.put (some d) v).tmps.getD k undef=a.tmps.getD k undef:=by simp[Act.put,Array.getElem?_setIfInBounds_ne hk]
   rw[h2];exact(h.tm k).agree (.of_below hb) (fun _ _ h=>h) (jP.same hb rfl)
 ·exact UJ
def MG.grow'(h:MG n S0 w0 g s a w)(hb:Below w.heap.size w w'):MG n S0 w0 g s a w':=by refine⟨fun k=>(h.tm k).agree (.of_below hb) (fun _ _ h=>h) (jP.same hb rfl),fun j cs hj=>?_,h.inj,h.grow.step hb,h.df,h.sz,h.cl,h.tg,fun k cs hk=>(h.gl k cs hk).agree (.of_below hb) (fun _ _ h=>h) (jP.same hb rfl),h.gp,h.nk⟩;exact UJ
def MG.clean(h:MG n S0 w0 g s a w)(i:j6 s):∀b,Own S0 g s b->b<w.heap.size/\ ∀c v,w.cell? ⟨b,c,none⟩=some v->iV v=true:=by
 rintro b (u| ⟨j,l,p,rfl⟩)
 ·obtain⟨f,x,r⟩:=h.cl b u;exact⟨k_ f h.grow.size,fun c v d=>r c v (by rw[show w.cell? ⟨b,c,none⟩=w0.w.cell? ⟨b,c,none⟩ from World.cell?_of_block (h.grow.block b f x)]at d;exact d)⟩
 ·obtain⟨_,m⟩:=h.bm j l p;refine⟨m.lt,fun c v d=>?_⟩;obtain⟨q,e,f,_,t,_⟩:=m;simp only[World.cell?,f]at d;simp only[Option.isSome_none,Bool.false_eq_true,if_false]at d;exact t (i j l p) v (Array.mem_toList_iff.2 (Array.mem_of_getElem? d))
def MG.own_lt(h:MG n S0 w0 g s a w){b:Nat}(c:Own S0 g s b):b<w.heap.size:=by
 rcases c with c| ⟨j,d,e,rfl⟩
 ·exact k_ (h.cl b c).1 h.grow.size
 ·exact(h.bm j d e).2.lt
def MG.alloc(h:MG n S0 w0 g s a w){d:Nat}(G:d<n){j:Nat}(L:ak s.b j=none)(D:iO j=false){cs:List AV}{arr:Array Value}{e:TypeId}(J:jO (Own S0 g s) w cs arr.toList)(Q:cL j=false-> ∀v∈arr.toList,iV v=true)(N:∀a∈cs,LI a=true)(E:im j=true->e=wm/\arr.size=2){x:TV}{v:Value}(R:∀(m:Nat->Nat)(s':AS),m j=w.heap.size->s'.bx j=some cs->TV.M (Own S0 m s') m s' (w.alloc (.cells arr e)) x v):
 MG n S0 w0 (fun i=>if i=j then w.heap.size else g i) { t:=(d,x)::s.t,b:=(j,some cs)::s.b } (a.put (some d) v) (w.alloc (.cells arr e)):=by
 have z:Below w.heap.size w (w.alloc (.cells arr e)):=(Below.refl _ _).alloc (l_ _) _;generalize l:(AS.mk ((d,x)::s.t) ((j,some cs)::s.b))=s';generalize B:(fun i=>if i=j then w.heap.size else g i)=m;have A:m j=w.heap.size:=by rw[<- B];simp
 have I:∀i,s.kn i->i≠j:=fun i hi e=>by obtain⟨y,H⟩:=hi;rw[e,L]at H;cases H
 have u:∀i,i≠j->m i=g i:=fun i hi=>by rw[<- B];simp[hi]
 have F:s'.bx j=some cs:=by rw[<- l];exact AS.bx_same _ _ _ _
 have r:∀i,i≠j->s'.bx i=s.bx i:=fun i hi=>by rw[<- l];exact AS.bx_ne _ s.t _ _ hi
 have C:∀b,b<w.heap.size->Own S0 m s' b->Own S0 g s b:=by
  rintro b O (h0| ⟨i,ci,hi,e⟩)
  ·exact .inl h0
  ·by_cases c:i=j
   ·subst c;rw[A]at e;omega
   ·rw[u i c]at e;exact .inr ⟨i,ci,by rw[<- r i c];exact hi,e⟩
 have p:jP s s' g m w (w.alloc (.cells arr e)):=by refine⟨fun i hi=>by rw[<- l];exact AS.kn_cons (t:=s.t) _ hi,fun i cs' hi hc'=>?_⟩;rw[r i (I i hi)]at hc';exact⟨cs',hc',l_ _,u i (I i hi),fun arr' e' he=>⟨arr',(z.block _ (A_.1 he).1).trans he,rfl⟩⟩
 refine⟨fun k=>?_,fun i ci hi=>?_,fun i k ci ck hi hk e=>?_,h.grow.step z,by rw[xO,<- l,rK (b':=s.b) G h.nk,l];exact h.df.agree p,by simpa[Act.put]using h.sz,h.cl,h.tg,fun k cs hk=>(h.gl k cs hk).agree (.of_below z) C p,fun i q ci h1 h2 hi=>by
  have c:i≠j:=fun e=>by subst e;rw[D]at h1;cases h1
  rw[u i c];exact h.gp i q ci h1 h2 (by rw[<- r i c];exact hi),h.nk⟩
 ·by_cases hk:d=k
  ·subst hk;have h1:s'.tv d=x:=by rw[<- l];simp[AS.tv,ap]
   rw[h1];have h2:(a.put (some d) v).tmps.getD d undef=v:=by simp[Act.put,h.sz,G]
   rw[h2];exact R m s' A F
  ·have h1:s'.tv k=s.tv k:=by rw[<- l];simp[AS.tv,az _ _ hk]
   rw[h1];have h2:(a.put (some d) v).tmps.getD k undef=a.tmps.getD k undef:=by simp[Act.put,Array.getElem?_setIfInBounds_ne hk]
   rw[h2];exact(h.tm k).agree (.of_below z) C p
 ·by_cases c:i=j
  ·subst c;rw[F]at hi;cases hi;rw[A];refine⟨.inl h.grow.size,arr,e,?_,J.agree (.of_below z) C,Q,fun _ i a v ha _=>I0 (N a (M_ ha)),E⟩;show(w.heap.push _)[w.heap.size]? =_;simp
  ·rw[r i c]at hi;rw[u i c];obtain⟨h1,h2⟩:=h.bm i ci hi;exact⟨h1,h2.agree (z.block _ h2.lt) (.of_below z) C p⟩
 ·by_cases c:i=j
  ·by_cases f:k=j
   ·rw[c,f]
   ·rw[c,A,u k f]at e;rw[r k f]at hk;have:=(h.bm k ck hk).2.lt;omega
  ·rw[u i c]at e;rw[r i c]at hi;by_cases f:k=j
   ·rw[f,A]at e;have:=(h.bm i ci hi).2.lt;omega
   ·rw[u k f]at e;rw[r k f]at hk;exact h.inj i k ci ck hi hk e
def MG.store(h:MG n S0 w0 g s a w){j:Nat}{cs cs':List AV}(u:s.bx j=some cs){r arr:Array Value}{e:TypeId}(hsz:w'.heap.size=w.heap.size)(U:w'.os=w.os/\w'.tape=w.tape/\w'.output=w.output)(z:w.heap[g j]? =some (.cells r e (0,0)))(O:w'.heap[g j]? =some (.cells arr e (0,0)))(C:arr.size=r.size)(f:∀b,b≠g j->w'.heap[b]? =w.heap[b]?)(S:cs.length<=cs'.length)(hc:jO (Own S0 g s) w cs' arr.toList)(hw:cL j=false-> ∀v∈arr.toList,iV v=true)(hl:cX j=true-> ∀(i:Nat)(a:AV)(v:Value),cs'[i]? =some a->arr.toList[i]? =some v->x1 (Own S0 g s) g s w a v):
 MG n S0 w0 g { s with b:=(j,some cs')::s.b } a w':=by
 have I:Own S0 g s (g j):= .inr ⟨j,cs,u,rfl⟩;have E:b7 (Own S0 g s) w w':=⟨by omega,fun b _ hn=>f b (fun e=>hn (by rw[e];exact I))⟩;generalize p:(AS.mk s.t ((j,some cs')::s.b))=s';have W:s'.bx j=some cs':=by rw[<- p];exact AS.bx_same _ _ _ _
 have D:∀i,i≠j->s'.bx i=s.bx i:=fun i hi=>by rw[<- p];exact AS.bx_ne _ s.t _ _ hi
 have st:∀k,s'.tv k=s.tv k:=fun k=>by rw[<- p];rfl
 have F:∀b,b<w.heap.size->Own S0 g s' b->Own S0 g s b:=by
  rintro b ad (h0| ⟨i,ci,hi,e⟩)
  ·exact .inl h0
  ·by_cases d:i=j
   ·subst d;rw[<- e];exact I
   ·exact .inr ⟨i,ci,by rw[<- D i d];exact hi,e⟩
 have m:jP s s' g g w w':=by
  refine⟨fun i hi=>by rw[<- p];exact AS.kn_cons (t:=s.t) _ hi,fun i ci hi hc'=>?_⟩;by_cases d:i=j
  ·subst d;rw[W]at hc';cases hc';exact⟨cs,u,S,rfl,fun L N l=>by rw[z]at l;cases l;exact⟨arr,O,C⟩⟩
  ·rw[D i d]at hc';exact⟨ci,hc',l_ _,rfl,fun L N l=>⟨L,(f _ (fun e=>d (h.inj i j ci cs hc' u e))).trans l,rfl⟩⟩
 obtain⟨G,Q⟩:=h.bm j cs u;refine⟨fun k=>by rw[st];exact(h.tm k).agree E F m,fun i ci hi=>?_,fun i k ci ck hi x e=>?_,?_,by rw[st];exact h.df.agree m,h.sz,h.cl,h.tg,fun k cs x=>(h.gl k cs x).agree E F m,fun i q ci l J hi=>by
  by_cases d:i=j
  ·subst d;exact h.gp i q cs l J u
  ·exact h.gp i q ci l J (by rw[<- D i d];exact hi),h.nk⟩
 ·by_cases d:i=j
  ·subst d;rw[W]at hi;cases hi;obtain⟨V,N,Y,_,_,_,Z⟩:=Q;rw[z]at Y;cases Y;exact⟨G,arr,e,O,hc.agree E F,hw,fun R i a v ha hv=>(hl R i a v ha hv).agree E F m,fun X=>⟨(Z X).1,C.trans (Z X).2⟩⟩
  ·rw[D i d]at hi;obtain⟨l,J⟩:=h.bm i ci hi;exact⟨l,J.agree (f _ (fun e=>d (h.inj i j ci cs hi u e))) E F m⟩
 ·have A:∃c,s.bx i=some c:=by
   by_cases d:i=j
   ·exact⟨cs,by rw[d];exact u⟩
   ·exact⟨ci,by rw[<- D i d];exact hi⟩
  have B:∃c,s.bx k=some c:=by
   by_cases H:k=j
   ·exact⟨cs,by rw[H];exact u⟩
   ·exact⟨ck,by rw[<- D k H];exact x⟩
  obtain⟨c1,A⟩:=A;obtain⟨c2,B⟩:=B;exact h.inj i k c1 c2 A B e
 ·refine h.grow.go (y:=fun b=>b=g j) ⟨U.1,U.2.1,U.2.2,by omega,fun k _ x=>f k x,fun k _ x L N f1 l=>?_⟩ (fun b hb=>by subst hb;exact G);have x:k=g j:=by assumption
  subst x;rw[z]at l;cases l;exact⟨arr,_,O,C⟩
def MG.kill(h:MG n S0 w0 g s a w)(j:Nat):MG n S0 w0 g { s with b:=(j,none)::s.b } a w:=by
 generalize c:(AS.mk s.t ((j,none)::s.b))=s';have p:s'.bx j=none:=by rw[<- c];exact AS.bx_dead _ _ _
 have d:∀i cs,s'.bx i=some cs->s.bx i=some cs:=fun i cs hi=>by
  by_cases f:i=j
  ·rw[f,p]at hi;cases hi
  ·rw[<- c,AS.bx_ne _ s.t _ _ f]at hi;exact hi
 have m:∀k,s'.tv k=s.tv k:=fun k=>by rw[<- c];rfl
 have l:∀b,b<w.heap.size->Own S0 g s' b->Own S0 g s b:=by
  rintro b _ (h0| ⟨i,ci,hi,e⟩)
  ·exact .inl h0
  ·exact .inr ⟨i,ci,d i ci hi,e⟩
 refine⟨fun k=>by rw[m];exact(h.tm k).agree (b7.refl _ _) l ⟨fun i hi=>by rw[<- c];exact AS.kn_cons (t:=s.t) _ hi,fun i ci _ hc=>⟨ci,d i ci hc,l_ _,rfl,fun a1 e1 h1=>⟨a1,h1,rfl⟩⟩⟩,fun i ci hi=>?_,fun i k ci ck hi hk e=>h.inj i k ci ck (d i ci hi) (d k ck hk) e,h.grow,by rw[m];exact h.df.agree (w:=w) (w':=w) ⟨fun i hi=>by rw[<- c];exact AS.kn_cons (t:=s.t) _ hi,fun i ci _ hc=>⟨ci,d i ci hc,l_ _,rfl,fun a1 e1 h1=>⟨a1,h1,rfl⟩⟩⟩,h.sz,h.cl,h.tg,fun k cs hk=>(h.gl k cs hk).agree (b7.refl _ _) l ⟨fun i hi=>by rw[<- c];exact AS.kn_cons (t:=s.t) _ hi,fun i ci _ hc=>⟨ci,d i ci hc,l_ _,rfl,fun a1 e1 h1=>⟨a1,h1,rfl⟩⟩⟩,fun i q ci h1 h2 hi=>h.gp i q ci h1 h2 (d i ci hi),h.nk⟩;obtain⟨h1,h2⟩:=h.bm i ci (d i ci hi);exact⟨h1,h2.agree rfl (b7.refl _ _) l ⟨fun i hi=>by rw[<- c];exact AS.kn_cons (t:=s.t) _ hi,fun i ci _ hc=>⟨ci,d i ci hc,l_ _,rfl,fun a1 e1 h1=>⟨a1,h1,rfl⟩⟩⟩⟩
def jl:Option Nat->List (Nat × Option (List AV))->List (Nat × Option (List AV))
 |some j,b=>(j,none)::b
 |none,b=>b
def MG.append(h:MG n S0 w0 g s a w){d:Nat}(hd:d<n){j':Nat}(ao:ak s.b j'=none)(a4:iO j'=false)(ad:cX j'=false){dead:Option Nat}{B:Nat}{cs:List AV}{arr:Array Value}{e m k c:Nat}(p:∀j,dead=some j-> ∃E,s.bx j=some E)(hsz:w.heap.size<=w'.heap.size)(ho:w'.os=w.os/\w'.tape=w.tape/\w'.output=w.output)(D:∀b,b<w.heap.size->(∀j,dead=some j->b≠g j)->w'.heap[b]? =w.heap[b]?)(ag:∀j,dead=some j-> ∀U e1,w.heap[g j]? =some (.cells U e1 (0,0))-> ∃a2,w'.heap[g j]? =some (.cells a2 e1 (0,0))/\a2.size=U.size)(hB:w'.heap[B]? =some (.cells arr e (0,0)))(a5:cL j'=false-> ∀v∈arr.toList,iV v=true)(z:(∃j,dead=some j/\B=g j)∨w.heap.size<=B)(J:jO (Own S0 g s) w cs arr.toList)(N:m<=c)(W:c<=9223372036854775807)(h3:m*k<=cs.length)(h4:arr.size=c*k):
 MG n S0 w0 (fun i=>if i=j' then B else g i) { t:=(d, .own j' m k e)::s.t,b:=(j',some cs)::jl dead s.b } (a.put (some d) (.slice (some ⟨B,0,none⟩) m c)) w':=by
 have hA:b7 (Own S0 g s) w w':=⟨hsz,fun b hb hn=>D b hb (fun j x e=>by obtain⟨E,u⟩:=p j x;exact hn (.inr ⟨j,E,u,e.symm⟩))⟩;generalize X:jl dead s.b=bb;generalize C:(AS.mk ((d,TV.own j' m k e)::s.t) ((j',some cs)::bb))=s';generalize Y:(fun i=>if i=j' then B else g i)=g';have S:g' j'=B:=by rw[<- Y];simp
 have kj:∀i,s.kn i->i≠j':=fun i r e=>by obtain⟨y,hy⟩:=r;rw[e,ao]at hy;cases hy
 have R:∀i,i≠j'->g' i=g i:=fun i r=>by rw[<- Y];simp[r]
 have bj:s'.bx j'=some cs:=by rw[<- C];exact AS.bx_same _ _ _ _
 have O:∀i l,i≠j'->s'.bx i=some l->s.bx i=some l/\dead≠some i:=by
  intro i l r J;rw[<- C,AS.bx_ne _ s.t _ _ r,<- X]at J;cases dead with
  |none=>exact⟨J,by simp⟩
  |some j=>
   simp only[jl]at J;by_cases e:i=j
   ·subst e;rw[AS.bx_dead]at J;cases J
   ·rw[AS.bx_ne _ s.t _ _ e]at J;exact⟨J,by simpa using fun h=>e h.symm⟩
 have hS:∀b,b<w.heap.size->Own S0 g' s' b->Own S0 g s b:=by
  rintro b a9 (h0| ⟨i,l,r,e⟩)
  ·exact .inl h0
  ·by_cases f:i=j'
   ·subst f;rw[S]at e;rcases z with⟨j,x,G⟩|z
    ·obtain⟨E,u⟩:=p j x;exact .inr ⟨j,E,u,by rw[<- G,e]⟩
    ·omega
   ·rw[R i f]at e;exact .inr ⟨i,l,(O i l f r).1,e⟩
 have Q:∀i l,s.bx i=some l->dead≠some i-> ∀j,dead=some j->g i≠g j:=fun i l r a0 j x e=>by obtain⟨E,u⟩:=p j x;have:=h.inj i j l E r u e;exact a0 (by rw[x,this])
 have L:jP s s' g g' w w':=by
  refine⟨fun i r=>?_,fun i l r al=>?_⟩
  ·rw[<- C,<- X];cases dead with
   |none=>exact AS.kn_cons (t:=s.t) _ r
   |some j=>exact AS.kn_cons (t:=s.t) _ (AS.kn_cons (t:=s.t) _ r)
  ·obtain⟨F,I⟩:=O i l (kj i r) al;exact⟨l,F,l_ _,R i (kj i r),fun U e1 hh=>⟨U,(D _ (A_.1 hh).1 (Q i l F I)).trans hh,rfl⟩⟩
 refine⟨fun q=>?_,fun i l r=>?_,fun i q l cq r hq e=>?_,?_,by rw[xO,<- C,rK (b':=s.b) hd h.nk,C];exact h.df.agree L,by simpa[Act.put]using h.sz,h.cl,h.tg,fun k cs Z=>(h.gl k cs Z).agree hA hS L,fun i q l N W r=>by
  have f:i≠j':=fun e=>by subst e;rw[a4]at N;cases N
  rw[R i f];exact h.gp i q l N W (O i l f r).1,h.nk⟩
 ·by_cases Z:d=q
  ·subst Z;have F:s'.tv d= .own j' m k e:=by rw[<- C];simp[AS.tv,ap]
   rw[F];have I:(a.put (some d) (.slice (some ⟨B,0,none⟩) m c)).tmps.getD d undef= .slice (some ⟨B,0,none⟩) m c:=by simp[Act.put,h.sz,hd]
   rw[I];exact⟨AS.kn_of bj,fun cs' hcs'=>by rw[bj]at hcs';cases hcs';exact⟨c,by rw[S],N,W,h3,arr,by rw[S];exact hB,h4⟩⟩
  ·have F:s'.tv q=s.tv q:=by rw[<- C];simp[AS.tv,az _ _ Z]
   rw[F];have I:(a.put (some d) (.slice (some ⟨B,0,none⟩) m c)).tmps.getD q undef=a.tmps.getD q undef:=by simp[Act.put,Array.getElem?_setIfInBounds_ne Z]
   rw[I];exact(h.tm q).agree hA hS L
 ·by_cases f:i=j'
  ·subst f;rw[bj]at r;cases r;rw[S];refine⟨?_,arr,e,hB,J.agree hA hS,a5,fun hl=>absurd hl (by rw[ad];decide),fun ht=>absurd (oC ht) (by rw[ad];decide)⟩;rcases z with⟨j,x,G⟩|z
   ·obtain⟨E,u⟩:=p j x;rw[G];exact(h.bm j E u).1
   ·exact .inl (V_ h.grow.size z)
  ·obtain⟨F,I⟩:=O i l f r;rw[R i f];obtain⟨h7,h8⟩:=h.bm i l F;exact⟨h7,h8.agree (D _ h8.lt (Q i l F I)) hA hS L⟩
 ·have H:∀i l,i≠j'->s'.bx i=some l->g i≠B:=by
   intro i l f r e;obtain⟨F,I⟩:=O i l f r;rcases z with⟨j,x,G⟩|z
   ·exact Q i l F I j x (by rw[e,G])
   ·have:=(h.bm i l F).2.lt;omega
  by_cases f:i=j'
  ·by_cases A:q=j'
   ·rw[f,A]
   ·rw[f,S,R q A]at e;exact absurd e.symm (H q cq A hq)
  ·rw[R i f]at e;by_cases A:q=j'
   ·rw[A,S]at e;exact absurd e (H i l f r)
   ·rw[R q A]at e;exact h.inj i q l cq (O i l f r).1 (O q cq A hq).1 e
 ·refine h.grow.go (y:=fun b=>∃j,dead=some j/\b=g j) ⟨ho.1,ho.2.1,ho.2.2,hsz,fun b hb hn=>D b hb (fun j x e=>hn ⟨j,x,e⟩),fun b hb⟨j,x,e0⟩U e1 f1 N=>?_⟩ (fun b⟨j,x,e0⟩=>?_)
  ·obtain⟨E,u⟩:=p j x;obtain⟨_,a3,e3,h3,_⟩:=h.bm j E u;rw[e0]at N;have V:=N;rw[h3]at V;cases V;obtain⟨a2,W,h4⟩:=ag j x _ _ h3;exact⟨a2,_,by rw[e0];exact W,h4⟩
  ·obtain⟨E,u⟩:=p j x;rw[e0];exact(h.bm j E u).1
def x1.sameB{S:Nat->Prop}{g:Nat->Nat}{s s':AS}{w:World}{x:AV}{v:Value}(h:x1 S g s w x v)(c:s'.b=s.b):x1 S g s' w x v:=by
 cases x with
 |ow=>exact TV.M.sameB (S:=S) (w:=w) (x:= .own _ _ _ _) h c
 |bp=>exact TV.M.sameB (S:=S) (w:=w) (x:= .box _ _) h c
 |val=>trivial
 |sl=>trivial
 |nl=>trivial
def nV.sameB{S:Nat->Prop}{g:Nat->Nat}{s s':AS}{w:World}{j:Nat}{cs:List AV}{B:Nat}(h:nV S g s w j cs B)(r:s'.b=s.b):nV S g s' w j cs B:=by obtain⟨c,e,d,f,l,m,p⟩:=h;exact⟨c,e,d,f,l,fun t i a v q u=>(m t i a v q u).sameB r,p⟩
def MG.frz(h:MG n S0 w0 g s a w){j m k e:Nat}{cs:List AV}{v:Value}(G:TV.M (Own S0 g s) g s w (.own j m k e) v)(r:s.bx j=some cs):AV.M (Own S0 g ⟨s.t,(j,none)::s.b⟩) w (.sl m cs) v:=by
 generalize p:(AS.mk s.t ((j,none)::s.b))=s1 at *;obtain⟨c,B,C,D,J,A,L,N⟩:=G.2 cs r;have H:¬Own S0 g s1 (g j):=by
  rintro(h0| ⟨i,u,d,e⟩)
  ·have q:=h.cl _ h0;rcases(h.bm j cs r).1 with y|y
   ·exact absurd q.1 (Nat.not_lt.2 y)
   ·exact q.2.1 y
  ·by_cases f:i=j
   ·subst f;rw[<- p,AS.bx_dead]at d;cases d
   ·rw[<- p,AS.bx_ne _ s.t _ _ f]at d;exact f (h.inj i j u cs d r e)
 rw[B];obtain⟨_,l,I,E,q,_⟩:=h.bm j cs r;have F:∀b,b<w.heap.size->Own S0 g s1 b->Own S0 g s b:=by
  rintro b _ (h0| ⟨i,u,d,e⟩)
  ·exact .inl h0
  ·by_cases f:i=j
   ·subst f;rw[<- p,AS.bx_dead]at d;cases d
   ·rw[<- p,AS.bx_ne _ s.t _ _ f]at d;exact .inr ⟨i,u,d,e⟩
 have z:=q.1;simp only[Array.length_toList]at z;refine AV.M.sl (fun i=>l.getD i undef) C D H (h.bm j cs r).2.lt (fun i x d=>?_) (fun i x d=>?_)
 ·have:i<l.size:=k_ (G_.1 d).1 z;rw[J_];simp[World.cell?,E,this]
 ·have:i<l.size:=k_ (G_.1 d).1 z;exact(q.2 i x _ d (by simp[this])).agree (b7.refl _ _) F
def MG.freeze(h:MG n S0 w0 g s a w){q j m k e:Nat}{cs:List AV}(B:s.tv q= .own j m k e)(D:s.bx j=some cs):MG n S0 w0 g { t:=(q, .d (.leaf (.sl m cs)))::s.t,b:=(j,none)::s.b } a w:=by
 have c:=h.kill j;have A:=h.tm q;rw[B]at A;have E:=h.frz A D;generalize f:(AS.mk s.t ((j,none)::s.b))=s1 at *;have p:(AS.mk ((q, .d (.leaf (.sl m cs)))::s.t) ((j,none)::s.b)).b=s1.b:=by rw[<- f]
 have z:Own S0 g (AS.mk ((q, .d (.leaf (.sl m cs)))::s.t) ((j,none)::s.b))=Own S0 g s1:=by rw[<- f];rfl
 refine⟨fun i=>?_,fun i y u=>?_,c.inj |> fun l=>by rw[<- f]at l;exact l,h.grow,?_,h.sz,h.cl,h.tg,c.gl |> fun l=>by rw[<- f]at l;exact l,c.gp |> fun l=>by rw[<- f]at l;exact l,h.nk⟩
 ·rw[z];by_cases u:q=i
  ·subst u;have:(AS.mk ((q, .d (.leaf (.sl m cs)))::s.t) ((j,none)::s.b)).tv q= .d (.leaf (.sl m cs)):=by simp[AS.tv,ap]
   rw[this];exact E
  ·have:(AS.mk ((q, .d (.leaf (.sl m cs)))::s.t) ((j,none)::s.b)).tv i=s1.tv i:=by rw[<- f];simp[AS.tv,az _ _ u]
   rw[this];exact(c.tm i).sameB p
 ·rw[z];have x:s1.bx i=some y:=by rw[<- f];exact u
  obtain⟨C,r⟩:=c.bm i y x;exact⟨C,r.sameB p⟩
 ·by_cases v:q=DK
  ·have h0:(AS.mk ((q, .d (.leaf (.sl m cs)))::s.t) ((j,none)::s.b)).tv DK= .d (.leaf (.sl m cs)):=by rw[<- v];simp[AS.tv,ap]
   rw[h0];have r:=h.df;rw[<- v,B]at r;exact r
  ·have h0:(AS.mk ((q, .d (.leaf (.sl m cs)))::s.t) ((j,none)::s.b)).tv DK=s1.tv DK:=by rw[<- f];simp[AS.tv,az _ _ v]
   rw[h0];exact c.df.sameB p
def MG.recell(h:MG n S0 w0 g s a w){i off:Nat}{j:List AV}{b:AV}(u:s.bx i=some j)(r:∀(d:Array Value)(e:TypeId),w.heap[g i]? =some (.cells d e (0,0))-> ∀v,off<j.length->d.toList[off]? =some v->AV.M (Own S0 g s) w b v/\(cX i=true->x1 (Own S0 g s) g s w b v)):
 MG n S0 w0 g ⟨s.t,(i,some (j.set off b))::s.b⟩ a w:=by
 obtain⟨_,d,e0,m,p,z,A,_⟩:=h.bm i j u;refine h.store u (w':=w) (cs':=j.set off b) rfl ⟨rfl,rfl,rfl⟩ m m rfl (fun _ _=>rfl) S_ ⟨by simpa using p.1,fun q x v c l=>?_⟩ z (fun y q x v c l=>?_)
 ·rw[List.getElem?_set]at c;split at c
  ·rename_i f;subst f;split at c
   ·cases c;exact(r d e0 m v (by assumption) l).1
   ·cases c
  ·exact p.2 q x v c l
 ·rw[List.getElem?_set]at c;split at c
  ·rename_i f;subst f;split at c
   ·cases c;exact(r d e0 m v (by assumption) l).2 y
   ·cases c
  ·exact A y q x v c l
def MG.freezeC(h:MG n S0 w0 g s a w){i off j m k e:Nat}{d cs:List AV}(l:cX i=true)(q:s.bx i=some d)(z:d[off]? =some (.ow j m k e))(y:s.bx j=some cs)(f:i≠j):MG n S0 w0 g { s with b:=(i,some (d.set off (.sl m cs)))::(j,none)::s.b } a w:=by have c:=h.kill j;obtain⟨_,r,e0,u,A,B,x,_⟩:=h.bm i d q;refine c.recell (by rw[AS.bx_ne _ s.t _ _ f];exact q) fun arr' e1 k1 v hlt hv=>?_;rw[u]at k1;injection k1 with k1;injection k1 with k1 p;subst k1 p;exact⟨h.frz (x l off _ v z hv) y,fun _=>trivial⟩
end
structure Ty where
 agg:Bool
 size:Nat
 bytes:Nat
 zero:List AV
 flds:List (Nat × Nat × Bool)
 elem:Option (Nat × Nat)
 isBool:Bool
 isStr:Bool
 ik:Option IntKind
def AZ:Value->Option AV
 | .bool b=>some (.val (.bool b))
 | .int k n=>some (.val (.int k n))
 | .string s=>some (.val (.string s))
 | .slice none 0 0=>some (.sl 0 [])
 |_=>none
def kP:TypeDesc->Bool
 | .struct _| .array _ _=>true
 |_=>false
def Gz(P:Program)(f:Field):Option (Nat × Nat × Bool):=
 match P.info? f.type,P.underlying f.type with
 |some i,some u=>match i.size with
  |0=>none
  |k+1=>some (f.offset,k+1,kP u)
 |_,_=>none
def ja{α β:Type}(f:α->Option β):List α->Option (List β)
 | []=>some []
 |x::b=>match f x,ja f b with
  |some y,some c=>some (y::c)
  |_,_=>none
def CU(P:Program):TypeDesc->Option (Nat × Nat)
 | .slice b=>match P.info? b with
  |some c=>some (b,c.size)
  |none=>none
 |_=>none
def LK(P:Program)(t:TypeId):Option Ty:=
 match P.info? t,P.underlying t with
 |some i,some u=>
  match i.zero with
  |some z=>match ja AZ z.cells.toList with
   |some b=>match Nat.beq b.length i.size with
    |false=>none
    |true=>
     match(match u with| .struct d=>ja (Gz P) d.toList|_=>some [])with
     |some c=>some ⟨kP u,i.size,i.bytes,b,c,CU P u,(match u with| .bool=>true|_=>false),(match u with| .string=>true|_=>false),(match u with| .int k=>some k|_=>none)⟩
     |none=>none
   |none=>none
  |none=>none
 |_,_=>none
def nG{α β:Type}{f:α->Option β}:∀{b:List α}{c:List β},ja f b=some c->b.length=c.length/\ ∀(i:Nat)(y:β),c[i]? =some y-> ∃x,b[i]? =some x/\f x=some y
 | [],c,h=>by simp[ja]at h;subst h;exact⟨rfl,fun i y h=>by simp at h⟩
 |x::b,c,h=>by
  simp only[ja]at h;cases h1:f x with
  |none=>rw[h1]at h;simp at h
  |some y=>
   cases h2:ja f b with
   |none=>rw[h1,h2]at h;simp at h
   |some l=>
    rw[h1,h2]at h;simp at h;subst h;obtain⟨j,e⟩:=nG h2;refine⟨by simp[j],fun i u d=>?_⟩;cases i with
    |zero=>simp at d;subst d;exact⟨x,rfl,h1⟩
    |succ i=>simpa using e i u (by simpa using d)
def Tg:AV->Bool
 | .val v=>iV v
 | .sl _ _=>true
 | .ow _ _ _ _=>false
 | .bp _ _=>false
 | .nl=>true
def RJ{a:AV}(h:Tg a=true):LI a=true:=by
 cases a with
 |ow=>cases h
 |bp=>cases h
 |val=>rfl
 |sl=>rfl
 |nl=>rfl
def Uh{S:Nat->Prop}{w:World}{a:AV}{v:Value}(h:AV.M S w a v)(b:Tg a=true):iV v=true:=by
 cases h with
 |val h=>exact b
 |emp=>rfl
 |sl=>rfl
 |ow=>cases b
 |bp=>cases b
 |nl=>rfl
def ir:List AV->Bool
 | []=>true
 |a::r=>match Tg a with
  |true=>ir r
  |false=>false
def rI:∀{e:List AV},ir e=true-> ∀a∈e,LI a=true
 | [],_,a,c=>by cases c
 |b::e,d,a,c=>by
  simp only[ir]at d;cases h1:Tg b with
  |false=>rw[h1]at d;cases d
  |true=>
   rw[h1]at d;rcases f_.1 c with rfl|c
   ·exact RJ h1
   ·exact rI d a c
def pQ{S:Nat->Prop}{w:World}:∀{cs:List AV}{vs:List Value},CM S w cs vs->ir cs=true-> ∀v∈vs,iV v=true
 | [],vs,h,_,v,b=>by
  have:=h.1;cases vs with
  |nil=>cases b
  |cons u d=>simp at this
 |a::cs,[],h,_,v,b=>by cases b
 |a::cs,u::d,h,c,v,b=>by
  simp only[ir]at c;cases h1:Tg a with
  |false=>rw[h1]at c;cases c
  |true=>
   rw[h1]at c;rcases f_.1 b with rfl|b
   ·exact Uh (h.2 0 a v rfl rfl) h1
   ·exact pQ (cs:=cs) (vs:=d) ⟨by have:=h.1;simpa using this,fun i a v e f=>h.2 (i+1) a v (by simpa using e) (by simpa using f)⟩ c v b
structure bl (P:Program) (t:TypeId) (d:Ty):Prop where
 size:(P.info? t).map (·.size)=some d.size
 bytes:(P.info? t).map (·.bytes)=some d.bytes
 und:∃u,P.underlying t=some u/\kP u=d.agg/\(∀et k,d.elem=some (et,k)->u= .slice et/\(P.info? et).map (·.size)=some k)/\(∀fs,u= .struct fs->d.flds.length=fs.size)/\(d.isBool=true->u= .bool)/\(d.isStr=true->u= .string)/\(∀k,d.ik=some k->u= .int k) /\
  (∀(f o k:Nat)(b:Bool),d.flds[f]? =some (o,k,b)-> ∃(fs:Array Field)(fd:Field)(fu:TypeDesc),u= .struct fs/\fs[f]? =some fd/\fd.offset=o/\(P.info? fd.type).map (·.size)=some k/\k≠0/\P.underlying fd.type=some fu/\kP fu=b)
 zero:∃z,(P.info? t).bind (·.zero)=some z/\ ∀S w,CM S w d.zero z.cells.toList
 zlen:d.zero.length=d.size
def Fi{v:Value}{a:AV}(h:AZ v=some a)(S:Nat->Prop)(w:World):AV.M S w a v:=by
 unfold AZ at h;split at h<;>simp at h<;>subst h
 ·exact .val rfl
 ·exact .val rfl
 ·exact .val rfl
 ·exact .emp (l_ _) O_ (fun _=>rfl)
def J2{P:Program}{f:Field}{o k:Nat}{b:Bool}(h:Gz P f=some (o,k,b)):f.offset=o/\(P.info? f.type).map (·.size)=some k/\k≠0/\ ∃c,P.underlying f.type=some c/\kP c=b:=by
 unfold Gz at h;split at h
 ·rename_i i u d e;split at h
  ·cases h
  ·rename_i l j;simp only[X_,Prod.mk.injEq]at h;obtain⟨rfl,rfl,rfl⟩:=h;exact⟨rfl,by rw[d];simp[j],by omega,u,e,rfl⟩
 ·cases h
def LN{P:Program}{t:TypeId}{d:Ty}(h:LK P t=some d):bl P t d:=by
 unfold LK at h;split at h
 ·rename_i i u l F;split at h
  ·rename_i z G;split at h
   ·rename_i R H;split at h
    ·cases h
    rename_i q;split at h
    ·rename_i O c;simp only[X_]at h;subst h;refine⟨by rw[l];rfl,by rw[l];rfl,⟨u,F,rfl,fun et k he=>?_,fun fs hfs=>?_,fun hb=>?_,fun hb=>?_,fun k hk=>?_,fun f o k b hf=>?_⟩,⟨z,by rw[l];exact G,fun S w=>?_⟩,Nat.eq_of_beq_eq_true q⟩
     ·dsimp only at he;unfold CU at he;split at he
      ·rename_i D;split at he
       ·rename_i N m;simp only[X_,Prod.mk.injEq]at he;obtain⟨rfl,rfl⟩:=he;exact⟨rfl,by rw[m];rfl⟩
       ·cases he
      ·cases he
     ·subst hfs;have:=(nG c).1;simpa using this.symm
     ·dsimp only at hb;split at hb
      ·rfl
      ·cases hb
     ·dsimp only at hb;split at hb
      ·rfl
      ·cases hb
     ·dsimp only at hk;split at hk
      ·rename_i Q;simp only[X_]at hk;rw[hk]
      ·cases hk
     ·dsimp only at hf;split at c
      ·rename_i fs;obtain⟨x,e,p⟩:=(nG c).2 f _ hf;obtain⟨r,y,A,E,B,C⟩:=J2 p;exact⟨fs,x,E,rfl,by simpa using e,r,y,A,B,C⟩
      ·simp only[X_]at c;rw[<- c]at hf;simp at hf
     ·obtain⟨L,J⟩:=nG H;exact⟨L.symm,fun j a v m I=>by obtain⟨x,e,p⟩:=J j a m;rw[I]at e;cases e;exact Fi p S w⟩
    ·cases h
   ·cases h
  ·cases h
 ·cases h
structure ui where
 tv:TV
 bx:Option (List (Nat × Option (List AV)))
def AS.eff(s:AS)(c:Option Nat)(e:ui):AS:=
 ⟨match c with
  |some d=>(d,e.tv)::s.t
  |none=>s.t,match e.bx with
  |some l=>l++s.b
  |none=>s.b⟩
def Vt:Value->TV
 | .bool b=> .d (.leaf (.val (.bool b)))
 | .int k n=> .d (.leaf (.val (.int k n)))
 | .string s=> .d (.leaf (.val (.string s)))
 | .slice none 0 0=> .nil
 | .func f a b=> .d (.leaf (.val (.func f a b)))
 |_=> .junk
def AS.ev(s:AS):Operand->TV
 | .tmp k=>s.tv k
 | .const v=>Vt v
 | .func f=> .d (.leaf (.val (.func (.func f) #[] #[])))
 | .global k=>match ak GT k with
  |some b=> .rp b
  |none=> .junk
section
variable {P:Program}{n:Nat}{S0:Nat->Prop}{w0:fw}{g:Nat->Nat}{s:AS}{a:Act}{w w':World}
def bc{S:Nat->Prop}{u v:Value}(h:AV.M S w (.val v) u):u=v:=by cases h;rfl
def SU{S:Nat->Prop}(v:Value):TV.M S g s w (Vt v) v:=by
 unfold Vt;split
 ·exact AV.M.val rfl
 ·exact AV.M.val rfl
 ·exact AV.M.val rfl
 ·rfl
 ·exact AV.M.val rfl
 ·trivial
def MG.ev(h:MG n S0 w0 g s a w)(x:Operand):TV.M (Own S0 g s) g s w (s.ev x) (a.eval x):=by
 cases x with
 |tmp k=>exact h.tm k
 |const v=>exact SU v
 |func f=>exact AV.M.val rfl
 |global k=>
  simp only[AS.ev];cases hk:ak GT k with
  |none=>trivial
  |some b=>exact h.gl k b hk
def bO(P:Program)(o:Oper)(s:AS)(e:ui):Prop:=
 ∀(n:Nat)(S0:Nat->Prop)(w0:fw)(g:Nat->Nat)(a:Act)(w:World)(K:Act->World->Prop)(Q:Exit->Act->World->Prop),MG n S0 w0 g s a w->(∀d,o.dst=some d->d<n) ->
  (∀c b w',MG n S0 w0 c (s.eff o.dst e) b w'->K b w')->o.wp P a w K Q
def ar{o:Oper}{tv:TV}(h:∀(n:Nat)(S0:Nat->Prop)(w0:fw)(g:Nat->Nat)(a:Act)(w:World),MG n S0 w0 g s a w ->
 ∃v w',(execOp a.eval o).run P w= .ok (.value v) w'/\Below w.heap.size w w'/\TV.M (Own S0 g s) g s w' tv v):bO P o s ⟨tv,none⟩:=by
 intro n S0 w0 g a w K Q b f c;obtain⟨v,w',i,e,j⟩:=h n S0 w0 g a w b;unfold Oper.wp;rw[i];show K (a.put o.dst v) w';cases ho:o.dst with
 |none=>exact c g _ _ (by simp only[ho,AS.eff];exact b.grow' e)
 |some d=>have:=b.put (f d ho) e j;exact c g _ _ (by simp only[ho,AS.eff];exact this)
def tC{o:Oper}{x:Operand}(b:o.op= .move x∨o.op= .assign x):bO P o s ⟨s.ev x,none⟩:=by refine ar fun n S0 w0 g a w c=>⟨a.eval x,w,?_,Below.refl _ _,c.ev x⟩;rcases b with b|b<;>(unfold execOp;rw[b];rfl)
def KP:Bool->TV->TV->TV
 |true,x,_=>x
 |false,_,y=>y
def Bm{o:Oper}{c x y:Operand}{b:Bool}(j:o.op= .pick c x y)(i:s.ev c= .d (.leaf (.val (.bool b)))):bO P o s ⟨KP b (s.ev x) (s.ev y),none⟩:=by
 refine ar fun n S0 w0 g a w h=>⟨if b=true then a.eval x else a.eval y,w,?_,Below.refl _ _,?_⟩
 ·have f:=h.ev c;rw[i]at f;have e:a.eval c= .bool b:=bc f;unfold execOp;rw[j];simp only[e];rfl
 ·cases b
  ·exact h.ev y
  ·exact h.ev x
def Br(h:MG n S0 w0 g s a w){x:Operand}{j o:Nat}(c:s.ev x= .box j o){cs:List AV}(b:s.bx j=some cs):a.eval x= .pointer (some ⟨g j,o,none⟩):=by have:=h.ev x;rw[c]at this;exact this.2 cs b
def bn(h:MG n S0 w0 g s a w){x:Operand}{v:Value}(b:s.ev x= .d (.leaf (.val v))):a.eval x=v:=by have:=h.ev x;rw[b]at this;exact bc this
def JN:TV->Option DV
 | .d dv=>some dv
 | .nil=>some (.leaf (.sl 0 []))
 |_=>none
def Pz{S:Nat->Prop}{tv:TV}{dv:DV}{v:Value}(h:JN tv=some dv)(b:TV.M S g s w tv v):DV.M S w dv v:=by
 cases tv<;>simp[JN]at h
 ·subst h;exact b
 ·subst h;have:v= .slice none 0 0:=b;rw[this];exact AV.M.emp (l_ _) O_ (fun _=>rfl)
def zI(h:MG n S0 w0 g s a w){x:Operand}{dv:DV}(b:JN (s.ev x)=some dv):DV.M (Own S0 g s) w dv (a.eval x):=Pz b (h.ev x)
def jk{t:TypeId}{z:Value}(h:(P.info? t).bind (·.zero)=some z)(w:World):(zeroValue t).run P w= .ok z w:=by
 unfold zeroValue typeInfo;cases hq:P.info? t with
 |none=>rw[hq]at h;cases h
 |some i=>rw[hq]at h;have b:i.zero=some z:=h;simp[hq,b]
def b5{t:TypeId}{k:Nat}(h:(P.info? t).map (·.size)=some k)(w:World):(sizeOf t).run P w= .ok k w:=by
 unfold sizeOf typeInfo;cases hq:P.info? t with
 |none=>rw[hq]at h;cases h
 |some i=>
  rw[hq]at h;have b:i.size=k:=by simpa using h
  simp[hq,b]
def gI{t:TypeId}{u:TypeDesc}(h:P.underlying t=some u)(w:World):(isAgg t).run P w= .ok (kP u) w:=by unfold isAgg;rw[Y_,run_underlying h w];cases u<;>rfl
def ph{o:Oper}{j:Nat}{cs:List AV}{d:Nat}(r:o.dst=some d)(u:ak s.b j=none/\iO j=false)(h:∀(n:Nat)(S0:Nat->Prop)(w0:fw)(g:Nat->Nat)(a:Act)(w:World),MG n S0 w0 g s a w-> ∃(c:Array Value)(t:TypeId),(execOp a.eval o).run P w= .ok (.value (.pointer (some ⟨w.heap.size,0,none⟩))) (w.alloc (.cells c t))/\CM (Own S0 g s) w cs c.toList/\(im j=true->t=wm/\c.size=2))(l:ir cs=true):bO P o s ⟨.box j 0,some [(j,some cs)]⟩:=by intro n S0 w0 g a w K Q p f m;obtain⟨c,t,y,q,i⟩:=h n S0 w0 g a w p;unfold Oper.wp;rw[y];show K (a.put o.dst _) _;have:=p.alloc (d:=d) (f d r) u.1 u.2 (e:=t) q.cp (fun _=>pQ q l) (rI l) i (x:= .box j 0) (v:= .pointer (some ⟨w.heap.size,0,none⟩)) (fun g' s' h1 h2=>⟨AS.kn_of h2,fun _ _=>by rw[h1]⟩);rw[r]at m ⊢;exact m _ _ _ this
def kx{o:Oper}{t:TypeId}{ty:Ty}{j d:Nat}(e:bl P t ty)(p:o.op= .alloc t)(l:o.dst=some d)(m:ak s.b j=none/\iO j=false)(i:ir ty.zero=true)(c:im j=true->t=wm/\ty.size=2):bO P o s ⟨.box j 0,some [(j,some ty.zero)]⟩:=by refine ph l m (fun n S0 w0 g a w r=>?_) i;obtain⟨z,q,f⟩:=e.zero;refine⟨z.cells,t,?_,f _ w,fun h=>⟨(c h).1,by have:=(f (Own S0 g s) w).1;simp only[Array.length_toList]at this;rw[<- this,e.zlen];exact(c h).2⟩⟩;unfold execOp;rw[p];simp only[Instr.alloc,Y_,jk q w,R_];rfl
def FZ{o:Oper}{t:TypeId}{x:Operand}{dv:DV}{j d:Nat}(m:o.op= .box t x)(i:o.dst=some d)(l:ak s.b j=none/\iO j=false)(p:JN (s.ev x)=some dv)(e:ir dv.cells=true)(c:im j=false):bO P o s ⟨.box j 0,some [(j,some dv.cells)]⟩:=by refine ph i l (fun n S0 w0 g a w f=>?_) e;have h:=zI f p;refine⟨(a.eval x).cells,t,?_,DV.M.cells h,fun h=>by rw[c]at h;cases h⟩;unfold execOp;rw[m];rfl
def K0:Bool->List AV->Option DV
 |true,l=>some (.agg l)
 |false,[a]=>some (.leaf a)
 |false,_=>none
def fC{t:TypeId}{ty:Ty}(h:bl P t ty){b o:Nat}{vs:List Value}(p:vs.length=ty.size)(i:∀j v,vs[j]? =some v->w.cell? ⟨b,o+j,none⟩=some v){dv:DV}{cs:List AV}{S:Nat->Prop}(f:CM S w cs vs)(d:K0 ty.agg cs=some dv):
 ∃v,(Instr.loadAt t (.pointer (some ⟨b,o,none⟩))).run P w= .ok v w/\DV.M S w dv v:=by
 obtain⟨u,l,e,_⟩:=h.und;cases hag:ty.agg with
 |true=>
  rw[hag]at d e;cases d;refine⟨.agg vs.toArray,?_,vs,rfl,f⟩;have m:=run_loadCells_list (P:=P) w ⟨b,o,none⟩ vs (fun j v q=>by
   have:=i j v q;unfold Addr.add;split
   ·rename_i h0;subst h0;simpa using this
   ·exact this)
  simp only[Instr.loadAt,Instr.sureAddr,loadVar,Y_,a_,R_,gI l w,e,if_true,b5 h.size w,<- p,m]
 |false=>
  rw[hag]at d e;cases cs with
  |nil=>cases d
  |cons c cs=>
   cases cs with
   |cons _ _=>cases d
   |nil=>
    cases d;have hlen:=f.1;cases vs with
    |nil=>simp at hlen
    |cons v r=>have h0:=i 0 v rfl;refine⟨v,?_,f.2 0 c v rfl rfl⟩;simp only[Nat.add_zero]at h0;simp only[Instr.loadAt,Instr.sureAddr,loadVar,Y_,a_,R_,gI l w,e,Bool.false_eq_true,if_false,run_load,h0]
def fy{arr:Array Value}{e:TypeId}{B:Nat}(b:w.heap[B]? =some (.cells arr e (0,0)))(i:Nat):w.cell? ⟨B,i,none⟩=arr[i]?:=by simp[World.cell?,b]
def r7{o:Oper}{t:TypeId}{ty:Ty}{x:Operand}{j off:Nat}{cs:List AV}{dv:DV}(q:bl P t ty)(y:o.op= .load t x)(A:s.ev x= .box j off)(m:s.bx j=some cs)(u:off+ty.size<=cs.length)(r:K0 ty.agg ((cs.drop off).take ty.size)=some dv):bO P o s ⟨.d dv,none⟩:=by
 refine ar fun n S0 w0 g a w l=>?_;obtain⟨_,f,e,p,h,_⟩:=l.bm j cs m;have hlen:=h.1;obtain⟨v,z,c⟩:=fC (w:=w) q (b:=g j) (o:=off) (vs:=(f.toList.drop off).take ty.size) (by simp at hlen ⊢;omega) (fun i v c=>by
  rw[fy p];rw[List.getElem?_take]at c;split at c
  ·simpa using c
  ·cases c) (h.sub u) r
 refine⟨v,w,?_,Below.refl _ _,c⟩;unfold execOp;rw[y];simp only[Br l A m,Y_,z,R_];rfl
def uR{o:Oper}{t:TypeId}{ty:Ty}{x:Operand}{cs:List AV}{dv:DV}(y:bl P t ty)(C:o.op= .load t x)(E:s.ev x= .rp cs)(F:ty.size<=cs.length)(z:K0 ty.agg (cs.take ty.size)=some dv):bO P o s ⟨.d dv,none⟩:=by
 refine ar fun n S0 w0 g a w u=>?_;have h:=u.ev x;rw[E]at h;obtain⟨b,m,f,e,G,A,q,r⟩:=h;have B:CM (Own S0 g s) w (cs.take ty.size) ((List.range ty.size).map f):=by
  refine⟨by simp;omega,fun i a v j p=>?_⟩;rw[List.getElem?_take]at j;split at j
  ·rename_i l;have:v=f i:=by simp[l]at p;exact p.symm
   rw[this];exact r i a j
  ·cases j
 obtain⟨v,D,c⟩:=fC (w:=w) y (b:=b) (o:=m) (vs:=(List.range ty.size).map f) S_ (fun i v c=>by
  have l:i<ty.size:=by have:=(G_.1 c).1;simpa using this
  have:v=f i:=by simp[l]at c;exact c.symm
  rw[this];exact q i (cs[i]'(by omega)) S_) B z
 refine⟨v,w,?_,Below.refl _ _,c⟩;unfold execOp;rw[C];simp only[e,Y_,D,R_];rfl
def dJ(cs:List AV)(off:Nat)(ds:List AV):List AV:=cs.take off++ds++cs.drop (off+ds.length)
def me{cs ds:List AV}{off:Nat}(h:off+ds.length<=cs.length):(dJ cs off ds).length=cs.length:=by unfold dJ;simp;omega
def EY{S:Nat->Prop}{cs ds:List AV}{vs us:List Value}{off:Nat}(h:jO S w cs vs)(d:CM S w ds us)(f:off+ds.length<=cs.length):jO S w (dJ cs off ds) (vs.take off++us++vs.drop (off+us.length)):=by
 have l:=h.1;have m:=d.1;refine⟨by rw[me f];simp;omega,fun i a v b c=>?_⟩;unfold dJ at b;simp only[List.getElem?_append,List.getElem?_take,List.getElem?_drop,L_,U_]at b c;by_cases e:i<off
 ·rw[if_pos O_,if_pos O_,if_pos e]at b c;exact h.2 i a v b c
 ·by_cases j:i<off+ds.length
  ·rw[if_pos O_,if_neg O_]at b c;rw[show i-min off cs.length=i-min off vs.length by omega]at b;exact d.2 _ a v b c
  ·rw[if_neg O_]at b c;rw[show off+ds.length+(i-(min off cs.length+ds.length))=i by omega]at b;rw[show off+us.length+(i-(min off vs.length+us.length))=i by omega]at c;exact h.2 i a v b c
def UQ(j:Nat)(ds:List AV):Bool:=match cL j with
 |true=>true
 |false=>ir ds
def LD{j:Nat}(h:cX j=true):cL j=false:=by
 unfold cX at h;simp only[Bool.or_eq_true,Nat.beq_eq]at h;cases h2:cL j
 ·rfl
 ·have:=N_ h2;omega
def AW{cs ds:List AV}{vs us:List Value}{off i:Nat}{x:AV}{v:Value}(e:cs.length<=vs.length)(f:ds.length=us.length)(j:off+ds.length<=cs.length)(b:(dJ cs off ds)[i]? =some x)(c:(vs.take off++us++vs.drop (off+us.length))[i]? =some v):
 (cs[i]? =some x/\vs[i]? =some v)∨ ∃q:Nat,ds[q]? =some x/\us[q]? =some v:=by
 unfold dJ at b;simp only[List.getElem?_append,List.getElem?_take,List.getElem?_drop,L_,U_]at b c;by_cases d:i<off
 ·rw[if_pos O_,if_pos O_,if_pos d]at b c;exact .inl ⟨b,c⟩
 ·by_cases h:i<off+ds.length
  ·rw[if_pos O_,if_neg O_]at b c;rw[show i-min off cs.length=i-min off vs.length by omega]at b;exact .inr ⟨_,b,c⟩
  ·rw[if_neg O_]at b c;rw[show off+ds.length+(i-(min off cs.length+ds.length))=i by omega]at b;rw[show off+us.length+(i-(min off vs.length+us.length))=i by omega]at c;exact .inl ⟨b,c⟩
def rZ{o:Oper}{t:TypeId}{ty:Ty}{x y:Operand}{j off:Nat}{cs ds:List AV}(V:bl P t ty)(X:o.op= .store t x y)(C:o.dst=none)(Y:s.ev x= .box j off)(D:s.bx j=some cs){n:Nat}{S0:Nat->Prop}{w0:fw}{g:Nat->Nat}{a:Act}{w:World}{K:Act->World->Prop}{Q:Exit->Act->World->Prop}(z:MG n S0 w0 g s a w)(H:CM (Own S0 g s) w ds (a.eval y).cells.toList)(Z:ds.length=ty.size)(hl:off+ty.size<=cs.length)(G:cL j=false-> ∀u∈(a.eval y).cells.toList,iV u=true)(F:cX j=true-> ∀(i:Nat)(b:AV)(v:Value),ds[i]? =some b->(a.eval y).cells.toList[i]? =some v->x1 (Own S0 g s) g s w b v)(U:∀w',MG n S0 w0 g { s with b:=(j,some (dJ cs off ds))::s.b } a w'->K a w'):o.wp P a w K Q:=by
 obtain⟨W,c,e,r,O,R,S,_⟩:=z.bm j cs D;generalize J:a.eval y=v at *;have hlen:=O.1;have p:=H.1;simp only[Array.length_toList]at hlen p;have m:=run_storeCells_at (P:=P) (g j) off e v.cells.toList 0 c w r (by simp;omega) H.plain;simp only[Nat.add_zero]at m;generalize f:(c.toList.take off++v.cells.toList++c.toList.drop (off+v.cells.toList.length)).toArray=arr' at *
 have hrun:(execOp a.eval o).run P w= .ok .skip (w.setRow (g j) arr'):=by unfold execOp;rw[X];simp only[Br z Y D,J,Instr.storeAt,Instr.sureAddr,storeVar,Y_,a_,R_,b5 V.size w];rw[if_neg O_];simp only[m,R_]
 have B:jO (Own S0 g s) w (dJ cs off ds) arr'.toList:=by rw[<- f];exact EY O H O_
 have I:cL j=false-> ∀u∈arr'.toList,iV u=true:=by
  intro h;rw[<- f];intro u d;simp only[List.mem_append]at d;rcases d with(d|d)|d
  ·exact R h u (List.mem_of_mem_take d)
  ·exact G h u d
  ·exact R h u (List.mem_of_mem_drop d)
 have E:cX j=true-> ∀(i:Nat)(b:AV)(v:Value),(dJ cs off ds)[i]? =some b->arr'.toList[i]? =some v->x1 (Own S0 g s) g s w b v:=by
  intro l i b u A d;rw[<- f]at d;rcases AW (by rw[Array.length_toList];exact hlen) (by rw[Array.length_toList];exact p) O_ A (by simpa using d)with⟨L,N⟩| ⟨q,L,N⟩
  ·exact S l i b u L N
  ·exact F l q b u L N
 have hsz:arr'.size=c.size:=by rw[<- f];simp;omega
 have:=z.store D (w':=w.setRow (g j) arr') (e:=e) S_ ⟨rfl,rfl,rfl⟩ r (setRow_heap w _ c arr' e (0,0) r) hsz (fun b A=>setRow_other w _ b arr' A) (by rw[me O_];exact l_ _) B I E;unfold Oper.wp;rw[hrun];show K (a.put o.dst undef) _;rw[C];exact U _ this
def AD{o:Oper}{t:TypeId}{ty:Ty}{x y:Operand}{j off:Nat}{cs:List AV}{dv:DV}(r:bl P t ty)(C:o.op= .store t x y)(d:o.dst=none)(D:s.ev x= .box j off)(z:s.bx j=some cs)(E:JN (s.ev y)=some dv)(A:dv.cells.length=ty.size)(B:off+ty.size<=cs.length)(e:UQ j dv.cells=true):bO P o s ⟨.junk,some [(j,some (dJ cs off dv.cells))]⟩:=by
 intro n S0 w0 g a w K Q m _ l;have q:=(zI m E).cells;have p:cL j=false->ir dv.cells=true:=fun c=>by unfold UQ at e;rw[c]at e;exact e
 refine rZ r C d D z m q A B (fun c=>pQ q (p c)) (fun h i b v u _=>I0 (rI (p (LD h)) b (M_ u))) fun w' f=>?_;rw[d]at l;exact l g _ _ f
def Bd(s:AS):TV->Option (AV × List Nat)
 | .own j n k e=>match s.bx j with
  |some _=>some (.ow j n k e,[j])
  |none=>none
 | .box j o=>match s.bx j with
  |some _=>some (.bp j o,[j])
  |none=>none
 | .nil=>some (.nl,[])
 |_=>none
def ud{o:Oper}{t:TypeId}{ty:Ty}{x y:Operand}{j off:Nat}{J:List Nat}{cs:List AV}{b:AV}(F:bl P t ty)(I:o.op= .store t x y)(r:o.dst=none)(L:s.ev x= .box j off)(G:s.bx j=some cs)(d:Bd s (s.ev y)=some (b,J))(H:ty.size=1)(U:off+1<=cs.length):bO P o s ⟨.junk,some [(j,some (dJ cs off [b]))]⟩:=by
 intro n S0 w0 g a w K Q E _ D;have f:=E.ev y;have C:(a.eval y).oneCell'=true/\iV (a.eval y)=true/\AV.M (Own S0 g s) w b (a.eval y)/\x1 (Own S0 g s) g s w b (a.eval y):=by
  generalize a.eval y=v at f;unfold Bd at d;split at d
  ·rename_i i n k e hev;rw[hev]at f;split at d
   ·rename_i z h;cases d;obtain⟨c,rfl,_⟩:=f.2 z h;exact⟨rfl,rfl, .ow rfl,f⟩
   ·cases d
  ·rename_i i q hev;rw[hev]at f;split at d
   ·rename_i z h;cases d;obtain rfl:=f.2 z h;exact⟨rfl,rfl, .bp rfl,f⟩
   ·cases d
  ·rename_i hev;rw[hev]at f;cases d;obtain rfl:v= .slice none 0 0:=f;exact⟨rfl,rfl, .nl,trivial⟩
  ·cases d
 obtain⟨N,O,R,S⟩:=C;have l:=kH N;refine rZ (ds:=[b]) F I r L G E (by rw[l];exact CM.cons R (CM.nil _ _)) (by simp[H]) O_ (fun _ u B=>by
  rw[l]at B;simp at B;subst B;exact O) (fun _ i c v m p=>by
  rw[l]at p
  match i,m,p with
  |0,m,p=>simp at m p;subst m p;exact S
  |i+1,m,p=>simp at m) fun w' A=>?_
 rw[r]at D;exact D g _ _ A
def SX:AV->Option TV
 | .ow j n k e=>some (.own j n k e)
 | .bp j o=>some (.box j o)
 | .nl=>some .nil
 |_=>none
def uT{o:Oper}{t:TypeId}{ty:Ty}{x:Operand}{j off:Nat}{cs:List AV}{b:AV}{tv:TV}(D:bl P t ty)(L:o.op= .load t x)(O:s.ev x= .box j off)(F:s.bx j=some cs)(r:cX j=true)(m:ty.agg=false)(hsz:ty.size=1)(J:off+ty.size<=cs.length)(E:(cs.drop off).take ty.size=[b])(d:SX b=some tv):bO P o s ⟨tv,none⟩:=by
 refine ar fun n S0 w0 g a w C=>?_;obtain⟨_,c,e,A,B,Q,H,_⟩:=C.bm j cs F;have hlen:=B.1;have y:cs[off]? =some b:=by have:=congrArg (fun l:List AV=>l[0]?) E;rw[hsz]at this;simpa using this
 have q:off<c.toList.length:=O_;obtain⟨v,G,h⟩:=fC (w:=w) D (b:=g j) (o:=off) (vs:=(c.toList.drop off).take ty.size) (by simp at hlen ⊢;omega) (fun i v h=>by
  rw[fy A];rw[List.getElem?_take]at h;split at h
  ·simpa using h
  ·cases h) (B.sub J) (dv:= .leaf b) (by rw[E,m];rfl)
 have z:c.toList[off]? =some v:=by
  have f:(Instr.loadAt t (.pointer (some ⟨g j,off,none⟩))).run P w= .ok (c.toList[off]) w:=by
   obtain⟨u,N,I,_⟩:=D.und;have:w.cell? ⟨g j,off,none⟩=some (c.toList[off]):=by rw[fy A];simp at q ⊢
   simp only[Instr.loadAt,Instr.sureAddr,loadVar,Y_,a_,R_,gI N w,I,m,Bool.false_eq_true,if_false,run_load,this]
  rw[G]at f;injection f with f;rw[f];simp[q]
 have p:=H r off b v y z;refine⟨v,w,?_,Below.refl _ _,?_⟩
 ·unfold execOp;rw[L];simp only[Br C O F,Y_,G,R_];rfl
 ·cases b with
  |ow=>cases d;exact p
  |bp=>cases d;exact p
  |val=>cases d
  |sl=>cases d
  |nl=>cases d;cases h;rfl
def bt(b o k:Nat):(⟨b,o,none⟩:Addr).add k=⟨b,o+k,none⟩:=by unfold Addr.add;split <;>simp_all
def qm{t:TypeId}{ty:Ty}(l:bl P t ty){f o k:Nat}{d:Bool}(m:ty.flds[f]? =some (o,k,d))(b off:Nat):(Instr.fieldAt t (.pointer (some ⟨b,off,none⟩)) f).run P w= .ok (.pointer (some ⟨b,off+o,none⟩)) w:=by obtain⟨u,p,_,_,_,_,_,_,c⟩:=l.und;obtain⟨q,fd,r,rfl,e,h,i,j,_⟩:=c f o k d m;simp only[Instr.fieldAt,Y_,run_underlying p w,R_,e,Instr.sureAddr,a_,fieldPlace,b5 i w];rw[if_neg j];simp only[a_,R_,bt,h]
def PG(tv:TV)(o:Nat):TV:=match tv with
 | .box j k=> .box j (k+o)
 | .rp b=> .rp (b.drop o)
 |_=> .junk
def J8:TV->Bool
 | .box _ _| .rp _=>true
 |_=>false
def j3{o:Oper}{t:TypeId}{ty:Ty}{x:Operand}{f off k:Nat}{z:Bool}{tv:TV}(r:bl P t ty)(v:o.op= .fieldAddr t x f)(u:ty.flds[f]? =some (off,k,z))(I:s.ev x=tv)(l:J8 tv=true)(p:∀j k,tv= .box j k-> ∃m,s.bx j=some m):bO P o s ⟨PG tv off,none⟩:=by
 refine ar fun n S0 w0 g a w F=>?_;have h:=F.ev x;rw[I]at h;cases tv with
 |box j k=>obtain⟨H,e⟩:=h;obtain⟨m,G⟩:=p j k rfl;refine⟨_,w,?_,Below.refl _ _,show TV.M _ _ _ _ (.box j (k+off)) (.pointer (some ⟨g j,k+off,none⟩)) from⟨H,fun _ _=>rfl⟩⟩;unfold execOp;rw[v];simp only[e m G,Y_,qm r u,R_];rfl
 |rp m=>
  obtain⟨b,y,A,e,B,C,D,E⟩:=h;refine⟨.pointer (some ⟨b,y+off,none⟩),w,?_,Below.refl _ _,b,y+off,fun i=>A (off+i),rfl,B,C,fun i c q=>?_,fun i c q=>?_⟩
  ·unfold execOp;rw[v];simp only[e,Y_,qm r u,R_];rfl
  ·rw[Nat.add_assoc];exact D (off+i) c (by simpa using q)
  ·exact E (off+i) c (by simpa using q)
 |d x=>cases l
 |tup x=>cases l
 |clo=>cases l
 |mp=>cases l
 |own=>cases l
 |nil=>cases l
 |und=>cases l
 |junk=>cases l
 |dfr=>cases l
 |vw=>cases l
 |vs=>cases l
def uv{o:Oper}{x:Operand}{i:Nat}{ts:List DV}{dv:DV}(m:o.op= .extract x i)(q:s.ev x= .tup ts)(f:ts[i]? =some dv):bO P o s ⟨.d dv,none⟩:=by
 refine ar fun n S0 w0 g a w j=>?_;have h:=j.ev x;rw[q]at h;obtain⟨c,e,l,p⟩:=h;have b:i<c.length:=by rw[<- l];exact(G_.1 f).1
 refine⟨c[i],w,?_,Below.refl _ _,p i dv c[i] f (by simp[b])⟩;unfold execOp;rw[m];simp[e,Instr.extract,b]
def He{t:TypeId}{u:TypeDesc}{k:Nat}{b:Bool}(m:(P.info? t).map (·.size)=some k)(j:P.underlying t=some u)(h:kP u=b){S:Nat->Prop}{cs:List AV}{vs:List Value}(f:CM S w cs vs){o:Nat}{dv:DV}(x:o+k<=cs.length)(d:K0 b ((cs.drop o).take k)=some dv):
 ∃v,(part t vs.toArray o).run P w= .ok v w/\DV.M S w dv v:=by
 have hlen:=f.1;cases b with
 |true=>cases d;refine⟨.agg ((vs.drop o).take k).toArray,?_,_,rfl,(f.drop o).take k⟩;simp only[part,Y_,gI j w,R_,h,if_true,b5 m w,a_];congr 2;simp
 |false=>
  have l:=(f.drop o).take k;generalize p:(cs.drop o).take k=q at *;cases q with
  |nil=>cases d
  |cons c r=>
   cases r with
   |cons _ _=>cases d
   |nil=>
    cases d;have e:k=1:=by have:=congrArg List.length p;simp at this;omega
    subst e;have i:o<vs.length:=O_;refine⟨vs[o],?_,l.2 0 c vs[o] rfl (by simp[i])⟩;simp[part,Y_,gI j w,R_,h,i]
def Ar{o:Oper}{t:TypeId}{ty:Ty}{x:Operand}{f off k:Nat}{b:Bool}{cs:List AV}{dv:DV}(r:bl P t ty)(C:o.op= .field t x f)(z:ty.flds[f]? =some (off,k,b))(G:s.ev x= .d (.agg cs))(A:off+k<=cs.length)(y:K0 b ((cs.drop off).take k)=some dv):bO P o s ⟨.d dv,none⟩:=by refine ar fun n S0 w0 g a w q=>?_;obtain⟨h,e,B⟩:∃h:List Value,a.eval x= .agg h.toArray/\CM _ w cs h:=zI (dv:= .agg cs) q (by rw[G];rfl);obtain⟨u,E,_,_,_,_,_,_,c⟩:=r.und;obtain⟨H,fd,I,rfl,i,j,l,J,m,p⟩:=c f off k b z;obtain⟨v,D,F⟩:=He (w:=w) l m p B A y;refine⟨v,w,?_,Below.refl _ _,F⟩;unfold execOp;rw[C];simp only[e,Instr.field,Y_,run_underlying E w,R_,i,asAgg,a_,j,D]
def p9(off:Nat):∀(l:List Value)(m:Nat)(b:Array Value),off+m+l.length<=b.size ->
 ((l.zipIdx m).foldl (fun c(p:Value × Nat)=>c.setIfInBounds (off+p.2) p.1) b).toList=b.toList.take (off+m)++l++b.toList.drop (off+m+l.length)
 | [],m,b,_=>by simp
 |v::l,m,b,h=>by
  simp only[List.length_cons]at h;rw[List.zipIdx_cons,List.foldl_cons,p9 off l (m+1) _ (by simp;omega)];apply List.ext_getElem?;intro i;simp only[Array.toList_setIfInBounds,List.getElem?_append,List.getElem?_take,List.getElem?_drop,List.getElem?_set,U_,L_,List.length_set,List.length_cons,Array.length_toList];by_cases f:i<off+m
  ·rw[if_pos O_,if_pos O_,if_pos O_,if_neg O_,if_pos O_,if_pos O_,if_pos O_]
  ·by_cases d:i=off+m
   ·subst d;rw[if_pos O_,if_pos O_,if_pos O_,if_pos O_,if_pos O_,if_pos O_,if_neg O_];have:off+m-min (off+m) b.size=0:=O_;simp[this]
   ·by_cases j:i<off+m+(l.length+1)
    ·rw[if_pos O_,if_neg O_,if_pos O_,if_neg O_];have e:i-min (off+m) b.size=(i-min (off+(m+1)) b.size)+1:=O_;rw[e,List.getElem?_cons_succ]
    ·rw[if_neg O_,if_neg O_,if_neg O_];congr 1;omega
def nI(b:Nat->Option (Nat × Nat))(cs:List AV):List (Nat × DV)->Option (List AV)
 | []=>some cs
 |(i,dv)::r=>match b i with
  |none=>none
  |some (c,k)=>match Nat.beq dv.cells.length k,Nat.ble (c+k) cs.length with
   |true,true=>nI b (dJ cs c dv.cells) r
   |_,_=>none
def PM(S:Nat->Prop)(w:World):List (Nat × DV)->List (Nat × Value)->Prop
 | [],[]=>True
 |p::b,q::c=>(p.1=q.1/\DV.M S w p.2 q.2)/\PM S w b c
 |_,_=>False
def rG{S:Nat->Prop}{d:Nat->Option (Nat × Nat)}:∀(t:List (Nat × DV))(u:List (Nat × Value))(q:List AV)(b:Array Value)(c:List AV),CM S w q b.toList ->
 PM S w t u->nI d q t=some c-> ∃p,Instr.fill d b u=some p/\CM S w c p.toList
 | [],_::_,_,_,_,_,j,_=>j.elim
 |_::_,[],_,_,_,_,j,_=>j.elim
 | [],[],q,b,c,r,j,h=>by cases h;exact⟨b,rfl,r⟩
 |(i,dv)::t,(C,v)::u,q,b,c,r,j,h=>by
  obtain⟨⟨e,B⟩,j⟩:=j;dsimp only at e;subst e;simp only[nI]at h;split at h
  ·cases h
  ·rename_i f k y;split at h
   ·rename_i z A;have z:=Nat.eq_of_beq_eq_true z;have A:=N_ A;have x:=r.1;have l:=B.cells;have m:=l.1;simp only[Array.length_toList]at x m;simp only[Instr.fill,y];dsimp only at m l;rw[if_neg (by simp;omega)];refine rG t u (dJ q f dv.cells) _ c ?_ j h;have e:=p9 f v.cells.toList 0 b (by simp;omega);rw[<- Array.foldl_toList,Array.toList_zipIdx,e];unfold dJ;have:=((r.take f).append l).append (r.drop (f+dv.cells.length));simpa[m]using this
   ·cases h
def eE(s:AS):List (Nat × Operand)->Option (List (Nat × DV))
 | []=>some []
 |(i,x)::r=>match JN (s.ev x),eE s r with
  |some dv,some l=>some ((i,dv)::l)
  |_,_=>none
def nt(b:MG n S0 w0 g s a w):∀(r:List (Nat × Operand))(l:List (Nat × DV)),eE s r=some l->PM (Own S0 g s) w l (r.map fun(p:Nat × Operand)=>(p.1,a.eval p.2))
 | [],l,h=>by cases h;trivial
 |(i,x)::r,l,h=>by
  simp only[eE]at h;split at h
  ·rename_i dv e c d;cases h;exact⟨⟨rfl,zI b c⟩,nt b r e d⟩
  ·cases h
def wP(ty:Ty)(i:Nat):Option (Nat × Nat):=match ty.flds[i]? with
 |some (o,k,_)=>some (o,k)
 |none=>none
def tY{p q:Nat->Option (Nat × Nat)}:∀(e:List (Nat × Value))(b:Array Value),(∀i r,q i=some r->p i=some r)-> ∀c,Instr.fill q b e=some c->Instr.fill p b e=some c
 | [],b,_,c,h=>h
 |(i,v)::e,b,d,c,h=>by
  simp only[Instr.fill]at h ⊢;cases hq:q i with
  |none=>rw[hq]at h;cases h
  |some r=>
   rw[hq]at h;rw[d i r hq];obtain⟨o,k⟩:=r;simp only at h ⊢;split at h
   ·cases h
   ·rename_i f;rw[if_neg f];exact tY e _ d c h
def ss{ty:Ty}:∀(l:List Field)(c:List (Nat × Nat × Bool)),l.length=c.length->(∀(f o k:Nat)(b:Bool),c[f]? =some (o,k,b)-> ∃fd:Field,l[f]? =some fd/\fd.offset=o/\(P.info? fd.type).map (·.size)=some k) ->
 (l.mapM fun f=>do pure (f.offset,<- sizeOf f.type):Sem (List (Nat × Nat))).run P w= .ok (c.map fun p=>(p.1,p.2.1)) w
 | [],[],_,_=>rfl
 | [],_::_,h,_=>by cases h
 |_::_,[],h,_=>by cases h
 |fd::l,(o,k,b)::c,h,e=>by obtain⟨i,d,j,m⟩:=e 0 o k b rfl;simp only[List.getElem?_cons_zero,X_]at d;subst d;have r:=ss (ty:=ty) l c (by simpa using h) (fun f o k b q=>by simpa using e (f+1) o k b (by simpa using q));simp only[List.mapM_cons,Y_,b5 m w,R_,a_,r,j];rfl
def qy{o:Oper}{t:TypeId}{ty:Ty}{c:Array (Nat × Operand)}{l:List (Nat × DV)}{cs:List AV}(I:bl P t ty)(R:o.op= .build t c)(E:ty.flds≠[])(S:eE s c.toList=some l)(O:nI (wP ty) ty.zero l=some cs):bO P o s ⟨.d (.agg cs),none⟩:=by
 refine ar fun n S0 w0 g a w N=>?_;obtain⟨u,U,_,_,hlen,_,_,_,q⟩:=I.und;obtain⟨z,V,H⟩:=I.zero;obtain⟨m,F⟩:∃m,u= .struct m:=by
  cases h0:ty.flds with
  |nil=>exact absurd h0 E
  |cons p r=>obtain⟨X,W,J⟩:=p;obtain⟨m,_,_,e,_⟩:=q 0 X W J (by rw[h0];rfl);exact⟨m,e⟩
 subst F;have G:=ss (P:=P) (w:=w) (ty:=ty) m.toList ty.flds (by simpa using(hlen m rfl).symm) (fun f o k b h=>by obtain⟨L,fd,Y,e,B,C,D,_⟩:=q f o k b h;cases e;exact⟨fd,by simpa using B,C,D⟩)
 have v:(m.mapM fun f=>do pure (f.offset,<- sizeOf f.type):Sem (Array (Nat × Nat))).run P w= .ok (ty.flds.map fun p=>(p.1,p.2.1)).toArray w:=by rw[Array.mapM_eq_mapM_toList,Sem.run_map,G];rfl
 obtain⟨j,B,C⟩:=rG l _ _ z.cells cs (H (Own S0 g s) w) (nt N c.toList l S) O;have D:=tY (p:=fun i=>(ty.flds.map fun p=>(p.1,p.2.1)).toArray[i]?) _ _ (fun i r A=>by
  unfold wP at A;split at A
  ·rename_i o k b Q;simp only[List.getElem?_toArray,List.getElem?_map,Q,Option.map_some];exact A
  ·cases A) j B
 refine⟨.agg j,w,?_,Below.refl _ _,j.toList,by simp,C⟩;unfold execOp;rw[R];have e:(c.map fun x=>match x with|(i,y)=>(i,a.eval y)).toList=c.toList.map fun(p:Nat × Operand)=>(p.1,a.eval p.2):=S_;simp only[Instr.build,Y_,jk V w,R_,run_underlying U w,v,e,D];rfl
def qZ(zs:List AV):Nat->List AV
 |0=>[]
 |n+1=>zs++qZ zs n
def rY(zs:List AV)(b:0<zs.length):∀(n i:Nat),(qZ zs n)[i]? =if i<n*zs.length then zs[i%zs.length]? else none
 |0,i=>by simp[qZ]
 |n+1,i=>by
  simp only[qZ,List.getElem?_append];by_cases h:i<zs.length
  ·rw[if_pos h,if_pos (by rw[Nat.add_mul];omega),Nat.mod_eq_of_lt h]
  ·rw[if_neg h,rY zs b n,Nat.mod_eq_sub_mod (by omega:i>=zs.length)];have:(i-zs.length<n*zs.length)↔(i<(n+1)*zs.length):=by rw[Nat.add_mul];omega
   simp only[this]
def ls(zs:List AV):∀n,(qZ zs n).length=n*zs.length
 |0=>by simp[qZ]
 |n+1=>by simp[qZ,ls zs n,Nat.add_mul];omega
def pU{o:Oper}{t q k len:Nat}{ty G:Ty}{f:Array (Nat × Operand)}{l:List (Nat × DV)}{cs:List AV}(W:bl P t ty)(U:bl P q G)(Y:o.op= .buildSlice t len f)(H:ty.elem=some (q,k))(I:0<k)(E:G.zero.length=k)(hlen:len*k<=16777216)(h0:0<len)(Z:eE s f.toList=some l)(X:nI (fun i=>some (i*k,k)) (qZ G.zero len) l=some cs):bO P o s ⟨.d (.leaf (.sl len cs)),none⟩:=by
 refine ar fun n S0 w0 g a w N=>?_;obtain⟨u,hu,_,C,_⟩:=W.und;obtain⟨rfl,J⟩:=C q k H;obtain⟨z,hz,F⟩:=U.zero;have m:z.cells.size=k:=by have:=(F (Own S0 g s) w).1;simp at this;omega
 have R:0<len*k:=Nat.mul_pos h0 I;have D:CM (Own S0 g s) w (qZ G.zero len) ((Array.range (len*k)).map (fun i=>z.cells[i%z.cells.size]!)).toList:=by
  refine⟨by rw[ls,E];simp,fun i b v r B=>?_⟩;rw[rY _ O_]at r;split at r
  ·rename_i A;rw[E]at r A;have Q:i%k<k:=Nat.mod_lt _ I;have hv:v=z.cells[i%k]'(by omega):=by simp[A,m]at B;rw[<- B];simp[m,Q]
   exact(F _ w).2 (i%k) b v r (by rw[hv];simp[m,Q])
  ·cases r
 obtain⟨j,r,B⟩:=rG l _ _ _ cs D (nt N f.toList l Z) X;have e:(f.map fun x=>match x with|(i,y)=>(i,a.eval y)).toList=f.toList.map fun(p:Nat × Operand)=>(p.1,a.eval p.2):=S_;have O:Below w.heap.size w (w.alloc (.cells j q)):=(Below.refl _ _).alloc (l_ _) _;refine⟨.slice (some ⟨w.heap.size,0,none⟩) len len,w.alloc (.cells j q),?_,O,?_⟩
 ·unfold execOp;rw[Y];simp only[Instr.buildSlice,Y_,run_underlying hu w,R_,b5 J w];rw[if_neg O_,if_neg O_];simp only[Y_,jk hz w,R_,a_,e,r];rfl
 ·have L:len<=9223372036854775807:=by have:=Nat.le_mul_of_pos_right len I;omega
  have hsz:=B.1;simp only[Array.length_toList]at hsz;refine AV.M.sl (fun i=>j.getD i undef) (l_ _) L ?_ (by show w.heap.size<(w.heap.push _).size;simp) (fun i c A=>?_) (fun i c A=>?_)
  ·intro V;exact absurd (N.own_lt V) (Nat.lt_irrefl _)
  ·have:i<j.size:=by rw[<- hsz];exact(G_.1 A).1
   have S:(w.alloc (.cells j q)).heap[w.heap.size]? =some (.cells j q (0,0)):=heap_alloc_new w _;rw[J_,fy S];simp[this]
  ·have:i<j.size:=by rw[<- hsz];exact(G_.1 A).1
   exact(B.2 i c _ A (by simp[this])).agree (.of_below O) (fun _ _ h=>h)
def sj:Sem Value->Option Value
 | .pure v=>some v
 |_=>none
def nT{m:Sem Value}{v:Value}(h:sj m=some v):m= .pure v:=by
 unfold sj at h;split at h
 ·cases h;rfl
 ·cases h
def mI(op:BinOp)(t:TypeId)(x y:Operand):Value->Value->Option Value
 | .int k a, .int c b=>sj (do eqGuard op t x y (.int k a) (.int c b);binOp op t (.int k a) (.int c b))
 | .string a, .string b=>sj (do eqGuard op t x y (.string a) (.string b);binOp op t (.string a) (.string b))
 |_,_=>none
def z8{o:Oper}{op:BinOp}{t j:TypeId}{x y:Operand}{u v r:Value}(f:o.op= .binOp op t x y j)(h:s.ev x= .d (.leaf (.val u)))(i:s.ev y= .d (.leaf (.val v)))(b:mI op t x y u v=some r)(e:r.oneCell'=true):bO P o s ⟨.d (.leaf (.val r)),none⟩:=by
 refine ar fun n S0 w0 g a w c=>⟨r,w,?_,Below.refl _ _,AV.M.val e⟩;unfold execOp;rw[f];simp only[bn c h,bn c i];unfold mI at b;split at b
 ·have:=nT b;simp only[this];rfl
 ·have:=nT b;simp only[this];rfl
 ·cases b
def Vq:BinOp->Bool->Bool->Option Bool
 | .eql,a,b=>some (a == b)
 | .neq,a,b=>some (!(a == b))
 |_,_,_=>none
def ue{t:TypeId}(c:P.underlying t=some .bool)(a b:Bool)(w:World):(Op.equal t (.bool a) (.bool b)).run P w= .ok (a == b) w:=by
 have h:∀d,(Op.equalIn (d+1) t (.bool a) (.bool b)).run P w= .ok (a == b) w:=by intro d;rw[Op.equalIn];simp only[Y_,run_underlying c w,R_,a_]
 exact h 9999
def xR{o:Oper}{op:BinOp}{t m:TypeId}{ty:Ty}{x y:Operand}{u v r:Bool}(f:bl P t ty)(h:ty.isBool=true)(i:o.op= .binOp op t x y m)(j:s.ev x= .d (.leaf (.val (.bool u))))(l:s.ev y= .d (.leaf (.val (.bool v))))(hr:Vq op u v=some r):bO P o s ⟨.d (.leaf (.val (.bool r))),none⟩:=by
 obtain⟨d,hu,_,_,_,c,_⟩:=f.und;obtain rfl:=c h;refine ar fun n S0 w0 g a w b=>⟨.bool r,w,?_,Below.refl _ _,AV.M.val rfl⟩;unfold execOp;rw[i];simp only[bn b j,bn b l];cases op<;>simp only[Vq,reduceCtorEq,X_]at hr
 ·exact Tz
 ·exact Tz
def Bx{o:Oper}{op:UnOp}{t:TypeId}{x:Operand}{u r:Value}(e:o.op= .unOp op t x)(h:s.ev x= .d (.leaf (.val u)))(f:sj (Op.unary op u)=some r)(b:r.oneCell'=true):bO P o s ⟨.d (.leaf (.val r)),none⟩:=by refine ar fun n S0 w0 g a w c=>⟨r,w,?_,Below.refl _ _,AV.M.val b⟩;unfold execOp;rw[e];simp only[bn c h,nT f];rfl
def so{o:Oper}{t:TypeId}{ty:Ty}{x:Operand}{ts:Array TypeId}{k:Nat}{cs:List AV}(m:bl P t ty)(b:ty.elem.isSome=true)(q:o.op= .call ⟨.builtin .len,#[x],ts⟩)(i:ts[0]? =some t)(u:s.ev x= .d (.leaf (.sl k cs))):bO P o s ⟨.d (.leaf (.val (.int .i64 k))),none⟩:=by
 obtain⟨d,r,_,f,_⟩:=m.und;cases he:ty.elem with
 |none=>rw[he]at b;cases b
 |some p=>
  obtain⟨j,v⟩:=p;obtain⟨rfl,_⟩:=f j v he;refine ar fun n S0 w0 g a w l=>⟨.int .i64 k,w,?_,Below.refl _ _,AV.M.val rfl⟩;have h:=l.ev x;rw[u]at h;unfold execOp;rw[q];cases hv:a.eval x with
  |slice A y c=>
   rw[hv]at h;have e:y=k:=by cases(show AV.M _ _ _ _ from h)<;>rfl
   subst e;simp[resolve,invoke,builtin,Builtin.len_,i,hv,Y_,run_underlying r w,goInt]
  |_=>rw[hv]at h;cases(show AV.M _ _ _ _ from h)
def xT{o:Oper}{t:TypeId}{x:Operand}{ts:Array TypeId}{b:ByteArray}(h:P.underlying t=some .string)(f:o.op= .call ⟨.builtin .len,#[x],ts⟩)(c:ts[0]? =some t)(i:s.ev x= .d (.leaf (.val (.string b)))):bO P o s ⟨.d (.leaf (.val (.int .i64 b.size))),none⟩:=by refine ar fun n S0 w0 g a w e=>⟨.int .i64 b.size,w,?_,Below.refl _ _,AV.M.val rfl⟩;unfold execOp;rw[f];simp[resolve,invoke,builtin,Builtin.len_,c,bn e i,Y_,run_underlying h w,goInt]
def uQ{o:Oper}{t f:TypeId}{ty:Ty}{x:Operand}{k b:IntKind}{i:Int}(j:bl P f ty)(l:ty.ik=some b)(c:(P.underlying t).isSome=true)(m:o.op= .convert t f x)(q:s.ev x= .d (.leaf (.val (.int k i)))):bO P o s ⟨.d (.leaf (.val (.int b (b.wrap i)))),none⟩:=by obtain⟨d,p,_,_,_,_,_,e,_⟩:=j.und;obtain rfl:=e b l;refine ar fun n S0 w0 g a w h=>⟨.int b (b.wrap i),w,?_,Below.refl _ _,AV.M.val rfl⟩;obtain⟨r,h0⟩:=Option.isSome_iff_exists.1 c;unfold execOp;rw[m];simp only[bn h q,convert,Y_,run_underlying h0 w,run_underlying p w,R_,Conv.intToInt];rfl
def q8{o:Oper}{t:TypeId}{ty:Ty}{x y:Operand}{z k m i:Nat}{ik:IntKind}{cs cs':List AV}(H:bl P t ty)(r:ty.elem=some (z,k))(I:o.op= .indexAddr t x y)(L:s.ev x= .d (.leaf (.sl m cs)))(N:s.ev y= .d (.leaf (.val (.int ik (i:Nat)))))(R:i<m)(p:∀(q:Nat)(a:AV),cs'[q]? =some a->cs[i*k+q]? =some a)(h0:0<cs'.length):bO P o s ⟨.rp cs',none⟩:=by
 obtain⟨d,J,_,e,_⟩:=H.und;obtain⟨rfl,u⟩:=e z k r;refine ar fun n S0 w0 g a w B=>?_;have h:=B.ev x;rw[L]at h;have j:0<cs.length:=by have:=p 0 cs'[0] S_;have:=(G_.1 this).1;omega
 cases hv:a.eval x with
 |slice A S c=>
  rw[hv]at h;cases(show AV.M _ _ _ _ from h)with
  |emp=>simp at j
  |sl f O Q D E F G=>
   rename_i b l;refine⟨.pointer (some ⟨b,l+i*k,none⟩),w,?_,Below.refl _ _,b,l+i*k,fun q=>f (i*k+q),rfl,D,E,fun q c v=>?_,fun q c v=>?_⟩
   ·unfold execOp;rw[I];simp only[hv,bn B N,Instr.indexAt,asIntOf,Y_,a_,run_underlying J w,R_];have C:(0:Int)<=i/\(i:Int)<m:=O_;simp only[C,and_self,if_true,Y_,b5 u w,R_,a_,bt,Int.toNat_natCast]
   ·rw[Nat.add_assoc];exact F (i*k+q) c (p q c v)
   ·exact G (i*k+q) c (p q c v)
 |_=>rw[hv]at h;cases(show AV.M _ _ _ _ from h)
def BQ{o:Oper}{t:TypeId}{ty:Ty}{x y:Operand}{j k m i e:Nat}{ik:IntKind}{cs:List AV}(u:bl P t ty)(f:ty.elem=some (e,k))(A:o.op= .indexAddr t x y)(C:s.ev x= .own j m k e)(v:s.bx j=some cs)(D:s.ev y= .d (.leaf (.val (.int ik (i:Nat)))))(E:i<m):bO P o s ⟨.box j (i*k),none⟩:=by obtain⟨d,B,_,b,_⟩:=u.und;obtain⟨rfl,l⟩:=b e k f;refine ar fun n S0 w0 g a w p=>?_;have h:=p.ev x;rw[C]at h;obtain⟨z,h⟩:=h;obtain⟨c,q,_⟩:=h cs v;refine⟨.pointer (some ⟨g j,0+i*k,none⟩),w,?_,Below.refl _ _,z,fun _ _=>by rw[J_]⟩;unfold execOp;rw[A];simp only[q,bn p D,Instr.indexAt,asIntOf,Y_,a_,run_underlying B w,R_];have r:(0:Int)<=i/\(i:Int)<m:=O_;simp only[r,and_self,if_true,Y_,b5 l w,R_,a_,bt,Int.toNat_natCast]
def xv{o:Oper}{t:TypeId}{ty:Ty}{x:Operand}{ts:Array TypeId}{j m k e:Nat}{cs:List AV}(hT:bl P t ty)(hel:ty.elem.isSome=true)(ho:o.op= .call ⟨.builtin .len,#[x],ts⟩)(hts:ts[0]? =some t)(hx:s.ev x= .own j m k e)(hj:s.bx j=some cs):bO P o s ⟨.d (.leaf (.val (.int .i64 m))),none⟩:=by exact VJ
def y4{o:Oper}{t:TypeId}{ty:Ty}{x:Operand}{ts:Array TypeId}{j y m f k e:Nat}{cs:List AV}(q:bl P t ty)(b:ty.elem.isSome=true)(ho:o.op= .call ⟨.builtin .len,#[x],ts⟩)(hts:ts[0]? =some t)(u:s.ev x= .vs j y m f k e)(r:s.bx j=some cs):bO P o s ⟨.d (.leaf (.val (.int .i64 m))),none⟩:=by
 obtain⟨d,hu,_,c,_⟩:=q.und;cases he:ty.elem with
 |none=>rw[he]at b;cases b
 |some p=>obtain⟨i,v⟩:=p;obtain⟨rfl,_⟩:=c i v he;refine ar fun n S0 w0 g a w l=>⟨.int .i64 m,w,?_,Below.refl _ _,AV.M.val rfl⟩;have h:=l.ev x;rw[u]at h;obtain⟨e1,_⟩:=h.2 cs r;exact Sw
def x5{o:Oper}{t:TypeId}{ty:Ty}{x:Operand}{ts:Array TypeId}{j b m k:Nat}{cs:List AV}(hT:bl P t ty)(hel:ty.elem.isSome=true)(ho:o.op= .call ⟨.builtin .len,#[x],ts⟩)(hts:ts[0]? =some t)(hx:s.ev x= .vw j b m k)(hj:s.bx j=some cs):bO P o s ⟨.d (.leaf (.val (.int .i64 m))),none⟩:=by exact VJ
def xP{o:Oper}{t:TypeId}{ty:Ty}{x:Operand}{ts:Array TypeId}(j:bl P t ty)(b:ty.elem.isSome=true)(ho:o.op= .call ⟨.builtin .len,#[x],ts⟩)(hts:ts[0]? =some t)(l:s.ev x= .nil):bO P o s ⟨.d (.leaf (.val (.int .i64 0))),none⟩:=by
 obtain⟨d,hu,_,c,_⟩:=j.und;cases he:ty.elem with
 |none=>rw[he]at b;cases b
 |some p=>obtain⟨f,m⟩:=p;obtain⟨rfl,_⟩:=c f m he;refine ar fun n S0 w0 g a w i=>⟨.int .i64 0,w,?_,Below.refl _ _,AV.M.val rfl⟩;have h:=i.ev x;rw[l]at h;have e1:a.eval x= .slice none 0 0:=h;exact Sw
inductive gm (s:AS) (x:Operand) (m k e:Nat):Option Nat->List AV->Prop
 |nil:s.ev x= .nil->m=0->gm s x m k e none []
 |own {j:Nat} {cs:List AV}:s.ev x= .own j m k e->s.bx j=some cs->gm s x m k e (some j) cs
def my:Option Nat->Bool
 |some j=>!(cL j)
 |none=>true
def pj{P:Program}{w:World}(t ty:TypeId)(E:Nat)(e:TypeId)(i:TypeInfo)(z:Value)(A J:Nat)(ht:P.underlying t=some (.slice e))(hi:P.info? e=some i)(hz:i.zero=some z)(Y:i.size=A)(hby:i.bytes=J)(bk:z.cells.size=A)(hsz:0<A)(v:Value)(n:Nat)(xs:List Value)(y:w.ownsRow E e A v n xs)(ad:Addr)(m c:Nat)(d:List Value)(hl:d.length=m*A)(C:∀j u,d[j]? =some u->w.cell? (ad.add j)=some u)(h1:∀u∈d,u.oneCell'=true)(hm:0<m)(al:n+m<=maxLen)(F:(n+m)*J<=140737488355328)(V:E<=w.heap.size)(H:Nat)(hH:w.heap.size=H):
 ∃g x w',(Builtin.append_ #[t,t] ty #[v, .slice (some ad) m c]).run P w= .ok (.slice (some ⟨g,0,none⟩) (n+m) x) w' /\
  w'.ownsRow E e A (.slice (some ⟨g,0,none⟩) (n+m) x) (n+m) (xs++d)/\w.grownBy w' v.ownBlock/\(v.ownBlock=some g∨g=H)/\g<w'.heap.size /\
  (v.ownBlock≠some g-> ∀b,b<w.heap.size->w'.heap[b]? =w.heap[b]?) /\
  (∀B,v.ownBlock=some g->w.heap[g]? =some (.cells B e (0,0))-> ∀f,w'.heap[g]? =some (.cells f e (0,0))->f.size=B.size/\True) /\
  (∀(p:Value->Prop),(∀u∈z.cells.toList,p u)->(∀u∈d,p u)->(∀b,v.ownBlock=some b-> ∀B,w.heap[b]? =some (.cells B e (0,0))-> ∀u∈B.toList,p u)-> ∀f,w'.heap[g]? =some (.cells f e (0,0))-> ∀u∈f.toList,p u):=by
 subst Y;subst hby;subst hH;have a4:n+m<=9223372036854775807:=by simp only[maxLen]at al;omega
 have hlen:(xs++d).length=(n+m)*i.size:=by rw[L_,y.1,hl,Nat.add_mul]
 have pz:∀(p:Value->Prop)k,(∀u∈z.cells.toList,p u)-> ∀u∈(Builtin.zeroCells z.cells k).toList,p u:=by intro p k hp u r;obtain⟨q,hq⟩:=W_ r;have bj:=(G_.1 hq);obtain⟨be,a2⟩:=bj;simp only[Builtin.zeroCells]at a2 be;rw[<- a2];simp only[Array.getElem_toList,Array.getElem_map,Array.getElem_range];have a1:q%z.cells.size<z.cells.size:=Nat.mod_lt _ O_;rw[getElem!_pos z.cells _ a1];exact hp _ S_
 have N:∀(l:Nat),l<n+m-> ∀(a3:Option Nat),
  (w.drew.alloc (.cells (xs.toArray++d.toArray++Builtin.zeroCells z.cells (grownCap w (n+m) l e-(n+m))) e)).ownsRow E e i.size
   (.slice (some ⟨w.heap.size,0,none⟩) (n+m) (grownCap w (n+m) l e)) (n+m) (xs++d) /\
  w.grownBy (w.drew.alloc (.cells (xs.toArray++d.toArray++Builtin.zeroCells z.cells (grownCap w (n+m) l e-(n+m))) e)) a3:=by
  intro l ho a3;have bb:=grownCap_ge w (n+m) l e;have W:grownCap w (n+m) l e<=maxLen:=grownCap_le_maxLen w (n+m) l e al;refine⟨⟨hlen, .inr ⟨w.heap.size,_,_,rfl,V,heap_alloc_new w.drew _,bb,W,?_,?_⟩⟩,⟨rfl,rfl,rfl,by simp,fun k hk _=>Below.heap_alloc w.drew _ k hk⟩⟩
  ·simp only[Array.size_append,List.size_toArray,size_zeroCells,bk,y.1,hl,<- Nat.add_mul];congr 1;omega
  ·simp only[Array.toList_append,e_];rw[<- e_,<- hlen];exact List.take_left
 have L:∀(l:Nat)(p:Value->Prop),(∀u∈z.cells.toList,p u)->(∀u∈d,p u)->(∀u∈xs,p u)-> ∀f,(w.drew.alloc (.cells (xs.toArray++d.toArray++Builtin.zeroCells z.cells (grownCap w (n+m) l e-(n+m))) e)).heap[w.heap.size]? =some (.cells f e (0,0))-> ∀u∈f.toList,p u:=by
  intro l p h2 U h4 f Q u r;have h5:=heap_alloc_new w.drew (.cells (xs.toArray++d.toArray++Builtin.zeroCells z.cells (grownCap w (n+m) l e-(n+m))) e);have h6:(w.drew.alloc (.cells (xs.toArray++d.toArray++Builtin.zeroCells z.cells (grownCap w (n+m) l e-(n+m))) e)).heap[w.heap.size]? =some (.cells (xs.toArray++d.toArray++Builtin.zeroCells z.cells (grownCap w (n+m) l e-(n+m))) e (0,0)):=h5;rw[h6]at Q;simp only[X_,Obj.cells.injEq]at Q;rw[<- Q.1]at r;simp only[Array.toList_append,List.mem_append]at r;rcases r with(r|r)|r
  ·exact h4 u (by simpa using r)
  ·exact U u (by simpa using r)
  ·exact pz p _ h2 u r
 rcases y.2 with⟨rfl,rfl⟩| ⟨g,x,f,rfl,a5,Z,bo,W,a9,R⟩
 ·have hx:xs=[]:=E_ (by simpa using y.1);subst hx;have hr:=run_append_nil (P:=P) w t ty e i z ht hi hz ad m c d hl C O_ O_ (by have hb:=F;simp only[J_]at hb;omega);have I:=N 0 O_ (Value.ownBlock (.slice none 0 0));have a0:=L 0;simp only[J_,List.nil_append,Array.empty_append]at I a0 ⊢;refine⟨_,_,_,hr,I.1,I.2,Or.inr rfl,?_,fun _ b hb=>Below.heap_alloc w.drew _ b hb,fun _ h=>by simp[Value.ownBlock]at h,fun p h2 U _=>a0 p h2 U (fun u r=>by cases r)⟩;show w.heap.size<(w.heap.push _).size;simp
 ·by_cases D:n+m<=x
  ·have ao:n*i.size+d.length<=f.size:=by rw[hl,a9,<- Nat.add_mul];exact P_ _ D
   have hr:=run_append_room (P:=P) w t ty e i ht hi g n x f Z ad m c d hl C h1 D ao;have G:=setRow_heap w g f (f.toList.take (n*i.size)++d++f.toList.drop (n*i.size+d.length)).toArray e (0,0) Z;refine⟨g,x,_,hr,⟨hlen, .inr ⟨g,x,_,rfl,a5,G,D,W,?_,?_⟩⟩,⟨rfl,rfl,rfl,by simp,fun k _ hk=>setRow_other w g k _ (fun e=>hk (by simp[Value.ownBlock,e]))⟩,Or.inl rfl,?_,fun h=>absurd rfl h,?_,?_⟩
   ·exact TU
   ·rw[R,<- hlen];exact List.take_left
   ·have:=(A_.1 G).1;exact this
   ·intro B _ O ag Q;rw[G]at Q;rw[Z]at O;simp only[X_,Obj.cells.injEq]at Q O;rw[<- Q.1,<- O.1];refine⟨?_,trivial⟩;exact TU
   ·intro p _ U h4 ag Q u r;rw[G]at Q;simp only[X_,Obj.cells.injEq]at Q;rw[<- Q.1]at r;simp only[List.mem_append]at r;have S:=h4 g rfl f Z;rcases r with(r|r)|r
    ·exact S u (List.mem_of_mem_take r)
    ·exact U u r
    ·exact S u (List.mem_of_mem_drop r)
  ·have X:∀j u,xs[j]? =some u->w.cell? ((⟨g,0,none⟩:Addr).add j)=some u:=y.cells (g:=g) rfl;have hr:=run_append_grow (P:=P) w t ty e i z ht hi hz ⟨g,0,none⟩ n x xs y.1 X ad m c d hl C O_ O_ (growslice_fits O_ F);have I:=N x O_ (Value.ownBlock (.slice (some ⟨g,0,none⟩) n x));have bm:g<w.heap.size:=(A_.1 Z).1;refine⟨_,_,_,hr,I.1,I.2,Or.inr rfl,?_,fun _ b hb=>Below.heap_alloc w.drew _ b hb,fun B h=>?_,fun p h2 U h4=>L x p h2 U (fun u r=>h4 g rfl f Z u ?_)⟩
   ·show w.heap.size<(w.heap.push _).size;simp
   ·simp only[Value.ownBlock,X_]at h;omega
   ·rw[<- R]at r;exact List.mem_of_mem_take r
def s9{x:Operand}{m1 k m:Nat}{dead:Option Nat}{cs:List AV}(B:MG n S0 w0 g s a w)(h:gm s x m1 k m dead cs):∃v,a.eval x=v/\ ∃f,w.ownsRow 0 m k v m1 f/\(∀b,v.ownBlock=some b-> ∃j,dead=some j/\b=g j)/\(∀j,dead=some j->v.ownBlock=some (g j)/\ ∃d,w.heap[g j]? =some (.cells d m (0,0))/\(cL j=false-> ∀u∈d.toList,iV u=true))/\CM (Own S0 g s) w (cs.take (m1*k)) f:=by
 have e:=B.ev x;cases h with
 |nil h0 i=>rw[h0]at e;subst i;have e:a.eval x= .slice none 0 0:=e;exact⟨_,e,[],World.ownsRow_nil _ _ _ _,fun b p=>by simp[Value.ownBlock]at p,fun j I=>(by cases I),by simpa using CM.nil _ _⟩
 |own h0 i=>
  rename_i j;rw[h0]at e;obtain⟨c,C,D,E,F,d,l,G⟩:=e.2 cs i;obtain⟨_,y,J,z,A,H,_⟩:=B.bm j cs i;rw[l]at z;cases z;have t:=A.1;have q:CM (Own S0 g s) w (cs.take (m1*k)) (d.toList.take (m1*k)):=by have:=A.cm.take (m1*k);rwa[List.take_take,Nat.min_eq_left F]at this
  refine⟨_,C,d.toList.take (m1*k),⟨by simp at t ⊢;omega, .inr ⟨g j,c,d,rfl,Nat.zero_le _,l,D,by unfold maxLen;exact E,G,rfl⟩⟩,fun b p=>⟨j,rfl,by simpa[Value.ownBlock]using p.symm⟩,fun L r=>by cases r;exact⟨rfl,d,l,H⟩,q⟩
def sQ(hM:MG n S0 w0 g s a w){d:Nat}(Z:d<n){x:Operand}{r k m1 m2 j':Nat}{dead:Option Nat}{cs xs:List AV}(G:gm s x m1 k r dead cs)(a0:xs.length=m2*k)(hnew:ak s.b j'=none/\iO j'=false)(ag:cX j'=false){v:Value}{l D:List Value}(S:w.ownsRow 0 r k v m1 l)(A:∀b,v.ownBlock=some b-> ∃j,dead=some j/\b=g j)(Q:∀j,dead=some j->v.ownBlock=some (g j)/\ ∃arr,w.heap[g j]? =some (.cells arr r (0,0))/\(cL j=false-> ∀u∈arr.toList,iV u=true))(h:CM (Own S0 g s) w (cs.take (m1*k)) l)(R:CM (Own S0 g s) w xs D){B cap:Nat}{w':World}(I:w'.ownsRow 0 r k (.slice (some ⟨B,0,none⟩) (m1+m2) cap) (m1+m2) (l++D))(N:w.grownBy w' v.ownBlock)(p:v.ownBlock=some B∨B=w.heap.size)(h5:v.ownBlock≠some B-> ∀b,b<w.heap.size->w'.heap[b]? =w.heap[b]?)(h6:∀arr,v.ownBlock=some B->w.heap[B]? =some (.cells arr r (0,0))-> ∀f,w'.heap[B]? =some (.cells f r (0,0))->f.size=arr.size)(h7:cL j'=false-> ∀f,w'.heap[B]? =some (.cells f r (0,0))-> ∀u∈f.toList,iV u=true):
 MG n S0 w0 (fun i=>if i=j' then B else g i) ⟨(d, .own j' (m1+m2) k r)::s.t,(j',some (cs.take (m1*k)++xs))::jl dead s.b⟩ (a.put (some d) (.slice (some ⟨B,0,none⟩) (m1+m2) cap)) w':=by
 obtain⟨a3,I⟩:=I;rcases I with⟨I,_⟩| ⟨g2,a2,f,L,_,z,V,J,W,F⟩
 ·cases I
 ·simp only[Value.slice.injEq,X_,Addr.mk.injEq]at L;obtain⟨⟨rfl,_⟩,_,rfl⟩:=L;have Y:jO (Own S0 g s) w (cs.take (m1*k)++xs) f.toList:=by
   have H:=h.append R;have hl:=H.1;rw[<- F]at H;refine⟨by rw[hl,<- F];simp;omega,fun q x u hq hu=>H.2 q x u hq ?_⟩;rw[List.getElem?_take,if_pos]
   ·exact hu
   ·have O:=(G_.1 hq).1;rw[hl,<- F,U_]at O;omega
  have hlen:(cs.take (m1*k)++xs).length=(m1+m2)*k:=by rw[L_,a0,Nat.add_mul];have:=h.1;have:=S.1;omega
  have ad:∀j,dead=some j-> ∃cj,s.bx j=some cj:=fun j C=>by cases G with
   |nil=>cases C
   |own _ h1=>cases C;exact⟨cs,h1⟩
  exact hM.append Z hnew.1 hnew.2 ag (dead:=dead) (B:=B) (arr:=f) (e:=r) (m:=m1+m2) (k:=k) (c:=cap) ad N.size ⟨N.os,N.tape,N.output⟩ (fun b hb al=>N.block b hb (fun e=>by obtain⟨j,C,U⟩:=A b e.symm;exact al j C U))
   (fun j C a1 e1 O=>by
    obtain⟨E,arr,y,_⟩:=Q j C;rw[y]at O;simp only[X_,Obj.cells.injEq]at O;obtain⟨rfl,rfl,_⟩:=O;by_cases X:B=g j
    ·subst X;exact⟨f,z,h6 arr E y f z⟩
    ·refine⟨arr,?_,rfl⟩;rcases p with p|p
     ·rw[E]at p;exact absurd (Option.some.inj p).symm X
     ·exact(h5 (by rw[E];simpa using fun e=>X e.symm) (g j) (A_.1 y).1).trans y)
   z (fun ao=>h7 ao f z)
   (by
    rcases p with p|p
    ·obtain⟨j,C,U⟩:=A B p;exact .inl ⟨j,C,U⟩
    ·exact .inr (Nat.le_of_eq p.symm)) Y V (by unfold maxLen at J;exact J) (by rw[hlen];exact l_ _) W
def Iv(S:Nat->Prop)(w:World)(v:Value)(m2 k:Nat)(xs:List AV):Prop:=∃(c:Addr)(d:Nat)(b:List Value),v= .slice (some c) m2 d/\b.length=m2*k/\(∀j u,b[j]? =some u->w.cell? (c.add j)=some u)/\CM S w xs b
def Lk{S:Nat->Prop}{w:World}{v:Value}{m2 k:Nat}{xs:List AV}(l:AV.M S w (.sl m2 xs) v)(i:xs.length=m2*k)(e:0<xs.length):Iv S w v m2 k xs:=by
 cases l with
 |emp=>simp at e
 |sl f y z A B r t=>
  rename_i b m c;refine⟨⟨b,m,none⟩,c,(List.range xs.length).map f,rfl,by simp[i],fun j u h=>?_,by simp,fun j x v q p=>?_⟩
  ·have d:j<xs.length:=by have:=(G_.1 h).1;simpa using this
   have:u=f j:=by simp[d]at h;exact h.symm
   rw[bt,this];exact r j xs[j] S_
  ·have d:j<xs.length:=(G_.1 q).1;have:v=f j:=by simp[d]at p;exact p.symm
   rw[this];exact t j x q
def As{o:Oper}{d:Nat}{x y:Operand}{t h k m1 m2 j':Nat}{ty H:Ty}{dead:Option Nat}{cs xs:List AV}(hT:bl P t ty)(X:bl P h H)(ho:o.op= .call ⟨.builtin .append,#[x,y],#[t,t]⟩)(hd:o.dst=some d)(ag:ty.elem=some (h,k))(hk:H.size=k)(a1:0<k)(e:gm s x m1 k h dead cs)(a9:xs.length=m2*k)(hm:0<m2)(Y:(m1+m2)*H.bytes<=140737488355328)(bp:m1+m2<=9223372036854775807)(hnew:ak s.b j'=none/\iO j'=false)(a2:cX j'=false)(c:cL j'=true∨(ir H.zero && ir xs && my dead)=true){n:Nat}{S0:Nat->Prop}{w0:fw}{g:Nat->Nat}{a:Act}{w:World}{K:Act->World->Prop}{Q:Exit->Act->World->Prop}(hM:MG n S0 w0 g s a w)(a5:Iv (Own S0 g s) w (a.eval y) m2 k xs)(Z:d<n)(hK:∀g' a' w',MG n S0 w0 g' ⟨(d, .own j' (m1+m2) k h)::s.t,(j',some (cs.take (m1*k)++xs))::jl dead s.b⟩ a' w'->K a' w'):o.wp P a w K Q:=by
 obtain⟨u,N,_,J,_⟩:=hT.und;obtain⟨rfl,L⟩:=J h k ag;obtain⟨z,U,R⟩:=X.zero;obtain⟨i,hi,a0,ao,al⟩:∃i,P.info? h=some i/\i.zero=some z/\i.size=k/\i.bytes=H.bytes:=by
  cases hq:P.info? h with
  |none=>rw[hq]at U;cases U
  |some i=>rw[hq]at U L;have h1:=X.bytes;rw[hq]at h1;exact⟨i,rfl,U,by simpa using L,by simpa using h1⟩
 obtain⟨ad,c2,C,be,a4,F,f⟩:=a5;obtain⟨v,bb,S,A,l,m,G⟩:=s9 hM e;have bk:z.cells.size=k:=by have:=(R (Own S0 g s) w).1;simp at this;have h2:=X.zlen;omega
 obtain⟨B,bo,w',hr,h2,h3,h4,_,h5,h6,h7⟩:=pj (P:=P) (w:=w) t o.type 0 h i z k H.bytes N hi a0 ao al bk a1 v m1 S A ad m2 c2 C a4 F f.plain hm (by unfold maxLen;omega) Y (Nat.zero_le _) w.heap.size rfl;have:=sQ hM Z e a9 hnew a2 A l m G f h2 h3 h4 h5 (fun I p q D r=>(h6 I p q D r).1) (fun O D hc u N=>by
  rcases c with c|c
  ·rw[c]at O;cases O
  ·simp only[B_]at c;have bj:∀u∈z.cells.toList,iV u=true:=pQ (R (Own S0 g s) w) c.1.1;have a3:∀u∈C,iV u=true:=pQ f c.1.2;refine h7 (fun u=>iV u=true) bj a3 (fun b Y I E u N=>?_) D hc u N;obtain⟨j,hj,rfl⟩:=l b Y;obtain⟨_,bm,V,W⟩:=m j hj;rw[V]at E;simp only[X_,Obj.cells.injEq]at E;obtain⟨rfl,_⟩:=E;have:=c.2;rw[hj]at this;exact W (by simpa[my]using this) u N)
 unfold Oper.wp execOp;simp only[ho,resolve,invoke,builtin,Y_,a_,R_,List.map_toArray,List.map_cons,List.map_nil,bb,be,hr];show K (a.put o.dst _) w';rw[hd];exact hK _ _ _ this
def jM{o:Oper}{d:Nat}{x y:Operand}{t i k m1 m2 j':Nat}{ty j:Ty}{dead:Option Nat}{cs xs:List AV}(D:bl P t ty)(B:bl P i j)(H:o.op= .call ⟨.builtin .append,#[x,y],#[t,t]⟩)(F:o.dst=some d)(p:ty.elem=some (i,k))(G:j.size=k)(f:0<k)(c:gm s x m1 k i dead cs)(I:s.ev y= .d (.leaf (.sl m2 xs)))(e:xs.length=m2*k)(z:0<m2)(E:(m1+m2)*j.bytes<=140737488355328)(l:m1+m2<=9223372036854775807)(hnew:ak s.b j'=none/\iO j'=false)(q:cX j'=false)(r:cL j'=true∨(ir j.zero && ir xs && my dead)=true){n:Nat}{S0:Nat->Prop}{w0:fw}{g:Nat->Nat}{a:Act}{w:World}{K:Act->World->Prop}{Q:Exit->Act->World->Prop}(v:MG n S0 w0 g s a w)(m:d<n)(C:∀A u w',MG n S0 w0 A ⟨(d, .own j' (m1+m2) k i)::s.t,(j',some (cs.take (m1*k)++xs))::jl dead s.b⟩ u w'->K u w'):o.wp P a w K Q:=by have h:=v.ev y;rw[I]at h;exact As D B H F p G f c e z E l hnew q r v (Lk h e (by rw[e];exact Nat.mul_pos z f)) m C
def Pe:TV->Value
 | .d (.leaf (.val v))=>v
 |_=>undef
def BZ{o:Oper}{r:Value}(b:∀x∈o.op.operands.toList,∃v,s.ev x= .d (.leaf (.val v)))(f:∀(ρ:Operand->Value)(w:World),(∀x∈o.op.operands.toList,ρ x=Pe (s.ev x))->(execOp ρ o).run P w= .ok (.value r) w)(c:r.oneCell'=true):bO P o s ⟨.d (.leaf (.val r)),none⟩:=by refine ar fun n S0 w0 g a w e=>⟨r,w,f _ _ (fun x h=>?_),Below.refl _ _,AV.M.val c⟩;obtain⟨v,b⟩:=b x h;rw[bn e b,b];rfl
end
inductive RV where
 |one (d:DV)
 |tup (l:List DV)
def RV.tv:RV->TV
 | .one d=> .d d
 | .tup l=> .tup l
def RV.M(S:Nat->Prop)(w:World):RV->Value->Prop
 | .one d,v=>DV.M S w d v
 | .tup c,v=>∃b:List Value,v= .tuple b.toArray/\c.length=b.length/\ ∀(i:Nat)(x:DV)(u:Value),c[i]? =some x->b[i]? =some u->DV.M S w x u
def VM(S:Nat->Prop)(w:World):List DV->List Value->Prop
 | [],[]=>True
 |d::b,v::c=>DV.M S w d v/\VM S w b c
 |_,_=>False
structure db (S:Nat->Prop) (w:World):Prop where
 tab:lX w
 blk:∀b,S b->b<w.heap.size/\ ∀off v,w.cell? ⟨b,off,none⟩=some v->iV v=true
 gl:∀k cs,ak GT k=some cs->TV.M S (fun _=>0) ⟨[],[]⟩ w (.rp cs) (.pointer (some ⟨k,0,none⟩))
def FA(S:Nat->Prop)(r:RV)(w:World)(e:Ending)(w':World):Prop:=∃v,e= .returned v/\RV.M S w' r v/\Below w.heap.size w w'
structure aa (P:Program) (f:FuncId) (ds:List DV) (r:RV):Prop where
 enter:∀args w,(callFunc f args).run P w= .ok (.enter f args) w
 calls:∀S w vs,db S w->VM S w ds vs->Calls P f vs.toArray w (FA S r w)
def HY(s:AS):List Operand->Option (List DV)
 | []=>some []
 |x::r=>match JN (s.ev x),HY s r with
  |some dv,some l=>some (dv::l)
  |_,_=>none
section
variable {P:Program}{n:Nat}{S0:Nat->Prop}{w0:fw}{g:Nat->Nat}{s s':AS}{a:Act}{w w':World}
def N2(b:MG n S0 w0 g s a w):∀(r:List Operand)(l:List DV),HY s r=some l->VM (Own S0 g s) w l (r.map a.eval)
 | [],l,h=>by cases h;trivial
 |x::r,l,h=>by
  simp only[HY]at h;split at h
  ·rename_i dv e c d;cases h;exact⟨zI b c,N2 b r e d⟩
  ·cases h
def Cv{o:Oper}{f:Operand}{fid:FuncId}{args:Array Operand}{ts:Array TypeId}{ds:List DV}{r:RV}(t:o.op= .call ⟨.value f,args,ts⟩)(q:s.ev f= .d (.leaf (.val (.func (.func fid) #[] #[]))))(p:HY s args.toList=some ds)(m:aa P fid ds r)(h:j6 s):bO P o s ⟨r.tv,none⟩:=by
 intro n S0 w0 g a w K Q b i c;have u:=N2 b args.toList ds p;have hcall:=m.calls (Own S0 g s) w _ ⟨b.tg.here b.grow,b.clean h,b.gl⟩ u;have hrun:(execOp a.eval o).run P w= .ok (.enter fid (args.map a.eval)) w:=by unfold execOp;rw[t];simp only[resolve,bn b q,Deferred.ofValue,Y_,a_,R_,invoke];have:=m.enter (args.map a.eval) w;simpa using this
 unfold Oper.wp;rw[hrun];show Calls P fid _ w _;have e:(List.map a.eval args.toList).toArray=args.map a.eval:=Array.ext' S_;rw[e]at hcall;refine hcall.mono ?_;rintro z y ⟨v,rfl,j,l⟩;show K (a.put o.dst v) y;cases hod:o.dst with
 |none=>rw[hod]at c;exact c g _ _ (b.grow' l)
 |some d=>have:=b.put (i d hod) (x:=r.tv) (v:=v) l (by cases r<;>exact j);rw[hod]at c;exact c g _ _ this
end
def OZ:Operand->List Nat
 | .tmp k=>[k]
 |_=>[]
def wL(o:Oper):List Nat:=o.op.operands.toList.flatMap OZ
def jh(s:AS)(j:Nat):Bool:=match ak s.b j with
 |none=>!(iO j || cX j)
 |some _=>false
def js(s:AS):TV->Bool
 | .box j _=>match s.bx j with
  |some _=>true
  |none=>false
 |_=>true
def G7:TV->List Nat
 | .box j _=>[j]
 |_=>[]
def nD(s:AS):List Operand->Option (List CV)
 | []=>some []
 |x::r=>match s.ev x,nD s r with
  | .d (.leaf (.val v)),some l=>some (.val v::l)
  | .box j o,some l=>some (.box j o::l)
  |_,_=>none
def ns{n:Nat}{S0:Nat->Prop}{w0:fw}{s:AS}{g:Nat->Nat}{a:Act}{w:World}(e:MG n S0 w0 g s a w):∀{r:List Operand}{l:List CV},nD s r=some l->rd g s l (r.map a.eval)
 | [],l,h=>by cases h;trivial
 |x::r,l,h=>by
  have b:=e.ev x;simp only[nD]at h;split at h
  ·rename_i v f c d;cases h;rw[c]at b;exact⟨bc b,ns e d⟩
  ·rename_i j o f c d;cases h;rw[c]at b;exact⟨b,ns e d⟩
  ·cases h
def lq{s s':AS}:∀{r:List Operand},(∀x∈r,s'.ev x=s.ev x)->nD s' r=nD s r
 | [],_=>rfl
 |x::r,h=>by simp only[nD,h x S_,lq (r:=r) (fun y b=>h y (by simp[b]))]
def Ng(s:AS)(ty:Ty)(i off:Nat)(tv:TV):Option (ui × List Nat):=match JN tv,s.bx i with
 |some dv,some b=>match Nat.beq dv.cells.length ty.size,Nat.ble (off+ty.size) b.length,UQ i dv.cells with
  |true,true,true=>some (⟨.junk,some [(i,some (dJ b off dv.cells))]⟩,[i])
  |_,_,_=>none
 |_,_=>none
def Tc(s:AS)(ty:Ty)(i off:Nat)(tv:TV):Option (ui × List Nat):=match Bd s tv with
 |some (b,q)=>match s.bx i with
  |some c=>match Nat.beq ty.size 1,Nat.ble (off+1) c.length with
   |true,true=>some (⟨.junk,some [(i,some (dJ c off [b]))]⟩,i::q)
   |_,_=>none
  |none=>none
 |none=>Ng s ty i off tv
def Vo:Bool->Bool->List AV->Option TV
 |true,false,[.ow j n k e]=>some (.own j n k e)
 |true,false,[.bp j o]=>some (.box j o)
 |true,false,[.nl]=>some .nil
 |_,b,l=>match K0 b l with
  |some dv=>some (.d dv)
  |none=>none
def EK{lb c:Bool}{l:List AV}{tv:TV}(h:Vo lb c l=some tv):(∃dv,K0 c l=some dv/\tv= .d dv)∨(lb=true/\c=false/\ ∃b,l=[b]/\SX b=some tv):=by
 unfold Vo at h;split at h
 ·cases h;exact .inr ⟨rfl,rfl,_,rfl,rfl⟩
 ·cases h;exact .inr ⟨rfl,rfl,_,rfl,rfl⟩
 ·cases h;exact .inr ⟨rfl,rfl,_,rfl,rfl⟩
 ·split at h
  ·cases h;exact .inl ⟨_,by assumption,rfl⟩
  ·cases h
def fA(T:TypeId->Option Ty)(j:Nat)(s:AS)(o:Oper):Option (ui × List Nat):=
 match o.op with
 | .move x=>some (⟨s.ev x,none⟩,[])
 | .assign x=>some (⟨s.ev x,none⟩,[])
 | .pick c x y=>match s.ev c with
  | .d (.leaf (.val (.bool b)))=>some (⟨KP b (s.ev x) (s.ev y),none⟩,[])
  |_=>none
 | .alloc t=>match o.dst,T t with
  |some _,some e=>match jh s j,ir e.zero with
   |true,true=>some (⟨.box j 0,some [(j,some e.zero)]⟩,[j])
   |_,_=>none
  |_,_=>none
 | .box _ x=>match o.dst,JN (s.ev x)with
  |some _,some dv=>match jh s j,ir dv.cells with
   |true,true=>some (⟨.box j 0,some [(j,some dv.cells)]⟩,[j])
   |_,_=>none
  |_,_=>none
 | .load t x=>match T t,s.ev x with
  |some e, .box i h=>match s.bx i with
   |some q=>match Nat.ble (h+e.size) q.length,Vo (cX i) e.agg ((q.drop h).take e.size)with
    |true,some I=>some (⟨I,none⟩,[i])
    |_,_=>none
   |none=>none
  |some e, .rp q=>match Nat.ble e.size q.length,K0 e.agg (q.take e.size)with
   |true,some dv=>some (⟨.d dv,none⟩,[])
   |_,_=>none
  |_,_=>none
 | .store t x y=>match o.dst,T t,s.ev x with
  |none,some e, .box i h=>match cX i with
   |true=>Tc s e i h (s.ev y)
   |false=>Ng s e i h (s.ev y)
  |_,_,_=>none
 | .fieldAddr t x f=>match T t with
  |some e=>match e.flds[f]?,J8 (s.ev x),js s (s.ev x)with
   |some (h,_,_),true,true=>some (⟨PG (s.ev x) h,none⟩,G7 (s.ev x))
   |_,_,_=>none
  |none=>none
 | .extract x i=>match s.ev x with
  | .tup H=>match H[i]? with
   |some dv=>some (⟨.d dv,none⟩,[])
   |none=>none
  |_=>none
 | .field t x f=>match T t,s.ev x with
  |some e, .d (.agg q)=>match e.flds[f]? with
   |some (h,k,D)=>match Nat.ble (h+k) q.length,K0 D ((q.drop h).take k)with
    |true,some dv=>some (⟨.d dv,none⟩,[])
    |_,_=>none
   |none=>none
  |_,_=>none
 | .build t p=>match T t,eE s p.toList with
  |some e,some l=>match e.flds,nI (wP e) e.zero l with
   |_::_,some q=>some (⟨.d (.agg q),none⟩,[])
   |_,_=>none
  |_,_=>none
 | .buildSlice t z p=>match T t,eE s p.toList with
  |some e,some l=>match e.elem with
   |some (E,k)=>match T E with
    |some C=>match Nat.ble 1 k,Nat.beq C.zero.length k,Nat.ble (z*k) 16777216,Nat.ble 1 z,nI (fun i=>some (i*k,k)) (qZ C.zero z) l with
     |true,true,true,true,some q=>some (⟨.d (.leaf (.sl z q)),none⟩,[])
     |_,_,_,_,_=>none
    |none=>none
   |none=>none
  |_,_=>none
 | .binOp A t x y _=>match s.ev x,s.ev y with
  | .d (.leaf (.val u)), .d (.leaf (.val v))=>match mI A t x y u v with
   |some r=>match r.oneCell' with
    |true=>some (⟨.d (.leaf (.val r)),none⟩,[])
    |false=>none
   |none=>match u,v,T t with
    | .bool b, .bool c,some e=>match e.isBool,Vq A b c with
     |true,some r=>some (⟨.d (.leaf (.val (.bool r))),none⟩,[])
     |_,_=>none
    |_,_,_=>none
  |_,_=>none
 | .unOp A _ x=>match s.ev x with
  | .d (.leaf (.val u))=>match sj (Op.unary A u)with
   |some r=>match r.oneCell' with
    |true=>some (⟨.d (.leaf (.val r)),none⟩,[])
    |false=>none
   |none=>none
  |_=>none
 | .call ⟨.builtin .len,⟨[x]⟩,⟨t::_⟩⟩=>match T t,s.ev x with
  |some e, .d (.leaf (.sl k _))=>match e.elem with
   |some _=>some (⟨.d (.leaf (.val (.int .i64 k))),none⟩,[])
   |none=>none
  |some e, .d (.leaf (.val (.string b)))=>match e.isStr with
   |true=>some (⟨.d (.leaf (.val (.int .i64 b.size))),none⟩,[])
   |false=>none
  |some e, .own j m _ _=>match e.elem,s.bx j with
   |some _,some _=>some (⟨.d (.leaf (.val (.int .i64 m))),none⟩,[j])
   |_,_=>none
  |some e, .nil=>match e.elem with
   |some _=>some (⟨.d (.leaf (.val (.int .i64 0))),none⟩,[])
   |none=>none
  |some e, .vs j _ m _ _ _=>match e.elem,s.bx j with
   |some _,some _=>some (⟨.d (.leaf (.val (.int .i64 m))),none⟩,[j])
   |_,_=>none
  |some e, .vw j _ m _=>match e.elem,s.bx j with
   |some _,some _=>some (⟨.d (.leaf (.val (.int .i64 m))),none⟩,[j])
   |_,_=>none
  |_,_=>none
 | .convert t G x=>match T t,T G,s.ev x with
  |some _,some e, .d (.leaf (.val (.int _ i)))=>match e.ik with
   |some B=>some (⟨.d (.leaf (.val (.int B (B.wrap i)))),none⟩,[])
   |none=>none
  |_,_,_=>none
 | .nilCheck x=>match J8 (s.ev x),js s (s.ev x)with
  |true,true=>some (⟨s.ev x,none⟩,G7 (s.ev x))
  |_,_=>none
 | .makeFunc fn first captured=>match nD s first.toList,nD s captured.toList with
  |some F,some q=>some (⟨.clo fn F q,none⟩,[])
  |_,_=>none
 |_=>none
section
variable {P:Program}{T:TypeId->Option Ty}{s s':AS}
def dt{j:Nat}(h:jh s j=true):ak s.b j=none/\iO j=false:=by
 unfold jh at h;split at h
 ·simp at h;exact⟨by assumption,h.1⟩
 ·cases h
def oH{j:Nat}(h:jh s j=true):cX j=false:=by
 unfold jh at h;split at h
 ·simp at h;exact h.2
 ·cases h
def rg{j:Nat}(h:jh s j=true):im j=false:=by
 cases h1:im j
 ·rfl
 ·have:=oH h;rw[oC h1]at this;cases this
def Cg{tv:TV}{b:AV}{q:List Nat}(h:Bd s tv=some (b,q))(hq:∀i∈q,ak s'.b i=ak s.b i):Bd s' tv=some (b,q):=by
 unfold Bd at h ⊢;split at h
 ·rename_i j n k e0;exact Tq
 ·rename_i j o;exact Tq
 ·exact h
 ·cases h
def vC{ty:Ty}{i off:Nat}{tv:TV}{e:ui}{c:List Nat}(h:Ng s ty i off tv=some (e,c))(l:∀i∈c,ak s'.b i=ak s.b i):Ng s' ty i off tv=some (e,c):=by
 unfold Ng at h ⊢;split at h
 ·rename_i dv q p m;split at h
  ·rename_i d f j;cases h;have e:s'.bx i=s.bx i:=by unfold AS.bx;rw[l i S_]
   simp only[p,e,m,d,f,j]
  ·cases h
 ·cases h
def EX{ty:Ty}{i off:Nat}{tv:TV}{e:ui}{j:List Nat}(h:Tc s ty i off tv=some (e,j))(d:∀i∈j,ak s'.b i=ak s.b i):Tc s' ty i off tv=some (e,j):=by
 unfold Tc at h ⊢;split at h
 ·rename_i b q c;split at h
  ·rename_i l r;split at h
   ·rename_i m p;cases h;have e:s'.bx i=s.bx i:=by unfold AS.bx;rw[d i S_]
    simp only[Cg c (fun q u=>d q (by simp[u])),e,r,m,p]
   ·cases h
  ·cases h
 ·rename_i c;have t:Bd s' tv=none:=by
   unfold Ng at h;split at h
   ·rename_i dv l f _;cases tv<;>first|rfl|(have f:none=some dv:=f;cases f)|(have c:some (AV.nl,([]:List Nat))=none:=c;cases c)
   ·cases h
  simp only[t];exact vC h d
def zg(D:∀t d,T t=some d->bl P t d){j:Nat}{o:Oper}{e:ui}{rb:List Nat}(h:fA T j s o=some (e,rb)):bO P o s e:=by
 obtain⟨a3,op,a2,a1,N,O⟩:=o;unfold fA at h;split at h<;>rename_i hop
 case h_1=>cases h;exact tC (.inl hop)
 case h_2=>cases h;exact tC (.inr hop)
 case h_3=>
  split at h
  ·rename_i b E;cases h;exact Bm hop E
  ·cases h
 case h_4=>
  split at h
  ·rename_i d H R B;split at h
   ·rename_i C F;cases h;exact kx (D _ _ B) hop R (dt C) F (fun h=>by rw[rg C]at h;cases h)
   ·cases h
  ·cases h
 case h_5=>
  split at h
  ·rename_i d dv R A;split at h
   ·rename_i C F;cases h;exact FZ hop R (dt C) A F (rg C)
   ·cases h
  ·cases h
 case h_6=>
  split at h
  ·rename_i H i J B A;split at h
   ·rename_i I E;split at h
    ·rename_i tv C F;cases h;rcases EK F with⟨dv,Q,rfl⟩| ⟨Q,W,b,U,h6⟩
     ·exact r7 (D _ _ B) hop A E (N_ C) Q
     ·have hl:=N_ C;have hsz:H.size=1:=by have:=congrArg List.length U;simp at this;omega
      exact uT (D _ _ B) hop A E Q W hsz hl U h6
    ·cases h
   ·cases h
  ·rename_i H I B A;split at h
   ·rename_i dv C F;cases h;exact uR (D _ _ B) hop A (N_ C) F
   ·cases h
  ·cases h
 case h_7=>
  rename_i t x y;split at h
  ·rename_i H i J R B A;have hP:Ng s H i J (s.ev y)=some (e,rb)->bO P ⟨none, .store t x y,a2,a1,N,O⟩ s e:=fun h=>by
    unfold Ng at h;split at h
    ·rename_i dv I hy E;split at h
     ·rename_i C F Q;cases h;exact AD (D _ _ B) rfl rfl A E hy (Nat.eq_of_beq_eq_true C) (N_ F) Q
     ·cases h
    ·cases h
   subst hop R;split at h
   ·unfold Tc at h;split at h
    ·rename_i b q Y;split at h
     ·rename_i I E;split at h
      ·rename_i C F;cases h;exact ud (D _ _ B) rfl rfl A E Y (Nat.eq_of_beq_eq_true C) (N_ F)
      ·cases h
     ·cases h
    ·exact hP h
   ·exact hP h
  ·cases h
 case h_8=>
  split at h
  ·rename_i H B;split at h
   ·rename_i J k ag S G L;cases h;refine j3 (D _ _ B) hop S rfl G (fun j k' hj=>?_);rw[hj]at L;unfold js at L;split at L
    ·rename_i heq;cases heq;split at L
     ·rename_i I E;exact⟨I,E⟩
     ·cases L
    ·rename_i ad;exact absurd rfl (ad _ _)
   ·cases h
  ·cases h
 case h_9=>
  split at h
  ·rename_i ts A;split at h
   ·rename_i dv hi;cases h;exact uv hop A hi
   ·cases h
  ·cases h
 case h_10=>
  split at h
  ·rename_i H I B A;split at h
   ·rename_i J k ag S;split at h
    ·rename_i dv C F;cases h;exact Ar (D _ _ B) hop S A (N_ C) F
    ·cases h
   ·cases h
  ·cases h
 case h_11=>
  split at h
  ·rename_i H l B G;split at h
   ·rename_i p r I S C;cases h;exact qy (D _ _ B) hop (by rw[S];simp) G C
   ·cases h
  ·cases h
 case h_12=>
  split at h
  ·rename_i H l B G;split at h
   ·rename_i et k X;split at h
    ·rename_i te a0;split at h
     ·rename_i I C F Q W U;cases h;exact pU (D _ _ B) (D _ _ a0) hop X (N_ C) (Nat.eq_of_beq_eq_true F) (N_ Q) (N_ W) G U
     ·cases h
    ·cases h
   ·cases h
  ·cases h
 case h_13=>
  split at h
  ·rename_i u v A hy;split at h
   ·rename_i r hr;split at h
    ·rename_i C;cases h;exact z8 hop A hy hr C
    ·cases h
   ·split at h
    ·split at h
     ·cases h;exact xR (D _ _ (by assumption)) (by assumption) hop (by assumption) (by assumption) (by assumption)
     ·cases h
    ·cases h
  ·cases h
 case h_14=>
  split at h
  ·rename_i u A;split at h
   ·rename_i r hr;split at h
    ·rename_i C;cases h;exact Bx hop A hr C
    ·cases h
   ·cases h
  ·cases h
 case h_15=>
  split at h
  ·rename_i H k I B A;split at h
   ·rename_i p G;cases h;exact so (D _ _ B) (by rw[G];rfl) hop rfl A
   ·cases h
  ·rename_i H b B A;split at h
   ·rename_i hs;cases h;obtain⟨d,hu,_,_,_,_,al,_⟩:=(D _ _ B).und;exact xT (hu.trans (by rw[al hs])) hop rfl A
   ·cases h
  ·rename_i H j m k e B A;split at h
   ·rename_i p c G E;cases h;exact xv (D _ _ B) (by rw[G];rfl) hop rfl A E
   ·cases h
  ·rename_i H B A;split at h
   ·rename_i p G;cases h;exact xP (D _ _ B) (by rw[G];rfl) hop rfl A
   ·cases h
  ·rename_i H j o1 m c1 k e B A;split at h
   ·rename_i p c G E;cases h;exact y4 (D _ _ B) (by rw[G];rfl) hop rfl A E
   ·cases h
  ·rename_i H j o1 m k B A;split at h
   ·rename_i p c G E;cases h;exact x5 (D _ _ B) (by rw[G];rfl) hop rfl A E
   ·cases h
  ·cases h
 case h_16=>
  split at h
  ·rename_i a4 H k i ao B A;split at h
   ·rename_i k' hk;cases h;obtain⟨d,hu,_⟩:=(D _ _ ao).und;exact uQ (D _ _ B) hk (by rw[hu];rfl) hop A
   ·cases h
  ·cases h
 case h_17=>
  rename_i x;split at h
  ·rename_i G L;cases h;refine ar fun n S0 w0 g a w V=>?_;have Z:=V.ev x;unfold js at L;generalize A:s.ev x=tv at *;cases tv with
   |box j o=>
    dsimp only at L;split at L
    ·rename_i I E;have e:=Z.2 I E;refine⟨_,w,?_,Below.refl _ _,Z⟩;unfold execOp;rw[hop];simp only[e];rfl
    ·cases L
   |rp I=>obtain⟨b,J,f,e,C⟩:=Z;refine⟨_,w,?_,Below.refl _ _,⟨b,J,f,e,C⟩⟩;unfold execOp;rw[hop];simp only[e];rfl
   |_=>cases G
  ·cases h
 case h_18=>
  rename_i fn first z
  split at h
  ·rename_i fs I C F;cases h;refine ar fun n S0 w0 g a w V=>⟨.func fn (first.map a.eval) (z.map a.eval),w,?_,Below.refl _ _,?_⟩
   ·unfold execOp;rw[hop];rfl
   ·exact⟨first.toList.map a.eval,z.toList.map a.eval,by rw[show first.map a.eval=(first.toList.map a.eval).toArray from Array.ext' S_,show z.map a.eval=(z.toList.map a.eval).toArray from Array.ext' S_],ns V C,ns V F⟩
  ·cases h
 case h_19=>cases h
def f6{j:Nat}(h:ak s'.b j=ak s.b j):s'.bx j=s.bx j:=by unfold AS.bx;rw[h]
def jC{j:Nat}(h:ak s'.b j=ak s.b j):jh s' j=jh s j:=by unfold jh;rw[h]
def tR{x:Operand}(h:∀k∈OZ x,s'.tv k=s.tv k):s'.ev x=s.ev x:=by
 cases x with
 |tmp k=>exact h k (by simp[OZ])
 |const v=>rfl
 |func f=>rfl
 |global g=>rfl
def jR:∀(l:List (Nat × Operand)),(∀p∈l,∀k∈OZ p.2,s'.tv k=s.tv k)->eE s' l=eE s l
 | [],_=>rfl
 |(i,x)::l,h=>by simp only[eE,tR (h (i,x) S_),jR l (fun p b=>h p (by simp[b]))]
def vR:∀(l:List Operand),(∀x∈l,∀k∈OZ x,s'.tv k=s.tv k)->HY s' l=HY s l
 | [],_=>rfl
 |x::l,h=>by simp only[HY,tR (h x S_),vR l (fun p b=>h p (by simp[b]))]
def aP{o:Oper}(c:∀k∈wL o,s'.tv k=s.tv k){x:Operand}(d:x∈o.op.operands.toList):s'.ev x=s.ev x:=
 tR fun k b=>c k (List.mem_flatMap.2 ⟨x,d,b⟩)
def Au{j:Nat}{o:Oper}{e:ui}{E:List Nat}(h:fA T j s o=some (e,E))(d:∀k∈wL o,s'.tv k=s.tv k)(hb:∀i∈E,ak s'.b i=ak s.b i):fA T j s' o=some (e,E):=by
 obtain⟨G,D,N,L,u,v⟩:=o;unfold fA at h ⊢;cases D<;>simp only at h ⊢ <;>try(exact h)
 case move x=>rw[aP d (x:=x) (by simp[Op.operands])];exact h
 case assign x=>rw[aP d (x:=x) (by simp[Op.operands])];exact h
 case pick c x y=>rw[aP d (x:=c) (by simp[Op.operands]),aP d (x:=x) (by simp[Op.operands]),aP d (x:=y) (by simp[Op.operands])];exact h
 case alloc t=>exact Tu
 case box t x=>rw[aP d (x:=x) (by simp[Op.operands])];exact Tu
 case load t x=>
  rw[aP d (x:=x) (by simp[Op.operands])];split at h
  ·rename_i Q i J h1 h2;split at h
   ·rename_i O I;split at h
    ·rename_i dv z H;cases h;rw[f6 (hb _ (List.mem_singleton_self _)),I];simp only[z,H]
    ·cases h
   ·cases h
  ·exact h
  ·cases h
 case store t x y=>
  rw[aP d (x:=x) (by simp[Op.operands]),aP d (x:=y) (by simp[Op.operands])];split at h
  ·split at h
   ·rename_i B;exact EX h hb
   ·rename_i B;exact vC h hb
  ·cases h
 case fieldAddr t x f=>
  rw[aP d (x:=x) (by simp[Op.operands])];split at h
  ·split at h
   ·rename_i h1 h2 z;cases h;have e:js s' (s.ev x)=js s (s.ev x):=by exact Sv
    simp only[e,h1,h2,z]
   ·cases h
  ·cases h
 case extract x i=>rw[aP d (x:=x) (by simp[Op.operands])];exact h
 case field t x f=>rw[aP d (x:=x) (by simp[Op.operands])];exact h
 case build t parts=>rw[jR parts.toList (fun p C k A=>d k (List.mem_flatMap.2 ⟨p.2,by simp[Op.operands];exact⟨p.1,by simpa using C⟩,A⟩))];exact h
 case buildSlice t len parts=>rw[jR parts.toList (fun p C k A=>d k (List.mem_flatMap.2 ⟨p.2,by simp[Op.operands];exact⟨p.1,by simpa using C⟩,A⟩))];exact h
 case binOp D t x y t'=>rw[aP d (x:=x) (by simp[Op.operands]),aP d (x:=y) (by simp[Op.operands])];exact h
 case unOp D t x=>rw[aP d (x:=x) (by simp[Op.operands])];exact h
 case convert t t' x=>rw[aP d (x:=x) (by simp[Op.operands])];exact h
 case nilCheck x=>
  rw[aP d (x:=x) (by simp[Op.operands])];split at h
  ·rename_i h1 h2;cases h;have e:js s' (s.ev x)=js s (s.ev x):=by exact Sv
   simp only[e,h1,h2]
  ·cases h
 case makeFunc fn first captured=>rw[lq (s:=s) (r:=first.toList) (fun x hx=>aP d (by simp[Op.operands];exact .inl (by simpa using hx))),lq (s:=s) (r:=captured.toList) (fun x hx=>aP d (by simp[Op.operands];exact .inr (by simpa using hx)))];exact h
 case call c=>
  obtain⟨q,l,F⟩:=c;cases q with
  |builtin b=>
   cases b<;>try(exact h)
   obtain⟨l⟩:=l;obtain⟨F⟩:=F;cases l with
   |nil=>exact h
   |cons x r=>cases r with
    |cons _ _=>exact h
    |nil=>cases F with
     |nil=>exact h
     |cons t r=>
      simp only at h ⊢;rw[aP d (x:=x) (by simp[Op.operands,Call.operands])];split at h
      ·exact h
      ·exact h
      ·exact Q9
      ·exact h
      ·exact Q9
      ·exact Q9
      ·cases h
  |value f=>exact h
  |invoke f m=>exact h
end
structure FP where
 dst:Option Nat
 rt:List Nat
 rb:List Nat
 wb:List Nat
 ok:Bool
def Fu:List Nat->List Nat->Bool
 | [],_=>false
 |a::r,l=>xF a l || Fu r l
def ri:∀{a b:List Nat}{x:Nat},x∈a->x∈b->Fu a b=true
 | [],_,_,h,_=>by cases h
 |y::r,b,x,h,c=>by
  rw[Fu,Bool.or_eq_true];rcases f_.1 h with rfl|h
  ·exact .inl (kv.2 c)
  ·exact .inr (ri h c)
def MD:Option Nat->List Nat->Bool
 |none,_=>false
 |some x,l=>xF x l
def Uz:Option Nat->Option Nat->Bool
 |some x,some y=>Nat.beq x y
 |_,_=>false
def ge(x y:FP):Bool:=MD x.dst y.rt || MD y.dst x.rt || Uz x.dst y.dst || Fu x.wb y.rb || Fu y.wb x.rb || Fu x.wb y.wb
def nM(b:List Nat)(k:Nat):List Edge->Nat
 | []=>0
 |e::r=>match Region.binds .any e && Nat.blt e.on k with
  |true=>Nat.lor (Nat.lor (2^e.on) (match b[k-1-e.on]? with|some a=>a|none=>0)) (nM b k r)
  |false=>nM b k r
def Lw:Nat->List Oper->List Nat->List Nat
 |_,[],b=>b
 |k,o::os,b=>Lw (k+1) os (nM b k o.after.toList::b)
def fe(ops:Array Oper)(k:Nat):Nat:=match(Lw 0 ops.toList [])[ops.toList.length-1-k]? with
 |some a=>a
 |none=>0
def nd(b:Nat)(c:FP):Nat->List FP->Bool
 |_,[]=>true
 |k,f::r=>match Nat.testBit b (k-1) || !(ge f c)with
  |true=>nd b c (k-1) r
  |false=>false
def gd(ops:Array Oper)(s:AS)(o:Oper):Option Bool:=
 match o.guard with
 |none=>some true
 |some (i,c)=>match ops[i]? with
  |some g=>match g.dst with
   |some t=>match s.tv t with
    | .d (.leaf (.val (.bool b)))=>some (b == c)
    | .und=>some false
    |_=>none
   |none=>none
  |none=>none
def Qo(ops:Array Oper)(o:Oper):List Nat:=
 match o.guard with
 |none=>[]
 |some (i,_)=>match ops[i]? with
  |some g=>match g.dst with
   |some t=>[t]
   |none=>[]
  |none=>[]
inductive fI (P:Program) (T:TypeId->Option Ty) (j:Nat) (s:AS) (o:Oper) (e:ui) (rb:List Nat):Prop
 |op:fA T j s o=some (e,rb)->fI P T j s o e rb
 |call {f:Operand} {fid:FuncId} {args:Array Operand} {ts:Array TypeId} {ds:List DV} {r:RV}:o.op= .call ⟨.value f,args,ts⟩->s.ev f= .d (.leaf (.val (.func (.func fid) #[] #[])))->HY s args.toList=some ds->aa P fid ds r->j6 s ->
  e=⟨r.tv,none⟩->rb=[]->fI P T j s o e rb
 |idx {t:TypeId} {ty:Ty} {x y:Operand} {et k m i:Nat} {ik:IntKind} {cs cs':List AV}:o.op= .indexAddr t x y->T t=some ty->ty.elem=some (et,k)->s.ev x= .d (.leaf (.sl m cs))->s.ev y= .d (.leaf (.val (.int ik (i:Nat))))->i<m ->
  (∀(q:Nat)(a:AV),cs'[q]? =some a->cs[i*k+q]? =some a)->0<cs'.length->e=⟨.rp cs',none⟩->rb=[]->fI P T j s o e rb
 |oidx {t:TypeId} {ty:Ty} {x y:Operand} {q k m i e0:Nat} {ik:IntKind} {cs:List AV}:o.op= .indexAddr t x y->T t=some ty->ty.elem=some (e0,k)->s.ev x= .own q m k e0->s.bx q=some cs->s.ev y= .d (.leaf (.val (.int ik (i:Nat))))->i<m ->
  e=⟨.box q (i*k),none⟩->rb=[q]->fI P T j s o e rb
 |genC:j6 s->(∀s2:AS,j6 s2->(∀k∈wL o,s2.tv k=s.tv k)->(∀i∈rb,ak s2.b i=ak s.b i)->bO P o s2 e)->fI P T j s o e rb
 |gen:(∀s2:AS,(∀k∈wL o,s2.tv k=s.tv k)->(∀i∈rb,ak s2.b i=ak s.b i)->bO P o s2 e)->fI P T j s o e rb
 |pure {r:Value}:(∀x∈o.op.operands.toList,∃v,s.ev x= .d (.leaf (.val v)))->(∀(ρ:Operand->Value)(w:World),(∀x∈o.op.operands.toList,ρ x=Pe (s.ev x))->(execOp ρ o).run P w= .ok (.value r) w)->r.oneCell'=true->e=⟨.d (.leaf (.val r)),none⟩->rb=[]->fI P T j s o e rb
def Sh(e:ui):List (Nat × Option (List AV)):=match e.bx with
 |some l=>l
 |none=>[]
def CQ:List (Nat × Option (List AV))->List Nat
 | []=>[]
 |(j,_)::r=>j::CQ r
def Gb(e:ui):List Nat:=CQ (Sh e)
def sr:∀{l:List (Nat × Option (List AV))}{j:Nat},j∈CQ l-> ∃v,ak l j=some v
 | [],_,h=>by cases h
 |(i,v)::r,j,h=>by
  by_cases e:i=j
  ·subst e;exact⟨v,ap _ _ _⟩
  ·rw[az _ _ e];exact sr ((f_.1 h).resolve_left (fun h=>e h.symm))
def pE:∀{l:List (Nat × Option (List AV))}{j:Nat},¬j∈CQ l->ak l j=none
 | [],_,_=>rfl
 |(i,v)::r,j,h=>by have h:=not_or.1 (fun b=>h (f_.2 b));rw[az _ _ (fun e=>h.1 e.symm)];exact pE h.2
def tl{α:Type}:∀(x y:List (Nat × α))(j:Nat),ak (x++y) j=match ak x j with|some v=>some v|none=>ak y j
 | [],_,_=>rfl
 |(i,v)::x,y,j=>by
  by_cases e:i=j
  ·subst e;rw[List.cons_append,ap,ap]
  ·rw[List.cons_append,az _ _ e,az _ _ e];exact tl x y j
def t7:List (Nat × Option (List AV))->Bool
 | []=>true
 |(j,some _)::r=>!(cL j) && t7 r
 |(_,none)::r=>t7 r
def pJ:∀{l:List (Nat × Option (List AV))}{j:Nat}{d:List AV},t7 l=true->ak l j=some (some d)->cL j=false
 | [],_,_,_,h=>by cases h
 |(i,some c)::r,j,d,b,h=>by
  simp only[t7,B_]at b;by_cases e:i=j
  ·subst e;simpa using b.1
  ·rw[az _ _ e]at h;exact pJ b.2 h
 |(i,none)::r,j,d,b,h=>by
  by_cases e:i=j
  ·subst e;rw[ap]at h;cases h
  ·rw[az _ _ e]at h;exact pJ (l:=r) b h
def zm(e:ui):Bool:=t7 (Sh e)
def aH(ops:Array Oper)(o:Oper)(e:ui)(b:List Nat):FP:=⟨o.dst,Qo ops o++wL o,b,Gb e,zm e⟩
def aO(n:Nat):Option Nat->Bool
 |none=>true
 |some d=>Nat.blt d n
def gO(draw:Bool)(ops:Array Oper)(b:FP)(k:Nat)(fps:List FP):Bool:=match draw with
 |false=>true
 |true=>b.ok && nd (fe ops k) b k fps
def Mo(P:Program)(n:Nat)(o:Oper)(s s':AS):Prop:=
 ∀(S0:Nat->Prop)(w0:fw)(g:Nat->Nat)(a:Act)(w:World)(K:Act->World->Prop)(Q:Exit->Act->World->Prop),MG n S0 w0 g s a w ->
  (∀c b w',MG n S0 w0 c s' b w'->K b w')->o.wp P a w K Q
def Ja(P:Program)(n:Nat)(o:Oper)(s:AS)(Φ:AS->Prop):Prop:=
 ∀(S0:Nat->Prop)(w0:fw)(g:Nat->Nat)(a:Act)(w:World)(K:Act->World->Prop)(Q:Exit->Act->World->Prop),MG n S0 w0 g s a w ->
  (∀s',Φ s'-> ∀c b w',MG n S0 w0 c s' b w'->K b w')->o.wp P a w K Q
def IX(P:Program)(n:Nat)(f h i:Oper)(s s':AS):Prop:=
 ∀(S0:Nat->Prop)(w0:fw)(g:Nat->Nat)(a:Act)(w:World)(K:Act->World->Prop)(Q:Exit->Act->World->Prop),MG n S0 w0 g s a w ->
  (∀e b w',MG n S0 w0 e s' b w'->K b w')->f.wp P a w (fun c j=>h.wp P c j (fun d l=>i.wp P d l K Q) Q) Q
inductive aw (P:Program) (T:TypeId->Option Ty) (n:Nat) (ops:Array Oper) (id:Nat) (draw:Bool) (K:AS->Prop):Nat->List Oper->AS->List FP->Prop
 |done {k s fps}:K s->aw P T n ops id draw K k [] s fps
 |run {k o os s fps e rb}:gd ops s o=some true->fI P T (id*1000+k) s o e rb->aO n o.dst=true->gO draw ops (aH ops o e rb) k fps=true ->
  aw P T n ops id draw K (k+1) os (s.eff o.dst e) (aH ops o e rb::fps)->aw P T n ops id draw K k (o::os) s fps
 |skip {k o os s fps}:gd ops s o=some false->aO n o.dst=true->gO draw ops (aH ops o ⟨.und,none⟩ []) k fps=true ->
  aw P T n ops id draw K (k+1) os (s.eff o.dst ⟨.und,none⟩) (aH ops o ⟨.und,none⟩ []::fps)->aw P T n ops id draw K k (o::os) s fps
 |app {k o os s fps} {d:Nat} {x y:Operand} {t et q m1 m2:Nat} {ty te:Ty} {dead:Option Nat} {cs xs:List AV}:draw=false->gd ops s o=some true->o.op= .call ⟨.builtin .append,#[x,y],#[t,t]⟩->o.dst=some d->aO n o.dst=true->T t=some ty->ty.elem=some (et,q)->T et=some te->te.size=q->(Nat.ble 1 q && Nat.ble 1 te.bytes)=true ->
  gm s x m1 q et dead cs->s.ev y= .d (.leaf (.sl m2 xs))->xs.length=m2*q->0<m2->(m1+m2)*te.bytes<=140737488355328->jh s (1000000+(id*1000+k))=true ->
  aw P T n ops id draw K (k+1) os ⟨(d, .own (1000000+(id*1000+k)) (m1+m2) q et)::s.t,(1000000+(id*1000+k),some (cs.take (m1*q)++xs))::jl dead s.b⟩ (aH ops o ⟨.junk,none⟩ []::fps)->aw P T n ops id draw K k (o::os) s fps
 |snd {k o os s fps s'}:draw=false->gd ops s o=some true->Mo P n o s s' ->
  aw P T n ops id draw K (k+1) os s' (aH ops o ⟨.junk,none⟩ []::fps)->aw P T n ops id draw K k (o::os) s fps
 |snd3 {k o1 o2 o3 os s fps s'}:draw=false->(o1.guard=none/\o2.guard=none/\o3.guard=none)->IX P n o1 o2 o3 s s' ->
  aw P T n ops id draw K (k+3) os s' fps->aw P T n ops id draw K k (o1::o2::o3::os) s fps
 |alt {k o os s fps} (Φ:AS->Prop):draw=false->gd ops s o=some true->Ja P n o s Φ ->
  (∀s',Φ s'->aw P T n ops id draw K (k+1) os s' (aH ops o ⟨.junk,none⟩ []::fps))->aw P T n ops id draw K k (o::os) s fps
section
variable {P:Program}{T:TypeId->Option Ty}{n:Nat}{ops:Array Oper}{id:Nat}{draw:Bool}{K:AS->Prop}{S0:Nat->Prop}{w0:fw}{s s':AS}
def MG.ext{g:Nat->Nat}{a:Act}{w:World}(h:MG n S0 w0 g s a w)(y:∀k,s'.tv k=s.tv k)(l:∀j,ak s'.b j=ak s.b j):MG n S0 w0 g s' a w:=by
 have m:∀j,s'.bx j=s.bx j:=fun j=>f6 (l j);have v:Own S0 g s'=Own S0 g s:=by funext b;simp only[Own,m]
 refine⟨fun k=>?_,fun j d c=>?_,fun i j z A x c e=>?_,h.grow,by rw[y];exact h.df.agree (w:=w) (w':=w) ⟨fun j c=>by unfold AS.kn at *;rw[l];exact c,fun j d _ r=>⟨d,by rw[<- m];exact r,l_ _,rfl,fun p t f=>⟨p,f,rfl⟩⟩⟩,h.sz,h.cl,h.tg,fun k d B=>by rw[v];exact(h.gl k d B).agree (b7.refl _ _) (fun _ _ h=>h) ⟨fun j c=>by unfold AS.kn at *;rw[l];exact c,fun j d _ r=>⟨d,by rw[<- m];exact r,l_ _,rfl,fun p t f=>⟨p,f,rfl⟩⟩⟩,fun j q d f u c=>h.gp j q d f u (by rw[<- m];exact c),h.nk⟩
 ·rw[y,v];exact(h.tm k).agree (b7.refl _ _) (fun _ _ h=>h) ⟨fun j c=>by unfold AS.kn at *;rw[l];exact c,fun j d _ r=>⟨d,by rw[<- m];exact r,l_ _,rfl,fun p t f=>⟨p,f,rfl⟩⟩⟩
 ·rw[m]at c;rw[v];obtain⟨f,u⟩:=h.bm j d c;exact⟨f,u.agree rfl (b7.refl _ _) (fun _ _ h=>h) ⟨fun j c=>by unfold AS.kn at *;rw[l];exact c,fun j d _ r=>⟨d,by rw[<- m];exact r,l_ _,rfl,fun p t f=>⟨p,f,rfl⟩⟩⟩⟩
 ·rw[m]at x c;exact h.inj i j z A x c e
def mG(r:∀t d,T t=some d->bl P t d){j:Nat}{o:Oper}{e:ui}{x:List Nat}(h:fI P T j s o e x):bO P o s e:=by
 cases h with
 |op h=>exact zg r h
 |call b c f i v l _=>subst l;exact Cv b c f i v
 |idx b c f i l m p q u _=>subst u;exact q8 (r _ _ c) f b i l m p q
 |oidx b c f i l m p q _=>subst q;exact BQ (r _ _ c) f b i l m p
 |gen h=>exact h s (fun _ _=>rfl) (fun _ _=>rfl)
 |genC h0 h=>exact h s h0 (fun _ _=>rfl) (fun _ _=>rfl)
 |pure b c f i _=>subst i;exact BZ b c f
def CH{j:Nat}{o:Oper}{e:ui}{L:List Nat}(h:fI P T j s o e L)(l:∀k∈wL o,s'.tv k=s.tv k)(G:∀i∈L,ak s'.b i=ak s.b i)(D:j6 s'):fI P T j s' o e L:=by
 cases h with
 |op h=>exact .op (Au h l G)
 |call c d p u W v C=>
  rename_i f Q B X U r;refine .call c ?_ ?_ u D v C
  ·rw[aP l (x:=f) (by simp[c,Op.operands,Call.operands])];exact d
  ·rw[vR B.toList (fun x A k z=>l k (List.mem_flatMap.2 ⟨x,by simp[c,Op.operands,Call.operands];exact .inr (by simpa using A),z⟩))];exact p
 |idx c d p u v C I J F H=>
  rename_i t S x y V k m i ik cs O;refine .idx (ik:=ik) c d p ?_ ?_ C I J F H
  ·rw[aP l (x:=x) (by simp[c,Op.operands])];exact u
  ·rw[aP l (x:=y) (by simp[c,Op.operands])];exact v
 |oidx c d p u v C I J F=>
  rename_i t S x y q k m i e0 ik cs;refine .oidx (ik:=ik) (cs:=cs) c d p ?_ ?_ ?_ I J F
  ·rw[aP l (x:=x) (by simp[c,Op.operands])];exact u
  ·rw[f6 (G q (by rw[F];simp))];exact v
  ·rw[aP l (x:=y) (by simp[c,Op.operands])];exact C
 |genC h0 h=>exact .genC D fun N p c d=>h N p (fun k z=>(c k z).trans (l k z)) (fun i E=>(d i E).trans (G i E))
 |gen h=>exact .gen fun N c d=>h N (fun k z=>(c k z).trans (l k z)) (fun i E=>(d i E).trans (G i E))
 |pure c d p u v=>
  refine .pure (fun x A=>?_) (fun ρ w R=>d ρ w (fun x A=>?_)) p u v
  ·rw[aP l A];exact c x A
  ·rw[R x A,aP l A]
def Jb{o:Oper}{b:Bool}(h:gd ops s o=some b)(c:∀k∈Qo ops o,s'.tv k=s.tv k):gd ops s' o=some b:=by
 unfold gd at h ⊢;unfold Qo at c;split at h
 ·exact h
 ·rename_i i d f;simp only[f]at c;split at h
  ·rename_i g j;simp only[j]at c;split at h
   ·rename_i t e;simp only[e]at c;rw[c t S_];exact h
   ·cases h
  ·cases h
def oY{g:Nat->Nat}{a:Act}{w:World}{o:Oper}{b:Bool}(q:MG n S0 w0 g s a w)(h:gd ops s o=some b):Region.wanted o (yielded ops a.tmps)=b:=by
 unfold gd at h;unfold Region.wanted;split at h
 ·rename_i f;rw[f];cases h;rfl
 ·rename_i i c f;rw[f];split at h
  ·rename_i r hi;split at h
   ·rename_i t hd;split at h
    ·rename_i m j;cases h;have d:=q.tm t;rw[j]at d;have e:=bc d;have l:yielded ops a.tmps i=some m:=by exact TO
     simp only[l];cases m<;>cases c<;>rfl
    ·rename_i j;cases h;have d:=q.tm t;rw[j]at d;have e:a.tmps.getD t undef=undef:=d;have l:yielded ops a.tmps i=none:=by exact Tt
     simp only[l];cases c<;>rfl
    ·cases h
   ·cases h
  ·cases h
def MG.undef{g:Nat->Nat}{a:Act}{w:World}(h:MG n S0 w0 g s a w){b:Option Nat}(c:∀d,b=some d->d<n):MG n S0 w0 g (s.eff b ⟨.und,none⟩) (a.put b Go.undef) w:=by
 cases b with
 |none=>exact h
 |some d=>exact h.put (c d rfl) (Below.refl _ _) rfl
def eI{d:Option Nat}(h:aO n d=true):∀k,d=some k->k<n:=by intro k b;subst b;exact N_ h
def IP(m:∀t d,T t=some d->bl P t d){Q:Exit->Act->World->Prop}(hK:∀s g a w,K s->MG n S0 w0 g s a w->Q .normal a w){k:Nat}{os:List Oper}{fps:List FP}(h:aw P T n ops id draw K k os s fps)(hos:∀i,ops[k+i]? =os[i]?):
 ∀{g:Nat->Nat}{a:Act}{w:World},MG n S0 w0 g s a w->wpOps P ops Q (List.range' k os.length) a w:=by
 induction h with
 |done R=>intro g a w hM;exact hK _ g a w R hM
 | @run k o os s fps e Z hg f j _ _ ih=>
  intro g a w hM;have h0:ops[k]? =some o:=by simpa using hos 0
  refine ME ?_;refine .inl (mG m f n S0 w0 g a w _ Q hM (eI j) fun g' a' w' hM'=>?_);exact Rw
 | @skip k o os s fps hg j _ _ ih=>
  intro g a w hM;have h0:ops[k]? =some o:=by simpa using hos 0
  simp only[List.length_cons,List.range'_succ,wpOps,h0];rw[if_neg (by rw[oY hM hg];simp)];exact ih (fun i=>by have:=hos (i+1);rw[show k+(i+1)=k+1+i by omega]at this;simpa using this) (hM.undef (eI j))
 | @app k o os s fps d x y t Y q D E ty te C X xs h0 hg U j r V u z hq c b W B S O hnew _ ih=>
  intro g a w hM;have h0:ops[k]? =some o:=by simpa using hos 0
  refine ME ?_;rw[B_]at c;have l:D+E<=9223372036854775807:=by have:=Nat.le_mul_of_pos_right (D+E) (N_ c.2);omega
  refine .inl (jM (m _ _ V) (m _ _ z) U j u hq (N_ c.1) b W B S O l (dt hnew) (oH hnew) (.inl (by unfold cL;simp)) hM (eI r d j) fun g' a' w' hM'=>?_);exact Rw
 | @snd k o os s fps s' h0 hg f _ ih=>
  intro g a w hM;have h0:ops[k]? =some o:=by simpa using hos 0
  refine ME ?_;refine .inl (f S0 w0 g a w _ Q hM fun g' a' w' hM'=>?_);exact Rw
 | @alt k o os s fps Φ h0 hg f _ ih=>
  intro g a w hM;have h0:ops[k]? =some o:=by simpa using hos 0
  refine ME ?_;refine .inl (f S0 w0 g a w _ Q hM fun s' v g' a' w' hM'=>?_);exact ih s' v (fun i=>by have:=hos (i+1);rw[show k+(i+1)=k+1+i by omega]at this;simpa using this) hM'
 | @snd3 k F G H os s fps s' h0 hg f _ ih=>
  intro g a w hM;have J:ops[k]? =some F:=by simpa using hos 0
  have L:ops[k+1]? =some G:=by simpa using hos 1
  have N:ops[k+1+1]? =some H:=by simpa using hos 2
  have A:∀(o:Oper)(I:Array Value),o.guard=none->Region.wanted o (yielded ops I)=true:=fun o I h=>by simp[Region.wanted,h]
  simp only[List.length_cons,List.range'_succ];rw[wpOps,J];simp only[A F _ hg.1,if_true];refine .inl (Oper.wp_mono (fun a1 w1 hq=>?_) (f S0 w0 g a w (wpOps P ops Q (List.range' (k+1+1+1) os.length)) Q hM fun g' a' w' hM'=>ih (fun i=>by have:=hos (i+3);rw[show k+(i+3)=k+3+i by omega]at this;simpa using this) hM'));rw[wpOps,L];simp only[A G _ hg.2.1,if_true];refine .inl (Oper.wp_mono (fun a2 w2 hq=>?_) hq);rw[wpOps,N];simp only[A H _ hg.2.2,if_true];exact .inl hq
structure oO where
 o:Oper
 e:ui
 rb:List Nat
 b:Bool
def lT(L:Nat->Bool):Nat->List oO->AS->AS
 |_,[],s=>s
 |k,x::r,s=>lT L (k+1) r (match L k with|true=>s.eff x.o.dst x.e|false=>s)
def xE(s:AS)(b:Option Nat)(e:ui)(t:Nat):(s.eff b e).tv t=if b=some t then e.tv else s.tv t:=by
 cases b with
 |none=>rfl
 |some d=>
  by_cases h:d=t
  ·subst h;rw[if_pos rfl];simp[AS.eff,AS.tv,ap]
  ·rw[if_neg (by simpa using h)];simp[AS.eff,AS.tv,az _ _ h]
def tt(s:AS)(c:Option Nat)(e:ui)(j:Nat):ak (s.eff c e).b j=match ak (Sh e) j with|some v=>some v|none=>ak s.b j:=by
 obtain⟨d,f⟩:=e;cases f with
 |none=>rfl
 |some l=>rw[show(AS.eff s c ⟨d,some l⟩).b=l++s.b from rfl,tl,show Sh ⟨d,some l⟩=l from rfl];cases ak l j<;>rfl
def rQ{L1 L2:Nat->Bool}{t:Nat}:∀(r:List oO)(k:Nat)(s s':AS),s.tv t=s'.tv t->(∀m x,r[m]? =some x->x.o.dst=some t->L1 (k+m)=L2 (k+m))->(lT L1 k r s).tv t=(lT L2 k r s').tv t
 | [],_,_,_,h,_=>h
 |x::r,k,s,s',h,c=>by
  refine rQ r (k+1) _ _ ?_ (fun m y d b=>by have:=c (m+1) y (by simpa using d) b;rwa[show k+1+m=k+(m+1) by omega]);have h0:=c 0 x rfl;simp only[Nat.add_zero]at h0;by_cases b:x.o.dst=some t
  ·rw[h0 b];cases L2 k
   ·exact h
   ·simp only[xE,b,if_true]
  ·cases L1 k<;>cases L2 k<;>simp only[xE,b,if_false]<;>exact h
def sP{L1 L2:Nat->Bool}{j:Nat}:∀(r:List oO)(k:Nat)(s s':AS),ak s.b j=ak s'.b j->(∀m x,r[m]? =some x->j∈Gb x.e->L1 (k+m)=L2 (k+m))->ak (lT L1 k r s).b j=ak (lT L2 k r s').b j
 | [],_,_,_,h,_=>h
 |x::r,k,s,s',h,d=>by
  refine sP r (k+1) _ _ ?_ (fun m y f c=>by have:=d (m+1) y (by simpa using f) c;rwa[show k+1+m=k+(m+1) by omega]);have h0:=d 0 x rfl;simp only[Nat.add_zero]at h0;by_cases c:j∈Gb x.e
  ·rw[h0 c];cases L2 k
   ·exact h
   ·obtain⟨v,l⟩:=sr c;simp only[tt,l]
  ·have i:∀q:AS,ak (q.eff x.o.dst x.e).b j=ak q.b j:=by intro q;rw[tt,pE c]
   cases L1 k<;>cases L2 k<;>simp only[i]<;>exact h
def qY{L:Nat->Bool}{t:Nat}:∀(r:List oO)(k m:Nat)(x:oO)(s:AS),r[m]? =some x->x.o.dst=some t->L (k+m)=true->(∀i y,m<i->r[i]? =some y->y.o.dst=some t->L (k+i)=false)->(lT L k r s).tv t=x.e.tv
 | [],_,_,_,_,h,_,_,_=>by simp at h
 |y::r,k,0,x,s,h,c,b,f=>by
  simp only[List.getElem?_cons_zero,X_]at h;subst h;simp only[Nat.add_zero]at b;simp only[lT,b];rw[rQ (L1:=L) (L2:=fun _=>false) r (k+1) _ (s.eff y.o.dst y.e) rfl (fun i z l j=>by have:=f (i+1) z O_ (by simpa using l) j;rwa[show k+1+i=k+(i+1) by omega])];have:∀(r:List oO)(k:Nat)(s:AS),lT (fun _=>false) k r s=s:=by
   intro r;induction r with
   |nil=>intros;rfl
   |cons z r p=>intro k s;exact p (k+1) s
  rw[this,xE,if_pos c]
 |y::r,k,m+1,x,s,h,c,b,f=>by exact qY r (k+1) m x _ (by simpa using h) c (by rwa[show k+1+m=k+(m+1) by omega]) (fun i z l j d=>by have:=f (i+1) z O_ (by simpa using j) d;rwa[show k+1+i=k+(i+1) by omega])
def qf{L:Nat->Bool}{j:Nat}{v:Option (List AV)}:∀(r:List oO)(k m:Nat)(x:oO)(s:AS),r[m]? =some x->ak (Sh x.e) j=some v->L (k+m)=true->(∀i y,m<i->r[i]? =some y->j∈Gb y.e->L (k+i)=false)->ak (lT L k r s).b j=some v
 | [],_,_,_,_,h,_,_,_=>by simp at h
 |y::r,k,0,x,s,h,d,c,l=>by
  simp only[List.getElem?_cons_zero,X_]at h;subst h;simp only[Nat.add_zero]at c;simp only[lT,c];rw[sP (L1:=L) (L2:=fun _=>false) r (k+1) _ (s.eff y.o.dst y.e) rfl (fun i z q p=>by have:=l (i+1) z O_ (by simpa using q) p;rwa[show k+1+i=k+(i+1) by omega])];have:∀(r:List oO)(k:Nat)(s:AS),lT (fun _=>false) k r s=s:=by
   intro r;induction r with
   |nil=>intros;rfl
   |cons z r t=>intro k s;exact t (k+1) s
  rw[this,tt,d]
 |y::r,k,m+1,x,s,h,d,c,l=>by exact qf r (k+1) m x _ (by simpa using h) d (by rwa[show k+1+m=k+(m+1) by omega]) (fun i z q p f=>by have:=l (i+1) z O_ (by simpa using p) f;rwa[show k+1+i=k+(i+1) by omega])
def D3(P:Program)(T:TypeId->Option Ty)(n:Nat)(ops:Array Oper)(id k:Nat)(s:AS)(x:oO):Prop:=
 gd ops s x.o=some x.b/\aO n x.o.dst=true/\(x.b=true->fI P T (id*1000+k) s x.o x.e x.rb)/\(x.b=false->x.e=⟨.und,none⟩/\x.rb=[])/\zm x.e=true
def px(ops:Array Oper)(x:oO):FP:=⟨x.o.dst,Qo ops x.o++wL x.o,x.rb,Gb x.e,zm x.e⟩
def xU{b:List Nat}{k i:Nat}:∀{l:List Edge},(nM b k l).testBit i=true-> ∃e∈l,Region.binds .any e=true/\e.on<k/\(e.on=i∨ ∃a,b[k-1-e.on]? =some a/\a.testBit i=true)
 | [],h=>by simp[nM]at h
 |e::l,h=>by
  simp only[nM]at h;split at h
  ·rename_i f;rw[B_]at f;have d:e.on<k:=N_ f.2;have q:((2^e.on |||(match b[k-1-e.on]? with|some a=>a|none=>0)) |||nM b k l).testBit i=true:=h;rw[Nat.testBit_or,Nat.testBit_or,Bool.or_eq_true,Bool.or_eq_true]at q;rcases q with(c|c)|c
   ·rw[Nat.testBit_two_pow]at c;exact⟨e,by simp,f.1,d, .inl (by simpa using c)⟩
   ·split at c
    ·rename_i a r;exact⟨e,by simp,f.1,d, .inr ⟨a,r,c⟩⟩
    ·simp at c
   ·obtain⟨j,m,p⟩:=xU c;exact⟨j,by simp[m],p⟩
  ·obtain⟨j,m,p⟩:=xU h;exact⟨j,by simp[m],p⟩
def vZ:∀(os:List Oper)(k:Nat)(b:List Nat),b.length=k-> ∃c:List Nat,Lw k os b=c++b/\c.length=os.length/\ ∀(m:Nat)(o:Oper),os[m]? =some o-> ∃a,(c++b)[os.length-1-m]? =some a/\a=nM ((c++b).drop (os.length-m)) (k+m) o.after.toList
 | [],k,b,_=>⟨[],rfl,rfl,fun m o h=>by simp at h⟩
 |o::os,k,b,q=>by
  obtain⟨c,l,j,p⟩:=vZ os (k+1) (nM b k o.after.toList::b) (by simp[q]);refine⟨c++[nM b k o.after.toList],by simp only[Lw,l,e_,List.singleton_append],by simp[j],fun m r i=>?_⟩;have e:c++[nM b k o.after.toList]++b=c++nM b k o.after.toList::b:=S_;rw[e];cases m with
  |zero=>
   simp only[List.getElem?_cons_zero,X_]at i;subst i;refine⟨_,?_,rfl⟩;rw[List.length_cons,Nat.add_sub_cancel,Nat.sub_zero,Nat.sub_zero,<- j,g_ (l_ _),Nat.sub_self,List.getElem?_cons_zero];have:List.drop (c.length+1) (c++nM b k o.after.toList::b)=b:=by rw[<- e,List.drop_left' S_]
   rw[this];rfl
  |succ m=>
   obtain⟨a,d,f⟩:=p m r (by simpa using i);refine⟨a,?_,?_⟩
   ·rw[List.length_cons,show os.length+1-1-(m+1)=os.length-1-m by omega];exact d
   ·rw[List.length_cons,show os.length+1-(m+1)=os.length-m by omega,show k+(m+1)=k+1+m by omega];exact f
def Iw{k i:Nat}{o:Oper}(C:ops[k]? =some o)(h:(fe ops k).testBit i=true):∃e∈o.after.toList,Region.binds .any e=true/\e.on<k/\(e.on=i∨(fe ops e.on).testBit i=true):=by
 obtain⟨v,x,E,y⟩:=vZ ops.toList 0 [] rfl;have d:ops.toList[k]? =some o:=by simpa using C
 have F:k<ops.toList.length:=(G_.1 d).1;have j:∀(m:Nat)(f:Oper),ops.toList[m]? =some f->fe ops m=nM (v.drop (ops.toList.length-m)) m f.after.toList:=by intro m f B;obtain⟨a,p,c⟩:=y m f B;unfold fe;rw[x,p];simp only[c_,J_]at c;exact c
 rw[j k o d]at h;obtain⟨e,r,t,u,b⟩:=xU h;refine⟨e,r,t,u,?_⟩;rcases b with b| ⟨a,l,z⟩
 ·exact .inl b
 ·right;have A:ops.toList[e.on]? =some (ops.toList[e.on]'(by omega)):=S_;obtain⟨D,q,_⟩:=y e.on _ A;rw[List.getElem?_drop,show ops.toList.length-k+(k-1-e.on)=ops.toList.length-1-e.on by omega]at l;rw[c_,l]at q;unfold fe;rw[x,c_,l];exact z
def sA{c:Nat}{e:FP}:∀{k:Nat}{l:List FP},nd c e k l=true-> ∀(i:Nat)(f:FP),l[i]? =some f->c.testBit (k-1-i)=true∨ge f e=false
 |_,[],_,i,f,h=>by simp at h
 |k,j::r,h,i,f,d=>by
  simp only[nd]at h;split at h
  ·rename_i b;cases i with
   |zero=>
    simp only[List.getElem?_cons_zero,X_]at d;subst d;rw[Bool.or_eq_true]at b;rcases b with b|b
    ·exact .inl b
    ·exact .inr (by simpa using b)
   |succ i=>have:=sA h i f (by simpa using d);rwa[show k-1-1-i=k-1-(i+1) by omega]at this
  ·cases h
def sS{L:Nat->Bool}:∀(r:List oO)(k:Nat)(s:AS),(∀i,k<=i->L i=false)->lT L k r s=s
 | [],_,_,_=>rfl
 |x::r,k,s,h=>by simp only[lT,h k (l_ _)];exact sS r (k+1) s (fun i b=>h i O_)
def th(ops:Array Oper):Nat->List oO->List FP->List FP
 |_,[],b=>b
 |k,x::r,b=>th ops (k+1) r (px ops x::b)
def zn:∀(r:List oO)(k:Nat)(b:List FP)(i:Nat)(y:oO),r[i]? =some y->(th ops k r b)[r.length-1-i]? =some (px ops y)
 | [],_,_,i,y,h=>by simp at h
 |x::r,k,b,i,y,h=>by
  have d:∀(r:List oO)(k:Nat)(b:List FP),∃c,th ops k r b=c++b/\c.length=r.length:=by
   intro r;induction r with
   |nil=>intro k b;exact⟨[],rfl,rfl⟩
   |cons z r j=>intro k b;obtain⟨c,e,f⟩:=j (k+1) (px ops z::b);exact⟨c++[px ops z],by simp only[th,e,e_,List.singleton_append],by simp[f]⟩
  cases i with
  |zero=>simp only[List.getElem?_cons_zero,X_]at h;subst h;obtain⟨c,e,f⟩:=d r (k+1) (px ops x::b);simp only[th,e,List.length_cons,Nat.add_sub_cancel,Nat.sub_zero];rw[<- f,g_ (l_ _),Nat.sub_self];rfl
  |succ i=>have:=zn r (k+1) (px ops x::b) i y (by simpa using h);simp only[th,List.length_cons];rw[show r.length+1-1-(i+1)=r.length-1-i by omega];exact this
def BA{k:Nat}{os:List Oper}{fps:List FP}(h:aw P T n ops id true K k os s fps):
 ∃c:List oO,c.map (·.o)=os/\K (lT (fun _=>true) k c s) /\
  (∀m x,c[m]? =some x->D3 P T n ops id (k+m) (lT (fun i=>decide (i<k+m)) k c s) x /\
   (∀i f,(th ops k (c.take m) fps)[i]? =some f->(fe ops (k+m)).testBit (k+m-1-i)=true∨ge f (px ops x)=false)):=by
 have j:∀(k:Nat)(o:Oper)(os:List Oper)(s:AS)(fps:List FP)(x:oO),x.o=o->gd ops s o=some x.b->aO n o.dst=true->(x.b=true->fI P T (id*1000+k) s o x.e x.rb)->(x.b=false->x.e=⟨.und,none⟩/\x.rb=[]) ->
  (zm x.e=true/\nd (fe ops k) (px ops x) k fps=true) ->
  (∃c:List oO,c.map (·.o)=os/\K (lT (fun _=>true) (k+1) c (s.eff o.dst x.e)) /\
   (∀m y,c[m]? =some y->D3 P T n ops id (k+1+m) (lT (fun i=>decide (i<k+1+m)) (k+1) c (s.eff o.dst x.e)) y /\
    (∀i f,(th ops (k+1) (c.take m) (px ops x::fps))[i]? =some f->(fe ops (k+1+m)).testBit (k+1+m-1-i)=true∨ge f (px ops y)=false))) ->
  ∃c:List oO,c.map (·.o)=o::os/\K (lT (fun _=>true) k c s) /\
   (∀m y,c[m]? =some y->D3 P T n ops id (k+m) (lT (fun i=>decide (i<k+m)) k c s) y /\
    (∀i f,(th ops k (c.take m) fps)[i]? =some f->(fe ops (k+m)).testBit (k+m-1-i)=true∨ge f (px ops y)=false)):=by
  intro k o os s fps x v p l t u d ⟨c,C,D,E⟩;subst v;refine⟨x::c,by simp[C],D,fun m y r=>?_⟩;cases m with
  |zero=>simp only[List.getElem?_cons_zero,X_]at r;subst r;rw[sS _ _ _ (fun i A=>by simp;omega)];exact⟨⟨p,l,t,u,d.1⟩,fun i f A=>sA d.2 i f (by simpa[th]using A)⟩
  |succ m=>
   have F:=E m y (by simpa using r);have B:lT (fun i=>decide (i<k+(m+1))) k (x::c) s=lT (fun i=>decide (i<k+1+m)) (k+1) c (s.eff x.o.dst x.e):=by simp only[lT];rw[show decide (k<k+(m+1))=true by simp];simp only[show k+(m+1)=k+1+m by omega]
   rw[B,show k+(m+1)=k+1+m by omega];exact F
 induction h with
 |done G=>exact⟨[],rfl,G,fun m x h=>by simp at h⟩
 | @run k o os s fps e J p I l q H z=>exact j k o os s fps ⟨o,e,J,true⟩ rfl p l (fun _=>I) (fun h=>by cases h) (B_ _ _ ▸ q) z
 |app h0=>cases h0
 |snd h0=>cases h0
 |snd3 h0=>cases h0
 |alt _ h0=>cases h0
 | @skip k o os s fps p l q H z=>exact j k o os s fps ⟨o,⟨.und,none⟩,[],false⟩ rfl p l (fun h=>by cases h) (fun _=>⟨rfl,rfl⟩) (B_ _ _ ▸ q) z
def qq{x y:FP}{t:Nat}(b:x.dst=some t)(c:t∈y.rt):ge x y=true:=by unfold ge;rw[b];simp[MD,kv.2 c]
def qV{x y:FP}{t:Nat}(b:y.dst=some t)(c:t∈x.rt):ge x y=true:=by unfold ge;rw[b];simp[MD,kv.2 c]
def Ac{x y:FP}{t:Nat}(b:x.dst=some t)(c:y.dst=some t):ge x y=true:=by unfold ge;rw[b,c];simp[Uz]
def AU{x y:FP}{t:Nat}(b:t∈x.wb)(c:t∈y.rb):ge x y=true:=by unfold ge;simp[ri b c]
def Cq{x y:FP}{t:Nat}(b:t∈y.wb)(c:t∈x.rb):ge x y=true:=by unfold ge;simp[ri b c]
def Nw{x y:FP}{t:Nat}(b:t∈x.wb)(c:t∈y.wb):ge x y=true:=by unfold ge;simp[ri b c]
def Db(k:Nat):List Edge->Bool
 | []=>true
 |e::r=>(match Region.binds .any e with
  |true=>Nat.blt e.on k
  |false=>true) && Db k r
def Dm:Nat->List Oper->Bool
 |_,[]=>true
 |k,o::os=>Db k o.after.toList && Dm (k+1) os
def mr(ops:Array Oper):Bool:=Dm 0 ops.toList
def AK{k:Nat}:∀{l:List Edge},Db k l=true-> ∀e∈l,Region.binds .any e=true->e.on<k
 | [],_,e,h,_=>by cases h
 |e'::l,h,e,b,d=>by
  simp only[Db,B_]at h;rcases f_.1 b with rfl|b
  ·have c:=h.1;rw[d]at c;exact N_ c
  ·exact AK h.2 e b d
def x8:∀{k:Nat}{os:List Oper},Dm k os=true-> ∀(i:Nat)(o:Oper),os[i]? =some o-> ∀e∈o.after.toList,Region.binds .any e=true->e.on<k+i
 |_,[],_,i,o,h,_,_,_=>by simp at h
 |k,f::os,h,i,o,b,e,d,c=>by
  simp only[Dm,B_]at h;cases i with
  |zero=>simp at b;subst b;exact AK h.1 e d c
  |succ i=>have:=x8 h.2 i o (by simpa using b) e d c;omega
def sx{b:Array Bool}(m:mr ops=true)(r:b.size=ops.size)(l:Region.ready .any ops b=[]):∀k,k<ops.size->b.getD k false=true:=by
 intro k;induction k using Nat.strongRecOn with
 |_ k p=>
  intro d;cases h:b.getD k false with
  |true=>rfl
  |false=>
   exfalso;have f:k∈Region.ready .any ops b:=by
    refine mem_ready.2 ⟨?_,ops[k],by simp[d],fun e j i=>?_⟩
    ·have c:k<b.size:=O_;simp[c]at h ⊢;exact h
    ·have q:=x8 m k ops[k] (by simp[d]) e (by simpa using j) i;exact p e.on O_ O_
   rw[l]at f;cases f
def CY(P:Program)(T:TypeId->Option Ty)(n:Nat)(ops:Array Oper)(id:Nat)(s:AS)(b:List oO):Prop:=
 ∀m x,b[m]? =some x->D3 P T n ops id m (lT (fun i=>decide (i<m)) 0 b s) x/\(∀i f,(th ops 0 (b.take m) [])[i]? =some f->(fe ops m).testBit (m-1-i)=true∨ge f (px ops x)=false)
def Co(ops:Array Oper)(b:Array Bool):Prop:=∀k o,b.getD k false=true->ops[k]? =some o-> ∀e∈o.after,Region.binds .any e=true->b.getD e.on false=true
def fS{b:List oO}(e:CY P T n ops id s b){i m:Nat}{x y:oO}(f:i<m)(j:b[i]? =some y)(d:b[m]? =some x):(fe ops m).testBit i=true∨ge (px ops y) (px ops x)=false:=by
 have l:m<b.length:=(G_.1 d).1;have c:=zn (ops:=ops) (b.take m) 0 [] i y (by rw[List.getElem?_take,if_pos f];exact j);have h:(b.take m).length=m:=by simp;omega
 rw[h]at c;have:=(e m x d).2 (m-1-i) _ c;rwa[show m-1-(m-1-i)=i by omega]at this
def CI{b:List oO}(c:b.map (·.o)=ops.toList){m:Nat}{x:oO}(d:b[m]? =some x):ops[m]? =some x.o:=by
 have:(b.map (·.o))[m]? =some x.o:=by simp[d]
 rw[c]at this;simpa using this
def jD{b:Array Bool}(x:Co ops b):∀(m:Nat)(o:Oper),ops[m]? =some o->(∀e∈o.after,Region.binds .any e=true->b.getD e.on false=true)-> ∀i,(fe ops m).testBit i=true->b.getD i false=true:=by
 intro m;induction m using Nat.strongRecOn with
 |_ m z=>
  intro o j v i y;obtain⟨e,q,r,t,u⟩:=Iw j y;have h:=v e (by simpa using q) r;rcases u with rfl|f
  ·exact h
  ·have A:m<ops.size:=(A_.1 j).1;have l:ops[e.on]? =some (ops[e.on]'(by omega)):=S_;exact z e.on t _ l (fun p d c=>x e.on _ h l p d c) i f
def E9{d:Option Nat}{e:ui}(h:j6 s)(f:zm e=true):j6 (s.eff d e):=by
 intro j i b;unfold AS.bx at b;rw[tt]at b;unfold zm at f;cases hb:ak (Sh e) j with
 |none=>rw[hb]at b;exact h j i (by unfold AS.bx;exact b)
 |some v=>
  rw[hb]at b;cases v with
  |none=>cases b
  |some c=>exact pJ f hb
def vy{L:Nat->Bool}:∀(r:List oO)(k:Nat)(s:AS),j6 s->(∀x∈r,zm x.e=true)->j6 (lT L k r s)
 | [],_,_,h,_=>h
 |x::r,k,s,h,b=>by
  simp only[lT];refine vy r (k+1) _ ?_ (fun y c=>b y (by simp[c]));cases L k
  ·exact h
  ·exact E9 h (b x S_)
def J6(hT:∀t d,T t=some d->bl P t d){Q:Exit->Act->World->Prop}(hK:∀s g a w,K s->MG n S0 w0 g s a w->Q .normal a w)(a2:mr ops=true){c:List oO}(Y:c.map (·.o)=ops.toList)(ag:K (lT (fun _=>true) 0 c s))(H:CY P T n ops id s c)(V:j6 s):
 ∀(l:Nat)(listed:Array Bool),listed.size=ops.size->listed.toList.count false<=l->Co ops listed ->
  ∀{g:Nat->Nat}{a:Act}{w:World},MG n S0 w0 g (lT (fun i=>listed.getD i false) 0 c s) a w->wpAny P .any ops Q l listed a w:=by
 have hlen:c.length=ops.size:=by have:=congrArg List.length Y;simpa using this
 have W:∀x∈c,zm x.e=true:=fun x u=>by obtain⟨m,hm⟩:=W_ u;exact(H m x hm).1.2.2.2.2
 have U:∀(listed:Array Bool),listed.size=ops.size->Region.ready .any ops listed=[]-> ∀{g:Nat->Nat}{a:Act}{w:World},MG n S0 w0 g (lT (fun i=>listed.getD i false) 0 c s) a w->Q .normal a w:=by
  intro listed O R g a w I;have z:=sx a2 O R;refine hK _ g a w ag (I.ext (fun t=>rQ c 0 s s rfl fun m x hm _=>?_) (fun j=>sP c 0 s s rfl fun m x hm _=>?_));all_goals
   have:m<ops.size:=by rw[<- hlen];exact(G_.1 hm).1
   rw[J_,z m this]
 intro l;induction l with
 |zero=>
  intro listed O hc B g a w I;have R:Region.ready .any ops listed=[]:=by exact T6
  exact⟨R,U listed O R I⟩
 |succ l ih=>
  intro listed O hc B g a w I;refine⟨fun R=>U listed O R I,fun i hi=>?_⟩;obtain⟨h1,o,ho,z⟩:=mem_ready.1 hi;have a4:i<ops.size:=(A_.1 ho).1;have hil:i<listed.size:=O_;have F:listed.getD i false=false:=by simpa[hil]using h1
  have u:c[i]? =some (c[i]'(by omega)):=S_;generalize c[i]'(by omega)=x at u;have a3:x.o=o:=by have:=CI Y u;rw[ho]at this;exact(Option.some.inj this).symm
  subst a3;obtain⟨⟨hg,hd,a0,a1,_⟩,_⟩:=H i x u;have J:=jD B i _ ho z;have A:∀(m:Nat)(y:oO),c[m]? =some y->(fe ops m).testBit i=true->listed.getD m false=false:=by
   intro m y hy N;cases hq:listed.getD m false with
   |false=>rfl
   |true=>have:=jD B m _ (CI Y hy) (fun e E D=>B m _ hq (CI Y hy) e E D) i N;rw[F]at this;cases this
  have S:∀t∈(px ops x).rt,(lT (fun i=>listed.getD i false) 0 c s).tv t=(lT (fun k=>decide (k<i)) 0 c s).tv t:=by
   intro t ht;refine rQ c 0 s s rfl fun m y hy hdy=>?_;rw[J_];rcases Nat.lt_trichotomy m i with hm|hm|hm
   ·rcases fS H hm hy u with h|h
    ·rw[J m h];simp[hm]
    ·rw[qq (x:=px ops y) (y:=px ops x) hdy ht]at h;cases h
   ·subst hm;rw[F];simp
   ·rcases fS H hm u hy with h|h
    ·rw[A m y hy h];simp;omega
    ·rw[qV (x:=px ops x) (y:=px ops y) hdy ht]at h;cases h
  have ad:∀j∈x.rb,ak (lT (fun i=>listed.getD i false) 0 c s).b j=ak (lT (fun k=>decide (k<i)) 0 c s).b j:=by
   intro j hj;refine sP c 0 s s rfl fun m y hy hdy=>?_;rw[J_];rcases Nat.lt_trichotomy m i with hm|hm|hm
   ·rcases fS H hm hy u with h|h
    ·rw[J m h];simp[hm]
    ·rw[AU (x:=px ops y) (y:=px ops x) hdy hj]at h;cases h
   ·subst hm;rw[F];simp
   ·rcases fS H hm u hy with h|h
    ·rw[A m y hy h];simp;omega
    ·rw[Cq (x:=px ops x) (y:=px ops y) hdy hj]at h;cases h
  have ao:=Jb (s':=lT (fun i=>listed.getD i false) 0 c s) hg (fun k hk=>S k (List.mem_append_left _ hk));have q:=oY I ao;have f:∀m,(listed.setIfInBounds i true).getD m false=if m=i then true else listed.getD m false:=by
   intro m;by_cases r:m=i
   ·subst r;simp[hil]
   ·rw[if_neg r];exact getD_set_ne false (fun e=>r e.symm)
  have hnew:∀(g':Nat->Nat)(Z:Act)(w':World),MG n S0 w0 g' ((lT (fun i=>listed.getD i false) 0 c s).eff x.o.dst x.e) Z w'->wpAny P .any ops Q l (listed.setIfInBounds i true) Z w':=by
   intro g' Z w' al;refine ih (listed.setIfInBounds i true) (by simp[O]) ?_ ?_ (al.ext (fun t=>?_) (fun j=>?_))
   ·have hf:listed[i]=false:=by simpa[hil]using F
    have:(listed.setIfInBounds i true).toList.count false+1=listed.toList.count false:=by exact TZ
    omega
   ·intro k ok hk L e E D;rw[f]at hk ⊢;split
    ·rfl
    ·by_cases X:k=i
     ·subst X;rw[ho]at L;cases L;exact z e E D
     ·rw[if_neg X]at hk;exact B k ok hk L e E D
   ·rw[xE];by_cases C:x.o.dst=some t
    ·rw[if_pos C];refine qY c 0 i x s u C (by rw[J_,f,if_pos rfl]) (fun m y hm hy hdy=>?_);rw[J_,f,if_neg O_];rcases fS H hm u hy with h|h
     ·exact A m y hy h
     ·rw[Ac (x:=px ops x) (y:=px ops y) C hdy]at h;cases h
    ·rw[if_neg C];refine rQ c 0 s s rfl fun m y hy hdy=>?_;rw[J_,f];split
     ·rename_i r;subst r;rw[u]at hy;cases hy;exact absurd hdy C
     ·rfl
   ·rw[tt];by_cases G:j∈Gb x.e
    ·obtain⟨v,hv⟩:=sr G;rw[hv];refine qf c 0 i x s u hv (by rw[J_,f,if_pos rfl]) (fun m y hm hy hdy=>?_);rw[J_,f,if_neg O_];rcases fS H hm u hy with h|h
     ·exact A m y hy h
     ·rw[Nw (x:=px ops x) (y:=px ops y) G hdy]at h;cases h
    ·rw[pE G];refine sP c 0 s s rfl fun m y hy hdy=>?_;rw[J_,f];split
     ·rename_i r;subst r;rw[u]at hy;cases hy;exact absurd hdy G
     ·rfl
  unfold wpOp;simp only[ho];cases N:x.b with
  |true=>rw[N]at q;rw[if_pos q];refine .inl (mG hT (CH (a0 N) (fun k hk=>S k (List.mem_append_right _ hk)) ad (vy c 0 s V W)) n S0 w0 g a w _ Q I (eI hd) hnew)
  |false=>rw[N]at q;rw[if_neg (by rw[q];simp)];have:=I.undef (eI hd);exact hnew g _ _ (by rw[(a1 N).1];exact this)
def Gk(q:∀t d,T t=some d->bl P t d)(e:P.follows .mixedOrders=true){Q:Exit->Act->World->Prop}(m:∀s g a w,K s->MG n S0 w0 g s a w->Q .normal a w)(f:(draw && !(mr ops && dV [] s.b))=false){id:Nat}(h:aw P T n ops id draw K 0 ops.toList s []){g:Nat->Nat}{a:Act}{w:World}(p:MG n S0 w0 g s a w):(Code.region id ops draw).wp P Q a w:=by
 cases draw with
 |false=>refine wp_region ?_;have:=IP q m h (fun i=>by simp) p;rwa[List.range_eq_range',<- Array.length_toList]
 |true=>
  obtain⟨j,u,v,l⟩:=BA h;simp only[J_]at l;refine wp_region_any e ?_;have c:mr ops=true/\dV [] s.b=true:=by simpa using f
  refine J6 q m c.1 u v l (lC c.2) ops.size _ S_ (by rw[Array.toList_replicate,List.count_replicate];simp) ?_ (g:=g) ?_
  ·intro k o r _;rcases Nat.lt_or_ge k ops.size with h|h
   ·simp[h]at r
   ·simp[Nat.not_lt.2 h]at r
  ·rw[sS _ _ _ (fun i _=>by
    rcases Nat.lt_or_ge i ops.size with h|h
    ·simp[h]
    ·simp[Nat.not_lt.2 h])]
   exact p.grow' (Below.drew (Below.refl _ _))
end
inductive AX where
 |normal
 |exit (id:Nat)
 |ret
def au(s s':AS):Prop:=∀(n:Nat)(S0:Nat->Prop)(w0:fw)(a:Act)(w:World),M n S0 w0 s a w->M n S0 w0 s' a w
def au.refl(s:AS):au s s:=fun _ _ _ _ _ h=>h
def KX(s:AS)(Φ:AS->Prop):Prop:=∀(n:Nat)(S0:Nat->Prop)(w0:fw)(a:Act)(w:World),M n S0 w0 s a w-> ∃s',Φ s'/\M n S0 w0 s' a w
def KX.one{s s':AS}(h:au s s'):KX s (fun c=>c=s'):=fun _ _ _ _ _ b=>⟨s',rfl,h _ _ _ _ _ b⟩
def La(K:AS->Prop)(Q:AX->AS->Prop):AX->AS->Prop
 | .normal,s=>K s
 |e,s=>Q e s
def Bh(id:Nat)(Q:AX->AS->Prop):AX->AS->Prop
 | .exit i,s=>match Nat.beq i id with
  |true=>Q .normal s
  |false=>Q (.exit i) s
 |e,s=>Q e s
def fT(P:Program)(T:TypeId->Option Ty)(n:Nat):Code->(AX->AS->Prop)->AS->Prop
 | .skip,Q,s=>Q .normal s
 | .label _,Q,s=>Q .normal s
 | .region id ops draw,Q,s=>∃Φ:AS->Prop,KX s Φ/\ ∀e,Φ e->(draw && !(mr ops && dV [] e.b))=false/\aw P T n ops id draw (fun s'=>Q .normal s') 0 ops.toList e []
 | .seq x y,Q,s=>fT P T n x (La (fT P T n y Q) Q) s
 | .cond c x y,Q,s=>∃t,s.ev c= .d (.leaf (.val (.bool t)))/\(t=true->fT P T n x Q s)/\(t=false->fT P T n y Q s)
 | .block id x,Q,s=>fT P T n x (Bh id Q) s
 | .loop x,Q,s=>∃(α:Type)(I:α->Prop)(σ:α->AS)(μ:α->Nat),(∃f,I f/\au s (σ f))/\ ∀y,I y->fT P T n x (La (fun s'=>∃z,I z/\μ z<μ y/\au s' (σ z)) Q) (σ y)
 | .scope x,Q,s=>fT P T n x Q s
 | .exit id,Q,s=>Q (.exit id) s
 | .ret,Q,s=>Q .ret s
 |_,_,_=>False
def QW(n:Nat)(S0:Nat->Prop)(w0:fw)(Q:AX->AS->Prop):Exit->Act->World->Prop
 | .normal,a,w=>∃s,Q .normal s/\M n S0 w0 s a w
 | .exit i,a,w=>∃s,Q (.exit i) s/\M n S0 w0 s a w
 | .ret,a,w=>∃s,Q .ret s/\M n S0 w0 s a w
 |_,_,_=>False
section
variable {P:Program}{T:TypeId->Option Ty}{n:Nat}{S0:Nat->Prop}{w0:fw}
def oX(N:∀t d,T t=some d->bl P t d)(q:P.follows .mixedOrders=true):∀(c:Code)(Q:AX->AS->Prop)(s:AS)(a:Act)(w:World),fT P T n c Q s->M n S0 w0 s a w->c.wp P (QW n S0 w0 Q) a w:=by
 intro c;induction c with
 |skip=>intro Q s a w h b;exact wp_skip ⟨s,h,b⟩
 |label l=>intro Q s a w h b;exact wp_label ⟨s,h,b⟩
 |region id ops draw=>intro Q s a w ⟨Φ,E,D⟩ b;obtain⟨V,U,g,b⟩:=E _ _ _ _ _ b;have h:=D V U;exact Gk N q (fun s' G a' w' f j=>⟨s',f,G,j⟩) h.1 h.2 b
 |seq x y m p=>
  intro Q s a w h b;refine wp_seq (wp_mono (m _ s a w h b) fun e a' w' hq=>?_);cases e with
  |normal=>obtain⟨s',f,j⟩:=hq;exact p Q s' a' w' f j
  |exit i=>exact hq
  |ret=>exact hq
  |goto l=>exact hq
  |panic c=>exact hq
  |outgrown=>exact hq
 |cond c x y m p=>intro Q s a w ⟨t,R,H,J⟩ b;obtain⟨g,A⟩:=b;refine wp_cond_split (t:=t) (bn A R) (fun ht=>m Q s a w (H ht) ⟨g,A⟩) (fun ht=>p Q s a w (J ht) ⟨g,A⟩)
 |block id x r=>
  intro Q s a w h b;refine wp_block (wp_mono (r _ s a w h b) fun e a' w' hq=>?_);cases e with
  |normal=>exact hq
  |exit i=>
   obtain⟨s',f,j⟩:=hq;simp only[Bh]at f;simp only[Exit.inBlock];by_cases B:i=id
   ·subst B;rw[if_pos rfl];simp only[Nat.beq_refl]at f;exact⟨s',f,j⟩
   ·rw[if_neg B];have:Nat.beq i id=false:=by
     cases hb:Nat.beq i id
     ·rfl
     ·exact absurd (Nat.eq_of_beq_eq_true hb) B
    rw[this]at f;exact⟨s',f,j⟩
  |ret=>exact hq
  |goto l=>exact hq
  |panic c=>exact hq
  |outgrown=>exact hq
 |loop x r=>
  intro Q s a w ⟨α,I,σ,μ,⟨F,L,O⟩,D⟩ b;refine wp_loop_ghost (fun k a' w'=>∃y,μ y=k/\I y/\M n S0 w0 (σ y) a' w') (μ F) ⟨F,rfl,L,O _ _ _ _ _ b⟩ ?_;rintro k a' w' ⟨y,rfl,u,v⟩;refine wp_mono (r _ (σ y) a' w' (D y u) v) fun e a1 w1 hq=>?_;cases e with
  |normal=>obtain⟨s',⟨z,S,C,E⟩,j⟩:=hq;exact⟨μ z,C,z,rfl,S,E _ _ _ _ _ j⟩
  |exit i=>exact hq
  |ret=>exact hq
  |goto l=>exact hq
  |panic c=>exact hq
  |outgrown=>exact hq
 |exit id=>intro Q s a w h b;exact wp_exit ⟨s,h,b⟩
 |ret=>intro Q s a w h b;exact wp_ret ⟨s,h,b⟩
 |goto l=>intro Q s a w h;exact h.elim
 |scope c r=>intro Q s a w h b;refine wp_scope_straight (wp_mono (r Q s a w h b) fun e a' w' hq=>?_);cases e<;>exact hq
 |rangeFunc=>intro Q s a w h;exact h.elim
 |refuse=>intro Q s a w h;exact h.elim
def UC(s:AS):List (Nat × TV)->Prop
 | []=>True
 |(k,v)::r=>s.tv k=v/\UC s r
def ug(s:AS):List (Nat × Option (List AV))->Prop
 | []=>True
 |(j,some b)::r=>s.bx j=some b/\ug s r
 |(_,none)::r=>ug s r
def qF:List CV->List Nat
 | []=>[]
 | .box j _::r=>j::qF r
 | .val _::r=>qF r
def eu:TV->List Nat
 | .box j _=>[j]
 | .own j _ _ _=>[j]
 | .clo _ c b=>qF c++qF b
 | .dfr _ b=>qF b
 | .vw j _ _ _=>[j]
 | .vs j _ _ _ _ _=>[j]
 |_=>[]
def Gm(b:List (Nat × Option (List AV))):List Nat->Bool
 | []=>true
 |j::r=>(match ak b j with|some _=>true|none=>false) && Gm b r
def wh{b:List (Nat × Option (List AV))}:∀{l:List Nat},Gm b l=true-> ∀j∈l,∃x,ak b j=some x
 | [],_,j,c=>by cases c
 |i::r,h,j,c=>by
  simp only[Gm,B_]at h;rcases f_.1 c with rfl|c
  ·have:=h.1;split at this
   ·rename_i x d;exact⟨x,d⟩
   ·cases this
  ·exact wh h.2 j c
def Gl(b:List (Nat × Option (List AV))):List (Nat × TV)->Bool
 | []=>true
 |(_,v)::r=>Gm b (eu v) && Gl b r
def UC.at{s:AS}{k:Nat}{v:TV}:∀{r:List (Nat × TV)},UC s r->ak r k=some v->s.tv k=v
 | [],_,h=>by cases h
 |(c,d)::r,b,h=>by
  by_cases e:c=k
  ·subst e;rw[ap]at h;cases h;exact b.1
  ·rw[az _ _ e]at h;exact b.2.at h
def ug.at{s:AS}{j:Nat}{cs:List AV}:∀{r:List (Nat × Option (List AV))},ug s r->ak r j=some (some cs)->s.bx j=some cs
 | [],_,h=>by cases h
 |(c,some d)::r,b,h=>by
  by_cases e:c=j
  ·subst e;rw[ap]at h;cases h;exact b.1
  ·rw[az _ _ e]at h;exact ug.at b.2 h
 |(c,none)::r,b,h=>by
  by_cases e:c=j
  ·subst e;rw[ap]at h;cases h
  ·rw[az _ _ e]at h;exact ug.at (r:=r) b h
def Gl.at{b:List (Nat × Option (List AV))}{k:Nat}{v:TV}:∀{r:List (Nat × TV)},Gl b r=true->ak r k=some v-> ∀j∈eu v,∃x,ak b j=some x
 | [],_,h=>by cases h
 |(d,f)::r,c,h=>by
  simp only[Gl,B_]at c;by_cases e:d=k
  ·subst e;rw[ap]at h;cases h;exact wh c.1
  ·rw[az _ _ e]at h;exact Gl.at c.2 h
def rd.weak{g:Nat->Nat}{s s':AS}(b:∀j c,s'.bx j=some c->s.bx j=some c):∀{d:List CV}{f:List Value},(∀j∈qF d,s'.kn j)->rd g s d f->rd g s' d f
 | [],[],_,_=>trivial
 | .val u::d,v::f,e,h=>⟨h.1,rd.weak b e h.2⟩
 | .box j o::d,v::f,e,h=>⟨⟨e j (by simp[qF]),fun c l=>h.1.2 c (b j c l)⟩,rd.weak b (fun i m=>e i (by simp[qF,m])) h.2⟩
 | [],_::_,_,h=>h.elim
 |_::_,[],_,h=>h.elim
def TL:AV->List Nat
 | .ow j _ _ _=>[j]
 | .bp j _=>[j]
 |_=>[]
def Mb:List AV->List Nat
 | []=>[]
 |a::r=>TL a++Mb r
def vB(b:List (Nat × Option (List AV))):List (Nat × Option (List AV))->Bool
 | []=>true
 |(j,some c)::r=>(match cX j with
  |true=>Gm b (Mb c)
  |false=>true) && vB b r
 |(_,none)::r=>vB b r
def nf:∀{cs:List AV}{i:Nat}{a:AV},cs[i]? =some a-> ∀j∈TL a,j∈Mb cs
 | [],i,a,h,_,_=>by simp at h
 |b::cs,0,a,h,j,c=>by simp at h;subst h;exact List.mem_append_left _ c
 |b::cs,i+1,a,h,j,c=>List.mem_append_right _ (nf (cs:=cs) (by simpa using h) j c)
def vB.at{l:List (Nat × Option (List AV))}{i:Nat}{cs:List AV}:∀{r:List (Nat × Option (List AV))},vB l r=true->ak r i=some (some cs)->cX i=true-> ∀j∈Mb cs,∃x,ak l j=some x
 | [],_,h,_=>by cases h
 |(f,some c)::r,b,h,d=>by
  simp only[vB,B_]at b;by_cases e:f=i
  ·subst e;rw[ap]at h;cases h;have m:=b.1;rw[d]at m;exact wh m
  ·rw[az _ _ e]at h;exact vB.at b.2 h d
 |(f,none)::r,b,h,d=>by
  by_cases e:f=i
  ·subst e;rw[ap]at h;cases h
  ·rw[az _ _ e]at h;exact vB.at (r:=r) b h d
def Vu(b:List (Nat × Option (List AV)))(t:List (Nat × TV)):Bool:=Gl b t && vB b b
def x1.sub{S i:Nat->Prop}{g:Nat->Nat}{s s':AS}{w:World}{x:AV}{v:Value}(h:x1 S g s w x v)(f:∀j∈TL x,s'.kn j)(d:∀j b,s'.bx j=some b->s.bx j=some b):x1 i g s' w x v:=by
 cases x with
 |ow j n k e=>exact⟨f j (by simp[TL]),fun b c=>h.2 b (d j b c)⟩
 |bp j o=>exact⟨f j (by simp[TL]),fun b c=>h.2 b (d j b c)⟩
 |val=>trivial
 |sl=>trivial
 |nl=>trivial
def weak{s s':AS}(ht:UC s s'.t)(hb:ug s s'.b)(F:Vu s'.b s'.t=true)(L:s'.tv DK=s.tv DK:=by rfl):au s s':=by
 simp only[Vu,B_]at F;obtain⟨F,W⟩:=F;intro n S0 w0 a w ⟨g,h⟩;have m:∀j l,s'.bx j=some l->s.bx j=some l:=fun j l p=>by
  unfold AS.bx at p;split at p
  ·rename_i x H;cases p;exact hb.at H
  ·cases p
 have G:∀b,b<w.heap.size->Own S0 g s' b->Own S0 g s b:=by
  rintro b _ (h0| ⟨j,l,p,e⟩)
  ·exact .inl h0
  ·exact .inr ⟨j,l,m j l p,e⟩
 refine⟨g,fun k=>?_,fun j l p=>?_,fun i j Y Z N p e=>h.inj i j Y Z (m _ _ N) (m _ _ p) e,h.grow,?_,h.sz,h.cl,h.tg,fun k l A=>by obtain⟨b,I,f,e,U,C,z,y⟩:=h.gl k l A;exact⟨b,I,f,e,fun h=>U (G _ C h),C,z,fun i a N=>(y i a N).agree (b7.refl _ _) G⟩,fun j q l z y p=>h.gp j q l z y (m j l p),h.nk⟩
 ·cases A:ak s'.t k with
  |none=>simp only[AS.tv,A];trivial
  |some v=>
   have e:s'.tv k=v:=by simp only[AS.tv,A]
   rw[e];have B:=h.tm k;rw[ht.at A]at B;cases v with
   |d x=>exact DV.M.agree B (b7.refl _ _) G
   |tup ts=>obtain⟨vs,e,C,D⟩:=B;exact⟨vs,e,C,fun i x u z y=>(D i x u z y).agree (b7.refl _ _) G⟩
   |box j o=>exact⟨Gl.at F A j (by simp[eu]),fun l D=>B.2 l (m j l D)⟩
   |own j n q e1=>exact⟨Gl.at F A j (by simp[eu]),fun l D=>B.2 l (m j l D)⟩
   |clo fn fs l=>obtain⟨us,vs,e,z,y⟩:=B;have E:=Gl.at F A;exact⟨us,vs,e,z.weak m (fun j p=>E j (by simp[eu,p])),y.weak m (fun j p=>E j (by simp[eu,p]))⟩
   |mp es=>obtain⟨r,J,Q,e,z,y,R⟩:=B;exact⟨r,J,Q,e,z,fun h=>y (G _ (A_.1 z).1 h),R⟩
   |nil=>exact B
   |rp l=>obtain⟨b,I,f,e,U,C,z,y⟩:=B;exact⟨b,I,f,e,fun h=>U (G _ C h),C,z,fun i a N=>(y i a N).agree (b7.refl _ _) G⟩
   |und=>exact B
   |junk=>trivial
   |dfr=>trivial
   |vw j o n q=>exact⟨Gl.at F A j (by simp[eu]),fun l D=>B.2 l (m j l D)⟩
   |vs j o n c q e1=>exact⟨Gl.at F A j (by simp[eu]),fun l D=>B.2 l (m j l D)⟩
 ·obtain⟨z,O,e,y,R,h4,h5,h6⟩:=h.bm j l (m j l p);refine⟨z,O,e,y,R.agree (b7.refl _ _) G,h4,fun C i a v X V=>(h5 C i a v X V).sub (fun q hq=>?_) m,h6⟩;have S:ak s'.b j=some (some l):=by
   unfold AS.bx at p;split at p
   ·rename_i x H;cases p;exact H
   ·cases p
  exact vB.at W S C q (nf X q hq)
 ·have h0:=h.df;rw[L];cases H:s.tv DK with
  |dfr f l=>
   rw[H]at h0;obtain⟨vs,e,z⟩:=h0;have A:ak s'.t DK=some (.dfr f l):=by
    have y:=L.trans H;unfold AS.tv at y;split at y
    ·rename_i v V;rw[V,y]
    ·cases y
   have E:=Gl.at F A;exact⟨vs,e,z.weak m (fun j p=>E j (by simp[eu,p]))⟩
  |_=>rw[H]at h0;exact h0
def q9:Nat->List DV->List (Nat × TV)
 |_,[]=>[]
 |k,d::r=>(k, .d d)::q9 (k+1) r
def jW(T:TypeId->Option Ty)(s:AS):List ResultVar->Option (List DV)
 | []=>match zx (s.tv DK)with
  |true=>some []
  |false=>none
 | .tmp t::r=>match JN (s.tv t),jW T s r with
  |some dv,some l=>some (dv::l)
  |_,_=>none
 | .cell p e::r=>match s.tv p,T e,jW T s r with
  | .box j b,some d,some l=>match s.bx j with
   |some c=>match Nat.ble (b+d.size) c.length,K0 d.agg ((c.drop b).take d.size)with
    |true,some dv=>some (dv::l)
    |_,_=>none
   |none=>none
  |_,_,_=>none
def x3:List DV->RV
 | [d]=> .one d
 |l=> .tup l
def VU(S:Nat->Prop)(w:World)(ds:List DV)(vs:List Value):Prop:=ds.length=vs.length/\ ∀(i:Nat)(x:DV)(u:Value),ds[i]? =some x->vs[i]? =some u->DV.M S w x u
def A5(p:Addr)(w:World):(asAddr (.pointer (some p))).run P w= .ok p w:=rfl
def iC(I:∀t d,T t=some d->bl P t d){s:AS}{g:Nat->Nat}{a:Act}{w:World}(y:MG n S0 w0 g s a w):∀(l:List ResultVar)(m:List DV),jW T s l=some m ->
 ∃vs,(l.mapM (fun| .tmp t=>pure (a.tmps.getD t undef)| .cell p S=>do loadVar S (<- asAddr (a.tmps.getD p undef))):Sem (List Value)).run P w= .ok vs w/\VU (Own S0 g s) w m vs
 | [],m,h=>by
  simp only[jW]at h;split at h
  ·cases h;exact⟨[],rfl,rfl,fun i x u h=>by simp at h⟩
  ·cases h
 | .tmp t::r,m,h=>by
  simp only[jW]at h;split at h
  ·rename_i dv l E F;cases h;obtain⟨vs,N,L,c⟩:=iC I y r l F;have C:=Pz E (y.tm t);refine⟨a.tmps.getD t undef::vs,?_,by simp[L],fun i x u q f=>?_⟩
   ·simp only[List.mapM_cons,Y_,a_,R_,N]
   ·cases i with
    |zero=>simp only[List.getElem?_cons_zero,X_]at q f;subst q f;exact C
    |succ i=>exact c i x u (by simpa using q) (by simpa using f)
  ·cases h
 | .cell p S::r,m,h=>by
  simp only[jW]at h;split at h
  ·rename_i j B d l E F q;split at h
   ·rename_i Q R;split at h
    ·rename_i dv f U;cases h;obtain⟨vs,N,L,c⟩:=iC I y r l q;have C:=y.tm p;rw[E]at C;obtain⟨_,D,e,J,z,_⟩:=y.bm j Q R;have hlen:=z.1;have f:=N_ f;obtain⟨v,A,O⟩:=fC (P:=P) (w:=w) (I _ _ F) (b:=g j) (o:=B) (vs:=(D.toList.drop B).take d.size) (by simp at hlen ⊢;omega) (fun i v c=>by
      rw[fy J];rw[List.getElem?_take]at c;split at c
      ·simpa using c
      ·cases c) (z.sub f) U
     refine⟨v::vs,?_,by simp[L],fun i x u G H=>?_⟩
     ·simp only[Instr.loadAt,Instr.sureAddr,Y_,a_,R_]at A;simp only[List.mapM_cons,Y_,C.2 Q R,A5,a_,R_,A,N]
     ·cases i with
      |zero=>simp at G H;subst G;subst H;exact O
      |succ i=>exact c i x u (by simpa using G) (by simpa using H)
    ·cases h
   ·cases h
  ·cases h
def VM.length{S:Nat->Prop}{w:World}:∀{b:List DV}{c:List Value},VM S w b c->b.length=c.length
 | [],[],_=>rfl
 |_::b,_::c,h=>by simp[VM.length h.2]
 | [],_::_,h=>h.elim
 |_::_,[],h=>h.elim
def VM.at{S:Nat->Prop}{w:World}:∀{b:List DV}{c:List Value},VM S w b c-> ∀(k i:Nat),TV.M S (fun _=>0) ⟨[],[]⟩ w (match ak (q9 k b) i with|some v=>v|none=> .junk) (if i<k then undef else c.getD (i-k) undef)
 | [],[],_,k,i=>trivial
 |d::b,v::c,h,k,i=>by
  simp only[q9];by_cases e:k=i
  ·subst e;rw[ap];simp only[Nat.lt_irrefl,if_false,Nat.sub_self];exact h.1
  ·rw[az _ _ e];have:=VM.at h.2 (k+1) i;by_cases f:i<k
   ·rw[if_pos O_]at this;rw[if_pos f];exact this
   ·rw[if_neg O_]at this;rw[if_neg f];have j:i-k=(i-(k+1))+1:=O_;rw[j];simpa using this
 | [],_::_,h,_,_=>h.elim
 |_::_,[],h,_,_=>h.elim
def je{s:AS}:∀{m:List ResultVar}{l:List DV},jW T s m=some l->zx (s.tv DK)=true
 | [],l,h=>by
  simp only[jW]at h;split at h
  ·assumption
  ·cases h
 | .tmp t::r,l,h=>by
  simp only[jW]at h;split at h
  ·rename_i dv f c b;exact je b
  ·cases h
 | .cell p q::r,l,h=>by
  simp only[jW]at h;split at h
  ·rename_i j i d f c b e;exact je e
  ·cases h
def FY{ds:List DV}:∀{k i:Nat},k+ds.length<=i->ak (q9 k ds) i=none:=by
 induction ds with
 |nil=>intro k i _;rfl
 |cons d ds b=>intro k i h;simp only[List.length_cons]at h;rw[q9,az _ _ O_];exact b O_
def vE(O:∀t d,T t=some d->bl P t d)(G:P.follows .mixedOrders=true){f:FuncId}{p:Func}{c:Code}{ds:List DV}{r:RV}(Q:P.funcs[f]? =some p)(hb:p.body=some c)(W:(p.name == "runtime.NumGoroutine")=false)(hsz:(Nat.ble ds.length p.ntmps && Nat.ble p.ntmps DK)=true)(h:fT P T p.ntmps c (fun e s=>match e with| .exit _=>False|_=>∃l,jW T s p.results.toList=some l/\x3 l=r) ⟨q9 0 ds,[]⟩):aa P f ds r:=by
 rw[B_]at hsz;obtain⟨hsz,B⟩:=hsz;have hsz:=N_ hsz;have B:=N_ B;refine⟨fun N w=>?_,fun S w D H R=>?_⟩
 ·have J:¬p.name= "runtime.NumGoroutine" :=by simpa using W
  simp[callFunc,Y_,Q,J,hb]
 ·have Z:=VM.length R;refine calls_of_wp Q hb (wp_mono (oX (S0:=S) (w0:=⟨w,fun _=>False,[],fun _=>none⟩) O G c _ ⟨q9 0 ds,[]⟩ _ w h ⟨fun _=>0,⟨fun k=>?_,fun j cs hj=>(by cases hj),fun i j ci cj hi=>(by cases hi),cu.refl _ _,?_,by simp;omega,fun b hb=>⟨(H.2 b hb).1,fun h=>h,(H.2 b hb).2⟩,H.1.base _ _,fun k cs hk=>?_,fun j q cs _ h=>(by cases h),B⟩⟩) fun e a w1 hq=>?_)
  ·have F:Own S (fun _=>0) ⟨q9 0 ds,[]⟩=S:=by funext b;simp[Own,AS.bx,ak]
   rw[F];have:=VM.at R 0 k;simp only[Nat.not_lt_zero,if_false,Nat.sub_zero]at this;have U:(D.toArray++Array.replicate (p.ntmps-D.toArray.size) undef).getD k undef=D.getD k undef:=by
    simp only[Array.getD_eq_getD_getElem?,Array.getElem?_append,H_];by_cases y:k<D.length
    ·simp[y]
    ·simp[y];cases A:(Array.replicate (p.ntmps-D.length) undef)[k-D.length]? with
     |none=>rfl
     |some v=>rw[Array.getElem?_replicate]at A;split at A<;>simp_all
   dsimp only;rw[U];exact TV.M.agree this (b7.refl _ _) (fun _ _ h=>h) ⟨fun j hj=>hj,fun j cs _ V=>by cases V⟩
  ·have e0:(AS.mk (q9 0 ds) []).tv DK= .junk:=by simp only[AS.tv,FY (k:=0) (ds:=ds) (i:=DK) O_]
   rw[e0];rfl
  ·have F:Own S (fun _=>0) ⟨q9 0 ds,[]⟩=S:=by funext b;simp[Own,AS.bx,ak]
   rw[F];exact H.gl k cs hk
  ·have E:∀s,(∃l,jW T s p.results.toList=some l/\x3 l=r)->M p.ntmps S ⟨w,fun _=>False,[],fun _=>none⟩ s a w1->a.defers=[]/\ ∃v,(results p a.tmps).run P w1= .ok v w1/\FA S r w (.returned v) w1:=by
    rintro s ⟨l,y,rfl⟩ ⟨g,I⟩;obtain⟨m,X,z,L⟩:=iC O I p.results.toList l y;refine⟨(AP.no (je y)).1 I.df,if h:m.toArray.size=1 then m.toArray[0]else .tuple m.toArray,?_,_,rfl,?_,I.grow.below⟩
    ·unfold results;rw[Y_,Array.mapM_eq_mapM_toList,Sem.run_map];erw[X];simp only[R_];rfl
    ·have F:∀b,b<w1.heap.size->S b->Own S g s b:=fun b _ h=> .inl h;have C:∀(i:Nat)(x:DV)(u:Value),l[i]? =some x->m[i]? =some u->DV.M S w1 x u:=fun i x u y A=>(L i x u y A).agree (b7.refl _ _) F;cases l with
     |nil=>rw[dif_neg (by simp at z ⊢;omega)];exact⟨m,rfl,z,C⟩
     |cons d l=>
      cases l with
      |nil=>
       have:m.toArray.size=1:=by simpa using z.symm
       rw[dif_pos this];exact C 0 d _ rfl S_
      |cons Y l=>rw[dif_neg (by simp at z ⊢;omega)];exact⟨m,rfl,z,C⟩
   cases e with
   |normal=>obtain⟨s,y,A⟩:=hq;exact E s y A
   |ret=>obtain⟨s,y,A⟩:=hq;exact E s y A
   |exit i=>obtain⟨s,y,A⟩:=hq;exact y.elim
   |goto l=>exact hq.elim
   |panic c=>exact hq.elim
   |outgrown=>exact hq.elim
variable {ops:Array Oper}{id:Nat}{draw:Bool}{K:AS->Prop}{s:AS}{k:Nat}{o:Oper}{os:List Oper}{fps:List FP}
def iw{e:ui}{b:List Nat}(c:gd ops s o=some true)(d:fA T (id*1000+k) s o=some (e,b))(f:aO n o.dst=true)(i:gO draw ops (aH ops o e b) k fps=true)(h:aw P T n ops id draw K (k+1) os (s.eff o.dst e) (aH ops o e b::fps)):aw P T n ops id draw K k (o::os) s fps:= .run c (.op d) f i h
def ba(b:gd ops s o=some false)(c:aO n o.dst=true)(d:gO draw ops (aH ops o ⟨.und,none⟩ []) k fps=true)(h:aw P T n ops id draw K (k+1) os (s.eff o.dst ⟨.und,none⟩) (aH ops o ⟨.und,none⟩ []::fps)):aw P T n ops id draw K k (o::os) s fps:= .skip b c d h
def ac{f:Operand}{fid:FuncId}{args:Array Operand}{ts:Array TypeId}{ds:List DV}{r:RV}(q:aa P fid ds r)(e:gd ops s o=some true)(c:dV [] s.b=true)(i:o.op= .call ⟨.value f,args,ts⟩)(m:s.ev f= .d (.leaf (.val (.func (.func fid) #[] #[]))))(p:HY s args.toList=some ds)(j:aO n o.dst=true)(l:gO draw ops (aH ops o ⟨r.tv,none⟩ []) k fps=true)(h:aw P T n ops id draw K (k+1) os (s.eff o.dst ⟨r.tv,none⟩) (aH ops o ⟨r.tv,none⟩ []::fps)):aw P T n ops id draw K k (o::os) s fps:= .run e (.call i m p q (lC c) rfl rfl) j l h
def aS{t:TypeId}{ty:Ty}{x y:Operand}{e q m i:Nat}{ik:IntKind}{cs cs':List AV}(B:i<m)(c:∀(j:Nat)(a:AV),cs'[j]? =some a->cs[i*q+j]? =some a)(b:0<cs'.length)(f:gd ops s o=some true)(l:o.op= .indexAddr t x y)(u:T t=some ty)(v:ty.elem=some (e,q))(z:s.ev x= .d (.leaf (.sl m cs)))(A:s.ev y= .d (.leaf (.val (.int ik (i:Nat)))))(p:aO n o.dst=true)(r:gO draw ops (aH ops o ⟨.rp cs',none⟩ []) k fps=true)(h:aw P T n ops id draw K (k+1) os (s.eff o.dst ⟨.rp cs',none⟩) (aH ops o ⟨.rp cs',none⟩ []::fps)):aw P T n ops id draw K k (o::os) s fps:= .run f (.idx l u v z A B c b rfl rfl) p r h
def Hn{t:TypeId}{ty:Ty}{x y:Operand}{j q m i e:Nat}{ik:IntKind}{cs:List AV}(A:i<m)(b:gd ops s o=some true)(c:o.op= .indexAddr t x y)(p:T t=some ty)(r:ty.elem=some (e,q))(u:s.ev x= .own j m q e)(z:s.bx j=some cs)(v:s.ev y= .d (.leaf (.val (.int ik (i:Nat)))))(f:aO n o.dst=true)(l:gO draw ops (aH ops o ⟨.box j (i*q),none⟩ [j]) k fps=true)(h:aw P T n ops id draw K (k+1) os (s.eff o.dst ⟨.box j (i*q),none⟩) (aH ops o ⟨.box j (i*q),none⟩ [j]::fps)):aw P T n ops id draw K k (o::os) s fps:= .run b (.oidx c p r u z v A rfl rfl) f l h
def av{x:Code}{Q:AX->AS->Prop}(α:Type)(I:α->Prop)(σ:α->AS)(μ:α->Nat)(b:α)(h0:I b)(c:au s (σ b))(h:∀y,I y->fT P T n x (La (fun s'=>∃z,I z/\μ z<μ y/\au s' (σ z)) Q) (σ y)):fT P T n (.loop x) Q s:=⟨α,I,σ,μ,⟨b,h0,c⟩,h⟩
def bB{Q:AX->AS->Prop}(h:Q .normal s):fT P T n .skip Q s:=h
def iy{i:Nat}{Q:AX->AS->Prop}(h:Q (.exit i) s):fT P T n (.exit i) Q s:=h
def bW{v v':Value}{b:List Nat}(c:gd ops s o=some true)(e:fA T (id*1000+k) s o=some (⟨.d (.leaf (.val v)),none⟩,b))(f:aO n o.dst=true)(i:gO draw ops (aH ops o ⟨.d (.leaf (.val v')),none⟩ b) k fps=true)(j:v=v')(h:aw P T n ops id draw K (k+1) os (s.eff o.dst ⟨.d (.leaf (.val v')),none⟩) (aH ops o ⟨.d (.leaf (.val v')),none⟩ b::fps)):aw P T n ops id draw K k (o::os) s fps:=by subst j;exact .run c (.op e) f i h
def E8{j:Nat}{op:BinOp}{t i:TypeId}{x y:Operand}{u v r:Value}(c:o.op= .binOp op t x y i)(f:s.ev x= .d (.leaf (.val u)))(h:s.ev y= .d (.leaf (.val v)))(e:mI op t x y u v=some r)(b:r.oneCell'=true):fA T j s o=some (⟨.d (.leaf (.val r)),none⟩,[]):=by unfold fA;rw[c];simp only[f,h,e,b]
def aj{op:BinOp}{t p:TypeId}{x y:Operand}{u v r:Value}(b:gd ops s o=some true)(f:o.op= .binOp op t x y p)(l:s.ev x= .d (.leaf (.val u)))(m:s.ev y= .d (.leaf (.val v)))(i:r.oneCell'=true)(c:aO n o.dst=true)(e:gO draw ops (aH ops o ⟨.d (.leaf (.val r)),none⟩ []) k fps=true)(j:mI op t x y u v=some r)(h:aw P T n ops id draw K (k+1) os (s.eff o.dst ⟨.d (.leaf (.val r)),none⟩) (aH ops o ⟨.d (.leaf (.val r)),none⟩ []::fps)):aw P T n ops id draw K k (o::os) s fps:= .run b (.op (E8 f l m j i)) c e h
def tN{t:TypeId}{x y:Operand}{q:IntKind}{a b:Int}(c:b≠0):mI .rem t x y (.int q a) (.int q b)=some (.int q (a.tmod b)):=by
 show sj (do eqGuard .rem t x y (.int q a) (.int q b);binOp .rem t (.int q a) (.int q b))=_;have:binOp .rem t (.int q a) (.int q b)= .pure (.int q (a.tmod b)):=by simp only[binOp,ne_eq,not_true_eq_false,if_false,Op.intDiv,c];rfl
 simp only[this];rfl
def OG{d:Nat}{x y:Operand}{t e q m1 m2:Nat}{ty f:Ty}{dead:Option Nat}{cs xs:List AV}(z:0<m2)(u:(m1+m2)*f.bytes<=140737488355328)(m:xs.length=m2*q)(h0:draw=false)(p:gd ops s o=some true)(A:o.op= .call ⟨.builtin .append,#[x,y],#[t,t]⟩)(v:o.dst=some d)(r:aO n o.dst=true)(C:T t=some ty)(i:ty.elem=some (e,q))(l:T e=some f)(B:f.size=q)(j:(Nat.ble 1 q && Nat.ble 1 f.bytes)=true)(c:gm s x m1 q e dead cs)(D:s.ev y= .d (.leaf (.sl m2 xs)))(hnew:jh s (1000000+(id*1000+k))=true)(h:aw P T n ops id draw K (k+1) os ⟨(d, .own (1000000+(id*1000+k)) (m1+m2) q e)::s.t,(1000000+(id*1000+k),some (cs.take (m1*q)++xs))::jl dead s.b⟩ (aH ops o ⟨.junk,none⟩ []::fps)):aw P T n ops id draw K k (o::os) s fps:= .app h0 p A v r C i l B j c D m z u hnew h
def co{b:List ResultVar}{r:RV}{l:List DV}(c:jW T s b=some l)(d:x3 l=r):∃l,jW T s b=some l/\x3 l=r:=⟨l,c,d⟩
def bH{x y:Code}{Q:AX->AS->Prop}(h:fT P T n x (La (fT P T n y Q) Q) s):fT P T n (.seq x y) Q s:=h
def bz{Q:AX->AS->Prop}(c:(draw && !(mr ops && dV [] s.b))=false)(h:aw P T n ops id draw (fun s'=>Q .normal s') 0 ops.toList s []):fT P T n (.region id ops draw) Q s:=⟨_, .one (au.refl s),fun _ e=>e ▸ ⟨c,h⟩⟩
def iU{Q:AX->AS->Prop}{c:AS}(f:au s c)(d:(draw && !(mr ops && dV [] c.b))=false)(h:aw P T n ops id draw (fun s'=>Q .normal s') 0 ops.toList c []):fT P T n (.region id ops draw) Q s:=⟨_, .one f,fun _ e=>e ▸ ⟨d,h⟩⟩
def ep{q j m k e:Nat}{cs:List AV}(f:s.tv q= .own j m k e)(c:s.bx j=some cs):au s ⟨(q, .d (.leaf (.sl m cs)))::s.t,(j,none)::s.b⟩:=fun _ _ _ _ _⟨g,h⟩=>⟨g,h.freeze f c⟩
def fH{c:Operand}{x y:Code}{Q:AX->AS->Prop}{t:Bool}(f:s.ev c= .d (.leaf (.val (.bool t))))(b:t=true->fT P T n x Q s)(e:t=false->fT P T n y Q s):fT P T n (.cond c x y) Q s:=⟨t,f,b,e⟩
def eG{c:Operand}{x y:Code}{Q:AX->AS->Prop}(e:s.ev c= .d (.leaf (.val (.bool true))))(b:fT P T n x Q s):fT P T n (.cond c x y) Q s:=⟨true,e,fun _=>b,fun h=>(by cases h)⟩
def dX{c:Operand}{x y:Code}{Q:AX->AS->Prop}(e:s.ev c= .d (.leaf (.val (.bool false))))(b:fT P T n y Q s):fT P T n (.cond c x y) Q s:=⟨false,e,fun h=>(by cases h),fun _=>b⟩
def fX{c:Operand}{x y:Code}{Q:AX->AS->Prop}{t:Bool}(e:s.ev c= .d (.leaf (.val (.bool t))))(f:t=true)(b:fT P T n x Q s):fT P T n (.cond c x y) Q s:=by subst f;exact eG e b
def eR{c:Operand}{x y:Code}{Q:AX->AS->Prop}{t:Bool}(e:s.ev c= .d (.leaf (.val (.bool t))))(f:t=false)(b:fT P T n y Q s):fT P T n (.cond c x y) Q s:=by subst f;exact dX e b
def bR{b:Nat}{x:Code}{Q:AX->AS->Prop}(h:fT P T n x (Bh b Q) s):fT P T n (.block b x) Q s:=h
end
end Go.Proofs.YtnchbpoopnjghaaGreatDoor
