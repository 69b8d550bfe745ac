/- times of both packages. times of the reference. slices.Clone at words. Worlds that have only grown; cells held through a region that draws its order. Held cells: printed by gen_held.py. -/
import Derived.Test.YtnchbpoopnjghaaGreatDoorRAc
set_option maxHeartbeats 100000000
set_option linter.all false
open Go.Proofs.Tryz
namespace Go.Proofs.YtnchbpoopnjghaaGreatDoor
open Go.RowKit
def vW(x y:Nat)(a:x<4294967296)(b:y<4294967296):0<=(x:Int)*(y:Int)/\(x:Int)*(y:Int)<=18446744065119617025:=by have h:x*y<=4294967295*4294967295:=Nat.mul_le_mul O_ O_;rw[<- Int.natCast_mul];omega
def zJ(A B:Option Addr)(n m c d:Nat)(xs ys:List Nat)(w:World)(L:a7 w A n c xs)(P:a7 w B m d ys)(hn:0<n)(hm:0<m)(hs:n<=4294967296)(ao:m<=4294967296):
 Calls prog 259 #[.slice A n c, .slice B m d] w (jo (fun zs=>zs=digs (val xs*val ys)) w):=by
 have al:=L.cap;have hc:=L.lim;have ag:=P.cap;have hd:=P.lim;obtain⟨b1,o1,rfl,C,hc1⟩:=L.at hn;obtain⟨b2,o2,rfl,D,E⟩:=P.at hm;have Hc1:=Lib.hid hc1;have Hc2:=Lib.hid E;have Hx:=Lib.hid L;have Hy:=Lib.hid P;clear L P hc1 E;have hmk:=eD (n+m) ((n:Int)+m) O_ O_;have a:=dp w (ax (n+m));have u:Below w.heap.size w (w.alloc (de (ax (n+m)))):=(Below.refl _ _).alloc (l_ _) _;have Hrow:=Lib.hid a;have Hb0:=Lib.hid u;clear a u;have ad:((n:Int) == 0)=false:=by rw[beq_eq_false_iff_ne];omega
 have X:((m:Int) == 0)=false:=by rw[beq_eq_false_iff_ne];omega
 go_enter func259,ntmps259
 go_wp2_with fail
 clear hmk ad X
 go_loopw [27] (fun i wr=>∃(T:Nat)(zs:List Nat),T<=n/\i= .int .i64 T/\(Wd zs/\zs.length=n+m/\(∀j,T+m<=j->zs.getD j 0=0)/\val zs=val (xs.take T)*val ys)/\eK wr w.heap.size zs/\Below w.heap.size w wr)
  (fun i _=>n-(intOf i).toNat)
 case atStart=>exact⟨0,ax (n+m),Nat.zero_le _,rfl,⟨b6 _,aN _,fun j _=>aV _ _,by simp[val,ax,bf]⟩,Hrow.out,Hb0.out⟩
 case round=>
  obtain⟨i,zs,hi,rfl,hv,a,hb⟩:=hrel;have g:=Lib.hid hv;have Hb:=Lib.hid hb;have Hr:=Lib.hid a;clear hv hb a;obtain⟨wo,rfl⟩:∃wo:World,wo=wr:=⟨_,rfl⟩;by_cases V:i<n
  ·have I:(i:Int)<n:=O_;have r:=Hx.out.wd.getD i;have F:=(Hb.out.cell (p:=⟨b1,o1+i,none⟩) C).trans (Hc1.out i V);generalize O:xs.getD i 0=x at F r;have Hxx:=Lib.hid O;clear O
   go_wp2_with fail
   go_loopw [8,34] (fun cr k wr=>∃(U cy:Nat)(us:List Nat),U<=m/\k= .int .i64 U/\cr= .int .u64 cy/\cy<4294967296 /\
    (Wd us/\us.length=n+m/\(∀j,i+m<=j->us.getD j 0=0)/\val us+4294967296^(i+U)*cy=val (xs.take i)*val ys+4294967296^i*(x*val (ys.take U)))/\eK wr w.heap.size us/\Below w.heap.size w wr)
    (fun _ k _=>m-(intOf k).toNat)
   case atStart=>exact⟨0,0,zs,Nat.zero_le _,rfl,rfl,by omega,⟨g.out.1,g.out.2.1,g.out.2.2.1,by rw[g.out.2.2.2];simp[val]⟩,Hr.out,Hb.out⟩
   case round=>
    obtain⟨k,cy,us,hk,rfl,rfl,hcy,K,b,v⟩:=hrel;have h:=fun j=>b.frozen j;have hfr1:=h (i+k);have H:=h (i+m);have Hv2:=Lib.hid K;have Hb2:=Lib.hid v;have Hr2:=Lib.hid b;clear K v b h F;by_cases W:k<m
    ·have hkm':(k:Int)<m:=O_;have s:=Hy.out.wd.getD k;have R:=Hv2.out.1.getD (i+k);have G:=(Hb2.out.cell (p:=⟨b2,o2+k,none⟩) D).trans (Hc2.out k W);have hcz:=Hr2.out.cell (i+k) (by rw[Hv2.out.2.1];omega);generalize Q:ys.getD k 0=y at G s;generalize S:us.getD (i+k) 0=z at hcz R;have Hyy:=Lib.hid Q;have Hzz:=Lib.hid S;have f:=vW x y r s;have Y:=f.1;have Z:=f.2;clear Q S f H
     go_wp2_with fail
     go_roundw
     case rel=>
      have e:((cy:Int)+((x:Int)*y+z))=((cy+x*y+z:Nat):Int):=by push_cast;omega
      have J:=vT r s R hcy;have hst:=qv (by rw[Hv2.out.2.1];omega) Hv2.out.2.2.2;rw[Hyy.out,Hzz.out]at hst;generalize ht:cy+x*y+z=t at e J hst;rw[e];have e1:Value.int .u32 ((t:Int)%4294967296)=bP (t%4294967296):=by unfold bP;go_num
      rw[e1];exact⟨k+1,t/4294967296,us.set (i+k) (t%4294967296),by omega,by go_num,by go_num,J.2,
       ⟨di Hv2.out.1 _ _ O_,by rw[List.length_set];exact Hv2.out.2.1,fun j hj=>by rw[getD_set_ne O_];exact Hv2.out.2.2.1 j hj,hst⟩,Hr2.out.set _ _,Hb2.out.setCell (l_ _) _⟩
     case measure=>simp[intOf];omega
    ·exact Ss
  ·obtain rfl:i=n:=O_;have I:¬(i:Int)<i:=O_;have N:xs.take i=xs:=K_ (by rw[Hx.out.len];exact l_ _);have o:a7 wo (some ⟨w.heap.size,0,none⟩) (i+m) (i+m) zs:=Hr.out.wrd' g.out.1 g.out.2.1 O_;have l:trim zs=digs (val xs*val ys):=by unfold trim;rw[g.out.2.2.2,N]
   have q:=o.trim;rw[l]at q;have Hw2:=Lib.hid o;have Hw3:=Lib.hid q;have Htr:=Lib.hid l;clear N o l q;exact Ui
def Mr(A B:Option Addr)(n m c d:Nat)(xs ys:List Nat)(w:World)(f:a7 w A n c xs)(g:a7 w B m d ys)(k:n<=4294967296)(i:m<=4294967296):
 Calls prog 259 #[.slice A n c, .slice B m d] w (jo (fun l=>l=digs (val xs*val ys)) w):=by
 rcases Nat.eq_zero_or_pos n with h|h
 ·have a:val xs=0:=by rw[E_ (f.len.trans h)];rfl
  have Hfin:Hid ([]=digs (val xs*val ys)):=by rw[a,Nat.zero_mul,aG];exact rfl
  clear a f g;subst h;exact TD
 ·rcases Nat.eq_zero_or_pos m with b|b
  ·have a:val ys=0:=by rw[E_ (g.len.trans b)];rfl
   have Hfin:Hid ([]=digs (val xs*val ys)):=by rw[a,Nat.mul_zero,aG];exact rfl
   clear a f g;subst b;have j:((n:Int) == 0)=false:=by rw[beq_eq_false_iff_ne];omega
   exact TD
  ·exact zJ A B n m c d xs ys w f g h b k i
def IZ(A B:Option Addr)(n m c d:Nat)(xs ys:List Nat)(w:World)(h:a7 w A n c xs)(l:a7 w B m d ys)(G:n<=4294967296)(C:m<=4294967296):
 Calls prog 278 #[.slice A n c, .slice B m d] w (jo (fun zs=>zs=digs (val xs*val ys)) w):=by
 have v:=h.cap;have D:=h.lim;have u:=l.cap;have E:=l.lim;have Hx:=Lib.hid h;have Hy:=Lib.hid l;clear h l;have hmk:=eD (n+m) ((n:Int)+m) O_ O_;have a:=dp w (ax (n+m));have f:Below w.heap.size w (w.alloc (de (ax (n+m)))):=(Below.refl _ _).alloc (l_ _) _;have Hrow:=Lib.hid a;have Hb0:=Lib.hid f;clear a f
 go_enter func278,ntmps278
 go_wp2_with fail
 clear hmk
 go_loopw [6] (fun i wr=>∃(o:Nat)(zs:List Nat),o<=n/\i= .int .i64 o/\(Wd zs/\zs.length=n+m/\(∀j,o+m<=j->zs.getD j 0=0)/\val zs=val (xs.take o)*val ys)/\eK wr w.heap.size zs/\Below w.heap.size w wr)
  (fun i _=>n-(intOf i).toNat)
 case atStart=>exact⟨0,ax (n+m),Nat.zero_le _,rfl,⟨b6 _,aN _,fun j _=>aV _ _,by simp[val,ax,bf]⟩,Hrow.out,Hb0.out⟩
 case round=>
  obtain⟨i,zs,F,rfl,s,a,r⟩:=hrel;have Hv:=Lib.hid s;have Hb:=Lib.hid r;have Hr:=Lib.hid a;clear s r a;obtain⟨q,rfl⟩:∃q:World,q=wr:=⟨_,rfl⟩;by_cases hin:i<n
  ·exact VF
  ·obtain rfl:i=n:=O_;have hin':¬(i:Int)<i:=O_;have g:xs.take i=xs:=K_ (by rw[Hx.out.len];exact l_ _);have hw2:a7 q (some ⟨w.heap.size,0,none⟩) (i+m) (i+m) zs:=Hr.out.wrd' Hv.out.1 Hv.out.2.1 O_;have b:trim zs=digs (val xs*val ys):=by unfold trim;rw[Hv.out.2.2.2,g]
   have hw3:=hw2.trim;rw[b]at hw3;have Hw2:=Lib.hid hw2;have Hw3:=Lib.hid hw3;have Htr:=Lib.hid b;clear g hw2 b hw3;exact TW
def ti{w:World}{B g n c:Nat}{A:Option Addr}{xs:List Nat}(ty:TypeId)(F:w.heap[g]? =some (.cells #[] 135 (0,0)))(L:B<=g)(e:a7 w A n c xs)(V:n<=4294967296):
 ∃C E m,(Builtin.append_ #[34,34] ty #[.slice (some ⟨g,0,none⟩) 0 0, .slice A n c]).run prog w= .ok (.slice C n E) m/\a7 m C n E xs/\Below B w m:=by
 obtain⟨H,G,v,y,z⟩:=info_parts Tryz.infoU32;have S:g<w.heap.size:=(A_.1 F).1;have d:w.ownsRow B 135 1 (.slice (some ⟨g,0,none⟩) 0 0) 0 []:=⟨rfl, .inr ⟨g,0,#[],rfl,L,F,l_ _,by simp only[maxLen];omega,rfl,rfl⟩⟩;rcases A with _|D
 ·have o:=e.isnil rfl;have r:n=0:=by have:=e.cap;omega
  subst o r;have t:xs=[]:=E_ e.len;subst t;refine⟨some ⟨g,0,none⟩,0,w,run_append_owned_none (P:=prog) w B 34 ty 135 H 1 underlying34 G _ 0 [] d,?_, .refl _ _⟩;exact⟨rfl,l_ _,by omega,Wd.nil, .nil _ _,fun h=>by cases h⟩
 ·have hcells:∀j u,(xs.map bP)[j]? =some u->w.cell? (D.add j)=some u:=by
   intro j u l;rcases e.cells with h0| ⟨b,T,K,O⟩
   ·rw[h0]at l;simp at l
   ·obtain rfl:=Option.some.inj K;rw[Addr.add_lit];exact O j u l
  obtain⟨W,m,hrun,a,q,i⟩:=run_append_own (P:=prog) w B 34 ty 135 H (.int .u32 0) 1 4 underlying34 G v y z rfl O_ _ 0 [] d D n c (xs.map bP)
   (by rw[j_,e.len];omega) hcells (by intro u l;obtain⟨x,_,rfl⟩:=List.mem_map.1 l;rfl) (by simp only[maxLen];omega) O_ O_
  rw[J_,List.nil_append]at a;have f:Below B w m:=(Below.refl _ _).grown q O_ (fun k R=>by simp[Value.ownBlock]at R;omega);rcases a.2 with⟨rfl,_⟩| ⟨U,I,J,rfl,N,Q,s,p,_⟩
  ·have:=i.1 rfl;simp at this
  ·exact⟨_,_,_,hrun,ia a e.wd s (by simpa only[maxLen]using p),f⟩
def uw{w:World}{B g n c:Nat}{A:Option Addr}{xs:List Nat}{o:Oper}{a:Act}{K:Act->World->Prop}{Q:Exit->Act->World->Prop}(s x:Operand)(m:o.op= .call { callee:= .builtin .append,args:= #[s,x],argTypes:= #[34,34] })(p:a.eval s= .slice (some ⟨g,0,none⟩) 0 0)(r:a.eval x= .slice A n c)(k:w.heap[g]? =some (.cells #[] 135 (0,0)))(j:B<=g)(q:a7 w A n c xs)(l:n<=4294967296)(h:∀d e b,a7 b d n e xs->Below B w b->K (a.put o.dst (.slice d n e)) b):o.wp prog a w K Q:=by obtain⟨d,e,b,hrun,f,i⟩:=ti o.type k j q l;unfold Oper.wp execOp;simp only[m,resolve,invoke,builtin,Y_,a_,R_,List.map_toArray,List.map_cons,List.map_nil,p,r,hrun];exact h d e b f i
def nA{w:World}{B g n c:Nat}{A:Option Addr}{xs:List Nat}{ops:Array Oper}{b:List Oper}{o:Oper}{a:Act}{Q:Exit->Act->World->Prop}(hgd:o.guard=none)(s x:Operand)(q:o.op= .call { callee:= .builtin .append,args:= #[s,x],argTypes:= #[34,34] })(r:a.eval s= .slice (some ⟨g,0,none⟩) 0 0)(u:a.eval x= .slice A n c)(m:w.heap[g]? =some (.cells #[] 135 (0,0)))(k:B<=g)(t:a7 w A n c xs)(p:n<=4294967296)(h:∀e f d,a7 d e n f xs->Below B w d->wpList prog ops Q b (a.put o.dst (.slice e n f)) d):wpList prog ops Q (o::b) a w:=
 wpList_plain hgd fun _ l=>uw s x q r u m k t p fun e f d i j=>l _ _ (h e f d i j)
def oS(A:Option Addr)(n c:Nat)(xs:List Nat)(w:World)(i:a7 w A n c xs)(j:n<=4294967296):
 Calls prog 236 #[.slice A n c] w (jo (fun q=>q=xs) w):=by
 obtain⟨v,u,m,o,p⟩:=info_parts Tryz.infoU32;have heq:=fun(W:World)(a:Option Addr)(l k:Nat)=>run_eql_slice_nil (P:=prog) W 34 135 a l k underlying34;have e:=Lib.hid i;clear i;rcases A with _|s
 ·have g:=e.out.isnil rfl;have b:n=0:=by have:=e.out.cap;omega
  have d:[]=xs:=(E_ (e.out.len.trans b)).symm;have Hxs:=Lib.hid d;clear d;subst g b
  go_enter func236,ntmps236
  go_wp2_with fail
  go_ret
  exact⟨_,_,_,[],rfl, .nil _,Hxs.out, .refl _ _⟩
 ·go_enter func236,ntmps236
  go_wp2_with (at_builtin;refine nA rfl _ _ rfl rfl rfl (heap_alloc_new w _) (l_ _) (e.out.alloc _) j ?_;intro r t x h f)
  go_ret
  exact⟨_,_,_,xs,rfl,h,rfl,((Below.refl _ _).alloc (l_ _) _).trans f⟩
section
attribute [local go_sem ↓] Go.wp_at_zero Go.wp_at_succ
def gi(W w:World):Prop:=Below W.heap.size W w
def gi.refl(W:World):gi W W:=Below.refl _ _
def gi.more{W w w':World}(h:gi W w)(a:Below w.heap.size w w'):gi W w':=Below.trans h (a.mono h.size)
def gi.drew{W w:World}(h:gi W w):gi W w.drew:=Below.drew h
def kc{w w':World}{p:Addr}{v:Value}(h:w.cell? p=some v)(a:Below w.heap.size w w'):w'.cell? p=some v:=
 (a.cell (World.block_lt_of_cell? w p h)).trans h
def UU{w w':World}{p:Addr}{v:Value}(h:w.cell? p=some v)(a:gi w w'):w'.cell? p=some v:=kc h a
def a7.ext{W w:World}{A:Option Addr}{n c:Nat}{xs:List Nat}(h:a7 W A n c xs)(a:gi W w):a7 w A n c xs:=h.below a
def gi.alloc{W w:World}(h:gi W w)(o:Obj):gi W (w.alloc o):=Below.alloc h h.size o
def gi.trans{a b c:World}(h:gi a b)(k:gi b c):gi a c:=gi.more h k
end
end Go.Proofs.YtnchbpoopnjghaaGreatDoor
