/- A machine of plain data with memory of its own: code whose inputs are known is run by reckoning. -/
import Derived.Test.YtnchbpoopnjghaaGreatDoorRAm
set_option maxHeartbeats 100000000
set_option linter.all false
namespace Go.Proofs.YtnchbpoopnjghaaGreatDoor
open Go.RowKit
inductive HV where
 |v (x:Value)
 |z (l:List Nat)
 |p (b o:Nat)
 |s (b o n c:Nat) (q:Bool)
 |f (fn:Fn) (fs cs:List HV)
 |i (t:TypeId) (x:HV)
 |a (cs:List HV)
 |t (cs:List HV)
 |m (b:Nat)
 |o
 |j
inductive HB where
 |c (cs:List HV) (e:TypeId) (q:Bool)
 |r (cs:List HV)
 |m (es:List (List Nat × HV))
 |x
inductive Tr (α:Type) where
 |l
 |n (x:Tr α) (v:Option α) (y:Tr α)
def Tr.get{α:Type}:Tr α->Nat->Option α
 | .l,_=>none
 | .n x v y,k=>match Nat.beq k 0 with
  |true=>v
  |false=>match Nat.beq (k%2) 1 with
   |true=>x.get (k/2)
   |false=>y.get (k/2-1)
def Tr.open{α:Type}:Tr α->Tr α × Option α × Tr α
 | .l=>(.l,none, .l)
 | .n x v y=>(x,v,y)
def Tr.set{α:Type}:Nat->Tr α->Nat->α->Tr α
 |0,t,_,_=>t
 |f+1,t,k,u=>match t.open with
  |(x,v,y)=>match Nat.beq k 0 with
   |true=> .n x (some u) y
   |false=>match Nat.beq (k%2) 1 with
    |true=> .n (Tr.set f x (k/2) u) v y
    |false=> .n x v (Tr.set f y (k/2-1) u)
def Tr.put{α:Type}(t:Tr α)(k:Nat)(u:α):Tr α:=Tr.set (k+1) t k u
def zB:Value->Bool
 | .bool _=>true
 | .int _ _=>true
 | .pointer none=>true
 | .slice none 0 0=>true
 | .map none=>true
 | .nilFunc=>true
 | .nilIface=>true
 |_=>false
def hc1:Value->HV
 | .string b=> .z (b.data.toList.map UInt8.toNat)
 | .func a ⟨[]⟩ ⟨[]⟩=> .f a [] []
 |v=>match zB v with
  |true=> .v v
  |false=> .j
def RY:Value->HV
 | .agg b=> .a (b.toList.map hc1)
 |v=>hc1 v
def hG:Nat:=64
def hev(s:Tr HV):Operand->HV
 | .tmp k=>match s.get k with
  |some x=>x
  |none=> .t []
 | .const v=>RY v
 | .global k=>match Nat.blt k hG with
  |true=> .p k 0
  |false=> .j
 | .func f=> .f (.func f) [] []
def j4:HV->Bool
 | .a _=>false
 | .t _=>false
 | .j=>false
 |_=>true
def da:List HV->Bool
 | []=>true
 |x::r=>match j4 x with
  |true=>da r
  |false=>false
def hcells:HV->List HV
 | .a b=>b
 |x=>[x]
def yR:Nat->List HV->Option (List HV)
 |0,_=>some []
 |_+1,[]=>none
 |n+1,x::r=>match yR n r with
  |some l=>some (x::l)
  |none=>none
def KA:Nat->List HV->Option (List HV)
 |0,l=>some l
 |_+1,[]=>none
 |n+1,_::r=>KA n r
def Ab(o n:Nat)(l:List HV):Option (List HV):=match KA o l with
 |some r=>yR n r
 |none=>none
def pB:List HV->Nat->List HV->Option (List HV)
 |l,0,[]=>some l
 | [],_,_::_=>none
 |x::r,0,y::a=>match pB r 0 a with
  |some l=>some (y::l)
  |none=>none
 | [],_+1,[]=>none
 |x::r,o+1,a=>match pB r o a with
  |some l=>some (x::l)
  |none=>none
def MQ(h:Tr HB)(b o n:Nat):Option (List HV):=match h.get b with
 |some (.c a _ _)=>Ab o n a
 |some (.r a)=>Ab o n a
 |_=>none
def uo(z:List HV):Nat->List HV
 |0=>[]
 |n+1=>z++uo z n
def tK{α β:Type}(f:α->Option β):List α->Option (List β)
 | []=>some []
 |x::a=>match f x with
  |some y=>match tK f a with
   |some b=>some (y::b)
   |none=>none
  |none=>none
section
variable (P:Program)
def hsz(t:TypeId):Option Nat:=match P.info? t with
 |some i=>some i.size
 |none=>none
def hby(t:TypeId):Option Nat:=match P.info? t with
 |some i=>some i.bytes
 |none=>none
def oJ(t:TypeId):Option (List HV):=match P.info? t with
 |some i=>match i.zero with
  |some z=>some (z.cells.toList.map hc1)
  |none=>none
 |none=>none
def K5(t:TypeId):Option Bool:=match P.underlying t with
 |some (.struct _)=>some true
 |some (.array _ _)=>some true
 |some _=>some false
 |none=>none
def hrd(h:Tr HB)(t:TypeId)(b o:Nat):Option HV:=match K5 P t with
 |some true=>match hsz P t with
  |some n=>match MQ h b o n with
   |some l=>some (.a l)
   |none=>none
  |none=>none
 |some false=>match MQ h b o 1 with
  |some [x]=>some x
  |_=>none
 |none=>none
def hcut(t:TypeId)(cs:List HV)(o:Nat):Option HV:=match K5 P t with
 |some true=>match hsz P t with
  |some n=>match Ab o n cs with
   |some l=>some (.a l)
   |none=>none
  |none=>none
 |some false=>match Ab o 1 cs with
  |some [x]=>some x
  |_=>none
 |none=>none
def fh{α:Type}:List α->Nat
 | []=>0
 |_::r=>fh r+1
def x6(a:Nat->Option (Nat × Nat))(cs:List HV):List (Nat × HV)->Option (List HV)
 | []=>some cs
 |(i,x)::r=>match a i with
  |some (o,k)=>match Nat.beq (fh (hcells x)) k,da (hcells x)with
   |true,true=>match pB cs o (hcells x)with
    |some l=>x6 a l r
    |none=>none
   |_,_=>none
  |none=>none
def wT:List Nat->List Nat->Bool
 | [],[]=>true
 |a::r,b::s=>match Nat.beq (a%256) (b%256)with
  |true=>wT r s
  |false=>false
 |_,_=>false
def u9:List Nat->List Nat->Bool
 |_,[]=>false
 | [],_::_=>true
 |a::r,b::s=>match Nat.blt (a%256) (b%256)with
  |true=>true
  |false=>match Nat.beq (a%256) (b%256)with
   |true=>u9 r s
   |false=>false
def heq:Nat->TypeId->HV->HV->Option Bool
 |0,_,_,_=>none
 |d+1,t,x,y=>match P.underlying t with
  |some .bool=>match x,y with
   | .v (.bool a), .v (.bool b)=>some (a == b)
   |_,_=>none
  |some (.int _)=>match x,y with
   | .v (.int k a), .v (.int f b)=>if k=f then some (a == b)else none
   |_,_=>none
  |some (.pointer e)=>match x,y with
   | .v (.pointer none), .v (.pointer none)=>some true
   | .p _ _, .v (.pointer none)=>some false
   | .p b o, .p c g=>match Nat.beq b c,hsz P e with
    |true,some (_+1)=>some (Nat.beq o g)
    |_,_=>none
   |_,_=>none
  |some (.slice _)=>match x,y with
   | .s _ _ _ _ _, .v (.slice none 0 0)=>some false
   |_,_=>none
  |some (.interface _)=>match x,y with
   | .v .nilIface, .v .nilIface=>some true
   | .i _ _, .v .nilIface=>some false
   | .i a x, .i b y=>match Nat.beq a b with
    |false=>some false
    |true=>match P.info? a with
     |some i=>match i.comparable with
      |true=>heq d a x y
      |false=>none
     |none=>none
   |_,_=>none
  |_=>none
def yI:Operand->Bool
 | .const _=>true
 |_=>false
def Sb(x y:Operand):HV->Bool
 | .v .nilIface=>yI x || yI y
 | .v (.int _ _)=>false
 | .v _=>true
 | .p _ _=>true
 | .s _ _ _ _ _=>true
 | .i _ _=>true
 |_=>false
def Vr:BinOp->Option Bool
 | .eql=>some true
 | .neq=>some false
 |_=>none
def hbin(op:BinOp)(t:TypeId)(x y:Operand):HV->HV->Option HV
 | .v (.int k a), .v (.int c b)=>match sj (do eqGuard op t x y (.int k a) (.int c b);binOp op t (.int k a) (.int c b))with
  |some r=>match zB r with
   |true=>some (.v r)
   |false=>none
  |none=>none
 | .z a, .z b=>match op with
  | .add=>match Nat.ble (fh a+fh b) 9223372036854775807 with
   |true=>some (.z (a++b))
   |false=>none
  | .eql=>some (.v (.bool (wT a b)))
  | .neq=>some (.v (.bool (!wT a b)))
  | .lss=>some (.v (.bool (u9 a b)))
  |_=>none
 |u,v=>match Vr op,Sb x y u with
  |some w,true=>match heq P 20 t u v with
   |some r=>some (.v (.bool (r == w)))
   |none=>none
  |_,_=>none
def sc(k:List Nat):List (List Nat × HV)->Option HV
 | []=>none
 |(a,x)::r=>match wT k a with
  |true=>some x
  |false=>sc k r
def sV:HV->Option Nat
 | .v (.int _ (.ofNat n))=>some n
 |_=>none
def MH(s:Tr HV):Option Operand->Option (Option Nat)
 |none=>some none
 |some x=>match sV (hev s x)with
  |some n=>some (some n)
  |none=>none
def VD(s:List Nat)(l u:Nat):Option HV:=match Nat.ble l u,Nat.ble u (fh s)with
 |true,true=>some (.z ((s.take u).drop l))
 |_,_=>none
def VE(b o k c l u:Nat):Option HV:=match Nat.ble l u,Nat.ble u c,Nat.blt l c with
 |true,true,true=>some (.s b (o+l*k) (u-l) (c-l) false)
 |_,_,_=>none
def VC(b o k n l u:Nat):Option HV:=match Nat.ble l u,Nat.ble u n,Nat.beq l 0 || Nat.blt l n with
 |true,true,true=>some (.s b (o+l*k) (u-l) k true)
 |_,_,_=>none
def Bo(t:TypeId)(x:HV)(d a:Option Nat):Option HV:=match P.underlying t with
 |some .string=>match x with
  | .z s=>VD s (d.getD 0) (a.getD (fh s))
  |_=>none
 |some (.slice e)=>match hsz P e with
  |some k=>match x with
   | .v (.slice none 0 0)=>match Nat.beq (d.getD 0) 0,Nat.beq (a.getD 0) 0 with
    |true,true=>some (.v (.slice none 0 0))
    |_,_=>none
   | .s b o n c false=>VE b o k c (d.getD 0) (a.getD n)
   | .s b o n c true=>match Nat.beq c k with
    |true=>VC b o k n (d.getD 0) (a.getD n)
    |false=>none
   |_=>none
  |none=>none
 |_=>none
def hlen:HV->Option Nat
 | .s _ _ n _ _=>some n
 | .v (.slice none 0 0)=>some 0
 |_=>none
def wn:HV->Option Nat
 | .v (.int .u8 (.ofNat n))=>match Nat.blt n 256 with
  |true=>some n
  |false=>none
 |_=>none
def Jk:HV->Option Nat
 | .v (.int .i64 (.ofNat n))=>some n
 |_=>none
def Hp(h:Tr HB)(b n:Nat):Option (List Nat):=match MQ h b 0 n with
 |some l=>tK wn l
 |none=>none
def kb(n:Nat):HV:= .v (.int .u8 (Int.ofNat (n%256)))
def QI(b:Builtin)(l:List HV)(ts:List TypeId):Option HV:=match b with
 | .len=>match l,ts with
  | [x],t::_=>match P.underlying t with
   |some .string=>match x with
    | .z l=>some (.v (.int .i64 (fh l)))
    |_=>none
   |some (.slice _)=>match hlen x with
    |some n=>some (.v (.int .i64 n))
    |none=>none
   |_=>none
  |_,_=>none
 | .cap=>match l,ts with
  | [x],t::_=>match P.underlying t,x with
   |some (.slice _), .v (.slice none 0 0)=>some (.v (.int .i64 0))
   |_,_=>none
  |_,_=>none
 | .unsafeSliceData=>match l with
  | [.s b o (_+1) _ _]=>some (.p b o)
  |_=>none
 | .min=>match l with
  | [.v (.int k a), .v (.int _ b)]=>some (.v (.int k (if b<a then b else a)))
  |_=>none
 | .max=>match l with
  | [.v (.int k a), .v (.int _ b)]=>some (.v (.int k (if b > a then b else a)))
  |_=>none
 |_=>none
def mW(a:Array Field)(i:Nat):Option (Nat × Nat):=match a[i]? with
 |some f=>match hsz P f.type with
  |some k=>some (f.offset,k)
  |none=>none
 |none=>none
def hop(s:Tr HV)(h:Tr HB)(o:Oper):Option HV:=match o.op with
 | .move x=>some (hev s x)
 | .assign x=>some (hev s x)
 | .pick c a b=>match hev s c with
  | .v (.bool true)=>some (hev s a)
  | .v (.bool false)=>some (hev s b)
  |_=>none
 | .load t x=>match hev s x with
  | .p b o=>hrd P h t b o
  |_=>none
 | .nilCheck x=>match hev s x with
  | .p b o=>some (.p b o)
  |_=>none
 | .binOp A t x y _=>hbin P A t x y (hev s x) (hev s y)
 | .unOp A _ x=>match hev s x with
  | .v u=>match sj (Op.unary A u)with
   |some r=>match zB r with
    |true=>some (.v r)
    |false=>none
   |none=>none
  |_=>none
 | .convert t I x=>match P.underlying t,P.underlying I,hev s x with
  |some (.int _),some (.int B), .v (.int _ i)=>some (.v (.int B (B.wrap i)))
  |some (.pointer D),some .unsafePointer, .p b o=>match hsz P D,h.get b with
   |some (_+1),some (.c g _ false)=>match Nat.blt o (fh g)with
    |true=>some (.p b o)
    |false=>none
   |_,_=>none
  |some .unsafePointer,some (.pointer u), .p b o=>match hsz P u,h.get b with
   |some _,some (.c g e false)=>match liesAt P P.depth e (fh g/P.cellsOf e) o u 1 with
    |true=>some (.p b o)
    |false=>none
   |_,_=>none
  |_,_,_=>none
 | .makeInterface t x=>match P.underlying t with
  |some (.interface _)=>none
  |some _=>some (.i t (hev s x))
  |none=>none
 | .makeFunc E d g=>some (.f E (d.toList.map (hev s)) (g.toList.map (hev s)))
 | .fieldAddr t x f=>match hev s x,P.underlying t with
  | .p b o,some (.struct d)=>match d[f]? with
   |some fd=>match hsz P fd.type with
    |some (_+1)=>some (.p b (o+fd.offset))
    |_=>none
   |none=>none
  |_,_=>none
 | .field t x f=>match hev s x,P.underlying t with
  | .a g,some (.struct d)=>match d[f]? with
   |some fd=>hcut P fd.type g fd.offset
   |none=>none
  |_,_=>none
 | .indexAddr t x y=>match sV (hev s y),P.underlying t,hev s x with
  |some i,some (.array n e), .p b o=>match Nat.blt i n,hsz P e with
   |true,some k=>some (.p b (o+i*k))
   |_,_=>none
  |some i,some (.slice e), .s b o n _ _=>match Nat.blt i n,hsz P e with
   |true,some k=>some (.p b (o+i*k))
   |_,_=>none
  |_,_,_=>none
 | .index t x y=>match sV (hev s y),P.underlying t,hev s x with
  |some i,some .string, .z l=>match l[i]? with
   |some b=>some (kb b)
   |none=>none
  |_,_,_=>none
 | .slice t x H F none=>match MH s H,MH s F with
  |some l,some u=>Bo P t (hev s x) l u
  |_,_=>none
 | .extract x i=>match hev s x with
  | .t l=>l[i]?
  |_=>none
 | .lookup t x y false=>match P.underlying t,hev s x,hev s y with
  |some (.map G _), .m b, .z w=>match P.underlying G,h.get b with
   |some .string,some (.m C)=>sc w C
   |_,_=>none
  |_,_,_=>none
 | .build t j=>match P.underlying t,oJ P t with
  |some (.struct d),some z=>match d.toList.all (fun f=>(hsz P f.type).isSome),x6 (mW P d) z (j.toList.map fun p=>(p.1,hev s p.2))with
   |true,some l=>some (.a l)
   |_,_=>none
  |_,_=>none
 | .call ⟨.builtin b,q,J⟩=>QI P b (q.toList.map (hev s)) J.toList
 |_=>none
structure HM where
 x:HV
 h:Tr HB
 k:Nat
def hnew(h:Tr HB)(k:Nat)(cs:List HV)(e:TypeId)(q:Bool)(x:HV):Option HM:=match da cs with
 |true=>some ⟨x,h.put k (.c cs e q),k+1⟩
 |false=>none
def hwr(h:Tr HB)(b o:Nat)(cs:List HV):Option (Tr HB):=match h.get b,da cs with
 |some (.c l e q),true=>match pB l o cs with
  |some a=>some (h.put b (.c a e q))
  |none=>none
 |_,_=>none
def A0(h:Tr HB)(k:Nat)(e sz d:Nat)(l:HV)(m:Nat)(a:List HV):Option HM:=
 match Nat.beq (fh a) (m*sz),Nat.ble 1 sz,Nat.ble 1 d with
 |true,true,true=>match l with
  | .v (.slice none 0 0)=>match Nat.ble 1 m,Nat.ble (m*d) 140737488355328 with
   |true,true=>hnew h k a e true (.s k 0 m sz true)
   |_,_=>none
  | .s b o n c false=>match Nat.ble (n+m) c with
   |true=>match hwr h b (o+n*sz) a with
    |some g=>some ⟨.s b o (n+m) c false,g,k⟩
    |none=>none
   |false=>match Nat.ble ((n+m)*d) 140737488355328,MQ h b o (n*sz)with
    |true,some f=>hnew h k (f++a) e true (.s k 0 (n+m) sz true)
    |_,_=>none
  | .s b o n c true=>match Nat.beq c sz with
   |true=>match hwr h b (o+n*sz) a with
    |some g=>some ⟨.s b o (n+m) c true,g,k⟩
    |none=>match Nat.beq o 0,Nat.ble ((n+m)*d) 140737488355328,h.get b with
     |true,true,some (.c i j true)=>match Nat.beq e j,yR (n*sz) i,da a with
      |true,some f,true=>some ⟨.s k 0 (n+m) sz true,(h.put b .x).put k (.c (f++a) e true),k+1⟩
      |_,_,_=>none
     |_,_,_=>none
   |false=>none
  |_=>none
 |_,_,_=>none
def Ed:Option TypeDesc->Bool
 |some (.slice _)=>true
 |some .string=>true
 |_=>false
def Ai(h:Tr HB)(k:Nat)(b:Builtin)(l:List HV)(ts:List TypeId):Option HM:=match b,l,ts with
 | .append,[x,y],[t,q]=>match P.underlying t,Ed (P.underlying q)with
  |some (.slice e),true=>match hsz P e,hby P e,oJ P e with
   |some f,some a,some z=>match Nat.beq (fh z) f,y with
    |true, .s b o m _ _=>match MQ h b o (m*f)with
     |some d=>A0 h k e f a x m d
     |none=>none
    |true, .z l=>match Nat.beq f 1 with
     |true=>A0 h k e f a x (fh l) (l.map kb)
     |false=>none
    |_,_=>none
   |_,_,_=>none
  |_,_=>none
 | .unsafeString,[x,y],[j,_]=>match Jk y,x with
  |some (n+1), .p b 0=>match P.underlying j,h.get b with
   |some (.pointer i),some (.c r e _)=>match Nat.beq i e,Nat.beq (P.cellsOf e) 1,Nat.ble (n+1) 9223372036854775807,Hp h b (n+1)with
    |true,true,true,some l=>some ⟨.z l,h.put b .x,k⟩
    |_,_,_,_=>none
   |_,_=>none
  |_,_=>none
 | .copy,[x,y],t::_=>match P.underlying t,x with
  |some (.slice e), .s b o n _ _=>match hsz P e,y with
   |some _, .z l=>match hwr h b o ((l.take (Nat.min (fh l) n)).map kb)with
    |some g=>some ⟨.v (.int .i64 (Nat.min (fh l) n)),g,k⟩
    |none=>none
   |some _, .v (.slice none 0 0)=>match hwr h b o []with
    |some g=>some ⟨.v (.int .i64 0),g,k⟩
    |none=>none
   |_,_=>none
  |_,_=>none
 |_,_,_=>none
def yc(h:Tr HB)(k t:Nat)(x y z:HV):Option HM:=match P.underlying t,x,y with
 |some (.map d _), .m b, .z a=>match P.underlying d,h.get b with
  |some .string,some (.m c)=>match sc a c with
   |none=>some ⟨.t [],h.put b (.m (c++[(a,z)])),k⟩
   |_=>none
  |_,_=>none
 |_,_,_=>none
def Ri(cs:List HV)(e:TypeId)(q:Bool)(x:Nat->HV):Option (HB × (Nat->HV)):=match da cs with
 |true=>some (.c cs e q,x)
 |false=>none
def hmk(s:Tr HV)(o:Oper):Option (HB × (Nat->HV)):=match o.op with
 | .alloc t=>match oJ P t with
  |some z=>Ri z t false (fun k=> .p k 0)
  |none=>none
 | .box t x=>Ri (hcells (hev s x)) t false (fun k=> .p k 0)
 | .buildSlice t n a=>match P.underlying t with
  |some (.slice e)=>match hsz P e,oJ P e with
   |some b,some z=>match Nat.ble (n*b) 16777216 && Nat.ble n 16777216,Nat.beq (fh z) b,x6 (fun i=>some (i*b,b)) (uo z n) (a.toList.map fun p=>(p.1,hev s p.2))with
    |true,true,some f=>Ri f e false (fun k=> .s k 0 n n false)
    |_,_,_=>none
   |_,_=>none
  |_=>none
 | .makeSlice t x y=>match P.underlying t,sV (hev s x),sV (hev s y)with
  |some (.slice e),some n,some c=>match hsz P e,hby P e,oJ P e with
   |some b,some d,some z=>match Nat.ble n c,Nat.ble (c*d) 140737488355328,Nat.ble c 140737488355328,Nat.beq (fh z) b with
    |true,true,true,true=>Ri (uo z c) e false (fun k=> .s k 0 n c false)
    |_,_,_,_=>none
   |_,_,_=>none
  |_,_,_=>none
 | .convert t g x=>match P.underlying t,P.underlying g,hev s x with
  |some .string,some (.slice e), .z l=>match P.underlying e with
   |some (.int .u8)=>match Nat.ble (fh l) 140737488355328 with
    |true=>Ri (l.map kb) e true (fun k=> .s k 0 (fh l) 1 true)
    |false=>none
   |_=>none
  |_,_,_=>none
 | .makeMap t none=>some (.m [],fun k=> .m k)
 |_=>none
def hmem(s:Tr HV)(h:Tr HB)(k:Nat)(o:Oper):Option HM:=match hmk P s o with
 |some (b,x)=>some ⟨x k,h.put k b,k+1⟩
 |none=>match o.op with
  | .store t x y=>match hev s x,hsz P t with
   | .p b o,some n=>match Nat.beq (fh (hcells (hev s y))) n,hwr h b o (hcells (hev s y))with
    |true,some c=>some ⟨.t [],c,k⟩
    |_,_=>none
   |_,_=>none
  | .insert t x y z=>yc P h k t (hev s x) (hev s y) (hev s z)
  | .call ⟨.builtin b,a,d⟩=>Ai P h k b (a.toList.map (hev s)) d.toList
  |_=>none
end
structure HS where
 f:Tr HV
 h:Tr HB
 k:Nat
inductive HX where
 |normal
 |exit (id:Nat)
 |ret
def hgd(ops:Array Oper)(f:Tr HV)(o:Oper):Option Bool:=match o.guard with
 |none=>some true
 |some (i,a)=>match ops[i]? with
  |some g=>match g.dst with
   |some t=>match hev f (.tmp t)with
    | .v (.bool b)=>some (b == a)
    | .t []=>some false
    |_=>none
   |none=>none
  |none=>none
def HS.put(s:HS)(d:Option Nat)(x:HV):HS:=match d with
 |some d=>⟨s.f.put d x,s.h,s.k⟩
 |none=>s
def tS:Nat->List HV->Tr HV->Tr HV
 |_,[],t=>t
 |k,x::r,t=>tS (k+1) r (t.put k x)
def Be(P:Program)(s:HS):List ResultVar->Option (List HV)
 | []=>some []
 | .tmp t::r=>match Be P s r with
  |some l=>some (hev s.f (.tmp t)::l)
  |none=>none
 | .cell a t::r=>match hev s.f (.tmp a)with
  | .p b o=>match hrd P s.h t b o,Be P s r with
   |some x,some l=>some (x::l)
   |_,_=>none
  |_=>none
def JM:List HV->HV
 | [x]=>x
 |l=> .t l
structure HD where
 i:Nat
 o:Oper
 f:Tr HV
 x:HV
 k:Nat
 c:Nat
def VZ(o:Oper):Bool:=match o.op with
 | .store _ _ _=>true
 | .insert _ _ _ _=>true
 | .call ⟨.value _,_,_⟩=>true
 | .call ⟨.builtin .append,_,_⟩=>true
 | .call ⟨.builtin .copy,_,_⟩=>true
 | .call ⟨.builtin .unsafeString,_,_⟩=>true
 |_=>false
def mH(done:Nat):List Edge->Bool
 | []=>true
 |e::r=>match Region.binds .any e with
  |true=>Nat.testBit done e.on && mH done r
  |false=>mH done r
def Hf(done:Nat)(e:Bool):Nat->List Oper->Option Nat
 |_,[]=>none
 |i,o::r=>match Nat.testBit done i,VZ o == e,mH done o.after.toList with
  |false,true,true=>some i
  |_,_,_=>Hf done e (i+1) r
def QP(ops:List Oper):Nat->Nat->List Nat
 |0,_=>[]
 |u+1,done=>match Hf done false 0 ops with
  |some i=>i::QP ops u (Nat.lor done (2^i))
  |none=>match Hf done true 0 ops with
   |some i=>i::QP ops u (Nat.lor done (2^i))
   |none=>[]
mutual
def SF:HV->HV->Bool
 | .v (.bool a), .v (.bool b)=>a == b
 | .v (.int k a), .v (.int j b)=>decide (k=j) && decide (a=b)
 | .v (.pointer none), .v (.pointer none)=>true
 | .v (.slice none 0 0), .v (.slice none 0 0)=>true
 | .v .nilIface, .v .nilIface=>true
 | .z a, .z b=>decide (a=b)
 | .p a b, .p c d=>Nat.beq a c && Nat.beq b d
 | .s a b c d q, .s e f g h l=>Nat.beq a e && Nat.beq b f && Nat.beq c g && Nat.beq d h && (q == l)
 | .o, .o=>true
 | .i t x, .i m y=>Nat.beq t m && SF x y
 | .a x, .a y=>Cj x y
 |_,_=>false
def Cj:List HV->List HV->Bool
 | [],[]=>true
 |x::r,y::s=>SF x y && Cj r s
 |_,_=>false
end
def Rz:Option HB->Option HB->Bool
 |some (.c x e q),some (.c y a b)=>Cj x y && Nat.beq e a && (q == b)
 |_,_=>false
def zN(o:Oper):Bool:=match o.op with
 | .load _ _=>false
 | .convert _ _ _=>false
 | .lookup _ _ _ _=>false
 |_=>true
def DA(P:Program)(f:Tr HV)(h:Tr HB)(o:Oper)(x:HV):Bool:=match hop P f h o with
 |some y=>SF y x
 |none=>false
def re(ops:Array Oper)(o:Oper):FP:=⟨o.dst,Qo ops o++wL o,[],[],true⟩
def yB(ops:Array Oper)(a:Nat)(o:Oper):List HD->Bool
 | []=>true
 |d::r=>match Nat.testBit a d.i with
  |true=>yB ops a o r
  |false=>match ge (re ops d.o) (re ops o),Nat.beq d.c 3 with
   |false,false=>yB ops a o r
   |_,_=>false
def mT(P:Program)(a:Nat)(h b:Tr HB):List HD->Bool
 | []=>true
 |d::r=>match Nat.testBit a d.i with
  |true=>mT P a h b r
  |false=>match d.c with
   |0=>mT P a h b r
   |1=>(zN d.o || DA P d.f b d.o d.x) && mT P a h b r
   |2=>Rz (h.get d.k) (b.get d.k) && mT P a h b r
   |_=>false
section
variable (P:Program)(ops:Array Oper)(n:Nat)(call:HS->FuncId->List HV->Option HM)
def xt(s:HS)(o:Oper):Option HM:=match o.op with
 | .call ⟨.value f,a,_⟩=>match hev s.f f with
  | .f (.func b) d c=>call s b (d++a.toList.map (hev s.f)++c)
  |_=>none
 |_=>none
def xm(s:HS)(o:Oper):Option HM:=match hmem P s.f s.h s.k o with
 |some m=>some m
 |none=>xt call s o
def CE:List Oper->HS->Option HS
 | [],s=>some s
 |o::r,s=>match aO n o.dst,hgd ops s.f o with
  |true,some true=>match hop P s.f s.h o with
   |some x=>CE r (s.put o.dst x)
   |none=>match xm P call s o with
    |some m=>CE r (HS.put ⟨s.f,m.h,m.k⟩ o.dst m.x)
    |none=>none
  |true,some false=>CE r (s.put o.dst (.t []))
  |_,_=>none
def mv:List Nat->HS->List HD->Nat->Option HS
 | [],s,_,done=>match Nat.beq done (2^fh ops.toList-1)with
  |true=>some s
  |false=>none
 |i::l,s,a,done=>match ops[i]? with
  |none=>none
  |some o=>match aO n o.dst && !Nat.testBit done i && mH done o.after.toList && yB ops (fe ops i) o a,hgd ops s.f o with
   |true,some true=>match hop P s.f s.h o with
    |some x=>mv l (s.put o.dst x) (⟨i,o,s.f,x,s.k,1⟩::a) (Nat.lor done (2^i))
    |none=>match hmk P s.f o with
     |some (b,x)=>mv l (HS.put ⟨s.f,s.h.put s.k b,s.k+1⟩ o.dst (x s.k)) (⟨i,o,s.f,x s.k,s.k,2⟩::a) (Nat.lor done (2^i))
     |none=>match xm P call s o with
      |some m=>match mT P (fe ops i) s.h m.h a with
       |true=>mv l (HS.put ⟨s.f,m.h,m.k⟩ o.dst m.x) (⟨i,o,s.f,m.x,s.k,3⟩::a) (Nat.lor done (2^i))
       |false=>none
      |none=>none
   |true,some false=>mv l (s.put o.dst (.t [])) (⟨i,o,s.f, .t [],s.k,0⟩::a) (Nat.lor done (2^i))
   |_,_=>none
end
section
variable (P:Program)(X:FuncId->List HV->Tr HB->Nat->Option HM)
def hcall(d:Nat->Code->HS->Option (HX × HS))(s:HS)(fid:FuncId)(args:List HV):Option HM:=match X fid args s.h s.k with
 |some m=>some m
 |none=>match P.funcs[fid]? with
  |some a=>match a.body,a.name == "runtime.NumGoroutine" with
   |some c,false=>match d a.ntmps c ⟨tS 0 args .l,s.h,s.k⟩with
    |some (.exit _,_)=>none
    |some (_,b)=>match Be P b a.results.toList with
     |some l=>some ⟨JM l,b.h,b.k⟩
     |none=>none
    |none=>none
   |_,_=>none
  |none=>none
def hrun:Nat->Nat->Code->HS->Option (HX × HS)
 |0,_,_,_=>none
 |u+1,n,c,s=>match c with
  | .skip=>some (.normal,s)
  | .label _=>some (.normal,s)
  | .region _ ops b=>match(match b with
    |false=>CE P ops n (hcall P X (hrun u)) ops.toList s
    |true=>match mr ops with
     |true=>mv P ops n (hcall P X (hrun u)) (QP ops.toList (fh ops.toList) 0) s [] 0
     |false=>none)with
   |some a=>some (.normal,a)
   |none=>none
  | .seq x y=>match hrun u n x s with
   |some (.normal,a)=>hrun u n y a
   |r=>r
  | .cond c x y=>match hev s.f c with
   | .v (.bool true)=>hrun u n x s
   | .v (.bool false)=>hrun u n y s
   |_=>none
  | .block d x=>match hrun u n x s with
   |some (.exit i,a)=>match Nat.beq i d with
    |true=>some (.normal,a)
    |false=>some (.exit i,a)
   |r=>r
  | .loop x=>match hrun u n x s with
   |some (.normal,a)=>hrun u n (.loop x) a
   |r=>r
  | .scope x=>hrun u n x s
  | .exit d=>some (.exit d,s)
  | .ret=>some (.ret,s)
  |_=>none
def On(u:Nat)(h:Tr HB)(k:Nat)(f:FuncId):Option Bool:=match hcall P X (hrun P X u) ⟨.l,h,k⟩ f []with
 |some ⟨.v (.bool b),_,_⟩=>some b
 |_=>none
end
end Go.Proofs.YtnchbpoopnjghaaGreatDoor
