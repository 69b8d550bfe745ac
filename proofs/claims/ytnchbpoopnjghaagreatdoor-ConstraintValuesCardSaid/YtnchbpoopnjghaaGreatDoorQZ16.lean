/- Parts of a proof: contracts of the functions that the laws reach. -/
import Derived.Test.YtnchbpoopnjghaaGreatDoorQZ15
set_option maxHeartbeats 100000000
set_option linter.all false
open Go.Proofs.Tryz
namespace Go.Proofs.YtnchbpoopnjghaaGreatDoor
open Go.RowKit
def n5:L8:=[116,97,110,103,101,110,116,99,105,114,99,108,101]
def W5:List L8:=[[99,48],[99,50],[105,110,115,105,100,101]]
theorem RO:Lib.cut s5 [32,61,32]=(s5,[],false):=Mi D_
theorem HH:Lib.split s5 [32]=n5::W5:=by
 have h:Lib.join (n5::W5) [32]=s5:=rfl;rw[<- h];exact tO _ S_ D_
def WU:Nat->AV
 |0=> .nl
 |1=> .ow 703 1 1 3
 |_=> .ow 703 2 1 3
def WR:Nat->Option (List AV)
 |0=>none
 |1=>some [.val (.int .i64 0)]
 |_=>some [.val (.int .i64 0), .val (.int .i64 2)]
def WQ:Nat->Int
 |3=> -1
 |_=>0
abbrev VR (i:Nat):List (Nat × TV):=[(0, .d (dL s5)),(5, .d (dL [])),(10, .box 801 0),(11, .d (dL (SQ 17))),(12, .d (dL (SK 17))),(53, .d (ST W5)),(54, .d (dN .i64 3)),(55, .d (dN .i64 i)),(2, .box 0 0)]
def V8 (i:Nat):AS:=
 ⟨VR i,
  [(0,some (cC 0 [] [] [] 0)),(801,some [.val (.int .i64 17), .nl,WU i, .nl, .val (.int .i64 (WQ i))]),(703,WR i)]⟩
theorem Ar (cF:aa Tryz.prog 25 [dC d5] (.tup [dL s5,dN .i64 0])):aa Tryz.prog 26 [dL s5] (.tup [dC d5,dN .i64 0]):=by
 have cCut:=Nb s5 [32,61,32] D_;rw[RO]at cCut;have cW:=JH s5 [32] D_ S_;rw[HH]at cW;have cK:=Gb n5;unfold Wh at cK;rw[show RU n5=17 by decide]at cK;have cD:=rL 17;have p1:aa Tryz.prog 66 [dL [99,48],dL [112]] (.tup [dN .i64 (GR 112 [99,48]),dB false]):=gC 112 [99,48] D_;have p2:aa Tryz.prog 66 [dL [99,50],dL [112]] (.tup [dN .i64 (GR 112 [99,50]),dB false]):=gC 112 [99,50] D_;have p3:aa Tryz.prog 66 [dL [105,110,115,105,100,101],dL [112]] (.tup [dN .i64 (GR 112 [105,110,115,105,100,101]),dB false]):=gC 112 [105,110,115,105,100,101] D_;have q1:aa Tryz.prog 66 [dL [99,48],dL [99]] (.tup [dN .i64 0,dB true]):=gC 99 [99,48] D_
 have q2:aa Tryz.prog 66 [dL [99,50],dL [99]] (.tup [dN .i64 2,dB true]):=gC 99 [99,50] D_;have q3:aa Tryz.prog 66 [dL [105,110,115,105,100,101],dL [99]] (.tup [dN .i64 (GR 99 [105,110,115,105,100,101]),dB false]):=gC 99 [105,110,115,105,100,101] D_;generalize GR 112 [99,48]=z1 at *;generalize GR 112 [99,50]=z2 at *;generalize GR 112 [105,110,115,105,100,101]=z3 at *;generalize GR 99 [105,110,115,105,100,101]=z4 at *;have cF:aa Tryz.prog 25 [.agg (cC 17 [] [0,2] [] (-1))] (.tup [dL s5,dN .i64 0]):=cF;have hsz:=aJ s5;have hl:s5.length=26:=rfl;have hn0:= @ef (n5::W5) 0 n5 rfl;have hx0:= @ef W5 0 [99,48] rfl;have hx1:= @ef W5 1 [99,50] rfl;have hx2:= @ef W5 2 [105,110,115,105,100,101] rfl;refine kV func26 ?_
 refine kQ (cCut) ?_;refine kQ (cW) ?_;refine aH (i:=0) (cs':=[.val (vL n5)]) (Z_ _) hn0 (Z_ 0) rfl rfl rfl rfl rfl rfl rfl rfl ?_;refine kO ?_;refine kC (cK) ?_;refine lC ?_;refine IU Su (by simp[Wm]) rfl rfl rfl rfl rfl rfl ?_;refine M6 801 af rfl rfl rfl rfl rfl rfl rfl rfl rfl rfl ?_;refine kW ?_;refine kC (cD) ?_;refine kN ?_;refine lL ⟨[(0, .d (dL s5)),(5, .d (dL [])),(10, .box 801 0),(2, .box 0 0)],[(0,some (cC 0 [] [] [] 0)),(801,some (cC 17 [] [0,2] [] (-1)))]⟩ (fun s' hw=>?_) (fun R hR hret=>?_)
 ·refine bu ?_
  refine dh hw rfl ?_;refine kO ?_;refine yK ?_;refine kW ?_;refine kC (cF) ?_;refine kG ?_;refine kO ?_;refine kB false ?_ ?_
  ·exact(by rfl)
  refine kO3 ?_
  refine ax rfl rfl rfl rfl rfl rfl rfl (kf (a:=s5) (b:=s5) rfl) ?_;exact aj
 ·refine kW ?_
  refine rX (m:=4) (i:=1) (d:=3) af (by show(av (n5::W5)).length<=_;rw[c8];decide) O_ O_ rfl rfl rfl rfl rfl rfl rfl rfl ?_;refine kW ?_;refine aq Nat (fun i=>i<=3) V8 (fun i=>3-i) 0 D_ kw ?_;intro i hi;obtain rfl|rfl|rfl|rfl:i=0∨i=1∨i=2∨i=3:=O_
  ·refine Ir ?_
   refine aH (i:=0) (cs':=[.val (vL [99,48])]) D_ hx0 (Z_ 0) rfl rfl rfl rfl rfl rfl rfl rfl ?_;refine kW ?_;refine kQ (p1) ?_;refine kQ (q1) ?_;refine gh 704 (m1:=0) (m2:=1) af D_ (by show(0+1)*8<=_;omega) rfl rfl rfl rfl rfl rfl rfl rfl rfl rfl (.nil rfl rfl) rfl rfl rfl rfl ?_;refine kW ?_;refine⟨1,by decide,by decide,?_⟩;exact aM.trans (b:=⟨VR 1,[(0,some (cC 0 [] [] [] 0)),(801,some [.val (.int .i64 17), .nl, .ow 704 1 1 3, .nl, .val (.int .i64 0)]),(704,some [.val (.int .i64 0)])]⟩) kw (aM.trans (oj (i:=801) (off:=2) (j:=704) (j':=703) (m:=1) (k:=1) (e:=3) rfl rfl rfl rfl rfl rfl rfl) kw)
  ·refine Ir ?_
   refine aH (i:=1) (cs':=[.val (vL [99,50])]) D_ hx1 (Z_ 0) rfl rfl rfl rfl rfl rfl rfl rfl ?_;refine kW ?_;refine kQ (p2) ?_;refine kQ (q2) ?_;refine gh 704 (m1:=1) (m2:=1) af D_ (by show(1+1)*8<=_;omega) rfl rfl rfl rfl rfl rfl rfl rfl rfl rfl (.own rfl rfl) rfl rfl rfl rfl ?_;refine kW ?_;refine⟨2,by decide,by decide,?_⟩;exact aM.trans (b:=⟨VR 2,[(0,some (cC 0 [] [] [] 0)),(801,some [.val (.int .i64 17), .nl, .ow 704 2 1 3, .nl, .val (.int .i64 0)]),(704,some [.val (.int .i64 0), .val (.int .i64 2)])]⟩) kw (aM.trans (oj (i:=801) (off:=2) (j:=704) (j':=703) (m:=2) (k:=1) (e:=3) rfl rfl rfl rfl rfl rfl rfl) kw)
  ·refine Ir ?_
   refine aH (i:=2) (cs':=[.val (vL [105,110,115,105,100,101])]) D_ hx2 (Z_ 0) rfl rfl rfl rfl rfl rfl rfl rfl ?_;refine kW ?_;refine kQ (p3) ?_;refine kC (q3) ?_
   iterate 2 refine kG ?_
   refine kO2 ?_
   refine ax rfl rfl rfl rfl rfl rfl rfl (bC (a:=[105,110,115,105,100,101]) (b:=SQ 17) D_) ?_;refine kG ?_
   refine kO2 ?_
   refine ax rfl rfl rfl rfl rfl rfl rfl (aU (a:=[105,110,115,105,100,101]) (b:=SK 17) D_) ?_;refine kW ?_;exact⟨3,by decide,by decide,weak ⟨rfl,rfl,rfl,rfl,rfl,rfl,rfl,rfl,rfl,trivial⟩ ⟨rfl,rfl,rfl,trivial⟩ rfl⟩
  ·unfold V8
   refine kI ?_;refine kB false ?_ ?_
   ·exact F_ D_
   refine kW ?_;exact hR _ (aM.trans (Ek (i:=801) (off:=1) rfl rfl) (aM.trans (xN (i:=801) (off:=2) (j:=703) rfl rfl rfl rfl rfl) (aM.trans (Ek (i:=801) (off:=3) rfl rfl) kw)))
def SE:L8:=[119,32,47,32,50]
def NE:List Tk:=[(1,[119],0),(4,[47],2),(2,[50],4),(0,[],5)]
theorem WC:uX (SE.length+1) SE 0 []= .ok NE:=by rfl
theorem WE:iy (2,[50],4) [(0,[],5)]= .ok (.num ((2:Int):Rat) [],[(0,[],5)]):=by
 unfold iy;rw[WJ];dsimp only;rw[VN];rfl
theorem WS:pP 25 .sum NE=some (.ok (u7,[(0,[],5)])):=by
 simp[je,gr,mU,gt,fo,dD,i7,E8,jh,WE,NE,u7]
def Ry:L8:=[53,32,99,109]
def MT:List Tk:=[(2,[53],0),(1,[99,109],2),(0,[],4)]
theorem WP:uX (Ry.length+1) Ry 0 []= .ok MT:=by rfl
theorem WH:ge [53]=some ((5:Int):Rat):=Ap 53 D_ D_ D_ D_
theorem WN:iy (2,[53],0) [(1,[99,109],2),(0,[],4)]= .ok (.num ((5:Int):Rat) [99,109],[(0,[],4)]):=by
 unfold iy;rw[WH];dsimp only;rw[Wt];rfl
theorem WG:pP 20 .sum MT=some (.ok (wl,[(0,[],4)])):=by
 simp[je,gr,mU,gt,fo,dD,i7,E8,jh,WN,MT,wl]
theorem LF:aa Tryz.prog 35 [dL SE] (.tup [dE u7,dN .i64 0,dN .i64 0]):=by
 have cT:=pY SE D_;rw[WC]at cT;have h:=qi SE NE cT ⟨by simp[fI,NE],by simp[Rh,NE,SE],by simp[NE],by decide⟩
 have e:Gy NE 0 SE.length= .ok u7:=by
  unfold Gy;rw[show 5*NE.length+5=25 from rfl,WS];rfl
 rw[e]at h;exact h
theorem MI:aa Tryz.prog 35 [dL Ry] (.tup [dE wl,dN .i64 0,dN .i64 0]):=by
 have cT:=pY Ry D_;rw[WP]at cT;have h:=qi Ry MT cT ⟨by simp[fI,MT],by simp[Rh,MT,Ry],by simp[MT],by decide⟩
 have e:Gy MT 0 Ry.length= .ok wl:=by
  unfold Gy;rw[show 5*MT.length+5=20 from rfl,WG];rfl
 rw[e]at h;exact h
theorem tV (l:Tb) (x:Rx) (hs:ul l) (hx:AG x) (hl:l.length<=500) (hvs:(bW l).2=0->Ed l):aa Tryz.prog 95 [da l,dR x] (GQ l x):=nX l x (pF l hs hl hvs) hs hx hvs
theorem WF:Ed ([]:Tb):=by
 refine⟨fun p hp=>(by cases hp),D_,fun n x h=>?_⟩;cases h with
 |mk f hp _ _=>cases hp
theorem LX (q:Rat):∃na xs nb ys,aQ q=[.val (.bool na),aW xs, .val (.bool nb),aW ys]:=⟨_,_,_,_,rfl⟩
theorem gn:aa Tryz.prog 11 [] (.one (dB true)):=by
 have fa:=x4 LD QU (by have:=zy.1.sz;omega) D_ (by rw[Vh];decide);have pa:=LF;have pb:=MI;rw[Vh]at fa
 have cV:=mz c5 200 200 D_ D_ D_ (fun x hx=>by
  cases d_.1 hx;exact io _ QU zy.1.lm (by have:=zy.1.sz;omega))
 have cVd:=mz d5 200 200 D_ D_ D_ (fun x hx=>by cases hx);rw[UD]at cV;rw[TL]at cVd
 have cF:=mL V5 (fun _=>[119,32,47,32,50]) cV (fun x hx=>by
  cases d_.1 hx;exact fa) (by show(GN r5 c5 [[119,32,47,32,50]]).length<=_;rw[Wk];decide) D_
 have cF:aa Tryz.prog 25 [dC c5] (.tup [dL (GN r5 c5 [[119,32,47,32,50]]),dN .i64 0]):=cF;rw[Wk]at cF;have cFd:=mL WI (fun _=>[]) cVd (fun x hx=>by cases hx) (by show(GN PZ d5 []).length<=_;rw[Vg];decide) D_;have cFd:aa Tryz.prog 25 [dC d5] (.tup [dL (GN PZ d5 []),dN .i64 0]):=cFd;rw[Vg]at cFd;have cP:=Ar cFd;have hk5:b8 1 ((25:Int):Rat):=T0 25 D_;have cE:=tV T5 (rx u7) Is zy.1 D_ (fun _=>VW);have cEn:=tV [] (rx u7) (fun p hp=>by cases hp) zy.1 D_ (fun _=>WF);rw[WL]at cE;rw[V7]at cEn;have cv1:=mh (r:=r5) cE (fun e h=>by cases h) (fun y h=>by cases h;exact⟨1,by decide,hk5⟩) (.inr (.inl rfl));have cv2:=mh (r:=r5) cEn (fun e h=>by cases h;decide) (fun y h=>by cases h) (.inr (.inl rfl))
 have h1:Br 2 (.ok (((25:Int):Rat),1))= .ok ((25:Int):Rat):=by rfl
 have h2:Br 2 (.error 4)= .error 4:=rfl
 have cW:=ks (c:=c5) (l:=T5) Rm cV D_ (fun _=> .ok ((25:Int):Rat)) (fun x hx=>by
  cases d_.1 hx;rw[<- h1];exact cv1) (fun x hx e h=>by cases h)
 have cWn:=ks (c:=c5) (l:=[]) Rm cV D_ (fun _=> .error 4) (fun x hx=>by
  cases d_.1 hx;exact cv2) (fun x hx e h=>by cases h;decide)
 have cI:=f3 [100,105,115,116,97,110,99,101] D_;rw[show pO [100,105,115,116,97,110,99,101]=true by decide]at cI;have cQ:=eh 25 D_ D_ (q:=((25:Int):Rat)) rfl;have cS:aa Tryz.prog 24 [dQ ((25:Int):Rat),dQ ((25:Int):Rat)] (.one (dB true)):=pJ (V_ hk5.1.digs D_) (V_ hk5.2.digs D_);clear cFd cv1 cv2 cE cEn fa cV cVd h1 h2;obtain⟨o1,na1,xs1,nb1,ys1,nm1,n1,cs1,hX⟩:=aY (rx u7);obtain⟨o2,na2,xs2,nb2,ys2,nm2,n2,cs2,hY⟩:=aY (rx wl);obtain⟨na3,xs3,nb3,ys3,hZ⟩:=LX ((25:Int):Rat)
 have hC:dC c5= .agg [.val (.int .i64 2), .sl 2 [.val (.int .i64 0), .val (.int .i64 1)], .sl 0 [], .sl 1 (ab o1 na1 xs1 nb1 ys1 nm1 n1 cs1), .val (.int .i64 0)]:=by
  show DV.agg [.val (.int .i64 2), .sl 2 [.val (.int .i64 0), .val (.int .i64 1)], .sl 0 [], .sl 1 (aR (rx u7)++[]), .val (.int .i64 0)]=_;rw[hX,c_]
 have hT:da T5= .leaf (.sl 1 (bV [119] o2 na2 xs2 nb2 ys2 nm2 n2 cs2)):=by
  show DV.leaf (.sl 1 ((.val (vL [119])::aR (rx wl))++[]))=_;rw[hY,c_];rfl
 have hW:Il (oJ (fun _=> .ok ((25:Int):Rat)) c5.vs)= .tup [.leaf (.sl 1 [.val (.bool na3),aW xs3, .val (.bool nb3),aW ys3]),dN .i64 0]:=by
  show RV.tup [.leaf (.sl 1 (aQ ((25:Int):Rat)++[])),dN .i64 0]=_;rw[hZ,c_]
 have hQ:dQ ((25:Int):Rat)= .agg [.val (.bool na3),aW xs3, .val (.bool nb3),aW ys3]:=congrArg DV.agg hZ;rw[hC,hT,hW]at cW;rw[hC]at cWn;have cWn:aa Tryz.prog 22 [_, .leaf (.sl 0 [])] (.tup [.leaf (.sl 0 []),dN .i64 4]):=cWn;rw[hQ]at cQ cS;rw[hC]at cF;have pa:aa Tryz.prog 35 [dL [119,32,47,32,50]] (.tup [.agg (aR (rx u7)),dN .i64 0,dN .i64 0]):=pa;have pb:aa Tryz.prog 35 [dL [53,32,99,109]] (.tup [.agg (aR (rx wl)),dN .i64 0,dN .i64 0]):=pb;rw[hX]at pa;rw[hY]at pb;have cP:aa Tryz.prog 26 [dL s5] (.tup [.agg [.val (.int .i64 17), .sl 0 [], .sl 2 [.val (.int .i64 0), .val (.int .i64 2)], .sl 0 [], .val (.int .i64 (-1))],dN .i64 0]):=cP;clear hX hY hZ hC hT hW hQ;refine kV func11 ?_;refine kQ (pa) ?_;refine kQ (pb) ?_;refine kQ (cF) ?_
 refine kQ (cW) ?_;refine kQ (cWn) ?_;refine kC (cP) ?_;refine kG ?_
 iterate 20 refine kO ?_
 refine ax rfl rfl rfl rfl rfl rfl rfl (aU (a:=t5) (b:=t5) rfl) ?_;refine kW ?_;refine aH (i:=0) (cs':=[.val (.bool na3),aW xs3, .val (.bool nb3),aW ys3]) Nat.zero_lt_one (fun j a h=>by rw[Nat.zero_mul,J_];exact h) (Z_ 3) rfl rfl rfl rfl rfl rfl rfl rfl ?_;refine kO ?_;refine kC (cQ) ?_;refine kQ (cS) ?_;refine kC (cI) ?_;exact aj
def Pq (r:Kd):List AV:=[.val (.string ⟨r.nm.toArray⟩), .val (.int .i64 r.p), .val (.int .i64 r.c), .val (.int .i64 r.n), .val (.int .i64 r.v), .val (.int .i64 r.q), .val (.bool r.s)]
def U5:List AV:=[.val (.string ByteArray.empty), .val (.int .i64 0), .val (.int .i64 0), .val (.int .i64 0), .val (.int .i64 0), .val (.int .i64 0), .val (.bool false)]
def T7:DV:= .leaf (.sl 17 (ov.flatMap Pq))
def WD (o:Option Kd):RV:=match o with
 |some r=> .tup [.agg (Pq r),dB true]
 |none=> .tup [.agg U5,dB false]
theorem L6 {i:Nat} {r:Kd} (h:ov[i]? =some r):∀(j:Nat) (a:AV),(Pq r)[j]? =some a->(ov.flatMap Pq)[i*7+j]? =some a:=re (f:=Pq) (q:=7) (fun _=>rfl) ov i r h
set_option maxRecDepth 100000 in
theorem j8:aa Tryz.prog 37 [] (.one T7):=by
 refine kU func37 ?_;exact aj
theorem wa (k:Int):aa Tryz.prog 31 [dN .i64 k] (WD (pR k)):=by
 by_cases h1:k<1
 ·rw[Cu h1]
  refine kU func31 ?_;exact KJ
 ·by_cases h2:17<k
  ·rw[Cs h2]
   refine kU func31 ?_;refine FO ?_;refine kC (j8) ?_;refine kO ?_;refine kT ?_;exact aj
  ·obtain⟨i,rfl⟩:=Int.eq_ofNat_of_zero_le (show 0<=k by omega)
   obtain⟨r,hr,hi⟩:=rg (i:=i) O_ O_;rw[hr];refine kU func31 ?_;refine FO ?_;refine kC (j8) ?_;refine Cy ?_;refine kC (j8) ?_;refine kO ?_;refine kJ ((i-1:Nat)) ?_;refine aH (i:=i-1) (cs':=Pq r) O_ (L6 hi) (Z_ 6) rfl rfl rfl rfl rfl rfl rfl rfl ?_;exact aj
theorem lJ (l:List Int) (m:Int) (hl:l.length<=1000000):aa Tryz.prog 47 [uk l,dN .i64 m] (.one (dB (l.all (ua m)))):=by
 refine kV func47 ?_;refine aq Nat (fun i=>i<=l.length/\ ∀z∈l.take i,ua m z=true) (fun i=>⟨[(0, .d (uk l)),(1, .d (dN .i64 m)),(5, .d (dN .i64 i))],[]⟩) (fun i=>l.length-i) 0 ⟨Nat.zero_le _,by simp⟩ kw ?_;rintro i ⟨hi,hn⟩;refine kI ?_
 refine kO3 ?_
 by_cases hlt:i<l.length
 ·refine kT ?_
  obtain⟨z,hz⟩:∃z,l[i]? =some z:=⟨l[i],by simp[hlt]⟩
  have hbad:ua m z=false->l.all (ua m)=false:=fun h=>Bool.eq_false_iff.2 fun h2=>by
   have:=I_.1 h2 z (M_ hz);rw[h]at this;cases this
  refine kG ?_
  refine kO2 ?_
  refine CZ ?_;refine kO ?_
  by_cases h0:z<0
  ·refine kT ?_
   refine eH ?_;exact congrArg (fun b=>RV.one (dB b)) (hbad (by unfold ua;rw[F_ O_];rfl)).symm
  ·refine kE ?_
   refine kO3 ?_
   refine CZ ?_
   refine kO2 ?_
   by_cases h1:m<=z
   ·refine kT ?_
    refine eH ?_;exact congrArg (fun b=>RV.one (dB b)) (hbad (by unfold ua;rw[F_ (show ¬z<m by omega),Bool.and_false])).symm
   ·refine kE ?_
    refine kW ?_;refine⟨i+1,⟨hlt,?_⟩,by omega,weak ⟨rfl,rfl,ai O_ O_,trivial⟩ trivial rfl⟩;rw[aT hz];intro x hx;rcases List.mem_append.1 hx with hx|hx
    ·exact hn x hx
    ·rw[d_.1 hx]
     unfold ua;rw[T_ O_,T_ O_];rfl
 ·refine kE ?_
  refine eH ?_;rw[K_ O_]at hn;exact congrArg (fun b=>RV.one (dB b)) (I_.2 hn).symm
theorem i6 (l:List Int) (hl:l.length<=1000000):aa Tryz.prog 49 [uk l] (.one (dB (decide l.Nodup))):=by
 refine kV func49 ?_;refine aq Nat (fun i=>i<=l.length/\(l.take i).Nodup) (fun i=>⟨[(0, .d (uk l)),(3, .d (dN .i64 i))],[]⟩) (fun i=>l.length-i) 0 ⟨Nat.zero_le _,by simp⟩ kw ?_;rintro i ⟨hi,hn⟩;refine kI ?_
 refine kO3 ?_
 by_cases hlt:i<l.length
 ·refine kT ?_
  obtain⟨z,hz⟩:∃z,l[i]? =some z:=⟨l[i],by simp[hlt]⟩;have hd:=sO hn hz;refine kW ?_;refine aq Nat (fun k=>k<=i/\z ∉ l.take k) (fun k=>⟨[(0, .d (uk l)),(3, .d (dN .i64 i)),(4, .d (dN .i64 k))],[]⟩) (fun k=>i-k) 0 ⟨Nat.zero_le _,by simp⟩ kw ?_;rintro k ⟨hk,hm⟩;refine kI ?_
  refine kO2 ?_
  by_cases hki:k<i
  ·refine kT ?_
   obtain⟨x,hx⟩:∃x,l[k]? =some x:=⟨l[k],by simp[show k<l.length by omega]⟩;refine kG ?_
   refine kO2 ?_
   refine CZ ?_
   refine kO3 ?_
   refine aH (i:=k) (cs':=[.val (.int .i64 x)]) O_ (bH hx) (Z_ 0) rfl rfl rfl rfl rfl rfl rfl rfl ?_;refine kO ?_
   by_cases e:z=x
   ·refine kB true ?_ ?_
    ·exact(by simp[e])
    refine eH ?_;refine congrArg (fun b=>RV.one (dB b)) (F_ (hd.2 ?_)).symm;rw[e];exact M_ (i:=k) (by rw[List.getElem?_take,if_pos hki];exact hx)
   ·refine kB false ?_ ?_
    ·exact(by simp[e])
    refine kW ?_;refine⟨k+1,⟨hki,?_⟩,by omega,weak ⟨rfl,rfl,ai O_ O_,trivial⟩ trivial rfl⟩;rw[aT hx,List.mem_append,not_or];exact⟨hm,fun h=>e (d_.1 h)⟩
  ·refine kE ?_
   refine kW ?_;have hki:k=i:=O_
   exact⟨i+1,⟨hlt,hd.1 (hki ▸ hm)⟩,by omega,weak ⟨rfl,ai O_ O_,trivial⟩ trivial rfl⟩
 ·refine kE ?_
  refine eH ?_;exact Pc
theorem Q1 {vs:List Rx} {i:Nat} {x:Rx} (h:vs[i]? =some x) (hx:iH x≠0):vs.all (fun x=>decide (iH x=0))=false:=Bool.eq_false_iff.2 fun h2=>by
 have:=I_.1 h2 x (M_ h);exact hx (h_ this)
theorem Nw {vs:List Rx} (h:∀x∈vs,iH x=0):vs.all (fun x=>decide (iH x=0))=true:=I_.2 fun x hx=>T_ (h x hx)
theorem U9:((List.range 4).all fun i=>decide (((ov[i+4]?).map fun r=>(r.c,r.s))=some (0,false)))=true:=D_
theorem SB {k:Int} {r:Kd} (h:pR k=some r) (h1:5<=k) (h2:k<=8):r.s=false:=by
 obtain⟨_,_,h3⟩:=m5 h;have:=I_.1 U9 (k.toNat-5) (List.mem_range.2 O_);rw[show k.toNat-5+4=k.toNat-1 by omega,h3]at this
 simp at this
 exact this.2
theorem wT (c:Cn) (P Q:Int) (h1:c.ps.length<=1000000) (h2:c.cs.length<=1000000) (h3:c.vs.length<=1000000) (hv:∀x∈c.vs,aa Tryz.prog 48 [dR x] (.one (dN .i64 (iH x)))):aa Tryz.prog 18 [dC c,dN .i64 P,dN .i64 Q] (.one (dB (GA c P Q))):=by
 have cO:=wa c.k;cases hk:pR c.k with
 |none=>
  rw[hk]at cO;rw[rz hk];obtain⟨k,ps,cs,vs,s⟩:=c;have cO:aa Tryz.prog 31 [dN .i64 k] (.tup [.agg U5,dB false]):=cO;show aa Tryz.prog _ [.agg (cC k ps cs vs s),_,_] _;refine kV func18 ?_;refine kC (cO) ?_;exact aj
 |some r=>
  rw[hk]at cO;obtain⟨b,hb⟩:∃b,GA c P Q=b:=⟨_,rfl⟩;rw[hb];rw[nw hk]at hb;have h58:5<=c.k->c.k<=8->r.p=4:=Aj hk;have h59:5<=c.k->c.k<=8->r.s=false:=SB hk;obtain⟨k,ps,cs,vs,s⟩:=c;obtain⟨nm,rp,rc,rn,rv,rq,rs⟩:=r;dsimp only at *;have cO:aa Tryz.prog 31 [dN .i64 k] (.tup [.agg (Pq ⟨nm,rp,rc,rn,rv,rq,rs⟩),dB true]):=cO;have cA:=lJ ps P h1;have cB:=lJ cs Q h2;have cF:=i6 ps h1;have cG:=i6 cs h2;obtain⟨A,hA⟩:∃A,ps.all (ua P)=A:=⟨_,rfl⟩;rw[hA]at cA hb;obtain⟨B,hB⟩:∃B,cs.all (ua Q)=B:=⟨_,rfl⟩;rw[hB]at cB hb;obtain⟨F,hF⟩:∃F,decide ps.Nodup=F:=⟨_,rfl⟩;rw[hF]at cF hb;obtain⟨G,hG⟩:∃G,decide cs.Nodup=G:=⟨_,rfl⟩;rw[hG]at cG hb;show aa Tryz.prog _ [.agg (cC k ps cs vs s),_,_] _
  refine kV func18 ?_;refine kC (cO) ?_;refine kG ?_
  iterate 8 refine kO ?_
  by_cases n1:(ps.length:Int)=rp
  rotate_left
  ·refine kB true ?_ ?_
   ·exact(by simp[n1])
   refine eH ?_;exact congrArg (fun b=>RV.one (dB b)) (by rw[<- hb,F_ n1];rfl)
  refine kB false ?_ ?_
  ·exact(by simp[n1])
  iterate 7 refine kO ?_
  by_cases n2:(cs.length:Int)=rc
  rotate_left
  ·refine kB true ?_ ?_
   ·exact(by simp[n2])
   refine eH ?_;exact congrArg (fun b=>RV.one (dB b)) (by rw[<- hb,F_ n2,Bool.false_and,Bool.false_and,Bool.and_false])
  refine kB false ?_ ?_
  ·exact(by simp[n2])
  iterate 7 refine kO ?_
  by_cases n3:(vs.length:Int)=rn
  rotate_left
  ·refine kB true ?_ ?_
   ·exact(by simp[n3])
   refine eH ?_;exact congrArg (fun b=>RV.one (dB b)) (by rw[<- hb,F_ n3,Bool.false_and,Bool.and_false,Bool.and_false])
  refine kB false ?_ ?_
  ·exact(by simp[n3])
  refine kO5 ?_
  refine kC (cA) ?_;cases A
  ·refine eH ?_
   exact congrArg (fun b=>RV.one (dB b)) (by rw[<- hb,Bool.and_false,Bool.false_and])
  iterate 6 refine kO ?_
  refine kC (cB) ?_;cases B
  ·refine eH ?_
   exact congrArg (fun b=>RV.one (dB b)) (by rw[<- hb,Bool.and_false,Bool.false_and,Bool.and_false])
  rw[T_ n1,T_ n2,T_ n3,Bool.true_and,Bool.true_and,Bool.true_and,Bool.true_and]at hb;refine kW ?_;refine aq Nat (fun i=>i<=vs.length/\ ∀x∈vs.take i,iH x=0) (fun i=>⟨[(3, .box 0 0),(7, .box 1006 0),(9, .d (dN .i64 i))],[(0,some (cC k ps cs vs s)),(1006,some (Pq ⟨nm,rp,rc,rn,rv,rq,rs⟩))]⟩) (fun i=>vs.length-i) 0 ⟨Nat.zero_le _,by simp⟩ kw ?_;rintro i ⟨hi,hn⟩;refine kI ?_
  refine kO4 ?_
  by_cases hlt:i<vs.length
  ·refine kT ?_
   obtain⟨x,hx⟩:∃x,vs[i]? =some x:=⟨vs[i],by simp[hlt]⟩;have cV:=hv x (M_ hx);have hno:=Q1 hx;have hat:=eX vs i x hx;obtain⟨o1,na1,xs1,nb1,ys1,nm1,n1',cs1,hX⟩:=aY x;rw[show dR x= .agg (ab o1 na1 xs1 nb1 ys1 nm1 n1' cs1) from congrArg DV.agg hX]at cV;rw[hX]at hat;refine kG ?_
   refine kO3 ?_
   refine Kc ?_;refine kO ?_;refine kC (cV) ?_
   by_cases e:iH x=0
   ·refine kB false ?_ ?_
    ·exact(by simp[e])
    refine kW ?_;refine⟨i+1,⟨hlt,?_⟩,by omega,weak ⟨rfl,rfl,ai O_ O_,trivial⟩ ⟨rfl,rfl,trivial⟩ rfl⟩;rw[aT hx];intro y hy;rcases List.mem_append.1 hy with hy|hy
    ·exact hn y hy
    ·rw[d_.1 hy];exact e
   ·refine kB true ?_ ?_
    ·exact(by simp[e])
    refine eH ?_;exact congrArg (fun b=>RV.one (dB b)) (by rw[<- hb,hno e];rfl)
  ·refine kE ?_
   rw[K_ O_]at hn;rw[Nw hn,Bool.true_and]at hb;refine kG ?_
   refine kO3 ?_
   cases rs
   ·iterate 16 refine kO ?_
    by_cases s0:s=0
    rotate_left
    ·refine kB true ?_ ?_
     ·exact(by simp[s0])
     refine eH ?_;exact congrArg (fun b=>RV.one (dB b)) (by rw[<- hb];simp[AK,s0])
    refine kB false ?_ ?_
    ·exact(by simp[s0])
    rw[show AK false s=true by simp[AK,s0],Bool.true_and]at hb
    iterate 3 refine kG ?_
    by_cases h6:5<=k/\k<=8
    ·rw[if_pos h6]at hb
     obtain⟨p,q,r,t,hps⟩:=EB (l:=ps) (by have:=h58 h6.1 h6.2;omega);have i0:ps[0]? =some p:=by rw[hps];rfl
     have i1:ps[1]? =some q:=by rw[hps];rfl
     have i2:ps[2]? =some r:=by rw[hps];rfl
     have i3:ps[3]? =some t:=by rw[hps];rfl
     have hl:ps.length=4:=by rw[hps];rfl
     rw[hps]at hb;obtain⟨B1,e1⟩:∃B,(p == r)=B:=⟨_,rfl⟩;obtain⟨B2,e2⟩:∃B,(q == t)=B:=⟨_,rfl⟩;obtain⟨B3,e3⟩:∃B,(p == t)=B:=⟨_,rfl⟩;obtain⟨B4,e4⟩:∃B,(q == r)=B:=⟨_,rfl⟩;obtain⟨N5,e5⟩:∃B,(p != q)=B:=⟨_,rfl⟩;obtain⟨N6,e6⟩:∃B,(r != t)=B:=⟨_,rfl⟩;have hb:(N5 && (N6 && (!(B1 && B2) && !(B3 && B4))))=b:=by rw[<- hb,<- e1,<- e2,<- e3,<- e4,<- e5,<- e6];rfl
     clear hps;rcases(show k=5∨k=6∨k=7∨k=8 by omega)with e|e|e|e
     all_goals first|refine cU (v':= .bool true) rfl rfl rfl rfl (congrArg Value.bool (by rw[e];decide)) ?_|(refine cU (v':= .bool false) rfl rfl rfl rfl (congrArg Value.bool (by rw[e];decide)) ?_;refine kG ?_;first|refine cU (v':= .bool true) rfl rfl rfl rfl (congrArg Value.bool (by rw[e];decide)) ?_|(refine cU (v':= .bool false) rfl rfl rfl rfl (congrArg Value.bool (by rw[e];decide)) ?_;refine kG ?_;first|refine cU (v':= .bool true) rfl rfl rfl rfl (congrArg Value.bool (by rw[e];decide)) ?_|(refine cU (v':= .bool false) rfl rfl rfl rfl (congrArg Value.bool (by rw[e];decide)) ?_;refine kG ?_;refine cU (v':= .bool true) rfl rfl rfl rfl (congrArg Value.bool (by rw[e];decide)) ?_)))
     all_goals refine kW ?_
     all_goals(first|refine aH (i:=0) (cs':=[.val (.int .i64 p)]) O_ (bH i0) (Z_ 0) rfl rfl rfl rfl rfl rfl rfl rfl ?_|refine bn rfl rfl rfl ?_)
     all_goals refine kO2 ?_
     all_goals(first|refine aH (i:=2) (cs':=[.val (.int .i64 r)]) O_ (bH i2) (Z_ 0) rfl rfl rfl rfl rfl rfl rfl rfl ?_|refine bn rfl rfl rfl ?_)
     all_goals refine kO ?_
     all_goals(first|refine bn rfl rfl rfl ?_|(refine cU (v':= .bool B1) rfl rfl rfl rfl (congrArg Value.bool e1) ?_;cases B1))
     all_goals refine kO2 ?_
     all_goals(first|refine aH (i:=1) (cs':=[.val (.int .i64 q)]) O_ (bH i1) (Z_ 0) rfl rfl rfl rfl rfl rfl rfl rfl ?_|refine bn rfl rfl rfl ?_)
     all_goals refine kO2 ?_
     all_goals(first|refine aH (i:=3) (cs':=[.val (.int .i64 t)]) O_ (bH i3) (Z_ 0) rfl rfl rfl rfl rfl rfl rfl rfl ?_|refine bn rfl rfl rfl ?_)
     all_goals refine kO ?_
     all_goals(first|refine bn rfl rfl rfl ?_|(refine cU (v':= .bool B2) rfl rfl rfl rfl (congrArg Value.bool e2) ?_;cases B2))
     all_goals refine kO3 ?_
     all_goals(first|refine aH (i:=0) (cs':=[.val (.int .i64 p)]) O_ (bH i0) (Z_ 0) rfl rfl rfl rfl rfl rfl rfl rfl ?_|refine bn rfl rfl rfl ?_)
     all_goals refine kO2 ?_
     all_goals(first|refine aH (i:=3) (cs':=[.val (.int .i64 t)]) O_ (bH i3) (Z_ 0) rfl rfl rfl rfl rfl rfl rfl rfl ?_|refine bn rfl rfl rfl ?_)
     all_goals refine kO ?_
     all_goals(first|refine bn rfl rfl rfl ?_|(refine cU (v':= .bool B3) rfl rfl rfl rfl (congrArg Value.bool e3) ?_;cases B3))
     all_goals refine kO2 ?_
     all_goals(first|refine aH (i:=1) (cs':=[.val (.int .i64 q)]) O_ (bH i1) (Z_ 0) rfl rfl rfl rfl rfl rfl rfl rfl ?_|refine bn rfl rfl rfl ?_)
     all_goals refine kO2 ?_
     all_goals(first|refine aH (i:=2) (cs':=[.val (.int .i64 r)]) O_ (bH i2) (Z_ 0) rfl rfl rfl rfl rfl rfl rfl rfl ?_|refine bn rfl rfl rfl ?_)
     all_goals refine kO ?_
     all_goals(first|refine bn rfl rfl rfl ?_|(refine cU (v':= .bool B4) rfl rfl rfl rfl (congrArg Value.bool e4) ?_;cases B4))
     all_goals refine kO3 ?_
     all_goals refine kG ?_
     all_goals refine kO ?_
     all_goals(first|refine aH (i:=0) (cs':=[.val (.int .i64 p)]) O_ (bH i0) (Z_ 0) rfl rfl rfl rfl rfl rfl rfl rfl ?_|refine bn rfl rfl rfl ?_)
     all_goals refine kO2 ?_
     all_goals(first|refine aH (i:=1) (cs':=[.val (.int .i64 q)]) O_ (bH i1) (Z_ 0) rfl rfl rfl rfl rfl rfl rfl rfl ?_|refine bn rfl rfl rfl ?_)
     all_goals refine kO ?_
     all_goals(first|refine bn rfl rfl rfl ?_|(refine cU (v':= .bool N5) rfl rfl rfl rfl (congrArg Value.bool e5) ?_;cases N5))
     all_goals refine kO2 ?_
     all_goals(first|refine aH (i:=2) (cs':=[.val (.int .i64 r)]) O_ (bH i2) (Z_ 0) rfl rfl rfl rfl rfl rfl rfl rfl ?_|refine bn rfl rfl rfl ?_)
     all_goals refine kO2 ?_
     all_goals(first|refine aH (i:=3) (cs':=[.val (.int .i64 t)]) O_ (bH i3) (Z_ 0) rfl rfl rfl rfl rfl rfl rfl rfl ?_|refine bn rfl rfl rfl ?_)
     all_goals refine kO ?_
     all_goals(first|refine bn rfl rfl rfl ?_|(refine cU (v':= .bool N6) rfl rfl rfl rfl (congrArg Value.bool e6) ?_;cases N6))
     all_goals refine kW ?_
     all_goals refine bK (T:=TT) rfl ?_
     all_goals exact congrArg (fun b=>RV.one (dB b)) (by rw[<- hb];simp)
    ·rw[if_neg h6]at hb
     exact Li
   ·have h6:¬(5<=k/\k<=8):=fun h=>by have:=h59 h.1 h.2;cases this
    rw[if_neg h6]at hb
    refine kO2 ?_
    by_cases s1:s=1
    ·refine kB false ?_ ?_
     ·exact(by simp[s1])
     rw[show AK true s=true by simp[AK,s1],Bool.true_and]at hb
     iterate 3 refine kG ?_
     exact Li
    ·refine kB true ?_ ?_
     ·exact(by simp[s1])
     refine kO4 ?_
     by_cases s2:s= -1
     ·refine kB false ?_ ?_
      ·exact(by simp[s2])
      rw[show AK true s=true by simp[AK,s2],Bool.true_and]at hb
      iterate 3 refine kG ?_
      exact Li
     ·refine kB true ?_ ?_
      ·exact(by simp[s2])
      refine eH ?_;exact congrArg (fun b=>RV.one (dB b)) (by rw[<- hb];simp[AK,s1,s2])
def SM (c:Cn):Bool:=c.vs.all (fun x=>decide (qH x 120<=120) && oB x) && (decide (c.ps.length<=10) && (decide (c.cs.length<=10) && decide (c.vs.length<=4)))
theorem wS (c:Cn) (hw:Vi c) (h1:c.ps.length<=9223372036854775807) (h2:c.cs.length<=9223372036854775807) (h3:c.vs.length<=9223372036854775807):aa Tryz.prog 16 [dC c] (.one (dB (SM c))):=by
 have hv:=fun x hx=>nv x (hw.vs x hx)
 obtain⟨z,hz⟩:∃z,SM c=z:=⟨_,rfl⟩;rw[hz];unfold SM at hz;obtain⟨k,ps,cs,vs,s⟩:=c;dsimp only at *;show aa Tryz.prog _ [.agg (cC k ps cs vs s)] _;refine kV func16 ?_;refine aq Nat (fun i=>i<=vs.length/\ ∀x∈vs.take i,(decide (qH x 120<=120) && oB x)=true) (fun i=>⟨[(1, .box 0 0),(3, .d (dN .i64 i))],[(0,some (cC k ps cs vs s))]⟩) (fun i=>vs.length-i) 0 ⟨Nat.zero_le _,by simp⟩ kw ?_;rintro i ⟨hi,hn⟩;refine kI ?_
 refine kO4 ?_
 by_cases hlt:i<vs.length
 ·refine kT ?_
  obtain⟨x,hx⟩:∃x,vs[i]? =some x:=⟨vs[i],by simp[hlt]⟩;have cV:=hv x (M_ hx);have hat:=eX vs i x hx;obtain⟨o1,na1,xs1,nb1,ys1,nm1,n1',cs1,hX⟩:=aY x;rw[show dR x= .agg (ab o1 na1 xs1 nb1 ys1 nm1 n1' cs1) from congrArg DV.agg hX]at cV;rw[hX]at hat;obtain⟨E,hE⟩:∃E,(decide (qH x 120<=120) && oB x)=E:=⟨_,rfl⟩;rw[hE]at cV;refine kG ?_
  refine kO3 ?_
  refine Kc ?_;refine kO ?_;cases E
  ·refine kC (cV) ?_
   refine eH ?_;refine congrArg (fun b=>RV.one (dB b)) ?_
   rw[<- hz,show vs.all (fun x=>decide (qH x 120<=120) && oB x)=false from Bool.eq_false_iff.2 fun h=>by
    have:=I_.1 h x (M_ hx);rw[hE]at this;cases this]
   rfl
  ·refine kC (cV) ?_
   refine kW ?_;refine⟨i+1,⟨hlt,?_⟩,by omega,weak ⟨rfl,ai O_ O_,trivial⟩ ⟨rfl,trivial⟩ rfl⟩;rw[aT hx];intro y hy;rcases List.mem_append.1 hy with hy|hy
   ·exact hn y hy
   ·rw[d_.1 hy];exact hE
 ·refine kE ?_
  rw[K_ O_]at hn;rw[I_.2 hn,Bool.true_and]at hz;refine kG ?_
  refine kO3 ?_
  by_cases g1:ps.length<=10
  rotate_left
  ·refine kE ?_
   refine eH ?_;exact congrArg (fun b=>RV.one (dB b)) (by rw[<- hz,F_ g1];rfl)
  refine kT ?_
  refine kO4 ?_
  by_cases g2:cs.length<=10
  rotate_left
  ·refine kE ?_
   refine eH ?_;exact congrArg (fun b=>RV.one (dB b)) (by rw[<- hz,F_ g2];simp)
  refine kT ?_
  refine kO5 ?_
  by_cases g3:vs.length<=4
  rotate_left
  ·refine kE ?_
   refine eH ?_;exact congrArg (fun b=>RV.one (dB b)) (by rw[<- hz,F_ g3];simp)
  refine kX ?_;refine bK (T:=TT) rfl ?_;exact congrArg (fun b=>RV.one (dB b)) (by rw[<- hz];simp[g1,g2,g3])
theorem Q0:Tryz.prog.globalNamed "strconv.ErrSyntax" =some 6:=by kernel_rfl
theorem Sn:(Tryz.prog.globals[6]?).map (·.type)=some 142:=by kernel_rfl
theorem RZ:Tryz.prog.globalNamed "strconv.ErrRange" =some 7:=by kernel_rfl
theorem Sy:(Tryz.prog.globals[7]?).map (·.type)=some 142:=by kernel_rfl
theorem zx {laid:List (String × DataW Unit)} {ps:List MemPlace} {W:World} {name nm:String} {d:DataW Unit} {g:Nat} (hv:DataW.LaidVars Tryz.prog W laid ps) (hm:(name, .iface nm d)∈laid) (hg:Tryz.prog.globalNamed name=some g) (ht:(Tryz.prog.globals[g]?).map (·.type)=some 142):
 ∃ev,W.cell? ⟨g,0,none⟩=some ev/\(ev= .nilIface∨ ∃te pe,ev= .iface te pe):=by
 obtain⟨g',t,cs,fuel,p,h1,h2,h3,h4⟩:=gw hv hm;obtain rfl:=Option.some.inj (hg.symm.trans h1);obtain rfl:=Option.some.inj (ht.symm.trans h2);obtain⟨_,u,v,e,_⟩:=iface_of_trod underlying142 h4;refine⟨.iface u v,?_, .inr ⟨u,v,rfl⟩⟩;have h:=World.var?_cell hg h3 0;obtain⟨l⟩:=cs;dsimp only at e;subst e
 simpa using h
set_option maxRecDepth 100000 in
theorem zO {W:World} (h:W.ShapedOpen Tryz.prog):∃m,W.cell? ⟨3,0,none⟩=some (.int .i64 m):=
 Go.Proofs.cell_of_shapedOpen_int (zero:= #[.int .i64 0]) (t:=3) h (h_ (by kernel_rfl)) (by kernel_rfl) rfl (by kernel_rfl) (by kernel_rfl) underlying3
theorem FM {laid:List (String × DataW Unit)} (hp:(laid.all fun x=>x.2.handleName?.isNone)=true) (hm5:("strconv.ErrSyntax",Rows.laid_strconv_ErrSyntax)∈laid) (hm6:("strconv.ErrRange",Rows.laid_strconv_ErrRange)∈laid) {W:World} (hs:W.ShapedOpen Tryz.prog) (h:laidMetH Tryz.prog laid W):o0 W:=by
 rw[MakeChecks.laidMetH_plain _ _ _ hp]at h;obtain⟨ps,hv,_⟩:=h;exact⟨zO hs,zx hv hm5 Q0 Sn,zx hv hm6 RZ Sy⟩
section
variable {H:Type} {enc:TypeId × Value->H}
theorem nC {a:Assume} {C:Checked} {os:Os} {f:FuncId} {fn:Func} {s:ChangeSpec} {conds:List PathCond} {apart fresh handsOn again:Bool} {X:World->Array Value->Prop}
 (hX:∀(w w':World) (args:Array Value),w.heap=w'.heap->X w args->X w' args)
 (own:ownKnob C.prog.godebug=none) (started:os.Started) (noInit:C.prog.inits.idxOf? f=none) (hfn:C.prog.funcs[f]? =some fn)
 (witness:∃(w:World) (tape:Tape) (i:Input),w.os=os/\(w.forCall tape i).Shaped C.prog/\i.vars=[]/\Input.okWide C.prog (w.forCall tape i) .any w.heap.size f i /\
  ((s.pre enc C.prog fn conds apart (w.forCall tape i).memory i.args/\X (w.forCall tape i).memory i.args)/\sizedMet enc C.prog fn (OpenSpec.ofChange s) apart (w.forCall tape i).memory i.args)/\a.holds C.prog (lone (Frame.enter C.prog f i.args .normal) [] (w.forCall tape i)))
 (contract:∀(W:World) (base:Nat) (args:Array Value) (ds gs:List (DataW H)) (before:List MemPlace),
  (∀(j:Nat) t v,fn.params[j]? =some t->args[j]? =some v->Value.okWide C.prog W .any base t v) ->
  DataW.Whole enc C.prog fn.params.toList s.vars apart W args.toList ds gs before ->
  conds.all (PathCond.test C.prog ⟨fn.params.toList,ds,s.plain.varTypes C.prog,gs⟩)=true ->
  W.ShapedOpen C.prog->X W args ->
  a.holds C.prog (lone (Frame.enter C.prog f args .normal) [] W) ->
  Calls C.prog f args W fun e W'=>∃v,e= .returned v/\s.post enc C.prog fn apart fresh handsOn again W args v W'):
 ReturnsInHanded a C os f .any (fun w args=>(s.pre enc C.prog fn conds apart w args/\X w args)/\sizedMet enc C.prog fn (OpenSpec.ofChange s) apart w args) (s.post enc C.prog fn apart fresh handsOn again):=by
 refine returnsInHanded_of_calls own started noInit witness ?_;intro w tape i _ hsh _ hok hpre hholds;obtain⟨_,_,_,fn',hfn',_,_,_,_,hval⟩:=hok;obtain rfl:fn'=fn:=Option.some.inj (hfn'.symm.trans hfn);obtain⟨⟨⟨ds,gs,before,hw,hc⟩,hx⟩,hz⟩:=hpre;refine(contract (w.forCall tape i) w.heap.size i.args ds gs before hval (DataW.Whole.of_heap (w':=w.forCall tape i) (by rfl) hw) hc hsh (hX _ _ _ (by rfl) hx) hholds).mono fun e W' ⟨v,he,hp⟩=>?_
 subst he;exact ChangeSpec.post_blind hp
end
theorem BU {S:Nat->Prop} {w:World} {n:Nat} {cs:List AV} {v:Value} (h:AV.M S w (.sl n cs) v):n<=9223372036854775807:=by
 cases h with
 |emp a b _=>omega
 |sl f a b _ _ _ _=>omega
structure Wn (c:Cn):Prop where
 p:c.ps.length<=9223372036854775807
 q:c.cs.length<=9223372036854775807
 v:c.vs.length<=9223372036854775807
theorem VT {S:Nat->Prop} {w:World} {c:Cn} {v:Value} (h:DV.M S w (dC c) v):Wn c:=by
 obtain⟨vs,_,hl,hm⟩:=h;have h5:vs.length=5:=hl.symm;have hg:∀i (hi:i<5),vs[i]? =some (vs[i]'(by omega)):=fun i hi=>Q_ _
 exact⟨BU (hm 1 _ _ rfl (hg 1 D_)),BU (hm 2 _ _ rfl (hg 2 D_)),BU (hm 3 _ _ rfl (hg 3 D_))⟩
theorem L5 {P:Program} {f:FuncId} {c:Cn} {ds:List DV} {r:RV} (hent:∀args w,(callFunc f args).run P w= .ok (.enter f args) w) (h:Wn c->aa P f (dC c::ds) r):aa P f (dC c::ds) r:=
 ⟨hent,fun S w vs hS hv=>by
  match vs,hv with
  |v::vs,⟨h1,h2⟩=>exact(h (VT h1)).calls S w _ hS ⟨h1,h2⟩⟩
structure SV (c:Cn):Prop where
 p:c.ps.length<=10
 q:c.cs.length<=10
 v:c.vs.length<=4
 x:∀x∈c.vs,AG x
theorem Lw {c:Cn} (hw:Vi c) (h:SM c=true):SV c:=by
 unfold SM at h
 simp only[B_,decide_eq_true_eq,I_]at h
 obtain⟨h1,h2,h3,h4⟩:=h;exact⟨h2,h3,h4,fun x hx=>⟨hw.vs x hx,(h1 x hx).2,by rw[<- (sh x 120).2.2 (h1 x hx).1];exact(h1 x hx).1⟩⟩
theorem SV.valid {c:Cn} (h:SV c) (P Q:Int):aa Tryz.prog 17 [dC c,dN .i64 P,dN .i64 Q] (.one (dB (GA c P Q))):=mz c P Q (by have:=h.p;omega) (by have:=h.q;omega) (by have:=h.v;omega) fun x hx=>io x (h.x x hx).wd (h.x x hx).lm (by have:=(h.x x hx).sz;omega)
theorem SV.rvalid {c:Cn} (h:SV c) (P Q:Int):aa Tryz.prog 18 [dC c,dN .i64 P,dN .i64 Q] (.one (dB (GA c P Q))):=wT c P Q (by have:=h.p;omega) (by have:=h.q;omega) (by have:=h.v;omega) fun x hx=>jw x (h.x x hx).wd (h.x x hx).lm (by have:=(h.x x hx).sz;omega)
theorem J7 (q:Rat):∃na xs nb ys,aQ q=[.val (.bool na),aW xs, .val (.bool nb),aW ys]:=⟨_,_,_,_,rfl⟩
theorem uR {c:Cn} {r:Kd} {l:Tb} (hr:pR c.k=some r) (cV:aa Tryz.prog 18 [dC c,dN .i64 200,dN .i64 200] (.one (dB true))) (h3:c.vs.length<=1000000) (hv:c.vs≠[]->r.v=1∨r.v=2∨r.v=3) (g:Rx->QR)
 (cE:∀x∈c.vs,aa Tryz.prog 57 [da l,dR x] (bM (g x))) (hE:∀x∈c.vs,∀e,g x= .error e->e≠0):aa Tryz.prog 23 [dC c,da l] (Il (oJ (fun x=>Br r.v (g x)) c.vs)):=by
 have cO:=wa c.k;rw[hr]at cO;obtain⟨k,ps,cs,vs,s⟩:=c;obtain⟨nm,rp,rc,rn,rv,rq,rs⟩:=r;dsimp only at *;show aa Tryz.prog _ [.agg (cC k ps cs vs s),da l] _;have cV:aa Tryz.prog 18 [.agg (cC k ps cs vs s),dN .i64 200,dN .i64 200] (.one (dB true)):=cV;have cO:aa Tryz.prog 31 [dN .i64 k] (.tup [.agg [.val (vL nm), .val (.int .i64 rp), .val (.int .i64 rc), .val (.int .i64 rn), .val (.int .i64 rv), .val (.int .i64 rq), .val (.bool rs)],dB true]):=cO;obtain⟨f,hf0⟩:∃f:Rx->Except Int Rat,(fun x=>Br rv (g x))=f:=⟨_,rfl⟩;rw[hf0];have hfx:∀x,f x=Br rv (g x):=fun x=>by rw[<- hf0]
 refine kV func23 ?_;refine kQ (cV) ?_;refine kQ (cO) ?_;refine aq (Nat × List Rat) (fun x=>x.1<=vs.length/\oJ f (vs.take x.1)= .ok x.2/\x.2.length<=x.1) (fun x=>⟨[(8,qV x.2),(1, .d (da l)),(2, .box 0 0),(6, .box 3006 0),(9, .d (dN .i64 x.1))],[(7001,qX x.2),(0,some (cC k ps cs vs s)),(3006,some [.val (vL nm), .val (.int .i64 rp), .val (.int .i64 rc), .val (.int .i64 rn), .val (.int .i64 rv), .val (.int .i64 rq), .val (.bool rs)])]⟩) (fun x=>vs.length-x.1) (0,[]) ⟨Nat.zero_le _,rfl,l_ _⟩ kw ?_;rintro⟨i,qs⟩ ⟨hi,hq,hql⟩;dsimp only at hi hq hql ⊢
 by_cases hlt:i<vs.length
 ·obtain⟨x,hx⟩:∃x,vs[i]? =some x:=⟨vs[i],by simp[hlt]⟩
  have hm:=M_ hx;have c1:=cE x hm;have hat:=eX vs i x hx;have hne:=hE x hm;have hvv:=hv (fun h=>by rw[h]at hlt;simp at hlt)
  have hsp:vs=vs.take i++x::vs.drop (i+1):=by
   exact Pe
  obtain⟨o1,na1,xs1,nb1,ys1,nm1,n1,cs1,hX⟩:=aY x;rw[show dR x= .agg (ab o1 na1 xs1 nb1 ys1 nm1 n1 cs1) from congrArg DV.agg hX]at c1;rw[hX]at hat;have hbad:∀e,f x= .error e->oJ f vs= .error e:=fun e hf=>by rw[hsp];exact wz hf _ _ qs hq
  have hgood:∀q,f x= .ok q->oJ f (vs.take (i+1))= .ok (qs++[q]):=fun q hf=>by rw[aT hx];exact s6 hf _ qs hq
  have hfx:=hfx x;clear cE hE hv hq hsp hf0 cV cO;cases hg:g x with
  |error e=>
   have he:=hne e hg;rw[hg]at hfx c1;rw[hbad e hfx];rw[D4]at c1;cases qs
   all_goals
    refine kI ?_
    refine kO4 ?_
    refine kX ?_;refine aH (i:=i) (cs':=ab o1 na1 xs1 nb1 ys1 nm1 n1 cs1) hlt hat (Z_ 6) rfl rfl rfl rfl rfl rfl rfl rfl ?_;refine kO ?_;refine kC (c1) ?_;refine kG ?_;refine kO ?_;refine kB true ?_ ?_
    ·exact bne_iff_ne.2 he
    exact kF
  |ok y=>
   obtain⟨q,p⟩:=y;rw[hg]at hfx c1;rw[Eg]at c1;have cS:=mn q;obtain⟨na2,xs2,nb2,ys2,hQ⟩:=J7 q
   have c1:aa Tryz.prog 57 [da l, .agg (ab o1 na1 xs1 nb1 ys1 nm1 n1 cs1)] (.tup [.agg [.val (.bool na2),aW xs2, .val (.bool nb2),aW ys2, .val (.int .i64 p)],dN .i64 0]):=by
    have e:mD q p= .agg [.val (.bool na2),aW xs2, .val (.bool nb2),aW ys2, .val (.int .i64 p)]:=by unfold mD j5;rw[hQ];rfl
    rw[<- e];exact c1
   have cS:aa Tryz.prog 58 [.agg [.val (.bool na2),aW xs2, .val (.bool nb2),aW ys2]] (.one (dN .i64 (KQ q))):=by rw[<- hQ];exact cS
   unfold Br at hfx;dsimp only at hfx
   by_cases hp0:p=0
   ·by_cases hv2:rv=2
    ·by_cases hs:KQ q<=0
     ·have hf:f x= .error 6:=by rw[hfx];simp[hv2,hs,hp0]
      rw[hbad 6 hf];cases qs
      all_goals
       refine kI ?_
       refine kO4 ?_
       refine kX ?_;refine aH (i:=i) (cs':=ab o1 na1 xs1 nb1 ys1 nm1 n1 cs1) hlt hat (Z_ 6) rfl rfl rfl rfl rfl rfl rfl rfl ?_;refine kO ?_;refine kC (c1) ?_
       iterate 2 refine kG ?_
       refine kO2 ?_
       refine kB false ?_ ?_
       ·exact(by simp[hp0])
       refine kG ?_
       refine kO2 ?_
       refine kT ?_
       refine kO3 ?_
       refine kC (cS) ?_;refine kB true ?_ ?_
       ·exact T_ hs
       exact kF
     ·have hf:f x= .ok q:=by rw[hfx];simp[hv2,hs,hp0]
      have hs2:=hgood q hf;cases qs with
      |nil=>
       refine EE ?_;refine UK ?_;exact Vm
      |cons q0 qr=>
       have hml:(q0::qr).length<=1000000:=O_
       refine EE ?_;refine UK ?_;exact Vv
    ·have hf:f x= .ok q:=by rw[hfx];simp[hv2,hp0]
     have hs2:=hgood q hf;cases qs with
     |nil=>
      refine EE ?_;refine kG ?_
      refine kO2 ?_
      refine kE ?_;exact Vm
     |cons q0 qr=>
      have hml:(q0::qr).length<=1000000:=O_
      refine EE ?_;refine kG ?_
      refine kO2 ?_
      refine kE ?_;exact Vv
   ·by_cases hp1:p=1
    ·by_cases hv3:rv=3
     ·have hf:f x= .error 8:=by rw[hfx];simp[hv3,hp0]
      rw[hbad 8 hf];cases qs
      all_goals
       refine kI ?_
       refine kO4 ?_
       refine kX ?_;refine aH (i:=i) (cs':=ab o1 na1 xs1 nb1 ys1 nm1 n1 cs1) hlt hat (Z_ 6) rfl rfl rfl rfl rfl rfl rfl rfl ?_;refine kO ?_;refine kC (c1) ?_
       iterate 2 refine kG ?_
       refine kO2 ?_
       refine kB true ?_ ?_
       ·exact(by simp[hp0])
       refine kO3 ?_
       refine kB false ?_ ?_
       ·exact(by simp[hp1])
       refine kO3 ?_
       refine kT ?_;exact kF
     ·by_cases hv2:rv=2
      ·by_cases hs:KQ q<=0
       ·have hf:f x= .error 6:=by rw[hfx];simp[hv2,hs,hp1]
        rw[hbad 6 hf];cases qs
        all_goals
         refine kI ?_
         refine kO4 ?_
         refine kX ?_;refine aH (i:=i) (cs':=ab o1 na1 xs1 nb1 ys1 nm1 n1 cs1) hlt hat (Z_ 6) rfl rfl rfl rfl rfl rfl rfl rfl ?_;refine kO ?_;refine kC (c1) ?_
         iterate 2 refine kG ?_
         refine kO2 ?_
         refine kB true ?_ ?_
         ·exact(by simp[hp0])
         refine kO3 ?_
         refine kB false ?_ ?_
         ·exact(by simp[hp1])
         refine kO3 ?_
         refine kE ?_;refine kG ?_
         refine kO2 ?_
         refine kT ?_
         refine kO3 ?_
         refine kC (cS) ?_;refine kB true ?_ ?_
         ·exact T_ hs
         exact kF
       ·have hf:f x= .ok q:=by rw[hfx];simp[hv2,hs,hp1]
        have hs2:=hgood q hf;cases qs with
        |nil=>
         refine qv ?_;refine E7 ?_;refine M4 ?_;refine Kt ?_;exact Vm
        |cons q0 qr=>
         have hml:(q0::qr).length<=1000000:=O_
         refine qv ?_;refine E7 ?_;refine M4 ?_;refine Kt ?_;exact Vv
      ·have hf:f x= .ok q:=by rw[hfx];rw[if_neg hv3];simp[hv2,hp1]
       have hs2:=hgood q hf;cases qs with
       |nil=>
        refine qv ?_;refine E7 ?_;refine M4 ?_;refine kE ?_;exact Vm
       |cons q0 qr=>
        have hml:(q0::qr).length<=1000000:=O_
        refine qv ?_;refine E7 ?_;refine M4 ?_;refine kE ?_;exact Vv
    ·have hf:f x= .error 8:=by rw[hfx];simp[hp0,hp1]
     rw[hbad 8 hf];cases qs
     all_goals
      refine kI ?_
      refine kO4 ?_
      refine kX ?_;refine aH (i:=i) (cs':=ab o1 na1 xs1 nb1 ys1 nm1 n1 cs1) hlt hat (Z_ 6) rfl rfl rfl rfl rfl rfl rfl rfl ?_;refine kO ?_;refine kC (c1) ?_
      iterate 2 refine kG ?_
      refine kO2 ?_
      refine kB true ?_ ?_
      ·exact(by simp[hp0])
      refine kO3 ?_
      refine kB true ?_ ?_
      ·exact(by simp[hp1])
      exact kF
 ·rw[K_ O_]at hq
  rw[hq];cases qs with
  |nil=>
   refine vf ?_;exact aj
  |cons q0 qr=>
   refine vf ?_;refine jP ?_;refine kI ?_;refine y5 af rfl rfl rfl rfl (bf (q:=68) rfl rfl) ?_;exact aj
theorem ru {c:Cn} {l:Tb} (cV:aa Tryz.prog 18 [dC c,dN .i64 200,dN .i64 200] (.one (dB false))):aa Tryz.prog 23 [dC c,da l] (Il (.error 1)):=by
 obtain⟨k,ps,cs,vs,s⟩:=c;show aa Tryz.prog _ [.agg (cC k ps cs vs s),da l] _;have cV:aa Tryz.prog 18 [.agg (cC k ps cs vs s),dN .i64 200,dN .i64 200] (.one (dB false)):=cV;refine kV func23 ?_;refine kC (cV) ?_;exact aj
section
open Go.ChangeShapes Go.WideShapes Go.ChangeAt Go.RowKit Go.Joins
def Vn (l:Tb):Prop:=∀p∈l,p.1.length<=9223372036854775807/\j3 p.2
def Ri:List TypeId:=[42,40,38,36,4,34,135,3,9,28,33]
theorem E0:tZ Tryz.prog Ri=true:=by kernel_rfl
set_option maxRecDepth 100000 in
theorem I8 {n:Nat} {cs:List AV} (h:Sh Tryz.prog n 42 cs):∃p:Pm,cs=SN p/\p.1.length<=9223372036854775807/\j3 p.2:=by
 cases n with
 |zero=>exact h.elim
 |succ n=>
  simp only[Sh,underlying42,List.forall_mem_cons,List.not_mem_nil,false_imp_iff,implies_true,and_true]at h
  obtain⟨hl,h0,h1⟩:=h;rw[show Tryz.prog.cellsOf 42=8 by kernel_rfl]at hl;rw[show Tryz.prog.cellsOf 9=1 by kernel_rfl]at h0;rw[show Tryz.prog.cellsOf 40=7 by kernel_rfl]at h1
  match cs,hl with
  | [c0,c1,c2,c3,c4,c5,c6,c7],_=>
   obtain⟨nm,e0,hn⟩:=ve h0;obtain⟨x,e1,hx⟩:=Er n _ h1;have e0:[c0]=[.val (vL nm)]:=e0;have e1:[c1,c2,c3,c4,c5,c6,c7]=aR x:=e1;refine⟨(nm,x),?_,hn,hx⟩;show [c0,c1,c2,c3,c4,c5,c6,c7]= .val (vL nm)::aR x;rw[<- e1]
   simp at e0
   rw[e0]
set_option maxRecDepth 100000 in
theorem SA {n:Nat} {cs:List AV} (h:Sh Tryz.prog n 33 cs):∃l:Tb,cs=[.sl l.length (ot l)]/\Vn l:=by
 cases n with
 |zero=>exact h.elim
 |succ n=>
  simp only[Sh,underlying33]at h
  obtain⟨rows,e,_,hr⟩:=h
  have key:∀rows:List (List AV),(∀r∈rows,Sh Tryz.prog n 42 r/\r.length=Tryz.prog.cellsOf 42)-> ∃l:Tb,rows.length=l.length/\rows.flatten=ot l/\Vn l:=by
   intro rows
   induction rows with
   |nil=>intro _;exact⟨[],rfl,rfl,fun x hx=>by cases hx⟩
   |cons r rows ihr=>
    intro hr;obtain⟨l,k1,k2,k3⟩:=ihr (fun r hm=>hr r (by simp[hm]));obtain⟨p,k4,k5,k6⟩:=I8 (hr r S_).1;refine⟨p::l,by simp[k1],by rw[List.flatten_cons,k2,k4];rfl,fun y hy=>?_⟩;rcases f_.1 hy with rfl|hy
    ·exact⟨k5,k6⟩
    ·exact k3 y hy
  obtain⟨l,k1,k2,k3⟩:=key rows hr;exact⟨l,by rw[e,k1,k2],k3⟩
set_option maxRecDepth 100000 in
theorem Kk {H:Type} {enc:TypeId × Value->H} {W:World} {r:Reach} {b0:Nat} {v:Value} {d:DataW H} {p:List MemPlace} (hv:Value.okWide Tryz.prog W r b0 33 v) (h:DataW.Trod enc Tryz.prog W 0 (fun _=>true) true 33 v d p):
 ∃l:Tb,DV.M (fun _=>False) W (da l) v/\Vn l:=by
 obtain⟨A,n,c,rfl⟩:=okWide_slice underlying33 hv;obtain⟨n,cs,h1,h2⟩:=Ep E0 D_ h;obtain⟨l,rfl,h3⟩:=SA h2;exact⟨l,h1.2 0 _ _ rfl rfl,h3⟩
end
end Go.Proofs.YtnchbpoopnjghaaGreatDoor
