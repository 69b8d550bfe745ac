/- What the machine of HmA reckons is what the model does: whole code. -/
import Derived.Test.YtnchbpoopnjghaaGreatDoorRHmF
set_option maxHeartbeats 100000000
set_option linter.all false
namespace Go.Proofs.YtnchbpoopnjghaaGreatDoor
open Go.RowKit
section
variable {P:Program}{g g':Nat->Option HG}{w0 w w':World}{h:Nat->Option HB}{k n:Nat}{a:Act}
def Lv{X:FuncId->List HV->Tr HB->Nat->Option HM}(hX:wH P X)(O:P.follows .mixedOrders=true):∀(u n:Nat)(c:Code)(s:HS)(x:HX)(d:HS),hrun P X u n c s=some (x,d)->SC P n c s x d:=by
 intro u;induction u using Nat.strongRecOn with
 |_ u R=>
  intro n c s x d h;cases u with
  |zero=>cases h
  |succ u=>
   have p:∀n c s x d,hrun P X u n c s=some (x,d)->SC P n c s x d:=R u (m_ u);have L:∀s f C m,hcall P X (hrun P X u) s f C=some m->bY P f C s.h s.k m:=fun s f C m h=>zU hX p h;unfold hrun at h;split at h
   ·cases h;exact⟨KK.refl _ _,fun g w0 a w hr hf=>wp_skip ⟨trivial,g,fun _ _=>rfl,hr,hf⟩⟩
   ·cases h;exact⟨KK.refl _ _,fun g w0 a w hr hf=>wp_label ⟨trivial,g,fun _ _=>rfl,hr,hf⟩⟩
   ·rename_i id V W;split at h
    ·rename_i B Q;cases h;split at Q
     ·obtain⟨hk,z⟩:=wU L V.toList s d 0 (fun i=>by simp) Q;refine⟨hk,fun g w0 a w hr hf=>wp_region ?_⟩;have:=z g w0 a w (fun e a' w'=>XE .normal e/\ ∃g',gM s.k g g'/\HR g' w0 d.h.get d.k w'/\FR n g' (fv d.f) a') hr hf (fun g' a' w' h3 h4 h5=>⟨trivial,g',h3,h4,h5⟩);rw[List.range_eq_range'];simpa using this
     ·split at Q
      ·exact H1 O L (by assumption) Q
      ·cases Q
    ·cases h
   ·rename_i A Z;split at h
    ·rename_i B z;obtain⟨y,q⟩:=p _ _ _ _ _ z;obtain⟨k2,a2⟩:=p _ _ _ _ _ h;refine⟨y.trans k2,fun g w0 a w hr hf=>wp_seq (wp_mono (q g w0 a w hr hf) fun e a' w' hq=>?_)⟩;obtain⟨o,g',h3,h4,h5⟩:=hq;cases e with
     |normal=>exact wp_mono (a2 g' w0 a' w' h4 h5) fun e a' w'⟨I,H,J,K,p4⟩=>⟨I,H,h3.trans J y.1,K,p4⟩
     |exit i=>exact o.elim
     |ret=>exact o.elim
     |goto l=>exact o.elim
     |panic c=>exact o.elim
     |outgrown=>exact o.elim
    ·rename_i E;obtain⟨y,q⟩:=p _ _ _ _ _ h;refine⟨y,fun g w0 a w hr hf=>wp_seq (wp_mono (q g w0 a w hr hf) fun e a' w' hq=>?_)⟩;cases e with
     |normal=>cases x with
      |normal=>exact absurd h (E d)
      |exit i=>exact hq.1.elim
      |ret=>exact hq.1.elim
     |exit i=>exact hq
     |ret=>exact hq
     |goto l=>exact hq
     |panic c=>exact hq
     |outgrown=>exact hq
   ·rename_i c A Z;have F:∀{b:Bool}{g:Nat->Option HG}{w0:World}{a:Act}{w:World},hev s.f c= .v (.bool b)->HR g w0 s.h.get s.k w->FR n g (fv s.f) a->a.eval c= .bool b:=fun{b g w0 a w}N hr hf=>by have:=Ia hr (x:=c) (f:=s.f) (a:=a) fun t _=>hf.tm t;rw[N]at this;exact this.v_inv
    split at h
    ·rename_i N;obtain⟨y,q⟩:=p _ _ _ _ _ h;exact⟨y,fun g w0 a w hr hf=>wp_cond_true (F N hr hf) (q g w0 a w hr hf)⟩
    ·rename_i N;obtain⟨y,q⟩:=p _ _ _ _ _ h;exact⟨y,fun g w0 a w hr hf=>wp_cond_false (F N hr hf) (q g w0 a w hr hf)⟩
    ·cases h
   ·rename_i id A;split at h
    ·rename_i i B z;obtain⟨y,q⟩:=p _ _ _ _ _ z;have T:B=d:=by split at h<;>(cases h;rfl)
     subst T;refine⟨y,fun g w0 a w hr hf=>wp_block (wp_mono (q g w0 a w hr hf) fun e a' w' hq=>?_)⟩;obtain⟨o,g',h3,h4,h5⟩:=hq;cases e with
     |exit j=>
      have S:i=j:=o;subst S;simp only[Exit.inBlock];split at h
      ·rename_i F;cases h;rw[if_pos (Nat.eq_of_beq_eq_true F)];exact⟨trivial,g',h3,h4,h5⟩
      ·rename_i F;cases h;rw[if_neg (fun e=>by rw[e]at F;simp at F)];exact⟨rfl,g',h3,h4,h5⟩
     |normal=>exact o.elim
     |ret=>exact o.elim
     |goto l=>exact o.elim
     |panic c=>exact o.elim
     |outgrown=>exact o.elim
    ·rename_i E;obtain⟨y,q⟩:=p _ _ _ _ _ h;refine⟨y,fun g w0 a w hr hf=>wp_block (wp_mono (q g w0 a w hr hf) fun e a' w' hq=>?_)⟩;cases e with
     |exit i=>cases x with
      |exit j=>exact absurd h (E j d)
      |normal=>exact hq.1.elim
      |ret=>exact hq.1.elim
     |normal=>exact hq
     |ret=>exact hq
     |goto l=>exact hq
     |panic c=>exact hq
     |outgrown=>exact hq
   ·rename_i A;have D:hrun P X (u+1) n (.loop A) s=some (x,d):=by show(match hrun P X u n A s with|some (.normal,d)=>hrun P X u n (.loop A) d|r=>r)=_;exact h
    have kk:∀m,m<=u+1-> ∀s,hrun P X m n (.loop A) s=some (x,d)->KK s.h s.k d.h d.k:=by
     intro m;induction m with
     |zero=>intro _ s h;cases h
     |succ m U=>
      intro hm s h;have h:(match hrun P X m n A s with|some (.normal,d)=>hrun P X m n (.loop A) d|r=>r)=some (x,d):=h;split at h
      ·rename_i B z;exact(R m O_ _ _ _ _ _ z).1.trans (U O_ B h)
      ·exact(R m O_ _ _ _ _ _ h).1
    refine⟨kk (u+1) (l_ _) s D,fun g w0 a w hr hf=>?_⟩;refine wp_loop_ghost (fun m a' w'=>m<=u+1/\ ∃B G,hrun P X m n (.loop A) B=some (x,d)/\s.k<=B.k/\gM s.k g G/\HR G w0 B.h.get B.k w'/\FR n G (fv B.f) a') (u+1) ⟨l_ _,s,g,D,l_ _,fun _ _=>rfl,hr,hf⟩ ?_;rintro m a' w' ⟨hm,B,G,z,h3,h4,h5,Y⟩;cases m with
    |zero=>cases z
    |succ m=>
     have z:(match hrun P X m n A B with|some (.normal,d)=>hrun P X m n (.loop A) d|r=>r)=some (x,d):=z;split at z
     ·rename_i s2 h7;obtain⟨y,q⟩:=R m O_ _ _ _ _ _ h7;refine wp_mono (q G w0 a' w' h5 Y) fun e a2 w2 hq=>?_;obtain⟨o,H,I,J,K⟩:=hq;cases e with
      |normal=>exact⟨m,m_ m,by omega,s2,H,z,V_ h3 y.1,h4.trans I h3,J,K⟩
      |exit i=>exact o.elim
      |ret=>exact o.elim
      |goto l=>exact o.elim
      |panic c=>exact o.elim
      |outgrown=>exact o.elim
     ·rename_i E;obtain⟨y,q⟩:=R m O_ _ _ _ _ _ z;refine wp_mono (q G w0 a' w' h5 Y) fun e a2 w2 hq=>?_;obtain⟨o,H,I,J,K⟩:=hq;cases e with
      |normal=>cases x with
       |normal=>exact absurd z (E d)
       |exit i=>exact o.elim
       |ret=>exact o.elim
      |exit i=>exact⟨o,H,h4.trans I h3,J,K⟩
      |ret=>exact⟨o,H,h4.trans I h3,J,K⟩
      |goto l=>cases x<;>exact o.elim
      |panic c=>cases x<;>exact o.elim
      |outgrown=>cases x<;>exact o.elim
   ·rename_i A;obtain⟨y,q⟩:=p _ _ _ _ _ h;refine⟨y,fun g w0 a w hr hf=>wp_scope_straight (wp_mono (q g w0 a w hr hf) fun e a' w' hq=>?_)⟩;cases e with
    |goto l=>cases x<;>exact hq.1.elim
    |normal=>exact hq
    |exit i=>exact hq
    |ret=>exact hq
    |panic c=>exact hq
    |outgrown=>exact hq
   ·cases h;exact⟨KK.refl _ _,fun g w0 a w hr hf=>wp_exit ⟨rfl,g,fun _ _=>rfl,hr,hf⟩⟩
   ·cases h;exact⟨KK.refl _ _,fun g w0 a w hr hf=>wp_ret ⟨trivial,g,fun _ _=>rfl,hr,hf⟩⟩
   ·cases h
end
end Go.Proofs.YtnchbpoopnjghaaGreatDoor
