/- A list of moves: its element i under new names; a list that says nothing of an element. -/
import Derived.ProofKit
import Derived.OpenShut
import Derived.Test.YtnodfocobmghiaaGreatDoorCards
import Derived.Test.YtnodfocobmghiaaGreatDoorTie
import Derived.Below
import Derived.Carry
import Derived.LaidLaws
import Derived.Lay
import Derived.MakeChecks
import Derived.Deep.DeepHandedRow
import Derived.Deep.DeepWitnessRowRef
import Derived.Lib.LaidTab
import Derived.Stop.ErrReads
import Derived.Test.YtnodfocobmghiaaGreatDoorQM
open Go
set_option maxRecDepth 100000
namespace Go.Proofs.YtnodfocobmghiaaGreatDoor.Sx
def Oi (kind num:Int) (la lb a b:Nat):List SV:=[.int false .i64 kind,.int false .u64 num,.iH a la,.iH b lb]
noncomputable def brC (F0 N t i:Nat) (kind num:Int) (ad bs:List Int) (s:St):Option St:=match s.g.get t with
 | some (.pT l n0 cap 4 _ _)=>s.step F0 N (some t) { val:=.pT l n0 cap 4 i s.nx,new:=[.eQ (Oi kind num ad.length bs.length (s.nx+1) (s.nx+2)),.gC .u8 ad,.gC .u8 bs] } s.nx (s.nx+8)
 | _=>none
noncomputable def brS (F0 N t i:Nat) (kind num:Int) (ad bs:List Int) (s:St):St:=match brC F0 N t i kind num ad bs s with
 | some s'=>s'
 | none=>s
noncomputable def s0C (F0 N t:Nat) (s:St):Option St:=match s.g.get t with
 | some (.pT l n0 cap sz _ _)=>s.step F0 N (some t) { val:=.pT l n0 cap sz 0 l } s.nx (s.nx+8)
 | _=>none
noncomputable def s0S (F0 N t:Nat) (s:St):St:=match s0C F0 N t s with
 | some s'=>s'
 | none=>s
noncomputable def BS (F0 N t:Nat) (r:Option nM):Option nM:=match r with
 | some r=>match s0C F0 N t r.st with
   | some s=>some ⟨r.cf,r.fr,s⟩
   | none=>none
 | none=>none
section
variable {w0 w:World} {M:Nat->Prop} {V:bA} {T:aX} {lab:Nat}
def bA.CR (V:bA) (lab:Nat) (p:Nat × Nat) (u1 u2:Value):bA:=
 ⟨fun k=>if k=lab then some p else V.β k,fun k=>if k=lab+1 then some u1 else if k=lab+2 then some u2 else V.σ k⟩
theorem bA.JW (hf:V.fresh lab) (p:Nat × Nat) (u1 u2:Value):V.ext lab (V.CR lab p u1 u2):=by
 refine ⟨⟨fun k q hk=>?_,fun k q hk=>?_⟩,fun k hk=>⟨?_,?_⟩⟩
 .show (if k=lab then some p else V.β k)=some q
  by_cases e:k=lab
  .subst e;rw [(hf k (cT _) (by omega)).1] at hk;cases hk
  .rw [if_neg e];exact hk
 .show (if k=lab+1 then some u1 else if k=lab+2 then some u2 else V.σ k)=some q
  by_cases e:k=lab+1
  .subst e;rw [(hf (lab+1) (by omega) (by omega)).2] at hk;cases hk
  .rw [if_neg e]
   by_cases e2:k=lab+2
   .subst e2;rw [(hf (lab+2) (by omega) (by omega)).2] at hk;cases hk
   .rw [if_neg e2];exact hk
 .show (if k=lab then some p else V.β k)=V.β k
  rw [if_neg (by omega)]
 .show (if k=lab+1 then some u1 else if k=lab+2 then some u2 else V.σ k)=V.σ k
  rw [if_neg (by omega),if_neg (by omega)]
theorem aD.Lr (hT:aD w0 M V T w) (hf:V.fresh lab) {all:List SV} (h60:T 60=some (.eQ all)) {a b:Nat} {ad bs:List Int} {kind num:Int} {i n0 cap j le:Nat}
 (ha:T a=some (.gC .u8 ad)) (hb:T b=some (.gC .u8 bs)) (hc:(all.drop (4*i)).take 4=Oi kind num ad.length bs.length a b) {x:Value} (hx:den V (.pT 60 n0 cap 4 j le)=some x) :
 ∃ V',V.ext lab V'/\den V' (.pT 60 n0 cap 4 i lab)=some x/\aD w0 M V' (eT T lab { val:=.pT 60 n0 cap 4 i lab,new:=[.eQ (Oi kind num ad.length bs.length (lab+1) (lab+2)),.gC .u8 ad,.gC .u8 bs] }) w:=by
 obtain ⟨cs,kD,bb,oo,hβ,Fj,fP⟩:=hT.ok 60 _ h60
 obtain ⟨ca,kF,ua,hσa,hra⟩:=hT.ok a _ ha
 obtain ⟨cb,hcb,ub,hσb,hrb⟩:=hT.ok b _ hb
 have bU:=bA.JW hf (bb,oo+4*i) ua ub
 have e1:(V.CR lab (bb,oo+4*i) ua ub).β lab=some (bb,oo+4*i):=if_pos rfl
 have e2:(V.CR lab (bb,oo+4*i) ua ub).σ (lab+1)=some ua:=if_pos rfl
 have e3:(V.CR lab (bb,oo+4*i) ua ub).σ (lab+2)=some ub:=by
  show (if lab+2=lab+1 then some ua else if lab+2=lab+2 then some ub else V.σ (lab+2))=some ub
  rw [if_neg (by omega),if_pos rfl]
 generalize V.CR lab (bb,oo+4*i) ua ub=V' at *
 have Pm:aJ V' (Oi kind num ad.length bs.length (lab+1) (lab+2))=aJ V (Oi kind num ad.length bs.length a b):=by
  simp only [Oi,aJ,den,e2,e3,hσa,hσb]
 have fR:aJ V ((all.drop (4*i)).take 4)=some ((cs.drop (4*i)).take 4):=dW 4 (gU (4*i) kD)
 rw [hc,<- Pm] at fR
 refine ⟨V',bU,?_,?_⟩
 .simp only [den,hβ,lI] at hx
  simp only [den,bU.1.1 _ _ hβ,e1,lI]
  simp only [gM] at hx
  obtain ⟨q,_,hq⟩:=hx
  split at hq
  .rw [<- hq]
   have:decide ((bb,oo+4*i)=(bb,oo+i*4))=true:=decide_eq_true (by rw [Nat.mul_comm])
   rw [this]
  .cases hq
 refine hT.step (N:=fun m=>if m=lab then some (.eQ (Oi kind num ad.length bs.length (lab+1) (lab+2))) else if m=lab+1 then some (.gC .u8 ad) else if m=lab+2 then some (.gC .u8 bs) else none) bU.1 (fun m C hm=>?_) (fun m C hm=>?_) (fun m C q hm hq=>?_) (fun m C m' C' q dI hm kM tP _=>?_) (cT _) (fun _ _ _=>rfl) rfl rfl rfl
 .simp only [eT,bK.eW,gE,mZ] at hm
  by_cases k1:lab=m
  .subst k1;rw [aI] at hm;left;simpa using hm
  .rw [aE k1] at hm
   by_cases k2:lab+1=m
   .subst k2;rw [aI] at hm;left;simpa using hm
   .rw [aE k2] at hm
    by_cases k3:lab+1+1=m
    .subst k3;rw [aI] at hm;left;rw [if_neg (by omega),if_neg (by omega),if_pos rfl];exact hm
    .rw [aE k3] at hm
     right
     simp only [look] at hm
     exact ⟨by rw [if_neg (fun q=>k1 q.symm),if_neg (fun q=>k2 q.symm),if_neg (fun q=>k3 q.symm)],hm⟩
 .split at hm
  .rename_i e
   subst e
   cases hm
   refine ⟨_,fR,bb,oo+4*i,e1,⟨Fj.lt,fun s hs=>?_⟩,fun jj v hv=>?_⟩
   .have h0:=fR
    simp only [Oi,aJ,den,lI,dH] at h0
    obtain ⟨ys,_,h0⟩:=h0
    rw [<- h0] at hs
    simp at hs
   rw [Nat.add_assoc]
   refine fP (4*i+jj) v ?_
   rw [List.getElem?_take] at hv
   split at hv
   .rw [List.getElem?_drop] at hv;exact hv
   .cases hv
  .split at hm
   .rename_i e
    subst e
    cases hm
    exact ⟨ca,kF,ua,e2,hra⟩
   .split at hm
    .rename_i e
     subst e
     cases hm
     exact ⟨cb,hcb,ub,e3,hrb⟩
    .cases hm
 .have ro:∀ (l1:Nat) (B1:SB),T l1=some B1->B1.owned=false->B1.aT V l1=some q->∀ l2 B2,T l2=some B2->B2.owned=true->B2.aT V l2≠some q:=by
   intro l1 B1 h1 h2 h3 l2 B2 h4 h5 h6
   have dI:l2≠l1:=fun e=>by subst e;rw [h1] at h4;cases h4;rw [h2] at h5;cases h5
   exact hT.iY l2 B2 l1 B1 q dI h4 h1 h5 h6 h3
  split at hm
  .rename_i e
   subst e
   cases hm
   refine .inr (.inr ⟨rfl,fun l2 B2 _ rU tP=>?_⟩)
   simp only [SB.aT,e1,gL,aW] at hq
   exact ro 60 _ h60 rfl (by simp [SB.aT,hβ,hq]) l2 B2 rU tP
  .split at hm
   .rename_i e
    subst e
    cases hm
    refine .inr (.inr ⟨rfl,fun l2 B2 _ rU tP=>?_⟩)
    simp only [SB.aT,e2,lI] at hq
    exact ro a _ ha rfl (by simp [SB.aT,hσa,hq]) l2 B2 rU tP
   .split at hm
    .rename_i e
     subst e
     cases hm
     refine .inr (.inr ⟨rfl,fun l2 B2 _ rU tP=>?_⟩)
     simp only [SB.aT,e3,lI] at hq
     exact ro b _ hb rfl (by simp [SB.aT,hσb,hq]) l2 B2 rU tP
    .cases hm
 .split at hm
  .cases hm;cases tP
  .split at hm
   .cases hm;cases tP
   .split at hm
    .cases hm;cases tP
    .cases hm
end
section
variable {P:Program} {Γ:Env} {w0:World} {M:Nat->Prop} {B:aX} {N F0:Nat} {V0:bA}
theorem G.Lr {t i:Nat} {all:List SV} {a b:Nat} {ad bs:List Int} {kind num:Int} {n0 cap j le:Nat} {cf:Cf} {K:List Fr} {s:St} {Q:Exit->Act->World->Prop} (h0:s.g.get t=some (.pT 60 n0 cap 4 j le))
 (h60:s.T B 60=some (.eQ all)) (ha:s.T B a=some (.gC .u8 ad)) (hb:s.T B b=some (.gC .u8 bs)) (hc:(all.drop (4*i)).take 4=Oi kind num ad.length bs.length a b)
 (hG:G P Γ w0 M B N F0 V0 cf K (brS F0 N t i kind num ad bs s) Q):G P Γ w0 M B N F0 V0 cf K s Q:=by
 intro V ac w hi
 unfold brS at hG
 split at hG
 .rename_i s' h
  unfold brC at h
  rw [h0] at h
  simp only at h
  obtain ⟨V',hV,hx,hT⟩:=aD.Lr hi.eW hi.top.fresh h60 ha hb hc (hi.tmp t _ h0)
  have:=hi.step (x:=ac.eval (.tmp t)) h (cT _) (cT _) hV (fun _=>hx) hT
  rw [Act.kJ] at this
  exact hG V' ac w this
 .exact hG V ac w hi
theorem G.aUa {t l n0 cap sz j le:Nat} {cf:Cf} {K:List Fr} {s:St} {Q:Exit->Act->World->Prop} (h0:s.g.get t=some (.pT l n0 cap sz j le))
 (hG:G P Γ w0 M B N F0 V0 cf K (s0S F0 N t s) Q):G P Γ w0 M B N F0 V0 cf K s Q:=by
 intro V ac w hi
 unfold s0S at hG
 split at hG
 .rename_i s' h
  unfold s0C at h
  rw [h0] at h
  simp only at h
  have hx:=hi.tmp t _ h0
  have mW:den V (.pT l n0 cap sz 0 l)=some (ac.eval (.tmp t)):=by
   simp only [den,gM] at hx |-
   obtain ⟨p,hp,q,_,hq⟩:=hx
   refine ⟨p,hp,p,hp,?_⟩
   split at hq
   .rw [<- hq]
    have:decide (p=(p.1,p.2+0*sz))=true:=decide_eq_true (by simp)
    rw [this]
   .cases hq
  have:=hi.step (x:=ac.eval (.tmp t)) h (cT _) (cT _) (V.cO s.nx) (fun _=>mW) (by rw [jN (s.T B) s.nx rfl rfl];exact hi.eW)
  rw [Act.kJ] at this
  exact hG V ac w this
 .exact hG V ac w hi
theorem aHt {t:Nat} {s s':St} (h:Sx.s0C F0 N t s=some s'):s'.ob=s.ob:=by
 unfold Sx.s0C at h
 split at h
 .exact (St.dP (fun _=>none) h).2.2.1
 .cases h
theorem G.Pd (aU:cD P Γ) (aV:cF P Γ) (gZ:P.follows .mixedOrders=true) (hb:nP Γ B F0 V0) {t:Nat} {stops:List Nat} {lf n:Nat} {cf Of:Cf} {K K':List Fr} {s:St} (hs:List Bool) {cl:List Cl} {gs:List (Nat × SV)} {tb:List (Nat × SB)} {nx:Nat} {ws:List Nat} {df:List SV} {ps:List Prop} {Q:Exit->Act->World->Prop}
 (h:Sx.eJ F0 N B cl gs tb nx ws df (Sx.BS F0 N t (fX Γ B F0 N stops lf n cf K (s.hint hs)))=some (Of,K',ps)) (hp:∀ q∈ps,q) (hG:G P Γ w0 M B N F0 V0 Of K' (bQ gs tb nx ws df) Q):G P Γ w0 M B N F0 V0 cf K s Q:=by
 cases hr:fX Γ B F0 N stops lf n cf K (s.hint hs) with
 | none=>rw [hr] at h;simp [BS,Sx.eJ] at h
 | some r=>
   rw [hr] at h
   cases hf:Sx.s0C F0 N t r.st with
   | none=>simp [BS,hf,Sx.eJ] at h
   | some s1=>
     simp only [BS,hf] at h
     have h0:Sx.eJ F0 N B cl gs tb nx ws df (fX Γ B F0 N stops lf 0 r.cf r.fr (s1.hint s1.hs))=some (Of,K',ps):=h
     have rT:∀ q∈r.st.ob,q:=by
      intro q hq
      have e:=aHt hf
      refine hp q ?_
      unfold Sx.eJ at h
      simp only at h
      split at h
      case h_2=>cases h
      rename_i s2 h2
      have e2:=rR h2
      unfold Sx.xV at h
      simp only at h
      unfold Sx.toN at h
      simp only [nE] at h
      unfold BP at h
      simp only at h
      split at h
      case h_2=>cases h
      split at h
      case h_2=>cases h
      cases h
      exact List.mem_append_left _ (by rw [e2,e];exact hq)
     have dY:G P Γ w0 M B N F0 V0 cf K (s.hint hs) Q:=by
      refine G.run aU aV gZ hr rT ?_
      have hg:∃ l n0 cap sz j le,r.st.g.get t=some (.pT l n0 cap sz j le):=by
       unfold Sx.s0C at hf
       split at hf
       .rename_i l n0 cap sz j le hg;exact ⟨l,n0,cap,sz,j,le,hg⟩
       .cases hf
      obtain ⟨l,n0,cap,sz,j,le,hg⟩:=hg
      refine G.aUa hg ?_
      unfold s0S
      rw [hf]
      exact G.eJ aU aV gZ hb s1.hs h0 hp hG
     intro V a w hi
     exact dY V a w (hi.hints s.ob hs)
end
section
variable {w0 w:World} {M:Nat->Prop} {V:bA} {T:aX} {lab:Nat}
theorem Vy:∀ {us:List Value} {k:IntKind},(∀ x∈us,∃ n,x=Value.int k n)->∃ ms:List Int,us=ms.map (Value.int k)
 | [],_,_=>⟨[],rfl⟩
 | u::us,k,h=>by
   obtain ⟨n,rfl⟩:=h u dC
   obtain ⟨ms,rfl⟩:=Vy fun x hx=>h x (eM _ hx)
   exact ⟨n::ms,rfl⟩
theorem aD.grown (h:aD w0 M V T w) (hf:V.fresh lab) (kO:∀ k,lab<=k->T k=none) {l:Nat} {k:IntKind} {xs:List Int} {el:TypeId} (hl:T l=some (.dF k xs el)) (Ay:0<xs.length) {x:Value} (hx:den V (.buf l)=some x) :
 ∃ cap zs,xs.length+zs.length=cap/\cap<=maxLen/\∃ V',V.ext lab V'/\den V' (.aH lab false 0 xs.length cap)=some x/\aD w0 M V' (eT T lab { val:=.aH lab false 0 xs.length cap,new:=[.ints k (xs++zs) el],wr:=[(l,.gone)] }) w:=by
 obtain ⟨us,Dy,u,hσ,bT,hI⟩:=h.ok l _ hl
 cases Dy
 have hx':u=x:=by simpa [den,hσ] using hx
 subst hx'
 rcases bT.2 with ⟨_,h0⟩ | ⟨b,cap,cur,rfl,_,hh,hle,qE,kD,dG⟩
 .omega
 have cM:l<lab:=Nat.lt_of_not_le fun q=>by rw [kO l q] at hl;cases hl
 obtain ⟨TU,ty2,p2,tV,fR⟩:=hI b rfl
 rw [hh] at tV
 cases tV
 obtain ⟨ms,Ot⟩:=Vy fR
 have hml:ms.length=cap:=by
  have:=congrArg List.length Ot
  rw [List.length_map,Array.length_toList] at this
  omega
 have nL:ms.take xs.length=xs:=by
  rw [Ot,Nat.mul_one,<- List.map_take] at dG
  exact (List.map_inj_right (fun a b e=>by injection e)).1 dG
 have aJl:xs++ms.drop xs.length=ms:=by
  have:=List.take_append_drop xs.length ms
  rwa [nL] at this
 have bU:=bA.kB hf lab (cT _) (by omega) (b,0)
 have e1:(V.put lab (b,0)).β lab=some (b,0):=by simp [bA.put]
 refine ⟨cap,ms.drop xs.length,by rw [List.length_drop,hml];omega,qE,V.put lab (b,0),bU,by simp [den,e1],?_⟩
 rw [aJl]
 have Tk:SB.aT V l (.dF k xs el)=some b:=by simp [SB.aT,hσ,Value.ownBlock]
 refine h.step (N:=fun q=>if q=lab then some (.ints k ms el) else if q=l then some .gone else none) bU.1 (fun q C hk=>?_) (fun q C hk=>?_) (fun q C p hk hp=>?_) (fun q C q' C' p yY hk gX ho hp=>?_) (cT _) (fun _ _ _=>rfl) rfl rfl rfl
 .simp only [eT,bK.eW,gE,List.cons_append,mZ] at hk
  by_cases k1:l=q
  .subst k1
   rw [aI] at hk
   left
   simp only [if_neg (show ¬ l=lab by omega),if_true]
   simpa using hk
  .rw [aE k1] at hk
   by_cases k3:lab=q
   .subst k3;rw [aI] at hk;left;simpa using hk
   .rw [aE k3] at hk
    right
    simp only [look] at hk
    exact ⟨by rw [if_neg (fun z=>k3 z.symm),if_neg (fun z=>k1 z.symm)],hk⟩
 .by_cases k1:q=lab
  .rw [if_pos k1] at hk
   cases hk
   subst k1
   exact ⟨_,rfl,b,e1,by rw [hh,<- Ot]⟩
  .rw [if_neg k1] at hk
   by_cases k2:q=l
   .rw [if_pos k2] at hk;cases hk;exact ⟨[],rfl,trivial⟩
   .rw [if_neg k2] at hk;cases hk
 .by_cases k1:q=lab
  .rw [if_pos k1] at hk
   cases hk
   subst k1
   simp only [SB.aT,e1,gL,aW] at hp
   subst hp
   right;left
   exact ⟨l,_,hl,rfl,Tk,by simp [if_neg (show ¬ l=q by omega)]⟩
  .rw [if_neg k1] at hk
   by_cases k2:q=l
   .rw [if_pos k2] at hk;cases hk;cases hp
   .rw [if_neg k2] at hk;cases hk
 .intro Oq
  by_cases k1:q=lab
  .by_cases k2:q'=lab
   .omega
   .rw [if_neg k2] at gX
    by_cases k3:q'=l
    .rw [if_pos k3] at gX;cases gX;cases Oq
    .rw [if_neg k3] at gX;cases gX
  .rw [if_neg k1] at hk
   by_cases k3:q=l
   .rw [if_pos k3] at hk;cases hk;cases ho
   .rw [if_neg k3] at hk;cases hk
end
noncomputable def IL (F0 N:Nat) (B:aX) (t cap:Nat) (zs:List Int) (s:St):Option St:=match s.g.get t with
 | some (.buf l)=>match s.T B l with
   | some (.dF k xs el)=>s.step F0 N (some t) { val:=.aH s.nx false 0 xs.length cap,new:=[.ints k (xs++zs) el],wr:=[(l,.gone)] } s.nx (s.nx+8)
   | _=>none
 | _=>none
noncomputable def Qk (F0 N:Nat) (B:aX) (t cap:Nat) (zs:List Int) (s:St):St:=match IL F0 N B t cap zs s with
 | some s'=>s'
 | none=>s
section
variable {P:Program} {Γ:Env} {w0:World} {M:Nat->Prop} {B:aX} {N F0:Nat} {V0:bA}
theorem G.grown {t l:Nat} {k:IntKind} {xs:List Int} {el:TypeId} {cf:Cf} {K:List Fr} {s:St} {Q:Exit->Act->World->Prop} (ht:s.g.get t=some (.buf l)) (hB:s.T B l=some (.dF k xs el)) (Ay:0<xs.length)
 (hG:∀ cap zs,xs.length+zs.length=cap->cap<=maxLen->G P Γ w0 M B N F0 V0 cf K (Qk F0 N B t cap zs s) Q):G P Γ w0 M B N F0 V0 cf K s Q:=by
 intro V a w hi
 obtain ⟨cap,zs,h1,h2,V',hV,hx,hT⟩:=aD.grown hi.eW hi.top.fresh hi.hi hB Ay (hi.tmp t _ ht)
 have hG':=hG cap zs h1 h2
 unfold Qk at hG'
 split at hG'
 .rename_i s' hs
  unfold IL at hs
  rw [ht] at hs
  simp only [hB] at hs
  have:=hi.step (x:=a.eval (.tmp t)) hs (cT _) (cT _) hV (fun _=>hx) hT
  rw [Act.kJ] at this
  exact hG' V' a w this
 .exact hG' V a w hi
end
def qO (xs ys:List Int) (r:List Prop):List Prop:=(List.range 32).foldr (fun i r=>(xs.getD i 0=ys.getD i 0)::r) r
def slO (sb:oN) (e:Nat) (N:Int) (K ad A:List Int) (n lx c:Nat) (r:List Prop):List Prop:=
 Yf sb (M.jO K) N ad A n::bS e::((M.jO K).length=32)::bX ad::bX (A.take n)::(ad.length<=500000000)::(n+16<=lx)::(lx<=c)::(lx<=A.length)::(lx<=500000000)::(M.jO K=M.jO K)::(N=N)::(ad.length=ad.length)::(ad.length=ad.length)::(0=0)::(lx=lx)::(c=c)::((n:Int)=(n:Int))::(A=A/\5=5)::(ad=ad) ::
 ((N==18446744073709551615)=false)::(decide (IntKind.i64.wrap ((lx:Int)-(n:Int))<16)=false)::((!decide ((n:Int)<=(lx:Int)))=false)::(decide ((n:Int)>=0)=true)::r
namespace Q
def sp (n L:Int):Int:=if n.tmod L<0 then IntKind.i64.wrap (n.tmod L+L) else n.tmod L
end Q
def M.DJ (vs:List SV) (T:aX) (lab F:Nat) (b:Bool):Prop:=aF Tryz.prog (env eY 22) 18 vs T lab F { val:=.bool true b }
def aEy (b:Bool):Sum:=fun vs T lab F=>some { bO:=[M.DJ vs T lab F b],val:=.bool true b }
theorem aJv (b:Bool) (Γ:Env) (hg:Γ.aO=aB):aG Tryz.prog Γ 18 (aEy b):=by
 refine aG.Mm fun vs T lab F e he ho=>?_
 unfold aEy at he
 cases he
 have h:=ho _ dC
 unfold M.DJ at h
 exact h.words (by rw [hg];rfl) (fun _=>rfl) (fun _ _ h=>h) (fun _=>rfl) rfl rfl
def bkH (last:Bool):List (Nat × List Bool):=[(16,[false,false,last]),(20,[false,false,false]),(32,[true])]
noncomputable def aYt (b:Bool) (sb:oN) (ob:yO) (rx:List Int->List Int) (e:Nat) (last:Bool):Nat->Option Sum:=Uk (dL (dL (aFc sb rx e) 34 (aL aB 100 (EZ ob ok0))) 18 (aEy b)) (bkH last)
noncomputable def Ak (b:Bool) (sb:oN) (ob:yO) (rx:List Int->List Int) (e:Nat) (last:Bool):Env:=env (aYt b sb ob rx e last) 22
theorem uH (b:Bool) (sb:oN) (ob:yO) (rx:List Int->List Int) (e:Nat) (last:Bool):cD Tryz.prog (Ak b sb ob rx e last):=bL _ 22
theorem uI (b:Bool) (sb:oN) (ob:yO) (rx:List Int->List Int) (e:Nat) (last:Bool):cF Tryz.prog (Ak b sb ob rx e last):=bV _ (Dh (bE (bE (Wi sb rx e) 34 _ (aIg ob ok0)) 18 _ (aJv b)) (bkH last)) 22
theorem wY (b:Bool) (sb:oN) (ob:yO) (rx:List Int->List Int) (e e':Nat) (l l':Bool):(Ak b sb ob rx e l).aO=(Ak b sb ob rx e' l').aO:=by kernel_rfl
def erB:List (Nat × SB):=(6,.eQ [.pX 407 (.ptr 46 true 0)])::(erO++aeL)
def pZ (all:List SV) (scr:aX):aX:=fun l=>match look l ((60,.eQ all)::erB) with
 | some B=>some B
 | none=>match Nat.blt l 200 with
   | true=>none
   | false=>scr l
noncomputable def Xl (b:Bool) (sb:oN) (ob:yO) (rx:List Int->List Int) (e:Nat) (last:Bool) (all:List SV) (scr:aX) (k:Nat) (cf:Cf) (K:List Fr) (s:St):Option nM:=fX (Ak b sb ob rx e last) (aZ 400 (pZ all scr)) 400 Tryz.f6.ntmps [8] 400 k cf K s
def DP (x y:Int) (key:List Int) (n0 cap:Nat):List SV:=[.int false .i64 x,.int false .i64 y,.ai .u8 key,.pT 60 n0 cap 4 0 60]
def stZ (L e:Nat):List SV:=.int true .u64 0::(aFd L e++(List.replicate 32 (.int true .u8 0)++[.bool true false]))
def aOg (y:Int) (n0 cap:Nat):List (Nat × SV):=[(1,.int false .i64 y),(3,.pT 60 n0 cap 4 0 60),(6,.ptr 400 true 0),(9,.ptr 401 true 0)]
def TZ (e:Nat) (key:List Int):List (Nat × SB):=[(400,.ints .u8 key 23),(401,.own (stZ 402 e) 67)]++TQ 402 e
def sA (n0 cap j le:Nat) (i:Int):List (Nat × SV):=[(3,.pT 60 n0 cap 4 j le),(9,.ptr 400 true 0),(10,.ptr 401 true 0),(11,.int false .i64 i)]
def oU (e e2:Nat) (N N2:Int) (K K2:List Int):List (Nat × SB):=[(400,.own (stC 402 e (.int false .u64 N) K) 67),(401,.own (stC (402+Hq e) e2 (.int false .u64 N2) K2) 67)]++(TQ 402 e++TQ (402+Hq e) e2)
def zL (e e2:Nat):Nat:=402+Hq e+Hq e2
noncomputable def bkR:Option nM:=Xl true (fun _ _ _ _ _=>[]) (fun _ _ _ _ _=>[]) id 2 false [] (fun _=>none) 400 (.go (codeOf Tryz.f6)) [] ((yM (DP 0 0 [] 0 0) 400).hint [])
noncomputable def Ks:Code:=Eu bkR
noncomputable def bkK:List Fr:=Be bkR
noncomputable def bkS (n0 cap k:Nat) (i:Int) (e e2:Nat) (N:Int) (K:List Int) (kind num:Int) (ad p:List Int):St:=brS 400 Tryz.f6.ntmps 3 k kind num ad p (bQ (sA n0 cap 0 60 i) (oU e e2 N N K K) (zL e e2) [] [])
noncomputable def aSv (r:Option nM):Cf:=match r with
 | some r=>r.cf
 | none=>.at .normal
noncomputable def aOe:Option nM:=Xl true (fun _ _ _ _ _=>[]) (fun _ _ _ _ _=>[]) id 0 false [] (fun _=>none) 31 (.go Ks) [] ((bkS 0 0 0 0 2 0 0 [] 0 0 [] []).hint [true,true,false,false])
noncomputable def TY:Cf:=aSv aOe
noncomputable def TX:List Fr:=Be aOe
def aOf (n0 cap l:Nat) (i N:Int):List (Nat × SV):=sA n0 cap 0 60 i++[(14,.int false .u64 N),(15,.buf l)]
noncomputable def aFn (all:List SV) (scr:aX) (n0 cap k:Nat) (i:Int) (e e2:Nat) (N:Int) (K X:List Int) (kind num:Int) (ad p:List Int) (c1:Nat) (z1:List Int):St:=Qk 400 Tryz.f6.ntmps (aZ 400 (pZ all scr)) 15 c1 z1 (brS 400 Tryz.f6.ntmps 3 k kind num ad p (bQ (aOf n0 cap (zL e e2) i N) (oU e e2 N N K K++[(zL e e2,.dF .u8 X 5)]) (zL e e2+1) [] []))
theorem aZx (e:Nat) (he:bS e) (sb:oN) (ob:yO) (rx:List Int->List Int) (all:List SV) (scr:aX) (x y:Int) (key:List Int) (n0 cap:Nat):eJ 400 Tryz.f6.ntmps (aZ 400 (pZ all scr)) [] (aOg y n0 cap) (TZ e key) (402+Hq e) [] [] (Xl true sb ob rx e false all scr 13 (.go (codeOf Tryz.f6)) [] ((yM (DP x y key n0 cap) 400).hint []))=some (.go (jF 3 (codeOf Tryz.f6)),[],
 [Ey e x,x=x,M.DJ [.pT 60 n0 cap 4 0 60] ((bQ [] [(400,.ints .u8 key 23)] 0 [] []).T (aZ 400 (pZ all scr))) 424 432 true,y=y,n0=n0/\cap=cap/\0=0,key=key/\23=23]):=by
 rcases he with rfl | rfl | rfl <;> kernel_rfl
theorem aZw (e e2:Nat) (he:bS e) (mX:bS e2) (sb:oN) (ob:yO) (rx:List Int->List Int) (all:List SV) (scr:aX) (y:Int) (key:List Int) (n0 cap:Nat):eJ 400 Tryz.f6.ntmps (aZ 400 (pZ all scr)) [] (sA n0 cap 0 60 0) (oU e e2 0 0 key key) (zL e e2) [] [] (Xl true sb ob rx e2 false all scr 400 (.go (jF 3 (codeOf Tryz.f6))) [] ((bQ (aOg y n0 cap) (TZ e key) (402+Hq e) [] []).hint []))=some (.go (.loop Ks),bkK,
 (key.length=32)::(key.length=32)::(key.length=32)::(key.length=32)::(key.length=32)::(key.length=32)::Ey e2 y::(y=y)::(n0=n0/\cap=cap/\0=0)::((0:Int)=0)::((0:Int)=0)::qO key key (((0:Int)=0)::qO key key [])):=by
 rcases he with rfl | rfl | rfl <;> rcases mX with rfl | rfl | rfl <;> kernel_rfl
theorem aTa (e e2:Nat) (he:bS e) (mX:bS e2) (sb:oN) (ob:yO) (rx:List Int->List Int) (all:List SV) (scr:aX) (n0 cap k:Nat) (i i' N:Int) (K:List Int) (kind num:Int) (ad p:List Int):eJ 400 Tryz.f6.ntmps (aZ 400 (pZ all scr)) [] (sA n0 cap 0 60 i') (oU e e2 N N (rx (M.jO K)) (rx (M.jO K))) (zL e e2) [] [] (BS 400 Tryz.f6.ntmps 3 (Xl true sb ob rx e2 false all scr 400 (.go Ks) [] ((bkS n0 cap k i e e2 N K kind num ad p).hint [true,true,true])))=some (.at .normal,[],
 DR rx (M.jO K)::bS e2::((M.jO K).length=32)::(N=N)::qO K (M.jO K) (DR rx (M.jO K)::bS e::((M.jO K).length=32)::(N=N)::qO K (M.jO K) (((kind==2)=true)::(0<=i/\i<(n0:Int)/\i.toNat=k)::(decide (i<60)=true)::(decide (i<(n0:Int))=true)::(n0=n0/\cap=cap/\0=0)::(IntKind.i64.wrap (i+1)=i')::(N=N)::qO (rx (M.jO K)) (rx (M.jO K)) ((N=N)::qO (rx (M.jO K)) (rx (M.jO K)) [])))):=by
 rcases he with rfl | rfl | rfl <;> rcases mX with rfl | rfl | rfl <;> kernel_rfl
theorem aSz (e e2:Nat) (he:bS e) (mX:bS e2) (sb:oN) (ob:yO) (rx:List Int->List Int) (all:List SV) (scr:aX) (n0 cap k:Nat) (i i' N:Int) (K:List Int) (kind num:Int) (ad p:List Int):eJ 400 Tryz.f6.ntmps (aZ 400 (pZ all scr)) [] (sA n0 cap 0 60 i') (oU e e2 num num K K) (zL e e2) [] [] (BS 400 Tryz.f6.ntmps 3 (Xl true sb ob rx e2 false all scr 400 (.go Ks) [] ((bkS n0 cap k i e e2 N K kind num ad p).hint [true,true,false,true])))=some (.at .normal,[],
 (0<=i/\i<(n0:Int)/\i.toNat=k)::(0<=i/\i<(n0:Int)/\i.toNat=k)::((kind==3)=true)::((kind==2)=false)::(0<=i/\i<(n0:Int)/\i.toNat=k)::(decide (i<60)=true)::(decide (i<(n0:Int))=true)::(n0=n0/\cap=cap/\0=0)::(IntKind.i64.wrap (i+1)=i')::(num=num)::qO K K ((num=num)::qO K K [])):=by
 rcases he with rfl | rfl | rfl <;> rcases mX with rfl | rfl | rfl <;> kernel_rfl
theorem aZv (e e2:Nat) (he:bS e) (mX:bS e2) (sb:oN) (ob:yO) (rx:List Int->List Int) (all:List SV) (scr:aX) (n0 cap k:Nat) (i N:Int) (K X:List Int) (kind num:Int) (ad p:List Int):eJ 400 Tryz.f6.ntmps (aZ 400 (pZ all scr)) [] (aOf n0 cap (zL e e2) i N) (oU e e2 N N K K++[(zL e e2,.dF .u8 X 5)]) (zL e e2+1) [] [] (BS 400 Tryz.f6.ntmps 3 (Xl true sb ob rx e2 false all scr 31 (.go Ks) [] ((bkS n0 cap k i e e2 N K kind num ad p).hint [true,true,false,false])))=some (TY,TX,
 ((0:Int)<16/\(((List.take 0 []++p).length:Int)+16)*1<=140737488355328)::((0+p.length)*1<=140737488355328)::(0<=i/\i<(n0:Int)/\i.toNat=k)::((kind==3)=false)::((kind==2)=false)::(0<=i/\i<(n0:Int)/\i.toNat=k)::(decide (i<60)=true)::(decide (i<(n0:Int))=true)::(n0=n0/\cap=cap/\0=0)::(i=i)::(N=N)::(N=N)::qO K K ((N=N)::qO K K [List.take 0 []++p++List.replicate 16 0=X])):=by
 rcases he with rfl | rfl | rfl <;> rcases mX with rfl | rfl | rfl <;> kernel_rfl
theorem aSx (e e2:Nat) (he:bS e) (mX:bS e2) (sb:oN) (ob:yO) (rx:List Int->List Int) (all:List SV) (scr:aX) (n0 cap k:Nat) (i i' N:Int) (K X:List Int) (kind num:Int) (ad p:List Int) (c1:Nat) (z1:List Int):eJ 400 Tryz.f6.ntmps (aZ 400 (pZ all scr)) [] (sA n0 cap 0 60 i') (oU e e2 N N K K) (zL e e2) [] [] (BS 400 Tryz.f6.ntmps 3 (Xl true sb ob rx e2 true all scr 400 TY TX ((aFn all scr n0 cap k i e e2 N K X kind num ad p c1 z1).hint [true,false])))=some (.at .normal,[],
 ((N != N)=false)::((N==18446744073709551615)=true)::((N==18446744073709551615)=true)::(decide (IntKind.i64.wrap ((X.length:Int)-(p.length:Int))<16)=false)::((!decide ((p.length:Int)<=(X.length:Int)))=false)::(decide ((p.length:Int)>=0)=true)::(0<=i/\i<(n0:Int)/\i.toNat=k)::(0<=i/\i<(n0:Int)/\i.toNat=k)::(n0=n0/\cap=cap/\0=0)::(IntKind.i64.wrap (i+1)=i')::(N=N)::qO K K ((N=N)::qO K K [])):=by
 rcases he with rfl | rfl | rfl <;> rcases mX with rfl | rfl | rfl <;> kernel_rfl
def bkO (i i' N N2:Int) (n0 cap k:Nat) (K:List Int):List Prop:=
 (0<=i/\i<(n0:Int)/\i.toNat=k)::(0<=i/\i<(n0:Int)/\i.toNat=k)::(n0=n0/\cap=cap/\0=0)::(IntKind.i64.wrap (i+1)=i')::(IntKind.u64.wrap (N+1)=N2)::qO K K ((IntKind.u64.wrap (N+1)=N2)::qO K K [])
def bkP (sb:oN) (e:Nat) (i N:Int) (n0 k:Nat) (K X ad p:List Int) (c1:Nat) (z1:List Int) (r:List Prop):List Prop:=
 (0<=i/\i<(n0:Int)/\i.toNat=k)::((IntKind.u64.wrap (N+1) != IntKind.u64.wrap (N+1))=false)::((((p.length+16:Nat):Int) != IntKind.i64.wrap ((p.length:Int)+16))=false)::(0<=i/\i<(n0:Int)/\i.toNat=k)::((N==18446744073709551615)=false)::slO sb e N K ad (X++z1) p.length X.length c1 r
theorem aSy (e e2:Nat) (he:bS e) (mX:bS e2) (sb:oN) (ob:yO) (rx:List Int->List Int) (all:List SV) (scr:aX) (n0 cap k:Nat) (i i' N N2:Int) (K X:List Int) (kind num:Int) (ad p:List Int) (c1:Nat) (z1:List Int):eJ 400 Tryz.f6.ntmps (aZ 400 (pZ all scr)) [] (sA n0 cap 0 60 i') (oU e e2 N2 N2 K K) (zL e e2) [] [] (BS 400 Tryz.f6.ntmps 3 (Xl true sb ob rx e2 false all scr 400 TY TX ((aFn all scr n0 cap k i e e2 N K X kind num ad p c1 z1).hint [false,false,false,true])))=some (.at .normal,[],
 ((kind==4)=true)::bkP sb e i N n0 k K X ad p c1 z1 (bkO i i' N N2 n0 cap k K)):=by
 rcases he with rfl | rfl | rfl <;> rcases mX with rfl | rfl | rfl <;> kernel_rfl
def bkQ (ob:yO) (e2:Nat) (i N:Int) (n0 k:Nat) (K ad p W V:List Int) (m lx c1:Nat) (r:List Prop):List Prop:=
 ((IntKind.u64.wrap (N+1) != IntKind.u64.wrap (N+1))=false)::((V.drop 0).take m=p)::(((V.drop 0).take m).length<=1073741824)::(0+m<=V.length/\m<=c1)::(0=0)::(m=m)::(c1=c1)::(0+m<=V.length/\m<=c1)::(((V.drop 0).take m).length=((V.drop 0).take m).length)::(p.length=p.length)::(p.length=p.length)::((V.drop 0).take m=(V.drop 0).take m)::(0+m<=V.length/\m<=c1)::(p=p)::(0<=i/\i<(n0:Int)/\i.toNat=k) ::
 (0<=(c1:Int)/\(c1:Int)<=(c1:Int)/\0<=(m:Int)/\(m:Int)<=(c1:Int)/\(0:Int)<=0/\0<=(m:Int))::(((m:Int) != (p.length:Int))=false)::(0<=i/\i<(n0:Int)/\i.toNat=k)::UB ob true (M.jO K) N W m::bS e2::((M.jO K).length=32)::bX ad::bX (W.take (m+16))::(ad.length<=500000000)::(m+16<=lx)::(lx<=c1)::(lx<=W.length)::(lx<=500000000)::Ul true (M.jO K) N ad W m::(M.jO K=M.jO K)::(N=N)::(ad.length=ad.length)::(ad.length=ad.length)::(0=0)::(lx=lx)::(c1=c1)::((lx:Int)=((m+16:Nat):Int))::(W=W/\5=5)::(ad=ad) ::
 ((N==18446744073709551615)=false)::(decide ((lx:Int)<16)=false)::((!decide ((lx:Int)<=(lx:Int)))=false)::(decide ((lx:Int)>=0)=true)::(0<=i/\i<(n0:Int)/\i.toNat=k)::r
theorem aTb (e e2:Nat) (he:bS e) (mX:bS e2) (sb:oN) (ob:yO) (rx:List Int->List Int) (all:List SV) (scr:aX) (n0 cap k:Nat) (i i' N N2:Int) (K X:List Int) (kind num:Int) (ad p:List Int) (c1:Nat) (z1:List Int):eJ 400 Tryz.f6.ntmps (aZ 400 (pZ all scr)) [] (sA n0 cap 0 60 i') (oU e e2 N2 N2 K K) (zL e e2) [] [] (BS 400 Tryz.f6.ntmps 3 (Xl true sb ob rx e2 false all scr 400 TY TX ((aFn all scr n0 cap k i e e2 N K X kind num ad p c1 z1).hint [false,false,false,false,false,false,false])))=some (.at .normal,[],
 bkQ ob e2 i N n0 k K ad p (sb (M.jO K) N ad (X++z1) p.length) (ob true (M.jO K) N (sb (M.jO K) N ad (X++z1) p.length) (X.length-16)) (X.length-16) X.length c1 (((kind==4)=false)::bkP sb e i N n0 k K X ad p c1 z1 (bkO i i' N N2 n0 cap k K))):=by
 rcases he with rfl | rfl | rfl <;> rcases mX with rfl | rfl | rfl <;> kernel_rfl
theorem aZu (e e2:Nat) (he:bS e) (mX:bS e2) (sb:oN) (ob:yO) (rx:List Int->List Int) (all:List SV) (scr:aX) (n0 cap:Nat) (i N:Int) (K:List Int):eJ 400 Tryz.f6.ntmps (aZ 400 (pZ all scr)) [] [] [] 400 [] [] (Xl true sb ob rx e2 false all scr 400 (.go Ks) [] ((bQ (sA n0 cap 0 60 i) (oU e e2 N N K K) (zL e e2) [] []).hint [false]))=some (.at (.exit 0),[],[decide (i<(n0:Int))=false]):=by
 rcases he with rfl | rfl | rfl <;> rcases mX with rfl | rfl | rfl <;> kernel_rfl
theorem aTc (e e2:Nat) (he:bS e) (mX:bS e2) (sb:oN) (ob:yO) (rx:List Int->List Int) (all:List SV) (scr:aX) (n0 cap:Nat) (i N:Int) (K:List Int):eJ 400 Tryz.f6.ntmps (aZ 400 (pZ all scr)) [] [] [] 400 [] [] (Xl true sb ob rx e2 false all scr 400 (.go Ks) [] ((bQ (sA n0 cap 0 60 i) (oU e e2 N N K K) (zL e e2) [] []).hint [true,false]))=some (.at (.exit 0),[],[decide (i<60)=false,decide (i<(n0:Int))=true]):=by
 rcases he with rfl | rfl | rfl <;> rcases mX with rfl | rfl | rfl <;> kernel_rfl
def Eg (all:List SV) (scr:aX):aX:=aZ 400 (pZ all scr)
noncomputable def RG (all:List SV) (scr:aX) (cf:Cf) (K:List Fr) (s:St):Option nM:=fX (env eY 22) (aZ 432 (Eg all scr)) 432 Tryz.f18.ntmps [3] 0 400 cf K s
def RH (n0 cap:Nat) (v i:Int):List (Nat × SV):=[(0,.pT 60 n0 cap 4 0 60),(3,.int false .i64 v),(4,.int false .i64 i)]
noncomputable def fwR:Option nM:=RG [] (fun _=>none) (.go (codeOf Tryz.f18)) [] (yM [.pT 60 0 0 4 0 60] 432)
noncomputable def Po:Code:=Eu fwR
noncomputable def fwK:List Fr:=Be fwR
noncomputable def fwS (n0 cap k:Nat) (v i:Int) (kind num:Int) (ad p:List Int):St:=brS 432 Tryz.f18.ntmps 0 k kind num ad p (bQ (RH n0 cap v i) [] 432 [] [])
theorem aNr (all:List SV) (scr:aX) (n0 cap:Nat) :
 (eJ 432 Tryz.f18.ntmps (aZ 432 (Eg all scr)) [] (RH n0 cap 0 0) [] 432 [] [] (RG all scr (.go (codeOf Tryz.f18)) [] ((yM [.pT 60 n0 cap 4 0 60] 432).hint []))) =
 some (.go (.loop Po),fwK,
  [n0=n0/\cap=cap/\(0:Nat)=(0:Nat),(0:Int)=(0:Int),(0:Int)=(0:Int)]):=by kernel_rfl
theorem aYe (all:List SV) (scr:aX) (n0 cap k:Nat) (v v' i i':Int) (kind num:Int) (ad p:List Int) :
 (eJ 432 Tryz.f18.ntmps (aZ 432 (Eg all scr)) [] (RH n0 cap v' i') [] 432 [] [] (BS 432 Tryz.f18.ntmps 0 (RG all scr (.go Po) [] ((fwS n0 cap k v i kind num ad p).hint [true,true,false,false])))) =
 some (.at .normal,[],
  [(0:Int)<=i/\i<(↑n0:Int)/\i.toNat=k,(0:Int)<=i/\i<(↑n0:Int)/\i.toNat=k,decide ((↑p.length:Int)>(200000:Int))=false,(0:Int)<=i/\i<(↑n0:Int)/\i.toNat=k,
  decide ((↑ad.length:Int)>(200000:Int))=false,(0:Int)<=i/\i<(↑n0:Int)/\i.toNat=k,decide (i<(60:Int))=true,decide (i<(↑n0:Int))=true,
  n0=n0/\cap=cap/\(0:Nat)=(0:Nat),IntKind.i64.wrap (IntKind.i64.wrap (v+(↑ad.length:Int))+(↑p.length:Int))=v',IntKind.i64.wrap (i+(1:Int))=i']):=by kernel_rfl
theorem aYd (all:List SV) (scr:aX) (n0 cap k:Nat) (v i:Int) (kind num:Int) (ad p:List Int) :
 (eJ 432 Tryz.f18.ntmps (aZ 432 (Eg all scr)) [] [(2,.bool true false)] [] 432 [] [] (RG all scr (.go Po) [] ((fwS n0 cap k v i kind num ad p).hint [true,true,true]))) =
 some (.at .ret,[],
  [decide ((↑ad.length:Int)>(200000:Int))=true,(0:Int)<=i/\i<(↑n0:Int)/\i.toNat=k,decide (i<(60:Int))=true,decide (i<(↑n0:Int))=true]):=by kernel_rfl
theorem aYc (all:List SV) (scr:aX) (n0 cap k:Nat) (v i:Int) (kind num:Int) (ad p:List Int) :
 (eJ 432 Tryz.f18.ntmps (aZ 432 (Eg all scr)) [] [(2,.bool true false)] [] 432 [] [] (RG all scr (.go Po) [] ((fwS n0 cap k v i kind num ad p).hint [true,true,false,true]))) =
 some (.at .ret,[],
  [decide ((↑p.length:Int)>(200000:Int))=true,(0:Int)<=i/\i<(↑n0:Int)/\i.toNat=k,decide ((↑ad.length:Int)>(200000:Int))=false,
  (0:Int)<=i/\i<(↑n0:Int)/\i.toNat=k,decide (i<(60:Int))=true,decide (i<(↑n0:Int))=true]):=by kernel_rfl
theorem aYb (all:List SV) (scr:aX) (n0 cap:Nat) (v i:Int) :
 (eJ 432 Tryz.f18.ntmps (aZ 432 (Eg all scr)) [] [(3,.int false .i64 v)] [] 432 [] [] (RG all scr (.go Po) [] ((bQ (RH n0 cap v i) [] 432 [] []).hint [false]))) =
 some (.at (.exit 0),[],
  [decide (i<(↑n0:Int))=false,v=v]):=by kernel_rfl
theorem aYa (all:List SV) (scr:aX) (n0 cap:Nat) (v i:Int) :
 (eJ 432 Tryz.f18.ntmps (aZ 432 (Eg all scr)) [] [(3,.int false .i64 v)] [] 432 [] [] (RG all scr (.go Po) [] ((bQ (RH n0 cap v i) [] 432 [] []).hint [true,false]))) =
 some (.at (.exit 0),[],
  [decide (i<(60:Int))=false,decide (i<(↑n0:Int))=true,v=v]):=by kernel_rfl
theorem aXz (all:List SV) (scr:aX) (v:Int) :
 qF (env eY 22) (Eg all scr) 424 432 Tryz.f18 [] (RG all scr (.at (.exit 0)) fwK ((bQ [(3,.int false .i64 v)] [] 432 [] []).hint [])) =
 some { val:=SV.bool false (decide (v<=(200000:Int))) }:=by kernel_rfl
theorem aXy (all:List SV) (scr:aX) :
 qF (env eY 22) (Eg all scr) 424 432 Tryz.f18 [] (RG all scr (.at .ret) fwK ((bQ [(2,.bool true false)] [] 432 [] []).hint [])) =
 some { val:=SV.bool true false }:=by kernel_rfl
structure Mv where
 kind:Int
 num:Int
 ad:List Int
 p:List Int
def Mv.ok (s:Mv):Prop:=bX s.ad/\bX s.p/\0<=s.num/\s.num<=18446744073709551615
def Mv.few (s:Mv):Prop:=s.ad.length<=200000/\s.p.length<=200000
structure Yh (all:List SV) (scr:aX) (ss:List Mv):Prop where
 el:∀ i s,i<60->ss[i]?=some s->(all.drop (4*i)).take 4=Oi s.kind s.num s.ad.length s.p.length (200+3*i) (201+3*i)
 a:∀ i s,i<60->ss[i]?=some s->scr (200+3*i)=some (.gC .u8 s.ad)
 b:∀ i s,i<60->ss[i]?=some s->scr (201+3*i)=some (.gC .u8 s.p)
theorem xH (all:List SV) (scr:aX) {l:Nat} (h:200<=l):pZ all scr l=scr l:=by
 have hk:((60,SB.eQ all)::erB).all (fun p=>Nat.blt p.1 200)=true:=by rfl
 have hn:look l ((60,SB.eQ all)::erB)=none:=by
  cases hl:look l ((60,SB.eQ all)::erB) with
  | none=>rfl
  | some B=>
    have:=List.all_eq_true.1 hk _ (gA hl)
    simp only [Nat.blt_eq] at this
    omega
 unfold pZ
 rw [hn]
 have:Nat.blt l 200=false:=by
  cases hb:Nat.blt l 200 with
  | false=>rfl
  | true=>rw [Nat.blt_eq] at hb;omega
 rw [this]
theorem uW {F:Nat} {T:aX} {l:Nat} (h:l<F):aZ F T l=T l:=by
 unfold aZ
 have:Nat.blt l F=true:=by rw [Nat.blt_eq];exact h
 simp [this]
theorem stT {gs:List (Nat × SV)} {tb:List (Nat × SB)} {nx:Nat} {ws:List Nat} {df:List SV} {B:aX} {l:Nat} (h:look l tb=none):(bQ gs tb nx ws df).T B l=B l:=by
 unfold St.T bQ
 simp only
 cases hg:(yS tb).get l with
 | none=>rfl
 | some b=>have:=oD l b hg;rw [h] at this;cases this
def szO:Option Mv->Nat
 | some s=>s.ad.length+s.p.length
 | none=>0
def iC (ss:List Mv):Nat->Nat
 | 0=>0
 | k+1=>iC ss k+szO ss[k]?
theorem Ro {ss:List Mv} {k:Nat} {s:Mv} (h:ss[k]?=some s):iC ss (k+1)=iC ss k+s.ad.length+s.p.length:=by
 show iC ss k+szO ss[k]?=_
 rw [h]
 show iC ss k+(s.ad.length+s.p.length)=_
 omega
theorem Lz {ss:List Mv}:∀ {k:Nat},(∀ i s,i<k->ss[i]?=some s->s.few)->k<=60->iC ss k<=400000*k
 | 0,_,_=>by simp [iC]
 | k+1,h,hk=>by
   have h1:=Lz (k:=k) (fun i s hi hs=>h i s (by omega) hs) (by omega)
   show iC ss k+szO ss[k]?<=_
   cases hs:ss[k]? with
   | none=>show iC ss k+0<=_;omega
   | some s=>
     have:=h k s (by omega) hs
     unfold Mv.few at this
     show iC ss k+(s.ad.length+s.p.length)<=_
     omega
theorem w64 {a:Int} {n:Nat} (h:a=n) (hn:n<=1000000000000):IntKind.i64.wrap a=(n:Int):=by rw [h,IntWalk.i64_in _ ⟨by omega,by omega⟩]
theorem Wa {all:List SV} {scr:aX} {ss:List Mv} {cap:Nat} {w0:World} {Mx:Nat->Prop} {V0:bA} {Q:Exit->Act->World->Prop} (hb:nP (env eY 22) (aZ 432 (Eg all scr)) 432 V0) (hS:Yh all scr ss) (hl:ss.length<=1073741824)
 (H1:(∀ i s,i<60->ss[i]?=some s->s.few)->G Tryz.prog (env eY 22) w0 Mx (aZ 432 (Eg all scr)) Tryz.f18.ntmps 432 V0 (.at (.exit 0)) fwK (bQ [(3,.int false .i64 ((iC ss (min 60 ss.length):Nat):Int))] [] 432 [] []) Q)
 (H2:(¬ ∀ i s,i<60->ss[i]?=some s->s.few)->G Tryz.prog (env eY 22) w0 Mx (aZ 432 (Eg all scr)) Tryz.f18.ntmps 432 V0 (.at .ret) fwK (bQ [(2,.bool true false)] [] 432 [] []) Q) :
 G Tryz.prog (env eY 22) w0 Mx (aZ 432 (Eg all scr)) Tryz.f18.ntmps 432 V0 (.go (.loop Po)) fwK (bQ (RH ss.length cap 0 0) [] 432 [] []) Q:=by
 have aU:=bL eY 22
 have aV:=bV eY fT 22
 refine G.loop (fun r s=>∃ k:Nat,k<=60/\k<=ss.length/\r=ss.length-k/\(∀ i s,i<k->ss[i]?=some s->s.few)/\s=bQ (RH ss.length cap ((iC ss k:Nat):Int) (k:Int)) [] 432 [] []) (r0:=ss.length)
  ⟨0,by omega,by omega,rfl,fun i s hi=>by omega,rfl⟩ ?_
 rintro r s ⟨k,hk,fJ,rfl,Hl,rfl⟩
 by_cases cM:k<ss.length
 .by_cases h6:k<60
  .obtain ⟨s,hs⟩:∃ s,ss[k]?=some s:=⟨_,List.getElem?_eq_getElem cM⟩
   have bAo:=Ro hs
   have Jy:=Lz Hl (by omega:k<=60)
   have hA:(bQ (RH ss.length cap ((iC ss k:Nat):Int) (k:Int)) [] 432 [] []).T (aZ 432 (Eg all scr)) (200+3*k)=some (.gC .u8 s.ad):=by
    rw [stT rfl,uW (by omega)];unfold Eg;rw [uW (by omega),xH _ _ (by omega)];exact hS.a k s h6 hs
   have hB:(bQ (RH ss.length cap ((iC ss k:Nat):Int) (k:Int)) [] 432 [] []).T (aZ 432 (Eg all scr)) (201+3*k)=some (.gC .u8 s.p):=by
    rw [stT rfl,uW (by omega)];unfold Eg;rw [uW (by omega),xH _ _ (by omega)];exact hS.b k s h6 hs
   refine G.Lr (t:=0) (i:=k) (n0:=ss.length) (cap:=cap) (j:=0) (le:=60) rfl rfl hA hB (hS.el k s h6 hs) ?_
   have Ju:(0:Int)<=(k:Int)/\(k:Int)<(ss.length:Int)/\((k:Nat):Int).toNat=k:=⟨by omega,by omega,by omega⟩
   have e1:decide ((k:Int)<60)=true:=decide_eq_true (by omega)
   have e2:decide ((k:Int)<(ss.length:Int))=true:=decide_eq_true (by omega)
   by_cases f1:200000<s.ad.length
   .refine G.eJ aU aV mix hb [true,true,true] (aYd all scr ss.length cap k _ (k:Int) s.kind s.num s.ad s.p) (aA ⟨decide_eq_true (by omega),Ju,e1,e2,trivial⟩) (G.leave (by simp) (H2 fun fR=>?_))
    have:=(fR k s h6 hs).1;omega
   have d1:decide ((s.ad.length:Int)>200000)=false:=kN (by omega)
   by_cases f2:200000<s.p.length
   .refine G.eJ aU aV mix hb [true,true,false,true] (aYc all scr ss.length cap k _ (k:Int) s.kind s.num s.ad s.p) (aA ⟨decide_eq_true (by omega),Ju,d1,Ju,e1,e2,trivial⟩) (G.leave (by simp) (H2 fun fR=>?_))
    have:=(fR k s h6 hs).2;omega
   have d2:decide ((s.p.length:Int)>200000)=false:=kN (by omega)
   have w1:IntKind.i64.wrap (((iC ss k:Nat):Int)+(s.ad.length:Int))=((iC ss k+s.ad.length:Nat):Int):=w64 (by omega) (by omega)
   have w2:IntKind.i64.wrap (IntKind.i64.wrap (((iC ss k:Nat):Int)+(s.ad.length:Int))+(s.p.length:Int))=((iC ss (k+1):Nat):Int):=by rw [w1];exact w64 (by omega) (by omega)
   have w3:IntKind.i64.wrap ((k:Int)+1)=((k+1:Nat):Int):=w64 (by omega) (by omega)
   refine G.Pd aU aV mix hb [true,true,false,false] (aYe all scr ss.length cap k _ ((iC ss (k+1):Nat):Int) (k:Int) ((k+1:Nat):Int) s.kind s.num s.ad s.p) (aA ⟨Ju,Ju,d2,Ju,d1,Ju,e1,e2,⟨rfl,rfl,rfl⟩,w2,w3,trivial⟩) (G.again fun V _ _ hi=>⟨ss.length-(k+1),by omega,_,⟨k+1,by omega,by omega,rfl,?_,rfl⟩,V,hi⟩)
   intro i' s' fV xX
   by_cases e:i'=k
   .subst e;rw [hs] at xX;cases xX;exact ⟨by omega,by omega⟩
   .exact Hl i' s' (by omega) xX
  .have hk6:k=60:=by omega
   refine G.eJ aU aV mix hb [true,false] (aYa all scr ss.length cap _ (k:Int)) (aA ⟨kN (by omega),decide_eq_true (by omega),rfl,trivial⟩) (G.leave (by simp) ?_)
   have DA:k=min 60 ss.length:=by omega
   have:=H1 (fun i s hi hs=>Hl i s (by omega) hs)
   rw [<- DA] at this
   exact this
 .refine G.eJ aU aV mix hb [false] (aYb all scr ss.length cap _ (k:Int)) (aA ⟨kN (by omega),rfl,trivial⟩) (G.leave (by simp) ?_)
  have DA:k=min 60 ss.length:=by omega
  have:=H1 (fun i s hi hs=>Hl i s (by have:=(List.getElem?_eq_some_iff.1 hs).1;omega) hs)
  rw [<- DA] at this
  exact this
theorem aSa {all:List SV} {scr:aX} {ss:List Mv} (cap:Nat) (key:List Int) (hS:Yh all scr ss) (hl:ss.length<=1073741824) :
 ∃ b,(b=true->∀ i s,i<60->ss[i]?=some s->s.few)/\M.DJ [.pT 60 ss.length cap 4 0 60] ((bQ [] [(400,.ints .u8 key 23)] 0 [] []).T (aZ 400 (pZ all scr))) 424 432 b:=by
 have aU:=bL eY 22
 have aV:=bV eY fT 22
 have up:∀ l B,Eg all scr l=some B->(bQ [] [(400,.ints .u8 key 23)] 0 [] []).T (aZ 400 (pZ all scr)) l=some B:=by
  intro l B h
  by_cases e:l=400
  .subst e
   have hn:Eg all scr 400=none:=rfl
   rw [hn] at h
   cases h
  .rw [stT (by rw [aE (fun q=>e q.symm)];rfl)];exact h
 by_cases fR:∀ i s,i<60->ss[i]?=some s->s.few
 .refine ⟨decide (((iC ss (min 60 ss.length):Nat):Int)<=200000),fun _=>fR,?_⟩
  have main:aF Tryz.prog (env eY 22) 18 [.pT 60 ss.length cap 4 0 60] (Eg all scr) 424 432 { val:=.bool false (decide (((iC ss (min 60 ss.length):Nat):Int)<=200000)) }:=by
   refine fS aU aV Tryz.func18 (by kernel_rfl) rfl (jX (by kernel_rfl)) rfl [] ?_
   intro w0 Mx V0 Q hb H
   refine G.eJ aU aV mix hb [] (aNr all scr ss.length cap) (aA ⟨⟨rfl,rfl,rfl⟩,rfl,rfl,trivial⟩) ?_
   refine Wa hb hS hl (fun _=>?_) (fun h=>(h fR).elim)
   exact G.oQ (cl:=[]) aU aV mix [] H (aXz all scr _) (aA (by simp [cA])) rfl rfl rfl
  exact main.words rfl (fun _=>rfl) up (fun _=>rfl) rfl rfl
 .refine ⟨false,fun h=>(by cases h),?_⟩
  have main:aF Tryz.prog (env eY 22) 18 [.pT 60 ss.length cap 4 0 60] (Eg all scr) 424 432 { val:=.bool true false }:=by
   refine fS aU aV Tryz.func18 (by kernel_rfl) rfl (jX (by kernel_rfl)) rfl [] ?_
   intro w0 Mx V0 Q hb H
   refine G.eJ aU aV mix hb [] (aNr all scr ss.length cap) (aA ⟨⟨rfl,rfl,rfl⟩,rfl,rfl,trivial⟩) ?_
   refine Wa hb hS hl (fun h=>(fR h).elim) (fun _=>?_)
   exact G.oQ (cl:=[]) aU aV mix [] H (aXy all scr) (aA (by simp [cA])) rfl rfl rfl
  exact main.words rfl (fun _=>rfl) up (fun _=>rfl) rfl rfl
section
open Go.ChangeShapes Go.WideShapes
structure UC (W:World) (cs:List Value) (s:Mv) (va vb:Value):Prop where
 cs:cs=[.int .i64 s.kind,.int .u64 s.num,va,vb]
 a:zB W .u8 va s.ad
 b:zB W .u8 vb s.p
 ok:s.ok
theorem aZf (cs:List Value):cs=(cs.drop 0).take 1++((cs.drop 1).take 1++((cs.drop 2).take 1++((cs.drop 3).take 1++cs.drop 4))):=by
 have s:∀ k m (l:List Value),(l.drop k).take m++l.drop (k+m)=l.drop k:=fun k m l=>by rw [<- List.drop_drop,List.take_append_drop]
 rw [s 3 1,s 2 1,s 1 1,s 0 1,List.drop_zero]
section
variable {H:Type} {enc:TypeId × Value->H} {P:Program} {w:World} {held:Bool}
structure JE (P:Program) (e ti tu tb t5:TypeId) (fs:Array Field):Prop where
 he:P.underlying e=some (.struct fs)
 hf:fs.toList.map (fun f=>(f.type,f.offset))=[(ti,0),(tu,1),(tb,2),(tb,3)]
 hce:P.cellsOf e=4
 hi:P.underlying ti=some (.int .i64)
 hci:P.cellsOf ti=1
 hu:P.underlying tu=some (.int .u64)
 hcu:P.cellsOf tu=1
 hb:P.underlying tb=some (.slice t5)
 hcb:P.cellsOf tb=1
 h5:P.underlying t5=some (.int .u8)
 hc5:P.cellsOf t5=1
theorem Sd {fuel:Nat} {e ti tu tb t5:TypeId} {fs:Array Field} {cs:List Value} {x:DataW H × List MemPlace} (ht:JE P e ti tu tb t5 fs)
 (h:DataW.trod enc P w 0 (fun _=>true) held fuel e cs=some x):∃ s va vb,UC w cs s va vb:=by
 obtain ⟨xs,m,_,_,hlen,hn,BH⟩:=DataW.trod_struct ht.he h
 have hf4:fs.size=4:=by have:=congrArg List.length ht.hf;simpa using this
 have get:∀ (i:Nat) (t:TypeId) (o:Nat),([(ti,0),(tu,1),(tb,2),(tb,3)]:List (TypeId × Nat))[i]?=some (t,o)->∃ y,DataW.trod enc P w 0 (fun _=>true) held m t ((cs.drop o).take (P.cellsOf t))=some y:=by
  intro i t o hi
  rw [<- ht.hf,List.getElem?_map] at hi
  obtain ⟨f,hf,hfe⟩:=Option.map_eq_some_iff.1 hi
  cases hfe
  have h1:=BH i f (by simpa using hf)
  have hi4:i<xs.length:=by
   have:=(List.getElem?_eq_some_iff.1 hf).1
   rw [hn];simpa using this
  rw [List.getElem?_eq_getElem hi4] at h1
  exact ⟨_,h1⟩
 obtain ⟨y0,h0⟩:=get 0 ti 0 rfl
 obtain ⟨y1,h1⟩:=get 1 tu 1 rfl
 obtain ⟨y2,h2⟩:=get 2 tb 2 rfl
 obtain ⟨y3,h3⟩:=get 3 tb 3 rfl
 rw [ht.hci] at h0
 rw [ht.hcu] at h1
 rw [ht.hcb] at h2 h3
 obtain ⟨kind,e0,_,_⟩:=DataW.trod_int ht.hi h0
 obtain ⟨num,e1,_,hnw⟩:=DataW.trod_int ht.hu h1
 obtain ⟨va,ad,e2,ha,hab⟩:=Dl ht.hb ht.h5 ht.hc5 h2
 obtain ⟨vb,p,e3,hb,Xg⟩:=Dl ht.hb ht.h5 ht.hc5 h3
 have QU:=bounds_u64 hnw
 refine ⟨⟨kind,num,ad,p⟩,va,vb,?_,ha,hb,hab,Xg,QU.1,by show num<=18446744073709551615;omega⟩
 rw [aZf cs,e0,e1,e2,e3,List.drop_eq_nil_of_le (by rw [hlen,ht.hce];omega)]
 rfl
end
theorem yL {α:Type} {p:Nat->α->Prop}:∀ n,(∀ i,i<n->∃ x,p i x)->∃ l:List α,l.length=n/\∀ i x,l[i]?=some x->p i x
 | 0,_=>⟨[],rfl,fun i x h=>by simp at h⟩
 | n+1,h=>by
   obtain ⟨l,hl,hp⟩:=yL n fun i hi=>h i (by omega)
   obtain ⟨x,hx⟩:=h n (by omega)
   refine ⟨l++[x],by simp [hl],fun i y hy=>?_⟩
   by_cases hi:i<n
   .rw [List.getElem?_append_left (by omega)] at hy
    exact hp i y hy
   .rw [List.getElem?_append_right (by omega)] at hy
    have:i-l.length=0:=by
     have:=(List.getElem?_eq_some_iff.1 hy).1
     simp at this
     omega
    rw [this] at hy
    simp at hy
    subst hy
    have:i=n:=by omega
    subst this
    exact hx
abbrev CH:=List (Mv × Value × Value)
def Bg:Nat->CH->List SV
 | _,[]=>[]
 | i,x::r=>Oi x.1.kind x.1.num x.1.ad.length x.1.p.length (200+3*i) (201+3*i)++Bg (i+1) r
theorem zP {k:Int} {num:Int} {la lb:Nat} {a b:Nat}:(Oi k num la lb a b).length=4:=rfl
theorem Wu:∀ (l:CH) (i0 i:Nat) (x:Mv × Value × Value),l[i]?=some x->((Bg i0 l).drop (4*i)).take 4=Oi x.1.kind x.1.num x.1.ad.length x.1.p.length (200+3*(i0+i)) (201+3*(i0+i))
 | [],_,_,_,h=>by simp at h
 | y::r,i0,0,x,h=>by
   simp only [List.getElem?_cons_zero,aW] at h
   subst h
   simp only [Bg,Nat.mul_zero,List.drop_zero,Nat.add_zero]
   rw [List.take_append_of_le_length (by rw [zP];exact cT _),List.take_of_length_le (by rw [zP];exact cT _)]
 | y::r,i0,i+1,x,h=>by
   simp only [List.getElem?_cons_succ] at h
   have ih:=Wu r (i0+1) i x h
   simp only [Bg]
   rw [List.drop_append,zP,List.drop_eq_nil_of_le (by rw [zP];omega),mZ,show 4*(i+1)-4=4*i from by omega,ih,show i0+1+i=i0+(i+1) from by omega]
def mvV (l:CH) (k:Nat):Option Value:=match l[(k-200)/3]? with
 | some x=>match (k-200)%3 with
   | 0=>some x.2.1
   | 1=>some x.2.2
   | _=>none
 | none=>none
def PQ (l:CH) (k:Nat):Option SB:=match l[(k-200)/3]? with
 | some x=>match (k-200)%3 with
   | 0=>some (.gC .u8 x.1.ad)
   | 1=>some (.gC .u8 x.1.p)
   | _=>none
 | none=>none
theorem RL (i:Nat):(200+3*i-200)/3=i/\(200+3*i-200)%3=0:=by omega
theorem at1 (i:Nat):(201+3*i-200)/3=i/\(201+3*i-200)%3=1:=by omega
structure Un (W:World) (b o:Nat) (l:CH):Prop where
 el:∀ i x,l[i]?=some x->∃ cs,UC W cs x.1 x.2.1 x.2.2/\∀ j v,cs[j]?=some v->W.cell? ⟨b,o+4*i+j,none⟩=some v
theorem XB {W:World} {V:bA} {cs:List Value} {s:Mv} {va vb:Value} {la lb:Nat} (h:UC W cs s va vb) (ha:V.σ la=some va) (hb:V.σ lb=some vb) :
 aJ V (Oi s.kind s.num s.ad.length s.p.length la lb)=some cs:=by
 rw [h.cs]
 simp [Oi,aJ,den,ha,hb,h.a.iH,h.b.iH]
theorem Vc {W:World} {b o:Nat} {V:bA} {L:CH} (hσ:∀ k,200<=k->k<400->V.σ k=mvV L k) (hL:L.length<=60) (h:Un W b o L) :
 ∀ (l:CH) (i0:Nat),(∀ i x,l[i]?=some x->L[i0+i]?=some x)->∃ cs,aJ V (Bg i0 l)=some cs/\∀ j v,cs[j]?=some v->W.cell? ⟨b,o+4*i0+j,none⟩=some v
 | [],i0,_=>⟨[],rfl,fun j v h=>by simp at h⟩
 | x::r,i0,hl=>by
   have h0:=hl 0 x rfl
   rw [Nat.add_zero] at h0
   have hi:i0<60:=by have:=(List.getElem?_eq_some_iff.1 h0).1;omega
   obtain ⟨cs,hE,kD⟩:=h.el i0 x h0
   have ha:V.σ (200+3*i0)=some x.2.1:=by
    rw [hσ _ (by omega) (by omega)]
    unfold mvV
    simp only [(RL i0).1,(RL i0).2,h0]
   have hb:V.σ (201+3*i0)=some x.2.2:=by
    rw [hσ _ (by omega) (by omega)]
    unfold mvV
    simp only [(at1 i0).1,(at1 i0).2,h0]
   obtain ⟨ds,hd,hds⟩:=Vc hσ hL h r (i0+1) fun i y hy=>by
    have:=hl (i+1) y hy
    rwa [show i0+(i+1)=i0+1+i from by omega] at this
   have Pm:=XB hE ha hb
   refine ⟨cs++ds,cK Pm hd,fun j v hj=>?_⟩
   have hlen:cs.length=4:=by rw [hE.cs];rfl
   by_cases hj4:j<4
   .rw [List.getElem?_append_left (by omega)] at hj
    exact kD j v hj
   .rw [List.getElem?_append_right (by omega),hlen] at hj
    have:=hds (j-4) v hj
    rwa [show o+4*(i0+1)+(j-4)=o+4*i0+j from by omega] at this
theorem aHr (L:CH) (ss:List Mv) (hL:∀ i s,i<60->ss[i]?=some s->∃ x,L[i]?=some x/\x.1=s):Yh (Bg 0 L) (PQ L) ss:=by
 refine ⟨fun i s hi hs=>?_,fun i s hi hs=>?_,fun i s hi hs=>?_⟩
 .obtain ⟨x,hx,rfl⟩:=hL i s hi hs
  have:=Wu L 0 i x hx
  simpa only [Nat.zero_add] using this
 .obtain ⟨x,hx,rfl⟩:=hL i s hi hs
  unfold PQ
  simp only [(RL i).1,(RL i).2,hx]
 .obtain ⟨x,hx,rfl⟩:=hL i s hi hs
  unfold PQ
  simp only [(at1 i).1,(at1 i).2,hx]
end
theorem Bj {xs ys:List Int} {r:List Prop} (h:xs=ys) (hr:∀ q∈r,q):∀ q∈qO xs ys r,q:=by
 subst h
 unfold qO
 generalize List.range 32=l
 induction l with
 | nil=>exact hr
 | cons a l ih=>exact aM rfl ih
namespace Q
theorem JT (key:List Int) (N:Int) (ad:List Int) {W zs:List Int} {n:Nat} (h:n+16<=W.length):bM key N ad (W++zs) n=bM key N ad W n++zs:=by
 unfold bM;rw [List.take_append_of_le_length (by omega),List.drop_append_of_le_length h];simp only [List.append_assoc]
end Q
theorem aUr {xs ys:List Int} {r:List Prop} (h:∀ i,i<32->xs.getD i 0=ys.getD i 0) (hr:∀ q∈r,q):∀ q∈qO xs ys r,q:=by
 unfold qO
 have key:∀ l:List Nat,(∀ i∈l,i<32)->∀ q∈l.foldr (fun i r=>(xs.getD i 0=ys.getD i 0)::r) r,q:=by
  intro l
  induction l with
  | nil=>intro _;exact hr
  | cons a l ih=>intro hl;exact aM (h a (hl a dC)) (ih fun i hi=>hl i (eM _ hi))
 exact key _ fun i hi=>by simpa using hi
theorem M.YW (K:List Int) {i:Nat} (h:i<32):K.getD i 0=(M.jO K).getD i 0:=by
 unfold M.jO
 rw [gY (l:=List.map _ _),List.getElem?_map,List.getElem?_range h]
 rfl
theorem BA {e e2:Nat} (he:bS e) (mX:bS e2) {N N2:Int} {K K2:List Int} {l:Nat} (h:l<400) (t:List (Nat × SB)) (ht:look l t=none):look l (oU e e2 N N2 K K2++t)=none:=by
 rcases he with rfl | rfl | rfl <;> rcases mX with rfl | rfl | rfl <;>
  (simp only [oU,TQ,Hq,List.append_nil,mZ,List.cons_append];repeat rw [aE (by omega)]) <;> exact ht
namespace Q
theorem JL {key:List Int} {N:Int} {ad W:List Int} {n:Nat} (h:n+16<=W.length) :
 decide (tg key N ad ((bM key N ad W n).take n)=((bM key N ad W n).drop n).take 16)=true:=by
 refine decide_eq_true ?_
 have hl:(cx key N (W.take n)).length=n:=by rw [iT,List.length_take];omega
 have ht:=rP key N ad (cx key N (W.take n))
 have e1:(bM key N ad W n).take n=cx key N (W.take n):=by
  unfold bM
  have:=List.take_left (l₁:=cx key N (W.take n)) (l₂:=tg key N ad (cx key N (W.take n))++W.drop (n+16))
  rw [hl] at this
  exact this
 have e2:(bM key N ad W n).drop n=tg key N ad (cx key N (W.take n))++W.drop (n+16):=by
  unfold bM
  have:=List.drop_left (l₁:=cx key N (W.take n)) (l₂:=tg key N ad (cx key N (W.take n))++W.drop (n+16))
  rw [hl] at this
  exact this
 rw [e1,e2,<- ht,List.take_left]
theorem Yt {key:List Int} {N:Int} {ad W:List Int} {n:Nat} (h:n+16<=W.length) (hb:bX (W.take n)) :
 (jG key N (bM key N ad W n) n).take n=W.take n:=by
 have hl:(cx key N (W.take n)).length=n:=by rw [iT,List.length_take];omega
 have e1:(bM key N ad W n).take n=cx key N (W.take n):=by
  unfold bM
  have:=List.take_left (l₁:=cx key N (W.take n)) (l₂:=tg key N ad (cx key N (W.take n))++W.drop (n+16))
  rw [hl] at this
  exact this
 unfold jG
 rw [e1,aSs _ _ hb]
 have hw:(W.take n).length=n:=by rw [List.length_take];omega
 have:=List.take_left (l₁:=W.take n) (l₂:=(bM key N ad W n).drop n)
 rw [hw] at this
 exact this
end Q
noncomputable abbrev ΓB (e:Nat) (l:Bool):Env:=Ak true Q.bM Q.wM Q.rx e l
section
variable {w0:World} {Mx:Nat->Prop} {V0:bA} {Qx:Exit->Act->World->Prop}
theorem stB {e e2:Nat} (he:bS e) (mX:bS e2) {gs:List (Nat × SV)} {N:Int} {K:List Int} {t:List (Nat × SB)} {nx l:Nat} {all:List SV} {scr:aX} (h:l<400) (ht:look l t=none) :
 (bQ gs (oU e e2 N N K K++t) nx [] []).T (aZ 400 (pZ all scr)) l=pZ all scr l:=by
 rw [stT (BA he mX h t ht),uW h]
set_option maxHeartbeats 2000000 in
theorem PG {e e2:Nat} (he:bS e) (mX:bS e2) {all:List SV} {scr:aX} {ss:List Mv} {cap k:Nat} {N:Int} {K:List Int} {s:Mv}
 (hb:nP (ΓB e2 false) (aZ 400 (pZ all scr)) 400 V0) (hS:Yh all scr ss) (hl:ss.length<=1073741824) (hs:ss[k]?=some s) (h6:k<60) (hf:s.few) (kX:s.ok) (k2:s.kind≠2) (k3:s.kind≠3) (hN:0<=N/\N<=18446744073709551615)
 (hG:∀ N2:Int,0<=N2/\N2<=18446744073709551615->G Tryz.prog (ΓB e2 false) w0 Mx (aZ 400 (pZ all scr)) Tryz.f6.ntmps 400 V0 (.at .normal) [] (bQ (sA ss.length cap 0 60 ((k+1:Nat):Int)) (oU e e2 N2 N2 K K) (zL e e2) [] []) Qx) :
 G Tryz.prog (ΓB e2 false) w0 Mx (aZ 400 (pZ all scr)) Tryz.f6.ntmps 400 V0 (.go Ks) [] (bkS ss.length cap k (k:Int) e e2 N K s.kind s.num s.ad s.p) Qx:=by
 have aU:=uH true Q.bM Q.wM Q.rx e2 false
 have aV:=uI true Q.bM Q.wM Q.rx e2 false
 have cM:k<ss.length:=(List.getElem?_eq_some_iff.1 hs).1
 have Ju:(0:Int)<=(k:Int)/\(k:Int)<(ss.length:Int)/\((k:Nat):Int).toNat=k:=⟨by omega,by omega,by omega⟩
 have e1:decide ((k:Int)<60)=true:=decide_eq_true (by omega)
 have e2':decide ((k:Int)<(ss.length:Int))=true:=decide_eq_true (by omega)
 have w3:IntKind.i64.wrap ((k:Int)+1)=((k+1:Nat):Int):=w64 (by omega) (by omega)
 obtain ⟨f1,f2⟩:=hf
 obtain ⟨b1,b2,_,_⟩:=kX
 have c2:(s.kind==2)=false:=by simp [k2]
 have c3:(s.kind==3)=false:=by simp [k3]
 have CB:ss.length=ss.length/\cap=cap/\0=0:=⟨rfl,rfl,rfl⟩
 generalize hX:s.p++List.replicate 16 (0:Int)=X
 have hXl:X.length=s.p.length+16:=by rw [<- hX];simp
 refine G.Pd aU aV mix hb [true,true,false,false] (aZv e e2 he mX Q.bM Q.wM Q.rx all scr ss.length cap k (k:Int) N K X s.kind s.num s.ad s.p) ?_ ?_
 .repeat' first | exact fO | refine Bj ?_ ?_ | refine aM ?_ ?_
  all_goals first | with_reducible rfl | with_reducible assumption | omega | (simp only [List.take_zero,mZ];omega) | (simp only [List.take_zero,mZ];exact hX)
 have Hb:∀ l,l<400->look l [(zL e e2,SB.dF .u8 X 5)]=none:=fun l h=>by
  rw [aE (by unfold zL;omega)];rfl
 refine G.Lr (t:=3) (i:=k) (n0:=ss.length) (cap:=cap) (j:=0) (le:=60) rfl (by rw [stB he mX (by omega) (Hb _ (by omega))];rfl)
  (by rw [stB he mX (by omega) (Hb _ (by omega)),xH _ _ (by omega)];exact hS.a k s h6 hs) (by rw [stB he mX (by omega) (Hb _ (by omega)),xH _ _ (by omega)];exact hS.b k s h6 hs) (hS.el k s h6 hs) ?_
 refine G.grown (t:=15) (l:=zL e e2) (k:=.u8) (xs:=X) (el:=5) (by rcases he with rfl | rfl | rfl <;> rcases mX with rfl | rfl | rfl <;> kernel_rfl) (by rcases he with rfl | rfl | rfl <;> rcases mX with rfl | rfl | rfl <;> kernel_rfl) (by omega) ?_
 intro c1 z1 BK hm1
 have hnn:(N != N)=false:=by simp
 have d1:decide (IntKind.i64.wrap ((X.length:Int)-(s.p.length:Int))<16)=false:=kN (by rw [IntWalk.i64_in _ ⟨by omega,by omega⟩];omega)
 have d2:(!decide ((s.p.length:Int)<=(X.length:Int)))=false:=by rw [decide_eq_true (by omega)];rfl
 have d3:decide ((s.p.length:Int)>=0)=true:=decide_eq_true (by omega)
 by_cases hL:N=18446744073709551615
 .have n1:(N==18446744073709551615)=true:=by simp [hL]
  refine G.Ac (wY _ _ _ _ e2 e2 true false) ?_
  refine G.Pd (uH true Q.bM Q.wM Q.rx e2 true) (uI true Q.bM Q.wM Q.rx e2 true) mix (hb.Ac (wY _ _ _ _ e2 e2 true false)) [true,false] (aSx e e2 he mX Q.bM Q.wM Q.rx all scr ss.length cap k (k:Int) ((k+1:Nat):Int) N K X s.kind s.num s.ad s.p c1 z1) ?_ ?_
  .repeat' first | exact fO | refine Bj ?_ ?_ | refine aM ?_ ?_
   all_goals first | with_reducible rfl | with_reducible assumption | omega
  .refine G.Ac (wY _ _ _ _ e2 e2 false true) ?_
   exact hG N hN
 have n1:(N==18446744073709551615)=false:=by simp [hL]
 have wN:IntKind.u64.wrap (N+1)=N+1:=IntWalk.u64_in _ ⟨by omega,by omega⟩
 have dI:(IntKind.u64.wrap (N+1) != IntKind.u64.wrap (N+1))=false:=by simp
 have wp:IntKind.i64.wrap ((s.p.length:Int)+16)=((s.p.length+16:Nat):Int):=w64 (by omega) (by omega)
 have bAt:(((s.p.length+16:Nat):Int) != IntKind.i64.wrap ((s.p.length:Int)+16))=false:=by rw [wp];simp
 have hkl:=M.Dq K
 have htk:∀ z:List Int,(X++z).take s.p.length=s.p:=fun z=>by rw [<- hX,List.append_assoc,List.take_left]
 have pM:bX ((X++z1).take s.p.length):=by rw [htk];exact b2
 have hSx:Yf Q.bM (M.jO K) N s.ad (X++z1) s.p.length:=⟨rfl⟩
 have hXz:X.length<=(X++z1).length:=by rw [List.length_append];omega
 by_cases h4:s.kind=4
 .have c4:(s.kind==4)=true:=by simp [h4]
  refine G.Pd aU aV mix hb [false,false,false,true] (aSy e e2 he mX Q.bM Q.wM Q.rx all scr ss.length cap k (k:Int) ((k+1:Nat):Int) N (N+1) K X s.kind s.num s.ad s.p c1 z1) ?_ (hG (N+1) ⟨by omega,by omega⟩)
  unfold bkP slO bkO
  repeat' first | exact fO | refine Bj ?_ ?_ | refine aM ?_ ?_
  all_goals first | with_reducible rfl | with_reducible assumption | exact ⟨rfl,rfl⟩ | omega
 have c4:(s.kind==4)=false:=by simp [h4]
 have hWl:(Q.bM (M.jO K) N s.ad (X++z1) s.p.length).length=(X++z1).length:=pI _ _ _ _ _ (by rw [List.length_append];omega)
 have hle:s.p.length+16<=(X++z1).length:=by rw [List.length_append];omega
 have hOl:(Q.jG (M.jO K) N (Q.bM (M.jO K) N s.ad (X++z1) s.p.length) s.p.length).length=(X++z1).length:=by rw [Q.Ns _ _ _ (by rw [hWl];omega),hWl]
 have bZ:((Q.jG (M.jO K) N (Q.bM (M.jO K) N s.ad (X++z1) s.p.length) s.p.length).drop 0).take s.p.length=s.p:=by
  rw [List.drop_zero,Q.Yt hle pM,htk]
 have hT:Ul true (M.jO K) N s.ad (Q.bM (M.jO K) N s.ad (X++z1) s.p.length) s.p.length:=⟨Q.JL hle⟩
 have hO:UB Q.wM true (M.jO K) N (Q.bM (M.jO K) N s.ad (X++z1) s.p.length) s.p.length:=⟨rfl⟩
 have hWB:bX ((Q.bM (M.jO K) N s.ad (X++z1) s.p.length).take (s.p.length+16)):=by
  have hsp:Q.bM (M.jO K) N s.ad (X++z1) s.p.length=Q.bM (M.jO K) N s.ad X s.p.length++z1:=Q.JT _ _ _ (by omega)
  have Jy:(Q.bM (M.jO K) N s.ad X s.p.length).length=s.p.length+16:=by rw [pI _ _ _ _ _ (by omega)];exact hXl
  rw [hsp,<- Jy,List.take_left]
  exact Q.JU _ _ _ _ (by rw [<- hX];exact Q.pD b2 (Q.vO 16))
 have hm:X.length-16=s.p.length:=by omega
 have hmp:((s.p.length:Int) != (s.p.length:Int))=false:=by simp
 have x1:decide ((X.length:Int)<16)=false:=kN (by omega)
 have x2:(!decide ((X.length:Int)<=(X.length:Int)))=false:=by rw [decide_eq_true (Int.le_refl _)];rfl
 have x3:decide ((X.length:Int)>=0)=true:=decide_eq_true (by omega)
 refine G.Pd aU aV mix hb [false,false,false,false,false,false,false] (aTb e e2 he mX Q.bM Q.wM Q.rx all scr ss.length cap k (k:Int) ((k+1:Nat):Int) N (N+1) K X s.kind s.num s.ad s.p c1 z1) ?_ (hG (N+1) ⟨by omega,by omega⟩)
 rw [hm]
 show ∀ q∈bkQ Q.wM e2 (k:Int) N ss.length k K s.ad s.p (Q.bM (M.jO K) N s.ad (X++z1) s.p.length) (Q.jG (M.jO K) N (Q.bM (M.jO K) N s.ad (X++z1) s.p.length) s.p.length) s.p.length X.length c1 _,q
 unfold bkQ bkP slO bkO
 rw [bZ]
 generalize Q.jG (M.jO K) N (Q.bM (M.jO K) N s.ad (X++z1) s.p.length) s.p.length=O at *
 generalize Q.bM (M.jO K) N s.ad (X++z1) s.p.length=W at *
 repeat' first | exact fO | refine Bj ?_ ?_ | refine aM ?_ ?_
 all_goals first | with_reducible rfl | with_reducible assumption | exact ⟨rfl,rfl⟩ | omega
end
theorem aZt (sb:oN) (ob:yO) (rx:List Int->List Int) (all:List SV) (scr:aX) (x y:Int) (key:List Int) (n0 cap:Nat):aK (Ak false sb ob rx 0 false) Tryz.f6 true [] 400 (DP x y key n0 cap) (pZ all scr) 400 400=some { val:=.bool true true,bO:=[M.DJ [.pT 60 n0 cap 4 0 60] ((bQ [] [(400,.ints .u8 key 23)] 0 [] []).T (aZ 400 (pZ all scr))) 424 432 false] }:=by kernel_rfl
theorem aSw (e:Nat) (he:bS e) (sb:oN) (ob:yO) (rx:List Int->List Int) (all:List SV) (scr:aX):qF (Ak true sb ob rx e false) (pZ all scr) 400 400 Tryz.f6 [] (Xl true sb ob rx e false all scr 400 (.at (.exit 0)) bkK ((bQ [] [] 400 [] []).hint []))=some { val:=.bool true true }:=by
 rcases he with rfl | rfl | rfl <;> kernel_rfl
theorem aBx {x y:Int} {key:List Int} {all:List SV} {scr:aX} {ss:List Mv} (cap:Nat) (hk:key.length=32) (hS:Yh all scr ss) (kX:∀ i s,i<60->ss[i]?=some s->s.ok) (hl:ss.length<=1073741824) :
 ∃ Γ:Env,Γ.aO=aB/\aF Tryz.prog Γ 6 (DP x y key ss.length cap) (pZ all scr) 400 400 { val:=.bool true true }:=by
 obtain ⟨b,Hl,hC⟩:=aSa cap key hS hl
 cases b with
 | false=>
   refine ⟨Ak false Q.bM Q.wM Q.rx 0 false,rfl,?_⟩
   have hI:aG Tryz.prog (Ak false Q.bM Q.wM Q.rx 0 false) 6 (aK (Ak false Q.bM Q.wM Q.rx 0 false) Tryz.f6 true [] 400):=aN (uH _ _ _ _ _ _) (uI _ _ _ _ _ _) mix Tryz.func6 (by kernel_rfl) true [] 400
   exact (hI.call (aZt _ _ _ all scr x y key ss.length cap) (aM hC fO)).words rfl (fun _=>rfl) (fun _ _ h=>h) (fun _=>rfl) rfl rfl
 | true=>
   have Hl:=Hl rfl
   have he:=wB x
   have hE:Ey (oC x) x:=⟨rfl⟩
   have mX:=wB y
   have hE2:Ey (oC y) y:=⟨rfl⟩
   generalize oC x=e at *
   generalize oC y=e2 at *
   refine ⟨ΓB e false,rfl,?_⟩
   have aU:=uH true Q.bM Q.wM Q.rx e false
   have aV:=uI true Q.bM Q.wM Q.rx e false
   have Kg:=uH true Q.bM Q.wM Q.rx e2 false
   have yC:=uI true Q.bM Q.wM Q.rx e2 false
   refine fS aU aV Tryz.func6 (by kernel_rfl) rfl (jX (by kernel_rfl)) rfl [] ?_
   intro w0 Mx V0 Qx eC H
   refine G.eJ aU aV mix eC [] (aZx e he Q.bM Q.wM Q.rx all scr x y key ss.length cap) (aA ⟨hE,rfl,hC,rfl,⟨rfl,rfl,rfl⟩,⟨rfl,rfl⟩,trivial⟩) ?_
   refine G.Ac (wY _ _ _ _ e2 e false false) ?_
   have lA:=eC.Ac (wY true Q.bM Q.wM Q.rx e2 e false false)
   refine G.eJ Kg yC mix lA [] (aZw e e2 he mX Q.bM Q.wM Q.rx all scr y key ss.length cap) ?_ ?_
   .repeat' first | exact fO | refine Bj ?_ ?_ | refine aM ?_ ?_
    all_goals first | with_reducible rfl | with_reducible assumption | exact ⟨rfl,rfl,rfl⟩
   refine G.loop (fun r s=>∃ (k:Nat) (N:Int) (K:List Int),k<=60/\k<=ss.length/\r=ss.length-k/\(0<=N/\N<=18446744073709551615)/\s=bQ (sA ss.length cap 0 60 (k:Int)) (oU e e2 N N K K) (zL e e2) [] []) (r0:=ss.length)
    ⟨0,0,key,by omega,by omega,rfl,⟨by omega,by omega⟩,rfl⟩ ?_
   rintro r s ⟨k,N,K,hk6,hkl,rfl,hN,rfl⟩
   have fin:∀ s',s'=bQ [] [] 400 [] []->G Tryz.prog (ΓB e2 false) w0 Mx (aZ 400 (pZ all scr)) Tryz.f6.ntmps 400 V0 (.at (.exit 0)) bkK s' Qx:=by
    rintro s' rfl
    refine G.Ac (wY _ _ _ _ e e2 false false) ?_
    exact G.oQ (cl:=[]) aU aV mix [] H (aSw e he Q.bM Q.wM Q.rx all scr) fO rfl rfl rfl
   by_cases cM:k<ss.length
   .have e2':decide ((k:Int)<(ss.length:Int))=true:=decide_eq_true (by omega)
    by_cases h6:k<60
    .obtain ⟨s,hs⟩:∃ s,ss[k]?=some s:=⟨_,List.getElem?_eq_getElem cM⟩
     have Ju:(0:Int)<=(k:Int)/\(k:Int)<(ss.length:Int)/\((k:Nat):Int).toNat=k:=⟨by omega,by omega,by omega⟩
     have e1:decide ((k:Int)<60)=true:=decide_eq_true (by omega)
     have w3:IntKind.i64.wrap ((k:Int)+1)=((k+1:Nat):Int):=w64 (by omega) (by omega)
     have Ob:∀ l,l<400->look l ([]:List (Nat × SB))=none:=fun _ _=>rfl
     have hT:∀ l,l<400->(bQ (sA ss.length cap 0 60 (k:Int)) (oU e e2 N N K K) (zL e e2) [] []).T (aZ 400 (pZ all scr)) l=pZ all scr l:=fun l h=>by
      have:=stB he mX (gs:=sA ss.length cap 0 60 (k:Int)) (N:=N) (K:=K) (t:=[]) (nx:=zL e e2) (all:=all) (scr:=scr) h rfl
      rw [List.append_nil] at this
      exact this
     refine G.Lr (t:=3) (i:=k) (n0:=ss.length) (cap:=cap) (j:=0) (le:=60) rfl (by rw [hT 60 (by omega)];rfl)
      (by rw [hT _ (by omega),xH _ _ (by omega)];exact hS.a k s h6 hs) (by rw [hT _ (by omega),xH _ _ (by omega)];exact hS.b k s h6 hs) (hS.el k s h6 hs) ?_
     have next:∀ (N2:Int) (K2:List Int),(0<=N2/\N2<=18446744073709551615)->∃ r',r'<ss.length-k/\∃ (k':Nat) (N':Int) (K':List Int),k'<=60/\k'<=ss.length/\r'=ss.length-k'/\(0<=N'/\N'<=18446744073709551615)/\bQ (sA ss.length cap 0 60 ((k+1:Nat):Int)) (oU e e2 N2 N2 K2 K2) (zL e e2) [] []=bQ (sA ss.length cap 0 60 (k':Int)) (oU e e2 N' N' K' K') (zL e e2) [] []:=
      fun N2 K2 h=>⟨ss.length-(k+1),by omega,k+1,N2,K2,by omega,by omega,rfl,h,rfl⟩
     have bAy:=M.Dq K
     have hR:DR Q.rx (M.jO K):=⟨rfl⟩
     have hq:∀ i,i<32->K.getD i 0=(M.jO K).getD i 0:=fun i h=>M.YW K h
     by_cases k2:s.kind=2
     .have c2:(s.kind==2)=true:=by simp [k2]
      refine G.Pd Kg yC mix lA [true,true,true] (aTa e e2 he mX Q.bM Q.wM Q.rx all scr ss.length cap k (k:Int) ((k+1:Nat):Int) N K s.kind s.num s.ad s.p) ?_ (G.again fun V _ _ hi=>by
       obtain ⟨r',PW,h⟩:=next N (Q.rx (M.jO K)) hN
       exact ⟨r',PW,_,h,V,hi⟩)
      repeat' first | exact fO | refine aUr hq ?_ | refine Bj ?_ ?_ | refine aM ?_ ?_
      all_goals first | with_reducible rfl | with_reducible assumption | exact ⟨rfl,rfl,rfl⟩
     have c2:(s.kind==2)=false:=by simp [k2]
     by_cases k3:s.kind=3
     .have c3:(s.kind==3)=true:=by simp [k3]
      obtain ⟨_,_,n1,n2⟩:=kX k s h6 hs
      refine G.Pd Kg yC mix lA [true,true,false,true] (aSz e e2 he mX Q.bM Q.wM Q.rx all scr ss.length cap k (k:Int) ((k+1:Nat):Int) N K s.kind s.num s.ad s.p) ?_ (G.again fun V _ _ hi=>by
       obtain ⟨r',PW,h⟩:=next s.num K ⟨n1,n2⟩
       exact ⟨r',PW,_,h,V,hi⟩)
      repeat' first | exact fO | refine Bj ?_ ?_ | refine aM ?_ ?_
      all_goals first | with_reducible rfl | with_reducible assumption | exact ⟨rfl,rfl,rfl⟩
     exact PG he mX lA hS hl hs h6 (Hl k s h6 hs) (kX k s h6 hs) k2 k3 hN fun N2 hN2=>G.again fun V _ _ hi=>by
      obtain ⟨r',PW,h⟩:=next N2 K hN2
      exact ⟨r',PW,_,h,V,hi⟩
    .refine G.eJ Kg yC mix lA [true,false] (aTc e e2 he mX Q.bM Q.wM Q.rx all scr ss.length cap (k:Int) N K) (aA ⟨kN (by omega),e2',trivial⟩) (G.leave (by simp) ?_)
     exact fin _ rfl
   .refine G.eJ Kg yC mix lA [false] (aZu e e2 he mX Q.bM Q.wM Q.rx all scr ss.length cap (k:Int) N K) (aA ⟨kN (by omega),trivial⟩) (G.leave (by simp) ?_)
    exact fin _ rfl
def bnT:aX:=fun l=>look l erB
def aFm (x y:Int) (key:List Int):List SV:=[.int false .i64 x,.int false .i64 y,.ai .u8 key,.raw (.slice none 0 0)]
noncomputable def bnM (sb:oN) (rx:List Int->List Int) (e:Nat) (k:Nat) (cf:Cf) (K:List Fr) (s:St):Option nM:=fX (Oz sb rx e) (aZ 400 bnT) 400 Tryz.f6.ntmps [] 400 k cf K s
def bnG (y:Int):List (Nat × SV):=[(1,.int false .i64 y),(3,.raw (.slice none 0 0)),(6,.ptr 400 true 0),(9,.ptr 401 true 0)]
theorem aZq (e:Nat) (he:bS e) (sb:oN) (rx:List Int->List Int) (x y:Int) (key:List Int):eJ 400 Tryz.f6.ntmps (aZ 400 bnT) [] (bnG y) (TZ e key) (402+Hq e) [] [] (bnM sb rx e 13 (.go (codeOf Tryz.f6)) [] ((yM (aFm x y key) 400).hint []))=some (.go (jF 3 (codeOf Tryz.f6)),[],[Ey e x,x=x,y=y,key=key/\23=23]):=by
 rcases he with rfl | rfl | rfl <;> kernel_rfl
theorem aZp (e e2:Nat) (he:bS e) (mX:bS e2) (sb:oN) (rx:List Int->List Int) (y:Int) (key:List Int):qF (Oz sb rx e2) bnT 400 400 Tryz.f6 [] (bnM sb rx e2 400 (.go (jF 3 (codeOf Tryz.f6))) [] ((bQ (bnG y) (TZ e key) (402+Hq e) [] []).hint []))=some { val:=.bool true true,bO:=[key.length=32,key.length=32,key.length=32,key.length=32,key.length=32,key.length=32,Ey e2 y,y=y] }:=by
 rcases he with rfl | rfl | rfl <;> rcases mX with rfl | rfl | rfl <;> kernel_rfl
theorem aLy {x y:Int} {key:List Int} (hk:key.length=32):∃ Γ:Env,Γ.aO=aB/\aF Tryz.prog Γ 6 (aFm x y key) bnT 400 400 { val:=.bool true true }:=by
 have he:=wB x
 have hE:Ey (oC x) x:=⟨rfl⟩
 have mX:=wB y
 have hE2:Ey (oC y) y:=⟨rfl⟩
 generalize oC x=e at *
 generalize oC y=e2 at *
 refine ⟨Oz Q.bM Q.rx e2,rfl,?_⟩
 have aU:=Us Q.bM Q.rx e
 have aV:=Ut Q.bM Q.rx e
 have Kg:=Us Q.bM Q.rx e2
 have yC:=Ut Q.bM Q.rx e2
 refine fS Kg yC Tryz.func6 (by kernel_rfl) rfl (jX (by kernel_rfl)) rfl [] ?_
 intro w0 Mx V0 Qx eC H
 refine G.Ac (Pu _ _ e e2) ?_
 refine G.eJ aU aV mix (eC.Ac (Pu Q.bM Q.rx e e2)) [] (aZq e he Q.bM Q.rx x y key) (aA ⟨hE,rfl,rfl,⟨rfl,rfl⟩,trivial⟩) ?_
 refine G.Ac (Pu _ _ e2 e) ?_
 exact G.oQ (cl:=[]) Kg yC mix [] H (aZp e e2 he mX Q.bM Q.rx y key) (aA ⟨hk,hk,hk,hk,hk,hk,hE2,rfl,trivial⟩) rfl rfl rfl
end Go.Proofs.YtnodfocobmghiaaGreatDoor.Sx
section
open Go Go.Proofs.YtnodfocobmghiaaGreatDoor
set_option maxRecDepth 100000
namespace Go.Proofs.YtnodfocobmghiaaGreatDoor.CipherBack
open Go.ChangeShapes Go.WideShapes Go.ChangeAt Go.RowKit Go.Proofs.YtnodfocobmghiaaGreatDoor.Sx Go.Proofs.YtnodfocobmghiaaGreatDoor.Aea
abbrev uR:List (String × DataW Unit):=Rows.cipherBackUptoRow.laid
theorem aIn {W:World} {b o:Nat} {L:CH} (hE:Un W b o L) {V:bA} (hσ:∀ k,200<=k->k<400->V.σ k=mvV L k) (hL:L.length<=60) {k:Nat} {B:SB} (aXp:200<=k) (h:PQ L k=some B):okB V W k B/\B.owned=false:=by
 have hV:PQ L k≠none:=by rw [h];simp
 unfold PQ at h
 cases hx:L[(k-200)/3]? with
 | none=>rw [hx] at h;cases h
 | some x=>
   have aXo:k<400:=by have:=(List.getElem?_eq_some_iff.1 hx).1;omega
   have hk:=hσ k aXp aXo
   unfold mvV at hk
   rw [hx] at h hk
   obtain ⟨cs,hc,_⟩:=hE.el _ x hx
   simp only at h hk
   split at h
   .rename_i h0
    cases h
    rw [h0] at hk
    exact ⟨⟨_,rfl,x.2.1,hk,hc.a⟩,rfl⟩
   .rename_i h0
    cases h
    rw [h0] at hk
    exact ⟨⟨_,rfl,x.2.2,hk,hc.b⟩,rfl⟩
   .cases h
theorem Mp {W:World} (h:laidMet Tryz.prog uR W) (b o:Nat) (hb:b<W.heap.size) (L:CH) (hL:L.length<=60) (hE:Un W b o L) :
 ∃ V:bA,aD W (fun _=>False) V (pZ (Bg 0 L) (PQ L)) W/\(∀ k l,Sx.look k aB=some l->V.β l=some (k,0))/\V.top 400/\V.β 60=some (b,o):=by
 have pick:∀ {x:String × DataW Unit} (i:Nat),uR[i]?=some x->x∈uR:=fun i hi=>List.mem_of_getElem? hi
 obtain ⟨b0,o0,e0,f0,g0⟩:=oF h "pintle/api.ErrArg" _ 3 (pick 2 rfl) (by kernel_rfl) (by kernel_rfl)
 obtain ⟨b2,o2,e2,f2,g2⟩:=oF h "pintle/api.ErrRoom" _ 1 (pick 3 rfl) (by kernel_rfl) (by kernel_rfl)
 obtain ⟨b4,o4,e4,f4,g4⟩:=oF h "pintle/api.ErrShort" _ 2 (pick 4 rfl) (by kernel_rfl) (by kernel_rfl)
 obtain ⟨b6,o6,e6,f6,g6⟩:=oF h "pintle/api.ErrNonce" _ 0 (pick 5 rfl) (by kernel_rfl) (by kernel_rfl)
 obtain ⟨b8,o8,e8,f8,g8⟩:=oF h "pintle/api.ErrAuth" _ 5 (pick 6 rfl) (by kernel_rfl) (by kernel_rfl)
 have i17:=Mq h "math/big.karatsubaThreshold" 40 14 (pick 10 rfl) (by kernel_rfl) (by kernel_rfl)
 have i18:=Mq h "math/big.divRecursiveThreshold" 40 15 (pick 9 rfl) (by kernel_rfl) (by kernel_rfl)
 have hbg:=Yl h "pintle/slow.begin" 7 147 72 4 .u32 [1634760805,857760878,2036477234,1797285236] (pick 13 rfl) (by kernel_rfl) (by kernel_rfl) Tryz.underlying147 Tryz.underlying72 (by kernel_rfl) (by kernel_rfl)
 have hr:=Rs h "pintle/slow.rows" 8 150 149 3 8 4 EN (pick 14 rfl) (by kernel_rfl) (by kernel_rfl) Tryz.underlying150 Tryz.underlying149 Tryz.underlying3 (by kernel_rfl) (by kernel_rfl)
 let bl:List (Nat × (Nat × Nat)):=[(60,(b,o)),(0,(3,0)),(2,(1,0)),(4,(2,0)),(6,(0,0)),(8,(5,0)),(10,(7,0)),(11,(8,0)),(15,(12,0)),(16,(13,0)),(17,(14,0)),(18,(15,0)),(27,(24,0)),(40,(b0,o0)),(42,(b2,o2)),(44,(b4,o4)),(46,(b6,o6)),(48,(b8,o8))]
 let V:bA:=⟨fun l=>Sx.look l bl,fun k=>if 200<=k/\k<400 then mvV L k else none⟩
 have hσ:∀ k,200<=k->k<400->V.σ k=mvV L k:=fun k h1 h2=>if_pos ⟨h1,h2⟩
 have all:∀ l B,pZ (Bg 0 L) (PQ L) l=some B->okB V W l B/\B.owned=false:=by
  intro l B hl
  unfold pZ at hl
  cases hk:Sx.look l ((60,SB.eQ (Bg 0 L))::erB) with
  | none=>
    rw [hk] at hl
    simp only at hl
    split at hl
    .cases hl
    .rename_i cM
     refine aIn hE hσ hL (Nat.le_of_not_lt fun q=>?_) hl
     rw [<- Nat.blt_eq,cM] at q
     cases q
  | some C=>
    rw [hk] at hl
    cases hl
    have hm:=gA hk
    simp only [erB,erO,aeL,Ej,List.cons_append,mZ,List.mem_cons,List.not_mem_nil,or_false,Prod.mk.injEq] at hm
    rcases hm with ⟨rfl,rfl⟩ | ⟨rfl,rfl⟩ | ⟨rfl,rfl⟩ | ⟨rfl,rfl⟩ | ⟨rfl,rfl⟩ | ⟨rfl,rfl⟩ | ⟨rfl,rfl⟩ | ⟨rfl,rfl⟩ | ⟨rfl,rfl⟩ | ⟨rfl,rfl⟩ | ⟨rfl,rfl⟩ | ⟨rfl,rfl⟩ | ⟨rfl,rfl⟩ | ⟨rfl,rfl⟩ | ⟨rfl,rfl⟩
    .refine ⟨?_,rfl⟩
     obtain ⟨cs,h1,h2⟩:=Vc (V:=V) hσ hL hE L 0 fun i x hx=>by rwa [Nat.zero_add]
     refine ⟨cs,h1,b,o,rfl,⟨hb,fun s hs=>?_⟩,fun j v hj=>by simpa using h2 j v hj⟩
     cases L with
     | nil=>cases h1;simp at hs
     | cons x r=>
       obtain ⟨ds,hd,_⟩:=hE.el 0 x rfl
       have hc:=h2 0 _ hs
       obtain ⟨es,he,RB⟩:=hE.el 0 x rfl
       have:=RB 0 (.int .i64 x.1.kind) (by rw [he.cs];rfl)
       rw [hc] at this
       cases this
    .exact ⟨uP rfl rfl e6,rfl⟩
    .exact ⟨qP rfl f0 g0,rfl⟩
    .exact ⟨qP rfl f2 g2,rfl⟩
    .exact ⟨qP rfl f4 g4,rfl⟩
    .exact ⟨qP rfl f6 g6,rfl⟩
    .exact ⟨qP rfl f8 g8,rfl⟩
    .exact ⟨uP rfl rfl e0,rfl⟩
    .exact ⟨uP rfl rfl e2,rfl⟩
    .exact ⟨uP rfl rfl e4,rfl⟩
    .exact ⟨uP rfl rfl e8,rfl⟩
    .exact ⟨Vb rfl i17,rfl⟩
    .exact ⟨Vb rfl i18,rfl⟩
    .exact ⟨Mg (zs:=[1634760805,857760878,2036477234,1797285236]) (by decide) rfl hbg,rfl⟩
    .exact ⟨Mg (zs:=FZ) (by decide) rfl fun j z hj=>(by
      obtain ⟨i,k,zs,rfl,hk,h1,h2⟩:=Zu j z hj
      exact hr i k zs z h1 h2 hk),rfl⟩
 refine ⟨V,⟨fun l B hl=>(all l B hl).1,fun l B l' B' n _ hl _ ho=>?_,fun l B n hl ho=>?_,gR.refl _ _⟩,fun k l hk=>?_,fun l hl=>⟨?_,if_neg (by omega)⟩,rfl⟩
 .rw [(all l B hl).2] at ho;cases ho
 .rw [(all l B hl).2] at ho;cases ho
 .have hm:=gA hk
  simp only [aB,List.mem_cons,List.not_mem_nil,or_false,Prod.mk.injEq] at hm
  rcases hm with ⟨rfl,rfl⟩ | ⟨rfl,rfl⟩ | ⟨rfl,rfl⟩ | ⟨rfl,rfl⟩ | ⟨rfl,rfl⟩ | ⟨rfl,rfl⟩ | ⟨rfl,rfl⟩ | ⟨rfl,rfl⟩ | ⟨rfl,rfl⟩ | ⟨rfl,rfl⟩ | ⟨rfl,rfl⟩ | ⟨rfl,rfl⟩ <;> rfl
 .show Sx.look l bl=none
  cases hlk:Sx.look l bl with
  | none=>rfl
  | some p=>
    exfalso
    have hm:=gA hlk
    have fR:bl.all (fun x=>Nat.blt x.1 100)=true:=rfl
    have:=List.all_eq_true.1 fR _ hm
    simp only [Nat.blt_eq] at this
    omega
theorem walk {W:World} (h:laidMet Tryz.prog uR W) {x y:Int} {key:List Int} (hk:key.length=32) (b o cap:Nat) (hb:b<W.heap.size) (E:CH) (hl:E.length<=1073741824) (hE:Un W b o (E.take 60)) (kX:∀ i x,i<60->E[i]?=some x->x.1.ok) :
 Calls Tryz.prog 6 #[.int .i64 x,.int .i64 y,.agg (key.map (Value.int .u8)).toArray,.slice (some ⟨b,o,none⟩) E.length cap] W fun e w'=>e = .returned (.bool true)/\Below W.heap.size W w':=by
 obtain ⟨V,h1,h2,h3,h4⟩:=Mp h b o hb (E.take 60) (by rw [List.length_take];omega) hE
 have hS:Yh (Bg 0 (E.take 60)) (PQ (E.take 60)) (E.map (·.1)):=aHr _ _ fun i s hi hs=>by
  rw [List.getElem?_map] at hs
  obtain ⟨x,hx,rfl⟩:=Option.map_eq_some_iff.1 hs
  exact ⟨x,by rw [List.getElem?_take,if_pos hi];exact hx,rfl⟩
 obtain ⟨Γ,hΓ,hc⟩:=aBx (x:=x) (y:=y) cap hk hS (fun i s hi hs=>by
  rw [List.getElem?_map] at hs
  obtain ⟨x,hx,rfl⟩:=Option.map_eq_some_iff.1 hs
  exact kX i x hi hx) (by rw [List.length_map];exact hl)
 refine calls hc Tryz.func6 (by kernel_rfl) (c:=codeOf Tryz.f6) rfl h1 (fun n l hn=>h2 n l (by rw [hΓ] at hn;exact hn)) (fun l QA _=>h3 l QA) h3 (xs:=[.int .i64 x,.int .i64 y,.agg (key.map (Value.int .u8)).toArray,.slice (some ⟨b,o,none⟩) E.length cap]) ?_ fun V' x w' _ hx hT=>?_
 .simp only [DP,aJ,den,h4,lI,Nat.zero_mul,Nat.add_zero,decide_true,List.length_map,gL]
 .simp only [den,aW] at hx
  subst hx
  exact ⟨rfl,hT.frame.os,hT.frame.tape,hT.frame.output,hT.frame.size,fun k hk=>hT.frame.block k hk (fun h=>h)⟩
theorem JI {W:World} (h:laidMet Tryz.prog uR W) {x y:Int} {key:List Int} (hk:key.length=32) (hb:0<W.heap.size) :
 Calls Tryz.prog 6 #[.int .i64 x,.int .i64 y,.agg (key.map (Value.int .u8)).toArray,.slice none 0 0] W fun e w'=>e = .returned (.bool true)/\Below W.heap.size W w':=by
 obtain ⟨V,h1,h2,h3,h4⟩:=Mp h 0 0 hb [] (by simp) ⟨fun i x hx=>by simp at hx⟩
 have hT:aD W (fun _=>False) V bnT W:=by
  have sub:∀ l B,bnT l=some B->pZ (Bg 0 []) (PQ []) l=some B:=fun l B hl=>by
   unfold bnT at hl
   unfold pZ
   by_cases e:60=l
   .subst e;cases hl
   .rw [aE e,hl]
  exact ⟨fun l B hl=>h1.ok l B (sub l B hl),fun l B l' B' n dI hl sL=>h1.iY l B l' B' n dI (sub l B hl) (sub l' B' sL),fun l B n hl=>h1.perm l B n (sub l B hl),h1.frame⟩
 obtain ⟨Γ,hΓ,hc⟩:=aLy (x:=x) (y:=y) hk
 refine calls hc Tryz.func6 (by kernel_rfl) (c:=codeOf Tryz.f6) rfl hT (fun n l hn=>h2 n l (by rw [hΓ] at hn;exact hn)) (fun l QA _=>h3 l QA) h3 (xs:=[.int .i64 x,.int .i64 y,.agg (key.map (Value.int .u8)).toArray,.slice none 0 0]) ?_ fun V' x w' _ hx hT=>?_
 .simp only [aFm,aJ,den,lI,gL]
 .simp only [den,aW] at hx
  subst hx
  exact ⟨rfl,hT.frame.os,hT.frame.tape,hT.frame.output,hT.frame.size,fun k hk=>hT.frame.block k hk (fun h=>h)⟩
end Go.Proofs.YtnodfocobmghiaaGreatDoor.CipherBack
end
