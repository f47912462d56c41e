/- math/big: (*Int).Mod by 2^130 - 5, in place, as a summary; calls on the same blocks in other words. -/
import Derived.Test.YticicdfijghigaaGreatDoorQF
open Go
set_option maxRecDepth 100000
namespace Go.Proofs.YticicdfijghigaaGreatDoor.Sx
theorem Uy {B C:SB} (h:jY B C):jY C B:=by
 cases B with
 | own cs t=>
   cases C with
   | own ds t'=>exact ⟨h.1.symm,fun V=>(h.2 V).symm⟩
   | _=>simp [jY] at h
 | _=>simp only [jY] at h;subst h;exact cE _
theorem aE.reL {P:Program} {Γ:Env} {f:FuncId} {vs Ml:List SV} {L L':List (Nat × SB)} {lab F:Nat} {e:bL} (h:aE P Γ f vs (fun l=>look l L) lab F e) (hw:pG L L') (hv:∀ V,aG V Ml=aG V vs):aE P Γ f Ml (fun l=>look l L') lab F e:=by
 intro w0 M V T2 w xs aK Ke AN hf hF hx o a K Q hK
 obtain ⟨T3,hT3⟩:∃ T3:bA,T3=fun l=>match look l L with
  | some B=>some B
  | none=>T2 l:=⟨_,rfl⟩
 have src:∀ l B,T3 l=some B->∃ C,T2 l=some C/\jY C B:=by
  intro l B hl
  rw [hT3] at hl
  simp only at hl
  rcases qL (l:=l) hw with ⟨e1,e2⟩ | ⟨C,D,e1,e2,e3⟩
  .rw [e1] at hl;exact ⟨B,hl,cE B⟩
  .rw [e1] at hl;cases hl;exact ⟨D,aK l D e2,Uy e3⟩
 have back:∀ l B,T2 l=some B->∃ C,T3 l=some C/\jY C B:=by
  intro l B hl
  rw [hT3]
  rcases qL (l:=l) hw with ⟨e1,e2⟩ | ⟨C,D,e1,e2,e3⟩
  .simp only [e1];exact ⟨B,hl,cE B⟩
  .simp only [e1]
   have:=aK l D e2
   rw [hl] at this
   cases this
   exact ⟨C,rfl,e3⟩
 have move:∀ {T T':bA} {V:aZ} {w:World},(∀ l B,T' l=some B->∃ C,T l=some C/\jY C B)->aC w0 M V T w->aC w0 M V T' w:=by
  intro T T' V w hs ht
  refine ⟨fun l B hl=>?_,fun l B l' B' n dG hl sP ho hb iO=>?_,fun l B n hl ho hb=>?_,ht.frame,fun l B hl=>?_⟩
  .obtain ⟨C,hC,hs⟩:=hs l B hl
   exact (lL hs V w l).1 (ht.ok l C hC)
  .obtain ⟨C,hC,fU⟩:=hs l B hl
   obtain ⟨C',VM,Gb⟩:=hs l' B' sP
   obtain ⟨_,b1,b2⟩:=lL fU V w l
   obtain ⟨_,b1',b2'⟩:=lL Gb V w l'
   exact ht.jX l C l' C' n dG hC VM (b2 ▸ ho) (b1 ▸ hb) (b1' ▸ iO)
  .obtain ⟨C,hC,hs⟩:=hs l B hl
   obtain ⟨_,b1,b2⟩:=lL hs V w l
   exact ht.perm l C n hC (b2 ▸ ho) (b1 ▸ hb)
  .obtain ⟨C,hC,hs⟩:=hs l B hl
   exact Iq hs (ht.tV l C hC)
 refine h w0 M V T3 w xs (fun l B hl=>?_) (move src Ke) AN hf hF ((hv V).symm.trans hx) o a K Q fun V' x w' h1 h2 h3=>hK V' x w' h1 h2 (move (fun l B hl=>?_) h3)
 .have hl:look l L=some B:=hl
  rw [hT3];simp only;rw [hl]
 .unfold eG at hl |-
  cases hk:look l (e.eI lab) with
  | some C=>rw [hk] at hl;cases hl;exact ⟨_,rfl,cE _⟩
  | none=>rw [hk] at hl;exact back l B hl
noncomputable def aNf:Option bL:=aF (env (pX true 0 0) 22) Tryz.f138 true [] 400 rP (fun l=>look l [(61,.own [.bool true false,.raw (.slice none 0 0)] 146),(62,.own [.bool true false,.aJ 66 true 0 3 8] 146),(66,.own Gg 196),(18,.fS [.int true .i64 40])]) 100 100
theorem md0 (x:Int) :
 aNf =
 some {val:=SV.ptr 61 true 0,wr:=[(61,SB.own [SV.bool true false,SV.raw (Value.slice none (0:Nat) (0:Nat))] 146)]}:=by kernel_rfl
open M in
def JC (vs:List SV) (T:bA):Option Canon:=match vs with
 | [.ptr l1 true 0,.ptr l1' true 0,.ptr l2 true 0]=>match Nat.beq l1 l1',T l1,T l2 with
   | true,some (.own [.bool _ _,X] 146),some (.own [.bool _ _,.aJ lp _ 0 3 8] 146)=>match X with
     | .raw (.slice none 0 0)=>some { eN:=rP,T0:=[(61,.own [.bool true false,.raw (.slice none 0 0)] 146),(62,.own [.bool true false,.aJ 66 true 0 3 8] 146),(66,.own Gg 196),(18,.fS [.int true .i64 40])],vl:=[(61,.lab l1 0),(62,.lab l2 0),(66,.lab lp 0)],e0:={ val:=.ptr 61 true 0,wr:=[(61,.own [.bool true false,.raw (.slice none 0 0)] 146),(62,.own [.bool true false,.aJ 66 true 0 3 8] 146),(66,.own Gg 196)] } }
     | .aJ lw true 0 n cap=>match T lw with
       | some (.own cs 196)=>match dA .u64 cs with
         | some [a0,a1,_,_,_,_]=>match Nat.beq cap 6,Nat.beq n 1,Nat.beq n 2 with
           | true,true,_=>some { eN:=rP,T0:=[(61,.own [.bool true false,.aJ 63 true 0 1 6] 146),(62,.own [.bool true false,.aJ 66 true 0 3 8] 146),(63,.own (wc [a0,0,0,0,0,0]) 196),(66,.own Gg 196),(18,.fS [.int true .i64 40])],vl:=[(61,.lab l1 0),(62,.lab l2 0),(63,.lab lw 0),(66,.lab lp 0)],e0:={ val:=.ptr 61 true 0,wr:=[(61,.own [.bool true false,.aJ 63 false 0 (ln (a0%aO)) 6] 146),(63,.own (wc [w0 (a0%aO),w1 (a0%aO),w2 (a0%aO),0,0,0]) 196),(62,.own [.bool true false,.aJ 66 true 0 3 8] 146),(66,.own Gg 196)] },conds:=[U a0,a0≠0] }
           | true,_,true=>some { eN:=rP,T0:=[(61,.own [.bool true false,.aJ 63 true 0 2 6] 146),(62,.own [.bool true false,.aJ 66 true 0 3 8] 146),(63,.own (wc [a0,a1,0,0,0,0]) 196),(66,.own Gg 196),(18,.fS [.int true .i64 40])],vl:=[(61,.lab l1 0),(62,.lab l2 0),(63,.lab lw 0),(66,.lab lp 0)],e0:={ val:=.ptr 61 true 0,wr:=[(61,.own [.bool true false,.aJ 63 false 0 (ln ((a0+18446744073709551616*a1)%aO)) 6] 146),(63,.own (wc [w0 ((a0+18446744073709551616*a1)%aO),w1 ((a0+18446744073709551616*a1)%aO),w2 ((a0+18446744073709551616*a1)%aO),0,0,0]) 196),(62,.own [.bool true false,.aJ 66 true 0 3 8] 146),(66,.own Gg 196)] },conds:=[U a0,U a1,a1≠0] }
           | _,_,_=>none
         | some [a0,a1,a2,_,_,_,_]=>match Nat.beq cap 7,Nat.beq n 2,Nat.beq n 3 with
           | true,true,_=>some { eN:=rP,T0:=[(61,.own [.bool true false,.aJ 63 true 0 2 7] 146),(62,.own [.bool true false,.aJ 66 true 0 3 8] 146),(63,.own (wc [a0,a1,0,0,0,0,0]) 196),(66,.own Gg 196),(18,.fS [.int true .i64 40])],vl:=[(61,.lab l1 0),(62,.lab l2 0),(63,.lab lw 0),(66,.lab lp 0)],e0:={ val:=.ptr 61 true 0,wr:=[(61,.own [.bool true false,.aJ 63 false 0 (ln ((a0+18446744073709551616*a1)%aO)) 7] 146),(63,.own (wc [w0 ((a0+18446744073709551616*a1)%aO),w1 ((a0+18446744073709551616*a1)%aO),w2 ((a0+18446744073709551616*a1)%aO),0,0,0,0]) 196),(62,.own [.bool true false,.aJ 66 true 0 3 8] 146),(66,.own Gg 196)] },conds:=[U a0,U a1,a1≠0] }
           | true,_,true=>some { eN:=rP,T0:=[(61,.own [.bool true false,.aJ 63 true 0 3 7] 146),(62,.own [.bool true false,.aJ 66 true 0 3 8] 146),(63,.own (wc [a0,a1,a2,0,0,0,0]) 196),(66,.own Gg 196),(18,.fS [.int true .i64 40])],vl:=[(61,.lab l1 0),(62,.lab l2 0),(63,.lab lw 0),(66,.lab lp 0)],e0:={ val:=.ptr 61 true 0,wr:=[(61,.own [.bool true false,.aJ 63 false 0 (ln (n3 a0 a1 a2%aO)) 7] 146),(63,.own (wc [w0 (n3 a0 a1 a2%aO),w1 (n3 a0 a1 a2%aO),w2 (n3 a0 a1 a2%aO),0,0,0,0]) 196),(62,.own [.bool true false,.aJ 66 true 0 3 8] 146),(66,.own Gg 196)] },conds:=[U a0,U a1,U a2,a2≠0] }
           | _,_,_=>none
         | some [a0,a1,a2,a3,_,_,_,_]=>match Nat.beq cap 8,Nat.beq n 3,Nat.beq n 4 with
           | true,true,_=>some { eN:=rP,T0:=[(61,.own [.bool true false,.aJ 63 true 0 3 8] 146),(62,.own [.bool true false,.aJ 66 true 0 3 8] 146),(63,.own (wc [a0,a1,a2,0,0,0,0,0]) 196),(66,.own Gg 196),(18,.fS [.int true .i64 40])],vl:=[(61,.lab l1 0),(62,.lab l2 0),(63,.lab lw 0),(66,.lab lp 0)],e0:={ val:=.ptr 61 true 0,wr:=[(61,.own [.bool true false,.aJ 63 false 0 (ln (n3 a0 a1 a2%aO)) 8] 146),(63,.own (wc [w0 (n3 a0 a1 a2%aO),w1 (n3 a0 a1 a2%aO),w2 (n3 a0 a1 a2%aO),0,0,0,0,0]) 196),(62,.own [.bool true false,.aJ 66 true 0 3 8] 146),(66,.own Gg 196)] },conds:=[U a0,U a1,U a2,a2≠0] }
           | true,_,true=>some { eN:=rP,T0:=[(61,.own [.bool true false,.aJ 63 true 0 4 8] 146),(62,.own [.bool true false,.aJ 66 true 0 3 8] 146),(63,.own (wc [a0,a1,a2,a3,0,0,0,0]) 196),(66,.own Gg 196),(18,.fS [.int true .i64 40])],vl:=[(61,.lab l1 0),(62,.lab l2 0),(63,.lab lw 0),(66,.lab lp 0)],e0:={ val:=.ptr 61 true 0,wr:=[(61,.own [.bool true false,.aJ 63 false 0 (ln (n4 a0 a1 a2 a3%aO)) 8] 146),(63,.own (wc [w0 (n4 a0 a1 a2 a3%aO),w1 (n4 a0 a1 a2 a3%aO),w2 (n4 a0 a1 a2 a3%aO),0,0,0,0,0]) 196),(62,.own [.bool true false,.aJ 66 true 0 3 8] 146),(66,.own Gg 196)] },conds:=[U a0,U a1,U a2,U a3,a3≠0] }
           | _,_,_=>none
         | some [a0,a1,a2,a3,_,_,_,_,_]=>match Nat.beq cap 9,Nat.beq n 4 with
           | true,true=>some { eN:=rP,T0:=[(61,.own [.bool true false,.aJ 63 true 0 4 9] 146),(62,.own [.bool true false,.aJ 66 true 0 3 8] 146),(63,.own (wc [a0,a1,a2,a3,0,0,0,0,0]) 196),(66,.own Gg 196),(18,.fS [.int true .i64 40])],vl:=[(61,.lab l1 0),(62,.lab l2 0),(63,.lab lw 0),(66,.lab lp 0)],e0:={ val:=.ptr 61 true 0,wr:=[(61,.own [.bool true false,.aJ 63 false 0 (ln (n4 a0 a1 a2 a3%aO)) 9] 146),(63,.own (wc [w0 (n4 a0 a1 a2 a3%aO),w1 (n4 a0 a1 a2 a3%aO),w2 (n4 a0 a1 a2 a3%aO),0,0,0,0,0,0]) 196),(62,.own [.bool true false,.aJ 66 true 0 3 8] 146),(66,.own Gg 196)] },conds:=[U a0,U a1,U a2,U a3,a3≠0] }
           | _,_=>none
         | _=>none
       | _=>none
     | _=>none
   | _,_,_=>none
 | _=>none
open M in
theorem aVv (Γ:Env) (hg:Γ.aT=aB):aI Tryz.prog Γ 138 (aL aB 100 JC):=by
 refine aW hg fun vs T c hd hc=>?_
 unfold JC at hd
 split at hd
 case h_2=>cases hd
 split at hd
 case h_2=>cases hd
 split at hd
 case h_3=>cases hd
 .cases hd
  have hs:aI Tryz.prog (env (pX true 0 0) 22) 138 (aF (env (pX true 0 0) 22) Tryz.f138 true [] 400):=aM (bP _ 22) (bV _ (oG true 0 0) 22) mix Tryz.func138 (by kernel_rfl) true [] 400
  exact (((hs.call (md0 0) (by simp)).bF 62 _ rfl (by decide)).bF 66 _ rfl (by decide)).words (by rw [hg];rfl) (fun _=>rfl) (fun _ _ h=>h) (fun _=>rfl) rfl rfl
 split at hd
 case h_2=>cases hd
 split at hd
 case h_5=>cases hd
 .rename_i a0 a1 _ _ _ _ _
  split at hd
  case h_3=>cases hd
  .cases hd
   exact (((Vj (hc _ (by simp)) (hc _ (by simp))).bF 62 _ rfl (by decide)).bF 66 _ rfl (by decide)).words (by rw [hg];rfl) (fun _=>rfl) (fun _ _ h=>h) (fun _=>rfl) rfl rfl
  .cases hd
   exact (((Vi (hc _ (by simp)) (hc _ (by simp)) (hc _ (by simp))).bF 62 _ rfl (by decide)).bF 66 _ rfl (by decide)).words (by rw [hg];rfl) (fun _=>rfl) (fun _ _ h=>h) (fun _=>rfl) rfl rfl
 .rename_i a0 a1 a2 _ _ _ _ _
  split at hd
  case h_3=>cases hd
  .cases hd
   exact (((Vh (hc _ (by simp)) (hc _ (by simp)) (hc _ (by simp))).bF 62 _ rfl (by decide)).bF 66 _ rfl (by decide)).words (by rw [hg];rfl) (fun _=>rfl) (fun _ _ h=>h) (fun _=>rfl) rfl rfl
  .cases hd
   have h3:a2≠0:=hc _ (by simp)
   have u0:U a0:=hc _ (by simp)
   have u1:U a1:=hc _ (by simp)
   have u2:U a2:=hc _ (by simp)
   by_cases hp:n3 a0 a1 a2<aO
   .exact (((Vg u0 u1 u2 h3 hp).bF 62 _ rfl (by decide)).bF 66 _ rfl (by decide)).words (by rw [hg];rfl) (fun _=>rfl) (fun _ _ h=>h) (fun _=>rfl) rfl rfl
   .exact (((Iy (.inl rfl) u0 u1 u2 (by omega)).bF 62 _ rfl (by decide)).bF 66 _ rfl (by decide)).words (by rw [hg];rfl) (fun _=>rfl) (fun _ _ h=>h) (fun _=>rfl) rfl rfl
 .rename_i a0 a1 a2 a3 _ _ _ _ _
  split at hd
  case h_3=>cases hd
  .cases hd
   have h3:a2≠0:=hc _ (by simp)
   have u0:U a0:=hc _ (by simp)
   have u1:U a1:=hc _ (by simp)
   have u2:U a2:=hc _ (by simp)
   by_cases hp:n3 a0 a1 a2<aO
   .exact (((Vf u0 u1 u2 h3 hp).bF 62 _ rfl (by decide)).bF 66 _ rfl (by decide)).words (by rw [hg];rfl) (fun _=>rfl) (fun _ _ h=>h) (fun _=>rfl) rfl rfl
   .exact (((Iy (.inr rfl) u0 u1 u2 (by omega)).bF 62 _ rfl (by decide)).bF 66 _ rfl (by decide)).words (by rw [hg];rfl) (fun _=>rfl) (fun _ _ h=>h) (fun _=>rfl) rfl rfl
  .cases hd
   have h3:a3≠0:=hc _ (by simp)
   have u0:U a0:=hc _ (by simp)
   have u1:U a1:=hc _ (by simp)
   have u2:U a2:=hc _ (by simp)
   have u3:U a3:=hc _ (by simp)
   have hp:aO<=n4 a0 a1 a2 a3:=by
    have:=u0.1;have:=u1.1;have:=u2.1;have:=u3.1
    unfold aO n4;omega
   exact (((Ix (.inl rfl) u0 u1 u2 u3 hp).bF 62 _ rfl (by decide)).bF 66 _ rfl (by decide)).words (by rw [hg];rfl) (fun _=>rfl) (fun _ _ h=>h) (fun _=>rfl) rfl rfl
 .rename_i a0 a1 a2 a3 _ _ _ _ _ _
  split at hd
  case h_2=>cases hd
  .cases hd
   have h3:a3≠0:=hc _ (by simp)
   have u0:U a0:=hc _ (by simp)
   have u1:U a1:=hc _ (by simp)
   have u2:U a2:=hc _ (by simp)
   have u3:U a3:=hc _ (by simp)
   have hp:aO<=n4 a0 a1 a2 a3:=by
    have:=u0.1;have:=u1.1;have:=u2.1;have:=u3.1
    unfold aO n4;omega
   exact (((Ix (.inr rfl) u0 u1 u2 u3 hp).bF 62 _ rfl (by decide)).bF 66 _ rfl (by decide)).words (by rw [hg];rfl) (fun _=>rfl) (fun _ _ h=>h) (fun _=>rfl) rfl rfl
noncomputable def aJn:Nat->Option Sum:=dO AQ 138 (aL aB 100 JC)
theorem Zn:∀ f S,aJn f=some S->∀ Γ:Env,Γ.aT=aB->aI Tryz.prog Γ f S:=bE qH 138 _ aVv
noncomputable def Kh (iq ir:Nat):Nat->Option Sum:=dO AQ 186 (aL aB 100 (uM iq ir))
theorem Ll (iq ir:Nat):∀ f S,Kh iq ir f=some S->∀ Γ:Env,Γ.aT=aB->aI Tryz.prog Γ f S:=bE qH 186 _ (Ee iq ir)
def bc (xs:List Int):List SV:=xs.map (.int false .u8)
noncomputable def aMz (bs:List Int):Option bL:=aF (env (Kh 0 3) 22) Tryz.f91 true [] 400 [.cQ 61 0 17 0] (fun l=>look l [(61,.row 1 (bc bs) 5)]) 100 100
noncomputable def yO (iq:Nat) (o c:Nat) (bs:List Int):Option bL:=aF (env (Kh iq 0) 22) Tryz.f91 true [] 400 [.aJ 61 true o 16 c] (fun l=>look l [(61,.fS (bc bs))]) 100 100
namespace M
def iY (b0 b1 b2 b3 b4 b5 b6 b7:Int):Int:=lD .u64 (lD .u64 (lD .u64 (lD .u64 (lD .u64 (lD .u64 (lD .u64 (IntKind.u64.wrap b0) (dK .u64 (IntKind.u64.wrap b1) 8)) (dK .u64 (IntKind.u64.wrap b2) 16)) (dK .u64 (IntKind.u64.wrap b3) 24)) (dK .u64 (IntKind.u64.wrap b4) 32)) (dK .u64 (IntKind.u64.wrap b5) 40)) (dK .u64 (IntKind.u64.wrap b6) 48)) (dK .u64 (IntKind.u64.wrap b7) 56)
end M
theorem n17 (b0 b1 b2 b3 b4 b5 b6 b7 b8 b9 dF dE dD dJ dI gZ iU:Int) :
 aMz [b0,b1,b2,b3,b4,b5,b6,b7,b8,b9,dF,dE,dD,dJ,dI,gZ,iU] =
 sh (IntKind.u64.wrap iU) fun z0=>
 some {bK:=([M.nl [M.iY b0 b1 b2 b3 b4 b5 b6 b7,M.iY b8 b9 dF dE dD dJ dI gZ,lD .u64 0 (dK .u64 z0 0)]=3,[M.iY b0 b1 b2 b3 b4 b5 b6 b7,M.iY b8 b9 dF dE dD dJ dI gZ,lD .u64 0 (dK .u64 z0 0),0,0,0,0]=[M.iY b0 b1 b2 b3 b4 b5 b6 b7,M.iY b8 b9 dF dE dD dJ dI gZ,lD .u64 0 (dK .u64 z0 0),0,0,0,0]]:List Prop),val:=.ptr 100 true 0,new:=[.own [.bool true false,.aJ 101 true 0 3 7] 146,.own [.int false .u64 (M.iY b0 b1 b2 b3 b4 b5 b6 b7),.int false .u64 (M.iY b8 b9 dF dE dD dJ dI gZ),.int false .u64 (lD .u64 0 (dK .u64 z0 0)),.int false .u64 0,.int false .u64 0,.int false .u64 0,.int false .u64 0] 196]}:=by kernel_rfl
theorem aBw (b0 b1 b2 b3 b4 b5 b6 b7 b8 b9 dF dE dD dJ dI gZ iU nC nA mZ mY mX mW mV mU mT mS mR mQ mP mO mL:Int) :
 yO 0 0 32 [b0,b1,b2,b3,b4,b5,b6,b7,b8,b9,dF,dE,dD,dJ,dI,gZ,iU,nC,nA,mZ,mY,mX,mW,mV,mU,mT,mS,mR,mQ,mP,mO,mL] =
 some {bK:=([M.nl [M.iY b0 b1 b2 b3 b4 b5 b6 b7,M.iY b8 b9 dF dE dD dJ dI gZ]=0,[M.iY b0 b1 b2 b3 b4 b5 b6 b7,M.iY b8 b9 dF dE dD dJ dI gZ,0,0,0,0]=[M.iY b0 b1 b2 b3 b4 b5 b6 b7,M.iY b8 b9 dF dE dD dJ dI gZ,0,0,0,0]]:List Prop),val:=.ptr 100 true 0,new:=[.own [.bool true false,.aJ 101 true 0 0 6] 146,.own [.int false .u64 (M.iY b0 b1 b2 b3 b4 b5 b6 b7),.int false .u64 (M.iY b8 b9 dF dE dD dJ dI gZ),.int false .u64 0,.int false .u64 0,.int false .u64 0,.int false .u64 0] 196]}:=by kernel_rfl
theorem OF (b0 b1 b2 b3 b4 b5 b6 b7 b8 b9 dF dE dD dJ dI gZ iU nC nA mZ mY mX mW mV mU mT mS mR mQ mP mO mL:Int) :
 yO 0 16 16 [b0,b1,b2,b3,b4,b5,b6,b7,b8,b9,dF,dE,dD,dJ,dI,gZ,iU,nC,nA,mZ,mY,mX,mW,mV,mU,mT,mS,mR,mQ,mP,mO,mL] =
 some {bK:=([M.nl [M.iY iU nC nA mZ mY mX mW mV,M.iY mU mT mS mR mQ mP mO mL]=0,[M.iY iU nC nA mZ mY mX mW mV,M.iY mU mT mS mR mQ mP mO mL,0,0,0,0]=[M.iY iU nC nA mZ mY mX mW mV,M.iY mU mT mS mR mQ mP mO mL,0,0,0,0]]:List Prop),val:=.ptr 100 true 0,new:=[.own [.bool true false,.aJ 101 true 0 0 6] 146,.own [.int false .u64 (M.iY iU nC nA mZ mY mX mW mV),.int false .u64 (M.iY mU mT mS mR mQ mP mO mL),.int false .u64 0,.int false .u64 0,.int false .u64 0,.int false .u64 0] 196]}:=by kernel_rfl
theorem aBv (b0 b1 b2 b3 b4 b5 b6 b7 b8 b9 dF dE dD dJ dI gZ iU nC nA mZ mY mX mW mV mU mT mS mR mQ mP mO mL:Int) :
 yO 1 0 32 [b0,b1,b2,b3,b4,b5,b6,b7,b8,b9,dF,dE,dD,dJ,dI,gZ,iU,nC,nA,mZ,mY,mX,mW,mV,mU,mT,mS,mR,mQ,mP,mO,mL] =
 some {bK:=([M.nl [M.iY b0 b1 b2 b3 b4 b5 b6 b7,M.iY b8 b9 dF dE dD dJ dI gZ]=1,[M.iY b0 b1 b2 b3 b4 b5 b6 b7,M.iY b8 b9 dF dE dD dJ dI gZ,0,0,0,0]=[M.iY b0 b1 b2 b3 b4 b5 b6 b7,M.iY b8 b9 dF dE dD dJ dI gZ,0,0,0,0]]:List Prop),val:=.ptr 100 true 0,new:=[.own [.bool true false,.aJ 101 true 0 1 6] 146,.own [.int false .u64 (M.iY b0 b1 b2 b3 b4 b5 b6 b7),.int false .u64 (M.iY b8 b9 dF dE dD dJ dI gZ),.int false .u64 0,.int false .u64 0,.int false .u64 0,.int false .u64 0] 196]}:=by kernel_rfl
theorem OE (b0 b1 b2 b3 b4 b5 b6 b7 b8 b9 dF dE dD dJ dI gZ iU nC nA mZ mY mX mW mV mU mT mS mR mQ mP mO mL:Int) :
 yO 1 16 16 [b0,b1,b2,b3,b4,b5,b6,b7,b8,b9,dF,dE,dD,dJ,dI,gZ,iU,nC,nA,mZ,mY,mX,mW,mV,mU,mT,mS,mR,mQ,mP,mO,mL] =
 some {bK:=([M.nl [M.iY iU nC nA mZ mY mX mW mV,M.iY mU mT mS mR mQ mP mO mL]=1,[M.iY iU nC nA mZ mY mX mW mV,M.iY mU mT mS mR mQ mP mO mL,0,0,0,0]=[M.iY iU nC nA mZ mY mX mW mV,M.iY mU mT mS mR mQ mP mO mL,0,0,0,0]]:List Prop),val:=.ptr 100 true 0,new:=[.own [.bool true false,.aJ 101 true 0 1 6] 146,.own [.int false .u64 (M.iY iU nC nA mZ mY mX mW mV),.int false .u64 (M.iY mU mT mS mR mQ mP mO mL),.int false .u64 0,.int false .u64 0,.int false .u64 0,.int false .u64 0] 196]}:=by kernel_rfl
theorem aBu (b0 b1 b2 b3 b4 b5 b6 b7 b8 b9 dF dE dD dJ dI gZ iU nC nA mZ mY mX mW mV mU mT mS mR mQ mP mO mL:Int) :
 yO 2 0 32 [b0,b1,b2,b3,b4,b5,b6,b7,b8,b9,dF,dE,dD,dJ,dI,gZ,iU,nC,nA,mZ,mY,mX,mW,mV,mU,mT,mS,mR,mQ,mP,mO,mL] =
 some {bK:=([M.nl [M.iY b0 b1 b2 b3 b4 b5 b6 b7,M.iY b8 b9 dF dE dD dJ dI gZ]=2,[M.iY b0 b1 b2 b3 b4 b5 b6 b7,M.iY b8 b9 dF dE dD dJ dI gZ,0,0,0,0]=[M.iY b0 b1 b2 b3 b4 b5 b6 b7,M.iY b8 b9 dF dE dD dJ dI gZ,0,0,0,0]]:List Prop),val:=.ptr 100 true 0,new:=[.own [.bool true false,.aJ 101 true 0 2 6] 146,.own [.int false .u64 (M.iY b0 b1 b2 b3 b4 b5 b6 b7),.int false .u64 (M.iY b8 b9 dF dE dD dJ dI gZ),.int false .u64 0,.int false .u64 0,.int false .u64 0,.int false .u64 0] 196]}:=by kernel_rfl
theorem OD (b0 b1 b2 b3 b4 b5 b6 b7 b8 b9 dF dE dD dJ dI gZ iU nC nA mZ mY mX mW mV mU mT mS mR mQ mP mO mL:Int) :
 yO 2 16 16 [b0,b1,b2,b3,b4,b5,b6,b7,b8,b9,dF,dE,dD,dJ,dI,gZ,iU,nC,nA,mZ,mY,mX,mW,mV,mU,mT,mS,mR,mQ,mP,mO,mL] =
 some {bK:=([M.nl [M.iY iU nC nA mZ mY mX mW mV,M.iY mU mT mS mR mQ mP mO mL]=2,[M.iY iU nC nA mZ mY mX mW mV,M.iY mU mT mS mR mQ mP mO mL,0,0,0,0]=[M.iY iU nC nA mZ mY mX mW mV,M.iY mU mT mS mR mQ mP mO mL,0,0,0,0]]:List Prop),val:=.ptr 100 true 0,new:=[.own [.bool true false,.aJ 101 true 0 2 6] 146,.own [.int false .u64 (M.iY iU nC nA mZ mY mX mW mV),.int false .u64 (M.iY mU mT mS mR mQ mP mO mL),.int false .u64 0,.int false .u64 0,.int false .u64 0,.int false .u64 0] 196]}:=by kernel_rfl
noncomputable def Aw (h:List Bool):Nat->Option Sum:=Hf (dO aJn 186 (aL aB 100 (uM 0 3))) 194 h
theorem wG (h:List Bool):∀ f S,Aw h f=some S->∀ Γ:Env,Γ.aT=aB->aI Tryz.prog Γ f S:=oH (bE Zn 186 _ (Ee 0 3)) 194 h
def jP:List SV:=[.agg [.ptr 62 true 0],.ptr 61 true 0,.ptr 63 true 0]
def tR (X Y:SV) (xs ys:List SV):List (Nat × SB):=[(61,.own [.bool true false,X] 146),(62,.own [.bool true false,.aJ 66 true 0 3 8] 146),(63,.own [.bool true false,Y] 146),(64,.fS xs),(65,.own ys 196),(66,.own Gg 196),(17,.fS [.int true .i64 40]),(18,.fS [.int true .i64 40])]
noncomputable def Ig (h:List Bool) (X:SV) (xs ys:List SV):Option bL:=aF (env (Aw h) 22) Tryz.f95 true [] 400 jP (fun l=>look l (tR X (.aJ 65 true 0 3 7) xs ys)) 100 100
def ww (x:Int) (r:List SV):List SV:=.int false .u64 x::r
namespace M
def az (p z c:Int):Int:=ul (ul (p+z)+c+0)
def ac (p z c:Int):Int:=IntKind.u64.wrap (uh (ul (p+z)+c+0)+uh (p+z))
def q0 (x0 y:Int):Int:=az (x0*y) 0 0
def k0 (x0 y:Int):Int:=ac (x0*y) 0 0
def q1 (x0 x1 y:Int):Int:=az (x1*y) 0 (k0 x0 y)
def k1 (x0 x1 y:Int):Int:=ac (x1*y) 0 (k0 x0 y)
def q2 (x0 x1 x2 y:Int):Int:=az (x2*y) 0 (k1 x0 x1 y)
def k2 (x0 x1 x2 y:Int):Int:=ac (x2*y) 0 (k1 x0 x1 y)
def r0 (x0 x1 y0 y1:Int):Int:=az (x0*y1) (q1 x0 x1 y0) 0
def Jn (x0 x1 y0 y1:Int):Int:=ac (x0*y1) (q1 x0 x1 y0) 0
def r1 (x0 x1 x2 y0 y1:Int):Int:=az (x1*y1) (q2 x0 x1 x2 y0) (Jn x0 x1 y0 y1)
def s1' (x0 x1 x2 y0 y1:Int):Int:=ac (x1*y1) (q2 x0 x1 x2 y0) (Jn x0 x1 y0 y1)
def r2 (x0 x1 x2 y0 y1:Int):Int:=az (x2*y1) (k2 x0 x1 x2 y0) (s1' x0 x1 x2 y0 y1)
def VA (x0 x1 x2 y0 y1:Int):Int:=ac (x2*y1) (k2 x0 x1 x2 y0) (s1' x0 x1 x2 y0 y1)
def e1 (x0 x1 y0 y1:Int):Int:=az (x1*y1) (k1 x0 x1 y0) (Jn x0 x1 y0 y1)
def f1 (x0 x1 y0 y1:Int):Int:=ac (x1*y1) (k1 x0 x1 y0) (Jn x0 x1 y0 y1)
def g0 (x0 y0:Int):Int:=ul (x0+y0+0)
def c0 (x0 y0:Int):Int:=uh (x0+y0+0)
def g1 (x0 x1 y0 y1:Int):Int:=ul (x1+y1+c0 x0 y0)
def c1 (x0 x1 y0 y1:Int):Int:=uh (x1+y1+c0 x0 y0)
def g2 (x0 x1 x2 y0 y1 y2:Int):Int:=ul (x2+y2+c1 x0 x1 y0 y1)
def c2 (x0 x1 x2 y0 y1 y2:Int):Int:=uh (x2+y2+c1 x0 x1 y0 y1)
end M
def xY:List (Nat × SB):=[(62,.own [.bool true false,.aJ 66 true 0 3 8] 146),(66,.own Gg 196)]
theorem bEd (ca:Nat) (xs:List SV) (y0 y1 y2:Int) (ys:List SV) :
 Ig [] (.aJ 64 true 0 0 ca) xs (ww y0 (ww y1 (ww y2 ys))) =
 sh (M.n3 y0 y1 y2%M.aO) fun z0=>
 some {bK:=([M.U y0,M.U y1,M.U y2,y2≠0,[y0,y1,y2,0,0,0,0]=[y0,y1,y2,0,0,0,0]]:List Prop),val:=.ptr 100 true 0,new:=[.own [.bool true false,.aJ 101 false 0 (M.ln z0) 7] 146,.own [.int false .u64 (M.w0 z0),.int false .u64 (M.w1 z0),.int false .u64 (M.w2 z0),.int false .u64 0,.int false .u64 0,.int false .u64 0,.int false .u64 0] 196],wr:=xY}:=by kernel_rfl
theorem bEc {ca:Nat} (lS:ca=6\/ca=7\/ca=8\/ca=9) (x0:Int) (xs:List SV) (y0 y1 y2:Int) (ys:List SV) :
 Ig [true] (.aJ 64 true 0 1 ca) (ww x0 xs) (ww y0 (ww y1 (ww y2 ys))) =
 sh (y1+M.c0 y0 x0+0) fun z0=>
 sh (M.n3 (M.g0 y0 x0) (M.ul z0) y2%M.aO) fun z1=>
 some {bK:=([M.U (M.g0 y0 x0),M.U (M.ul z0),M.U y2,y2≠0,[M.g0 y0 x0,M.ul z0,y2,0,0,0,0,0]=[M.g0 y0 x0,M.ul z0,y2,0,0,0,0,0],M.nl [M.g0 y0 x0,M.ul z0,y2,0]=3,[M.g0 y0 x0,M.ul z0,y2,0,0,0,0,0]=[M.g0 y0 x0,M.ul z0,y2,0,0,0,0,0],(M.uh z0==0)=true,M.U y1,M.U (M.c0 y0 x0),M.K 0,y1=y1,M.c0 y0 x0=M.c0 y0 x0,(0 :Int)=0,M.U y0,M.U x0,M.K 0,y0=y0,x0=x0,(0 :Int)=0]:List Prop),val:=.ptr 100 true 0,new:=[.own [.bool true false,.aJ 101 false 0 (M.ln z1) 8] 146,.own [.int false .u64 (M.w0 z1),.int false .u64 (M.w1 z1),.int false .u64 (M.w2 z1),.int false .u64 0,.int false .u64 0,.int false .u64 0,.int false .u64 0,.int false .u64 0] 196],wr:=xY}:=by rcases lS with rfl | rfl | rfl | rfl <;> kernel_rfl
theorem aXe {ca:Nat} (lS:ca=6\/ca=7\/ca=8\/ca=9) (x0:Int) (xs:List SV) (y0 y1 y2:Int) (ys:List SV) :
 Ig [false,true] (.aJ 64 true 0 1 ca) (ww x0 xs) (ww y0 (ww y1 (ww y2 ys))) =
 sh (y1+M.c0 y0 x0+0) fun z1=>
 sh (IntKind.u64.wrap (y2+1)) fun z2=>
 sh (M.n3 (M.g0 y0 x0) (M.ul z1) z2%M.aO) fun z0=>
 some {bK:=([M.U (M.g0 y0 x0),M.U (M.ul z1),M.U z2,IntKind.u64.wrap (y2+1)≠0,[M.g0 y0 x0,M.ul z1,IntKind.u64.wrap (y2+1),0,0,0,0,0]=[M.g0 y0 x0,M.ul z1,IntKind.u64.wrap (y2+1),0,0,0,0,0],M.nl [M.g0 y0 x0,M.ul z1,IntKind.u64.wrap (y2+1),0]=3,[M.g0 y0 x0,M.ul z1,IntKind.u64.wrap (y2+1),0,0,0,0,0]=[M.g0 y0 x0,M.ul z1,IntKind.u64.wrap (y2+1),0,0,0,0,0],(y2 != 18446744073709551615)=true,(M.uh z1==0)=false,M.U y1,M.U (M.c0 y0 x0),M.K 0,y1=y1,M.c0 y0 x0=M.c0 y0 x0,(0 :Int)=0,M.U y0,M.U x0,M.K 0,y0=y0,x0=x0,(0 :Int)=0]:List Prop),val:=.ptr 100 true 0,new:=[.own [.bool true false,.aJ 101 false 0 (M.ln z0) 8] 146,.own [.int false .u64 (M.w0 z0),.int false .u64 (M.w1 z0),.int false .u64 (M.w2 z0),.int false .u64 0,.int false .u64 0,.int false .u64 0,.int false .u64 0,.int false .u64 0] 196],wr:=xY}:=by rcases lS with rfl | rfl | rfl | rfl <;> kernel_rfl
theorem bEb {ca:Nat} (lS:ca=6\/ca=7\/ca=8\/ca=9) (x0 x1:Int) (xs:List SV) (y0 y1 y2:Int) (ys:List SV) :
 Ig [true] (.aJ 64 true 0 2 ca) (ww x0 (ww x1 xs)) (ww y0 (ww y1 (ww y2 ys))) =
 sh (y2+M.c1 y0 y1 x0 x1+0) fun z0=>
 sh (M.n3 (M.g0 y0 x0) (M.g1 y0 y1 x0 x1) (M.ul z0)%M.aO) fun z1=>
 some {bK:=([M.U (M.g0 y0 x0),M.U (M.g1 y0 y1 x0 x1),M.U (M.ul z0),M.ul z0≠0,[M.g0 y0 x0,M.g1 y0 y1 x0 x1,M.ul z0,0,0,0,0,0]=[M.g0 y0 x0,M.g1 y0 y1 x0 x1,M.ul z0,0,0,0,0,0],M.nl [M.g0 y0 x0,M.g1 y0 y1 x0 x1,M.ul z0,0]=3,[M.g0 y0 x0,M.g1 y0 y1 x0 x1,M.ul z0,0,0,0,0,0]=[M.g0 y0 x0,M.g1 y0 y1 x0 x1,M.ul z0,0,0,0,0,0],(M.uh z0==0)=true,M.U y2,M.U (M.c1 y0 y1 x0 x1),M.K 0,y2=y2,M.c1 y0 y1 x0 x1=M.c1 y0 y1 x0 x1,(0 :Int)=0,M.U y1,M.U x1,M.K (M.c0 y0 x0),y1=y1,x1=x1,M.c0 y0 x0=M.c0 y0 x0,M.U y0,M.U x0,M.K 0,y0=y0,x0=x0,(0 :Int)=0]:List Prop),val:=.ptr 100 true 0,new:=[.own [.bool true false,.aJ 101 false 0 (M.ln z1) 8] 146,.own [.int false .u64 (M.w0 z1),.int false .u64 (M.w1 z1),.int false .u64 (M.w2 z1),.int false .u64 0,.int false .u64 0,.int false .u64 0,.int false .u64 0,.int false .u64 0] 196],wr:=xY}:=by rcases lS with rfl | rfl | rfl | rfl <;> kernel_rfl
theorem bEa {ca:Nat} (lS:ca=6\/ca=7\/ca=8\/ca=9) (x0 x1 x2:Int) (xs:List SV) (y0 y1 y2:Int) (ys:List SV) :
 Ig [] (.aJ 64 true 0 3 ca) (ww x0 (ww x1 (ww x2 xs))) (ww y0 (ww y1 (ww y2 ys))) =
 sh (M.g2 x0 x1 x2 y0 y1 y2) fun z1=>
 sh (M.n3 (M.g0 x0 y0) (M.g1 x0 x1 y0 y1) z1%M.aO) fun z0=>
 some {bK:=([M.U (M.g0 x0 y0),M.U (M.g1 x0 x1 y0 y1),M.U z1,M.g2 x0 x1 x2 y0 y1 y2≠0,[M.g0 x0 y0,M.g1 x0 x1 y0 y1,M.g2 x0 x1 x2 y0 y1 y2,M.c2 x0 x1 x2 y0 y1 y2,0,0,0,0]=[M.g0 x0 y0,M.g1 x0 x1 y0 y1,M.g2 x0 x1 x2 y0 y1 y2,0,0,0,0,0],M.nl [M.g0 x0 y0,M.g1 x0 x1 y0 y1,M.g2 x0 x1 x2 y0 y1 y2,M.c2 x0 x1 x2 y0 y1 y2]=3,[M.g0 x0 y0,M.g1 x0 x1 y0 y1,M.g2 x0 x1 x2 y0 y1 y2,M.c2 x0 x1 x2 y0 y1 y2,0,0,0,0]=[M.g0 x0 y0,M.g1 x0 x1 y0 y1,M.g2 x0 x1 x2 y0 y1 y2,M.c2 x0 x1 x2 y0 y1 y2,0,0,0,0],M.U x2,M.U y2,M.K (M.c1 x0 x1 y0 y1),x2=x2,y2=y2,M.c1 x0 x1 y0 y1=M.c1 x0 x1 y0 y1,M.U x1,M.U y1,M.K (M.c0 x0 y0),x1=x1,y1=y1,M.c0 x0 y0=M.c0 x0 y0,M.U x0,M.U y0,M.K 0,x0=x0,y0=y0,(0 :Int)=0]:List Prop),val:=.ptr 100 true 0,new:=[.own [.bool true false,.aJ 101 false 0 (M.ln z0) 8] 146,.own [.int false .u64 (M.w0 z0),.int false .u64 (M.w1 z0),.int false .u64 (M.w2 z0),.int false .u64 0,.int false .u64 0,.int false .u64 0,.int false .u64 0,.int false .u64 0] 196],wr:=xY}:=by rcases lS with rfl | rfl | rfl | rfl <;> kernel_rfl
theorem bDz (xs:List SV) (y0 y1 y2:Int) (ys:List SV) :
 Ig [] (.raw (.slice none 0 0)) xs (ww y0 (ww y1 (ww y2 ys))) =
 sh (M.n3 y0 y1 y2%M.aO) fun z0=>
 some {bK:=([M.U y0,M.U y1,M.U y2,y2≠0,[y0,y1,y2,0,0,0,0]=[y0,y1,y2,0,0,0,0]]:List Prop),val:=.ptr 100 true 0,new:=[.own [.bool true false,.aJ 101 false 0 (M.ln z0) 7] 146,.own [.int false .u64 (M.w0 z0),.int false .u64 (M.w1 z0),.int false .u64 (M.w2 z0),.int false .u64 0,.int false .u64 0,.int false .u64 0,.int false .u64 0] 196],wr:=xY}:=by kernel_rfl
noncomputable def XT (h:Bool) (iq ir:Nat):Nat->Option Sum:=Hf (Hf (dO aJn 186 (aL aB 100 (uM iq ir))) 241 [false]) 238 [h,true]
theorem aEx (h:Bool) (iq ir:Nat):∀ f S,XT h iq ir f=some S->∀ Γ:Env,Γ.aT=aB->aI Tryz.prog Γ f S:=oH (oH (bE Zn 186 _ (Ee iq ir)) 241 _) 238 _
noncomputable def jI (h:Bool) (iq ir:Nat) (X Y:SV) (xs ys:List SV):Option bL:=aF (env (XT h iq ir) 22) Tryz.f97 true [] 400 jP (fun l=>look l (tR X Y xs ys)) 100 100
theorem aEd (ca ct:Nat) (xs ys:List SV) :
 jI true 0 0 (.aJ 64 true 0 0 ca) (.aJ 65 true 0 0 ct) xs ys =
 some {val:=.ptr 100 true 0,new:=[.own [.bool true false,.raw (Value.slice none 0 0)] 146],wr:=xY}:=by kernel_rfl
theorem aEc (ca ct:Nat) (y0:Int) (xs ys:List SV) :
 jI true 0 0 (.aJ 64 true 0 0 ca) (.aJ 65 true 0 1 ct) xs (ww y0 ys) =
 some {val:=.ptr 100 true 0,new:=[.own [.bool true false,.raw (Value.slice none 0 0)] 146],wr:=xY}:=by kernel_rfl
theorem aEb (ca ct:Nat) (y0 y1:Int) (xs ys:List SV) :
 jI true 0 0 (.aJ 64 true 0 0 ca) (.aJ 65 true 0 2 ct) xs (ww y0 (ww y1 ys)) =
 some {val:=.ptr 100 true 0,new:=[.own [.bool true false,.raw (Value.slice none 0 0)] 146],wr:=xY}:=by kernel_rfl
theorem aEa (ca ct:Nat) (x0:Int) (xs ys:List SV) :
 jI true 0 0 (.aJ 64 true 0 1 ca) (.aJ 65 true 0 0 ct) (ww x0 xs) ys =
 some {val:=.ptr 100 true 0,new:=[.own [.bool true false,.raw (Value.slice none 0 0)] 146],wr:=xY}:=by kernel_rfl
theorem aDz (ca ct:Nat) (x0 y0:Int) (xs ys:List SV) :
 jI true 1 0 (.aJ 64 true 0 1 ca) (.aJ 65 true 0 1 ct) (ww x0 xs) (ww y0 ys) =
 sh (x0*y0+0) fun z0=>
 sh (M.ul z0%M.aO) fun z1=>
 some {bK:=([M.U (M.ul z0),M.ul z0≠0,[M.ul z0,M.uh z0,0,0,0,0]=[M.ul z0,0,0,0,0,0],M.nl [M.ul z0,M.uh z0]=1,[M.ul z0,M.uh z0,0,0,0,0]=[M.ul z0,M.uh z0,0,0,0,0],M.U x0,M.U y0,M.U 0,x0=x0,y0=y0,(0 :Int)=0,(y0==0)=false]:List Prop),val:=.ptr 100 true 0,new:=[.own [.bool true false,.aJ 101 false 0 (M.ln z1) 6] 146,.own [.int false .u64 (M.w0 z1),.int false .u64 (M.w1 z1),.int false .u64 (M.w2 z1),.int false .u64 0,.int false .u64 0,.int false .u64 0] 196],wr:=xY}:=by kernel_rfl
theorem aDy (ca ct:Nat) (x0 y0:Int) (xs ys:List SV) :
 jI true 2 0 (.aJ 64 true 0 1 ca) (.aJ 65 true 0 1 ct) (ww x0 xs) (ww y0 ys) =
 sh (x0*y0+0) fun z1=>
 sh ((M.ul z1+18446744073709551616*M.uh z1)%M.aO) fun z0=>
 some {bK:=([M.U (M.ul z1),M.U (M.uh z1),M.uh z1≠0,[M.ul z1,M.uh z1,0,0,0,0]=[M.ul z1,M.uh z1,0,0,0,0],M.nl [M.ul z1,M.uh z1]=2,[M.ul z1,M.uh z1,0,0,0,0]=[M.ul z1,M.uh z1,0,0,0,0],M.U x0,M.U y0,M.U 0,x0=x0,y0=y0,(0 :Int)=0,(y0==0)=false]:List Prop),val:=.ptr 100 true 0,new:=[.own [.bool true false,.aJ 101 false 0 (M.ln z0) 6] 146,.own [.int false .u64 (M.w0 z0),.int false .u64 (M.w1 z0),.int false .u64 (M.w2 z0),.int false .u64 0,.int false .u64 0,.int false .u64 0] 196],wr:=xY}:=by kernel_rfl
theorem aDx (ca ct:Nat) (x0 y0 y1:Int) (xs ys:List SV) :
 jI true 0 2 (.aJ 64 true 0 1 ca) (.aJ 65 true 0 2 ct) (ww x0 xs) (ww y0 (ww y1 ys)) =
 sh (y0*x0+0) fun z2=>
 sh (y1*x0+M.uh z2) fun z0=>
 sh ((M.ul z2+18446744073709551616*M.ul z0)%M.aO) fun z1=>
 some {bK:=([M.U (M.ul z2),M.U (M.ul z0),M.ul z0≠0,[M.ul z2,M.ul z0,M.uh z0,0,0,0,0]=[M.ul z2,M.ul z0,0,0,0,0,0],M.nl [M.ul z2,M.ul z0,M.uh z0]=2,[M.ul z2,M.ul z0,M.uh z0,0,0,0,0]=[M.ul z2,M.ul z0,M.uh z0,0,0,0,0],M.U y1,M.U x0,M.U (M.uh z2),y1=y1,x0=x0,M.uh z2=M.uh z2,M.U y0,M.U x0,M.U 0,y0=y0,x0=x0,(0 :Int)=0,(x0==0)=false]:List Prop),val:=.ptr 100 true 0,new:=[.own [.bool true false,.aJ 101 false 0 (M.ln z1) 7] 146,.own [.int false .u64 (M.w0 z1),.int false .u64 (M.w1 z1),.int false .u64 (M.w2 z1),.int false .u64 0,.int false .u64 0,.int false .u64 0,.int false .u64 0] 196],wr:=xY}:=by kernel_rfl
theorem aDw (ca ct:Nat) (x0 y0 y1:Int) (xs ys:List SV) :
 jI true 0 3 (.aJ 64 true 0 1 ca) (.aJ 65 true 0 2 ct) (ww x0 xs) (ww y0 (ww y1 ys)) =
 sh (y0*x0+0) fun z2=>
 sh (y1*x0+M.uh z2) fun z0=>
 sh (M.n3 (M.ul z2) (M.ul z0) (M.uh z0)%M.aO) fun z1=>
 some {bK:=([M.U (M.ul z2),M.U (M.ul z0),M.U (M.uh z0),M.uh z0≠0,[M.ul z2,M.ul z0,M.uh z0,0,0,0,0]=[M.ul z2,M.ul z0,M.uh z0,0,0,0,0],M.nl [M.ul z2,M.ul z0,M.uh z0]=3,[M.ul z2,M.ul z0,M.uh z0,0,0,0,0]=[M.ul z2,M.ul z0,M.uh z0,0,0,0,0],M.U y1,M.U x0,M.U (M.uh z2),y1=y1,x0=x0,M.uh z2=M.uh z2,M.U y0,M.U x0,M.U 0,y0=y0,x0=x0,(0 :Int)=0,(x0==0)=false]:List Prop),val:=.ptr 100 true 0,new:=[.own [.bool true false,.aJ 101 false 0 (M.ln z1) 7] 146,.own [.int false .u64 (M.w0 z1),.int false .u64 (M.w1 z1),.int false .u64 (M.w2 z1),.int false .u64 0,.int false .u64 0,.int false .u64 0,.int false .u64 0] 196],wr:=xY}:=by kernel_rfl
theorem aDv (ca ct:Nat) (x0 x1:Int) (xs ys:List SV) :
 jI true 0 0 (.aJ 64 true 0 2 ca) (.aJ 65 true 0 0 ct) (ww x0 (ww x1 xs)) ys =
 some {val:=.ptr 100 true 0,new:=[.own [.bool true false,.raw (Value.slice none 0 0)] 146],wr:=xY}:=by kernel_rfl
theorem aDu (ca ct:Nat) (x0 x1 y0:Int) (xs ys:List SV) :
 jI true 0 2 (.aJ 64 true 0 2 ca) (.aJ 65 true 0 1 ct) (ww x0 (ww x1 xs)) (ww y0 ys) =
 sh (x0*y0+0) fun z2=>
 sh (x1*y0+M.uh z2) fun z0=>
 sh ((M.ul z2+18446744073709551616*M.ul z0)%M.aO) fun z1=>
 some {bK:=([M.U (M.ul z2),M.U (M.ul z0),M.ul z0≠0,[M.ul z2,M.ul z0,M.uh z0,0,0,0,0]=[M.ul z2,M.ul z0,0,0,0,0,0],M.nl [M.ul z2,M.ul z0,M.uh z0]=2,[M.ul z2,M.ul z0,M.uh z0,0,0,0,0]=[M.ul z2,M.ul z0,M.uh z0,0,0,0,0],M.U x1,M.U y0,M.U (M.uh z2),x1=x1,y0=y0,M.uh z2=M.uh z2,M.U x0,M.U y0,M.U 0,x0=x0,y0=y0,(0 :Int)=0,(y0==0)=false]:List Prop),val:=.ptr 100 true 0,new:=[.own [.bool true false,.aJ 101 false 0 (M.ln z1) 7] 146,.own [.int false .u64 (M.w0 z1),.int false .u64 (M.w1 z1),.int false .u64 (M.w2 z1),.int false .u64 0,.int false .u64 0,.int false .u64 0,.int false .u64 0] 196],wr:=xY}:=by kernel_rfl
theorem aDt (ca ct:Nat) (x0 x1 y0:Int) (xs ys:List SV) :
 jI true 0 3 (.aJ 64 true 0 2 ca) (.aJ 65 true 0 1 ct) (ww x0 (ww x1 xs)) (ww y0 ys) =
 sh (x0*y0+0) fun z2=>
 sh (x1*y0+M.uh z2) fun z0=>
 sh (M.n3 (M.ul z2) (M.ul z0) (M.uh z0)%M.aO) fun z1=>
 some {bK:=([M.U (M.ul z2),M.U (M.ul z0),M.U (M.uh z0),M.uh z0≠0,[M.ul z2,M.ul z0,M.uh z0,0,0,0,0]=[M.ul z2,M.ul z0,M.uh z0,0,0,0,0],M.nl [M.ul z2,M.ul z0,M.uh z0]=3,[M.ul z2,M.ul z0,M.uh z0,0,0,0,0]=[M.ul z2,M.ul z0,M.uh z0,0,0,0,0],M.U x1,M.U y0,M.U (M.uh z2),x1=x1,y0=y0,M.uh z2=M.uh z2,M.U x0,M.U y0,M.U 0,x0=x0,y0=y0,(0 :Int)=0,(y0==0)=false]:List Prop),val:=.ptr 100 true 0,new:=[.own [.bool true false,.aJ 101 false 0 (M.ln z1) 7] 146,.own [.int false .u64 (M.w0 z1),.int false .u64 (M.w1 z1),.int false .u64 (M.w2 z1),.int false .u64 0,.int false .u64 0,.int false .u64 0,.int false .u64 0] 196],wr:=xY}:=by kernel_rfl
theorem aDs (ca ct:Nat) (x0 x1 y0 y1:Int) (xs ys:List SV) :
 jI true 0 3 (.aJ 64 true 0 2 ca) (.aJ 65 true 0 2 ct) (ww x0 (ww x1 xs)) (ww y0 (ww y1 ys)) =
 sh (M.n3 (M.q0 x0 y0) (M.r0 x0 x1 y0 y1) (M.e1 x0 x1 y0 y1)%M.aO) fun z0=>
 sh (x1*y1+M.k1 x0 x1 y0) fun z1=>
 sh (x0*y1+M.q1 x0 x1 y0) fun z2=>
 sh (x1*y0+0) fun z3=>
 sh (x0*y0+0) fun z4=>
 some {bK:=([M.U (M.q0 x0 y0),M.U (M.r0 x0 x1 y0 y1),M.U (M.e1 x0 x1 y0 y1),M.e1 x0 x1 y0 y1≠0,[M.q0 x0 y0,M.r0 x0 x1 y0 y1,M.e1 x0 x1 y0 y1,M.f1 x0 x1 y0 y1,0,0,0,0]=[M.q0 x0 y0,M.r0 x0 x1 y0 y1,M.e1 x0 x1 y0 y1,0,0,0,0,0],M.nl [M.q0 x0 y0,M.r0 x0 x1 y0 y1,M.e1 x0 x1 y0 y1,M.f1 x0 x1 y0 y1]=3,[M.q0 x0 y0,M.r0 x0 x1 y0 y1,M.e1 x0 x1 y0 y1,M.f1 x0 x1 y0 y1,0,0,0,0]=[M.q0 x0 y0,M.r0 x0 x1 y0 y1,M.e1 x0 x1 y0 y1,M.f1 x0 x1 y0 y1,0,0,0,0],M.U (M.ul z1),M.U (M.Jn x0 x1 y0 y1),M.K 0,M.ul z1=M.ul z1,M.Jn x0 x1 y0 y1=M.Jn x0 x1 y0 y1,(0 :Int)=0,M.U x1,M.U y1,M.U (M.k1 x0 x1 y0),x1=x1,y1=y1,M.k1 x0 x1 y0=M.k1 x0 x1 y0,M.U (M.ul z2),M.U 0,M.K 0,M.ul z2=M.ul z2,(0 :Int)=0,(0 :Int)=0,M.U x0,M.U y1,M.U (M.q1 x0 x1 y0),x0=x0,y1=y1,M.q1 x0 x1 y0=M.q1 x0 x1 y0,(y1 != 0)=true,M.U (M.ul z3),M.U (M.k0 x0 y0),M.K 0,M.ul z3=M.ul z3,M.k0 x0 y0=M.k0 x0 y0,(0 :Int)=0,M.U x1,M.U y0,M.U 0,x1=x1,y0=y0,(0 :Int)=0,M.U (M.ul z4),M.U 0,M.K 0,M.ul z4=M.ul z4,(0 :Int)=0,(0 :Int)=0,M.U x0,M.U y0,M.U 0,x0=x0,y0=y0,(0 :Int)=0,(y0 != 0)=true]:List Prop),val:=.ptr 100 true 0,new:=[.own [.bool true false,.aJ 101 false 0 (M.ln z0) 8] 146,.own [.int false .u64 (M.w0 z0),.int false .u64 (M.w1 z0),.int false .u64 (M.w2 z0),.int false .u64 0,.int false .u64 0,.int false .u64 0,.int false .u64 0,.int false .u64 0] 196],wr:=xY}:=by kernel_rfl
theorem PC (ca ct:Nat) (x0 x1 y0 y1:Int) (xs ys:List SV) :
 jI false 0 3 (.aJ 64 true 0 2 ca) (.aJ 65 true 0 2 ct) (ww x0 (ww x1 xs)) (ww y0 (ww y1 ys)) =
 sh (M.n3 0 (M.q0 x0 y1) (M.q1 x0 x1 y1)%M.aO) fun z0=>
 sh (x1*y1+0) fun z1=>
 sh (x0*y1+0) fun z2=>
 some {bK:=([M.U 0,M.U (M.q0 x0 y1),M.U (M.q1 x0 x1 y1),M.q1 x0 x1 y1≠0,[0,M.q0 x0 y1,M.q1 x0 x1 y1,M.k1 x0 x1 y1,0,0,0,0]=[0,M.q0 x0 y1,M.q1 x0 x1 y1,0,0,0,0,0],M.nl [0,M.q0 x0 y1,M.q1 x0 x1 y1,M.k1 x0 x1 y1]=3,[0,M.q0 x0 y1,M.q1 x0 x1 y1,M.k1 x0 x1 y1,0,0,0,0]=[0,M.q0 x0 y1,M.q1 x0 x1 y1,M.k1 x0 x1 y1,0,0,0,0],M.U (M.ul z1),M.U (M.k0 x0 y1),M.K 0,M.ul z1=M.ul z1,M.k0 x0 y1=M.k0 x0 y1,(0 :Int)=0,M.U x1,M.U y1,M.U 0,x1=x1,y1=y1,(0 :Int)=0,M.U (M.ul z2),M.U 0,M.K 0,M.ul z2=M.ul z2,(0 :Int)=0,(0 :Int)=0,M.U x0,M.U y1,M.U 0,x0=x0,y1=y1,(0 :Int)=0,(y1 != 0)=true,(y0 != 0)=false]:List Prop),val:=.ptr 100 true 0,new:=[.own [.bool true false,.aJ 101 false 0 (M.ln z0) 8] 146,.own [.int false .u64 (M.w0 z0),.int false .u64 (M.w1 z0),.int false .u64 (M.w2 z0),.int false .u64 0,.int false .u64 0,.int false .u64 0,.int false .u64 0,.int false .u64 0] 196],wr:=xY}:=by kernel_rfl
theorem aDr (ca ct:Nat) (x0 x1 y0 y1:Int) (xs ys:List SV) :
 jI true 0 4 (.aJ 64 true 0 2 ca) (.aJ 65 true 0 2 ct) (ww x0 (ww x1 xs)) (ww y0 (ww y1 ys)) =
 sh (M.n4 (M.q0 x0 y0) (M.r0 x0 x1 y0 y1) (M.e1 x0 x1 y0 y1) (M.f1 x0 x1 y0 y1)%M.aO) fun z0=>
 sh (x1*y1+M.k1 x0 x1 y0) fun z1=>
 sh (x0*y1+M.q1 x0 x1 y0) fun z2=>
 sh (x1*y0+0) fun z3=>
 sh (x0*y0+0) fun z4=>
 some {bK:=([M.U (M.q0 x0 y0),M.U (M.r0 x0 x1 y0 y1),M.U (M.e1 x0 x1 y0 y1),M.U (M.f1 x0 x1 y0 y1),M.f1 x0 x1 y0 y1≠0,[M.q0 x0 y0,M.r0 x0 x1 y0 y1,M.e1 x0 x1 y0 y1,M.f1 x0 x1 y0 y1,0,0,0,0]=[M.q0 x0 y0,M.r0 x0 x1 y0 y1,M.e1 x0 x1 y0 y1,M.f1 x0 x1 y0 y1,0,0,0,0],M.nl [M.q0 x0 y0,M.r0 x0 x1 y0 y1,M.e1 x0 x1 y0 y1,M.f1 x0 x1 y0 y1]=4,[M.q0 x0 y0,M.r0 x0 x1 y0 y1,M.e1 x0 x1 y0 y1,M.f1 x0 x1 y0 y1,0,0,0,0]=[M.q0 x0 y0,M.r0 x0 x1 y0 y1,M.e1 x0 x1 y0 y1,M.f1 x0 x1 y0 y1,0,0,0,0],M.U (M.ul z1),M.U (M.Jn x0 x1 y0 y1),M.K 0,M.ul z1=M.ul z1,M.Jn x0 x1 y0 y1=M.Jn x0 x1 y0 y1,(0 :Int)=0,M.U x1,M.U y1,M.U (M.k1 x0 x1 y0),x1=x1,y1=y1,M.k1 x0 x1 y0=M.k1 x0 x1 y0,M.U (M.ul z2),M.U 0,M.K 0,M.ul z2=M.ul z2,(0 :Int)=0,(0 :Int)=0,M.U x0,M.U y1,M.U (M.q1 x0 x1 y0),x0=x0,y1=y1,M.q1 x0 x1 y0=M.q1 x0 x1 y0,(y1 != 0)=true,M.U (M.ul z3),M.U (M.k0 x0 y0),M.K 0,M.ul z3=M.ul z3,M.k0 x0 y0=M.k0 x0 y0,(0 :Int)=0,M.U x1,M.U y0,M.U 0,x1=x1,y0=y0,(0 :Int)=0,M.U (M.ul z4),M.U 0,M.K 0,M.ul z4=M.ul z4,(0 :Int)=0,(0 :Int)=0,M.U x0,M.U y0,M.U 0,x0=x0,y0=y0,(0 :Int)=0,(y0 != 0)=true]:List Prop),val:=.ptr 100 true 0,new:=[.own [.bool true false,.aJ 101 false 0 (M.ln z0) 8] 146,.own [.int false .u64 (M.w0 z0),.int false .u64 (M.w1 z0),.int false .u64 (M.w2 z0),.int false .u64 0,.int false .u64 0,.int false .u64 0,.int false .u64 0,.int false .u64 0] 196],wr:=xY}:=by kernel_rfl
theorem PB (ca ct:Nat) (x0 x1 y0 y1:Int) (xs ys:List SV) :
 jI false 0 4 (.aJ 64 true 0 2 ca) (.aJ 65 true 0 2 ct) (ww x0 (ww x1 xs)) (ww y0 (ww y1 ys)) =
 sh (M.n4 0 (M.q0 x0 y1) (M.q1 x0 x1 y1) (M.k1 x0 x1 y1)%M.aO) fun z0=>
 sh (x1*y1+0) fun z1=>
 sh (x0*y1+0) fun z2=>
 some {bK:=([M.U 0,M.U (M.q0 x0 y1),M.U (M.q1 x0 x1 y1),M.U (M.k1 x0 x1 y1),M.k1 x0 x1 y1≠0,[0,M.q0 x0 y1,M.q1 x0 x1 y1,M.k1 x0 x1 y1,0,0,0,0]=[0,M.q0 x0 y1,M.q1 x0 x1 y1,M.k1 x0 x1 y1,0,0,0,0],M.nl [0,M.q0 x0 y1,M.q1 x0 x1 y1,M.k1 x0 x1 y1]=4,[0,M.q0 x0 y1,M.q1 x0 x1 y1,M.k1 x0 x1 y1,0,0,0,0]=[0,M.q0 x0 y1,M.q1 x0 x1 y1,M.k1 x0 x1 y1,0,0,0,0],M.U (M.ul z1),M.U (M.k0 x0 y1),M.K 0,M.ul z1=M.ul z1,M.k0 x0 y1=M.k0 x0 y1,(0 :Int)=0,M.U x1,M.U y1,M.U 0,x1=x1,y1=y1,(0 :Int)=0,M.U (M.ul z2),M.U 0,M.K 0,M.ul z2=M.ul z2,(0 :Int)=0,(0 :Int)=0,M.U x0,M.U y1,M.U 0,x0=x0,y1=y1,(0 :Int)=0,(y1 != 0)=true,(y0 != 0)=false]:List Prop),val:=.ptr 100 true 0,new:=[.own [.bool true false,.aJ 101 false 0 (M.ln z0) 8] 146,.own [.int false .u64 (M.w0 z0),.int false .u64 (M.w1 z0),.int false .u64 (M.w2 z0),.int false .u64 0,.int false .u64 0,.int false .u64 0,.int false .u64 0,.int false .u64 0] 196],wr:=xY}:=by kernel_rfl
theorem aDq (ca ct:Nat) (x0 x1 x2:Int) (xs ys:List SV) :
 jI true 0 0 (.aJ 64 true 0 3 ca) (.aJ 65 true 0 0 ct) (ww x0 (ww x1 (ww x2 xs))) ys =
 some {val:=.ptr 100 true 0,new:=[.own [.bool true false,.raw (Value.slice none 0 0)] 146],wr:=xY}:=by kernel_rfl
theorem aDp (ca ct:Nat) (x0 x1 x2 y0:Int) (xs ys:List SV) :
 jI true 0 3 (.aJ 64 true 0 3 ca) (.aJ 65 true 0 1 ct) (ww x0 (ww x1 (ww x2 xs))) (ww y0 ys) =
 sh (x0*y0+0) fun z3=>
 sh (x1*y0+M.uh z3) fun z0=>
 sh (x2*y0+M.uh z0) fun z1=>
 sh (M.n3 (M.ul z3) (M.ul z0) (M.ul z1)%M.aO) fun z2=>
 some {bK:=([M.U (M.ul z3),M.U (M.ul z0),M.U (M.ul z1),M.ul z1≠0,[M.ul z3,M.ul z0,M.ul z1,M.uh z1,0,0,0,0]=[M.ul z3,M.ul z0,M.ul z1,0,0,0,0,0],M.nl [M.ul z3,M.ul z0,M.ul z1,M.uh z1]=3,[M.ul z3,M.ul z0,M.ul z1,M.uh z1,0,0,0,0]=[M.ul z3,M.ul z0,M.ul z1,M.uh z1,0,0,0,0],M.U x2,M.U y0,M.U (M.uh z0),x2=x2,y0=y0,M.uh z0=M.uh z0,M.U x1,M.U y0,M.U (M.uh z3),x1=x1,y0=y0,M.uh z3=M.uh z3,M.U x0,M.U y0,M.U 0,x0=x0,y0=y0,(0 :Int)=0,(y0==0)=false]:List Prop),val:=.ptr 100 true 0,new:=[.own [.bool true false,.aJ 101 false 0 (M.ln z2) 8] 146,.own [.int false .u64 (M.w0 z2),.int false .u64 (M.w1 z2),.int false .u64 (M.w2 z2),.int false .u64 0,.int false .u64 0,.int false .u64 0,.int false .u64 0,.int false .u64 0] 196],wr:=xY}:=by kernel_rfl
theorem aDo (ca ct:Nat) (x0 x1 x2 y0:Int) (xs ys:List SV) :
 jI true 0 4 (.aJ 64 true 0 3 ca) (.aJ 65 true 0 1 ct) (ww x0 (ww x1 (ww x2 xs))) (ww y0 ys) =
 sh (x0*y0+0) fun z3=>
 sh (x1*y0+M.uh z3) fun z0=>
 sh (x2*y0+M.uh z0) fun z1=>
 sh (M.n4 (M.ul z3) (M.ul z0) (M.ul z1) (M.uh z1)%M.aO) fun z2=>
 some {bK:=([M.U (M.ul z3),M.U (M.ul z0),M.U (M.ul z1),M.U (M.uh z1),M.uh z1≠0,[M.ul z3,M.ul z0,M.ul z1,M.uh z1,0,0,0,0]=[M.ul z3,M.ul z0,M.ul z1,M.uh z1,0,0,0,0],M.nl [M.ul z3,M.ul z0,M.ul z1,M.uh z1]=4,[M.ul z3,M.ul z0,M.ul z1,M.uh z1,0,0,0,0]=[M.ul z3,M.ul z0,M.ul z1,M.uh z1,0,0,0,0],M.U x2,M.U y0,M.U (M.uh z0),x2=x2,y0=y0,M.uh z0=M.uh z0,M.U x1,M.U y0,M.U (M.uh z3),x1=x1,y0=y0,M.uh z3=M.uh z3,M.U x0,M.U y0,M.U 0,x0=x0,y0=y0,(0 :Int)=0,(y0==0)=false]:List Prop),val:=.ptr 100 true 0,new:=[.own [.bool true false,.aJ 101 false 0 (M.ln z2) 8] 146,.own [.int false .u64 (M.w0 z2),.int false .u64 (M.w1 z2),.int false .u64 (M.w2 z2),.int false .u64 0,.int false .u64 0,.int false .u64 0,.int false .u64 0,.int false .u64 0] 196],wr:=xY}:=by kernel_rfl
theorem aDn (ca ct:Nat) (x0 x1 x2 y0 y1:Int) (xs ys:List SV) :
 jI true 0 4 (.aJ 64 true 0 3 ca) (.aJ 65 true 0 2 ct) (ww x0 (ww x1 (ww x2 xs))) (ww y0 (ww y1 ys)) =
 sh (M.r1 x0 x1 x2 y0 y1) fun z7=>
 sh (M.r2 x0 x1 x2 y0 y1) fun z8=>
 sh (M.n4 (M.q0 x0 y0) (M.r0 x0 x1 y0 y1) z7 z8%M.aO) fun z0=>
 sh (x2*y1+M.k2 x0 x1 x2 y0) fun z1=>
 sh (x1*y1+M.q2 x0 x1 x2 y0) fun z2=>
 sh (x0*y1+M.q1 x0 x1 y0) fun z3=>
 sh (x2*y0+0) fun z4=>
 sh (x1*y0+0) fun z5=>
 sh (x0*y0+0) fun z6=>
 some {bK:=([M.U (M.q0 x0 y0),M.U (M.r0 x0 x1 y0 y1),M.U z7,M.U z8,M.r2 x0 x1 x2 y0 y1≠0,[M.q0 x0 y0,M.r0 x0 x1 y0 y1,M.r1 x0 x1 x2 y0 y1,M.r2 x0 x1 x2 y0 y1,M.VA x0 x1 x2 y0 y1,0,0,0,0]=[M.q0 x0 y0,M.r0 x0 x1 y0 y1,M.r1 x0 x1 x2 y0 y1,M.r2 x0 x1 x2 y0 y1,0,0,0,0,0],M.nl [M.q0 x0 y0,M.r0 x0 x1 y0 y1,M.r1 x0 x1 x2 y0 y1,M.r2 x0 x1 x2 y0 y1,M.VA x0 x1 x2 y0 y1]=4,[M.q0 x0 y0,M.r0 x0 x1 y0 y1,M.r1 x0 x1 x2 y0 y1,M.r2 x0 x1 x2 y0 y1,M.VA x0 x1 x2 y0 y1,0,0,0,0]=[M.q0 x0 y0,M.r0 x0 x1 y0 y1,M.r1 x0 x1 x2 y0 y1,M.r2 x0 x1 x2 y0 y1,M.VA x0 x1 x2 y0 y1,0,0,0,0],M.U (M.ul z1),M.U (M.s1' x0 x1 x2 y0 y1),M.K 0,M.ul z1=M.ul z1,M.s1' x0 x1 x2 y0 y1=M.s1' x0 x1 x2 y0 y1,(0 :Int)=0,M.U x2,M.U y1,M.U (M.k2 x0 x1 x2 y0),x2=x2,y1=y1,M.k2 x0 x1 x2 y0=M.k2 x0 x1 x2 y0,M.U (M.ul z2),M.U (M.Jn x0 x1 y0 y1),M.K 0,M.ul z2=M.ul z2,M.Jn x0 x1 y0 y1=M.Jn x0 x1 y0 y1,(0 :Int)=0,M.U x1,M.U y1,M.U (M.q2 x0 x1 x2 y0),x1=x1,y1=y1,M.q2 x0 x1 x2 y0=M.q2 x0 x1 x2 y0,M.U (M.ul z3),M.U 0,M.K 0,M.ul z3=M.ul z3,(0 :Int)=0,(0 :Int)=0,M.U x0,M.U y1,M.U (M.q1 x0 x1 y0),x0=x0,y1=y1,M.q1 x0 x1 y0=M.q1 x0 x1 y0,(y1 != 0)=true,M.U (M.ul z4),M.U (M.k1 x0 x1 y0),M.K 0,M.ul z4=M.ul z4,M.k1 x0 x1 y0=M.k1 x0 x1 y0,(0 :Int)=0,M.U x2,M.U y0,M.U 0,x2=x2,y0=y0,(0 :Int)=0,M.U (M.ul z5),M.U (M.k0 x0 y0),M.K 0,M.ul z5=M.ul z5,M.k0 x0 y0=M.k0 x0 y0,(0 :Int)=0,M.U x1,M.U y0,M.U 0,x1=x1,y0=y0,(0 :Int)=0,M.U (M.ul z6),M.U 0,M.K 0,M.ul z6=M.ul z6,(0 :Int)=0,(0 :Int)=0,M.U x0,M.U y0,M.U 0,x0=x0,y0=y0,(0 :Int)=0,(y0 != 0)=true]:List Prop),val:=.ptr 100 true 0,new:=[.own [.bool true false,.aJ 101 false 0 (M.ln z0) 9] 146,.own [.int false .u64 (M.w0 z0),.int false .u64 (M.w1 z0),.int false .u64 (M.w2 z0),.int false .u64 0,.int false .u64 0,.int false .u64 0,.int false .u64 0,.int false .u64 0,.int false .u64 0] 196],wr:=xY}:=by kernel_rfl
theorem PA (ca ct:Nat) (x0 x1 x2 y0 y1:Int) (xs ys:List SV) :
 jI false 0 4 (.aJ 64 true 0 3 ca) (.aJ 65 true 0 2 ct) (ww x0 (ww x1 (ww x2 xs))) (ww y0 (ww y1 ys)) =
 sh (M.n4 0 (M.q0 x0 y1) (M.q1 x0 x1 y1) (M.q2 x0 x1 x2 y1)%M.aO) fun z0=>
 sh (x2*y1+0) fun z1=>
 sh (x1*y1+0) fun z2=>
 sh (x0*y1+0) fun z3=>
 some {bK:=([M.U 0,M.U (M.q0 x0 y1),M.U (M.q1 x0 x1 y1),M.U (M.q2 x0 x1 x2 y1),M.q2 x0 x1 x2 y1≠0,[0,M.q0 x0 y1,M.q1 x0 x1 y1,M.q2 x0 x1 x2 y1,M.k2 x0 x1 x2 y1,0,0,0,0]=[0,M.q0 x0 y1,M.q1 x0 x1 y1,M.q2 x0 x1 x2 y1,0,0,0,0,0],M.nl [0,M.q0 x0 y1,M.q1 x0 x1 y1,M.q2 x0 x1 x2 y1,M.k2 x0 x1 x2 y1]=4,[0,M.q0 x0 y1,M.q1 x0 x1 y1,M.q2 x0 x1 x2 y1,M.k2 x0 x1 x2 y1,0,0,0,0]=[0,M.q0 x0 y1,M.q1 x0 x1 y1,M.q2 x0 x1 x2 y1,M.k2 x0 x1 x2 y1,0,0,0,0],M.U (M.ul z1),M.U (M.k1 x0 x1 y1),M.K 0,M.ul z1=M.ul z1,M.k1 x0 x1 y1=M.k1 x0 x1 y1,(0 :Int)=0,M.U x2,M.U y1,M.U 0,x2=x2,y1=y1,(0 :Int)=0,M.U (M.ul z2),M.U (M.k0 x0 y1),M.K 0,M.ul z2=M.ul z2,M.k0 x0 y1=M.k0 x0 y1,(0 :Int)=0,M.U x1,M.U y1,M.U 0,x1=x1,y1=y1,(0 :Int)=0,M.U (M.ul z3),M.U 0,M.K 0,M.ul z3=M.ul z3,(0 :Int)=0,(0 :Int)=0,M.U x0,M.U y1,M.U 0,x0=x0,y1=y1,(0 :Int)=0,(y1 != 0)=true,(y0 != 0)=false]:List Prop),val:=.ptr 100 true 0,new:=[.own [.bool true false,.aJ 101 false 0 (M.ln z0) 9] 146,.own [.int false .u64 (M.w0 z0),.int false .u64 (M.w1 z0),.int false .u64 (M.w2 z0),.int false .u64 0,.int false .u64 0,.int false .u64 0,.int false .u64 0,.int false .u64 0,.int false .u64 0] 196],wr:=xY}:=by kernel_rfl
def rB (R:Int) (cap:Nat):List SB:=[.own [.bool true false,.aJ 101 false 0 (M.ln R) cap] 146,.own (wc (M.w0 R::M.w1 R::M.w2 R::List.replicate (cap-3) 0)) 196]
def nE (X Y:SV) (ys:List SV):List (Nat × SB):=xY++[(61,.own [.bool true false,X] 146),(63,.own [.bool true false,Y] 146),(65,.own ys 196)]
namespace M
theorem nl3 (a b c:Int):(nl [a,b,c]=0/\a=0/\b=0/\c=0)\/(nl [a,b,c]=1/\a≠0/\b=0/\c=0)\/(nl [a,b,c]=2/\b≠0/\c=0)\/(nl [a,b,c]=3/\c≠0):=by
 by_cases hc:c=0
 .by_cases hb:b=0
  .by_cases ha:a=0
   .left;exact ⟨by simp only [nl,hc,hb,ha,if_true],ha,hb,hc⟩
   .right;left;exact ⟨by simp only [nl,hc,hb,if_true,if_neg ha],ha,hb,hc⟩
  .right;right;left;exact ⟨by simp only [nl,hc,if_true,if_neg hb],hb,hc⟩
 .right;right;right;exact ⟨by simp only [nl,if_neg hc],hc⟩
theorem VB (a b:Int):(nl [a,b]=0/\a=0/\b=0)\/(nl [a,b]=1/\a≠0/\b=0)\/(nl [a,b]=2/\b≠0):=by
 by_cases hb:b=0
 .by_cases ha:a=0
  .left;exact ⟨by simp only [nl,hb,ha,if_true],ha,hb⟩
  .right;left;exact ⟨by simp only [nl,hb,if_true,if_neg ha],ha,hb⟩
 .right;right;exact ⟨by simp only [nl,if_neg hb],hb⟩
theorem nK {p z c:Int} (VG:0<=p) (hp:p<=340282366920938463426481119284349108225) (hz:U z) (hc:U c):az p z c+18446744073709551616*ac p z c=p+z+c/\U (az p z c)/\U (ac p z c):=by
 have:=hz.1;have:=hz.2;have:=hc.1;have:=hc.2
 unfold az ac
 rw [bT]
 unfold U ul uh
 omega
end M
theorem uR {f:FuncId} {n m ca cb:Nat} {b:Bool} {xs ys:List SV} {e:bL} (h:aE Tryz.prog Γv f jP (fun l=>look l (tR (.aJ 64 true 0 n ca) (.aJ 65 true 0 m cb) xs ys)) 100 100 e):aE Tryz.prog Γv f jP (fun l=>look l (tR (.aJ 64 false 0 n ca) (.aJ 65 b 0 m cb) xs ys)) 100 100 e:=
 aE.reL (L:=tR (.aJ 64 true 0 n ca) (.aJ 65 true 0 m cb) xs ys) (L':=tR (.aJ 64 false 0 n ca) (.aJ 65 b 0 m cb) xs ys) h ⟨rfl,⟨rfl,fun _=>rfl⟩,rfl,cE _,rfl,⟨rfl,fun _=>rfl⟩,rfl,cE _,rfl,cE _,rfl,cE _,rfl,cE _,rfl,cE _,trivial⟩ (fun _=>rfl)
theorem kB {Γ:Env} {f:FuncId} {n m ca cb:Nat} {b:Bool} {xs ys:List SV} {ob:List Prop} {N N':List SB} (h:aE Tryz.prog Γ f jP (fun l=>look l (tR (.aJ 64 true 0 n ca) (.aJ 65 true 0 m cb) xs ys)) 100 100 { bK:=ob,val:=.ptr 100 true 0,new:=N,wr:=xY }) (hg:Γv.aT=Γ.aT) (hn:yM N N') :
 aE Tryz.prog Γv f jP (fun l=>look l (tR (.aJ 64 false 0 n ca) (.aJ 65 b 0 m cb) xs ys)) 100 100 { val:=.ptr 100 true 0,new:=N',wr:=nE (.aJ 64 false 0 n ca) (.aJ 65 b 0 m cb) ys }:=
 uR ((((h.bF 61 _ rfl (by decide)).bF 63 _ rfl (by decide)).bF 65 _ rfl (by decide)).re hg (fun _=>rfl) hn ⟨rfl,⟨rfl,fun _=>rfl⟩,rfl,⟨rfl,fun _=>rfl⟩,rfl,⟨rfl,fun _=>rfl⟩,rfl,⟨rfl,fun _=>rfl⟩,rfl,⟨rfl,fun _=>rfl⟩,trivial⟩)
open M in
theorem PD (xs ys:List SV) {y0 y1 y2:Int} (fK:U y0) (iL:U y1) (Hn:y2=1):aE Tryz.prog Γv 95 jP (fun l=>look l (tR (.raw (.slice none 0 0)) (.aJ 65 true 0 3 7) xs (ww y0 (ww y1 (ww y2 ys))))) 100 100
 { val:=.ptr 100 true 0,new:=rB ((0+n3 y0 y1 y2)%aO) 7,wr:=nE (.raw (.slice none 0 0)) (.aJ 65 true 0 3 7) (ww y0 (ww y1 (ww y2 ys))) }:=by
 have hs:aI Tryz.prog (env (Aw []) 22) 95 (aF (env (Aw []) 22) Tryz.f95 true [] 400):=aM (bP _ 22) (bV _ (wG []) 22) mix Tryz.func95 (by kernel_rfl) true [] 400
 have hU:U y2:=by unfold U;omega
 have hz:y2≠0:=by omega
 rw [Int.zero_add]
 exact (((((hs.call (bDz xs y0 y1 y2 ys) (aA (by simp only [sh,bJ,fK,iL,hU,and_true,true_and];exact hz))).bF 61 _ rfl (by decide)).bF 63 _ rfl (by decide)).bF 65 _ rfl (by decide)).re rfl (fun _=>rfl) ⟨⟨rfl,fun _=>rfl⟩,⟨rfl,fun _=>rfl⟩,trivial⟩ ⟨rfl,⟨rfl,fun _=>rfl⟩,rfl,⟨rfl,fun _=>rfl⟩,rfl,⟨rfl,fun _=>rfl⟩,rfl,⟨rfl,fun _=>rfl⟩,rfl,⟨rfl,fun _=>rfl⟩,trivial⟩)
open M in
theorem PH (ca:Nat) (xs ys:List SV) {y0 y1 y2:Int} (fK:U y0) (iL:U y1) (Hn:y2=1):aE Tryz.prog Γv 95 jP (fun l=>look l (tR (.aJ 64 false 0 0 ca) (.aJ 65 true 0 3 7) xs (ww y0 (ww y1 (ww y2 ys))))) 100 100
 { val:=.ptr 100 true 0,new:=rB ((0+n3 y0 y1 y2)%aO) 7,wr:=nE (.aJ 64 false 0 0 ca) (.aJ 65 true 0 3 7) (ww y0 (ww y1 (ww y2 ys))) }:=by
 have hs:∀ h,aI Tryz.prog (env (Aw h) 22) 95 (aF (env (Aw h) 22) Tryz.f95 true [] 400):=fun h=>aM (bP _ 22) (bV _ (wG h) 22) mix Tryz.func95 (by kernel_rfl) true [] 400
 have hU:U y2:=by unfold U;omega
 have hz:(y2≠0)=True:=eq_true (by omega)
 have hW:0+n3 y0 y1 y2=n3 y0 y1 y2:=Int.zero_add _
 rw [hW]
 exact kB ((hs _).call (bEd ca xs y0 y1 y2 ys) (aA (by simp only [sh,bJ,fK,iL,hU,hz,and_true,true_and]))) rfl ⟨⟨rfl,fun _=>rfl⟩,⟨rfl,fun _=>rfl⟩,trivial⟩
open M in
theorem PG {ca:Nat} (lS:ca=6\/ca=7\/ca=8\/ca=9) (xs ys:List SV) {x0 y0 y1 y2:Int} (gK:U x0) (hN:x0<aO) (fK:U y0) (iL:U y1) (Hn:y2=1):aE Tryz.prog Γv 95 jP (fun l=>look l (tR (.aJ 64 false 0 1 ca) (.aJ 65 true 0 3 7) (ww x0 xs) (ww y0 (ww y1 (ww y2 ys))))) 100 100
 { val:=.ptr 100 true 0,new:=rB ((x0+n3 y0 y1 y2)%aO) 8,wr:=nE (.aJ 64 false 0 1 ca) (.aJ 65 true 0 3 7) (ww y0 (ww y1 (ww y2 ys))) }:=by
 have hs:∀ h,aI Tryz.prog (env (Aw h) 22) 95 (aF (env (Aw h) 22) Tryz.f95 true [] 400):=fun h=>aM (bP _ 22) (bV _ (wG h) 22) mix Tryz.func95 (by kernel_rfl) true [] 400
 have hU:U y2:=by unfold U;omega
 have:=gK.1;have:=gK.2;have:=fK.1;have:=fK.2;have:=iL.1;have:=iL.2
 have GA:x0<1361129467683753853853498429727072845819:=hN
 skip
 have ec0:c0 y0 x0=(y0+x0)/18446744073709551616:=by unfold c0 uh;omega
 by_cases Aj:(uh (y1+c0 y0 x0+0)==0)=true
 .have h1:uh (y1+c0 y0 x0+0)=0:=by simpa using Aj
  have h1:y1+c0 y0 x0<18446744073709551616:=by unfold uh at h1;omega
  have u0:U (g0 y0 x0):=by exact dW _
  have u1:U (ul (y1+c0 y0 x0+0)):=by exact dW _
  have u2:U (y2):=by exact hU
  have hW:n3 (g0 y0 x0) (ul (y1+c0 y0 x0+0)) (y2)=x0+n3 y0 y1 y2:=by unfold n3 g0;unfold ul;omega
  have hz:(y2≠0)=True:=eq_true (by intro e;rw [e] at hW;have:=u0.2;have:=u1.2;unfold n3 at hW;omega)
  have hn:nl [g0 y0 x0,ul (y1+c0 y0 x0+0),y2,0]=3:=by rw [nl4];simp only [nl,if_neg (of_eq_true hz)]
  have kc0:K (c0 y0 x0):=by unfold K;omega
  have vc0:U (c0 y0 x0):=by unfold U;omega
  rw [<- hW]
  exact kB ((hs _).call (bEc lS x0 xs y0 y1 y2 ys) (aA (by simp only [sh,bJ,gK,fK,iL,hU,u0,u1,u2,hz,hn,K0,kc0,vc0,Aj,and_true,true_and]))) rfl ⟨⟨rfl,fun _=>rfl⟩,⟨rfl,fun _=>rfl⟩,trivial⟩
 .have Aj:(uh (y1+c0 y0 x0+0)==0)=false:=by simpa using Aj
  have hm:(y2 != 18446744073709551615)=true:=by rw [Hn];decide
  have h1:uh (y1+c0 y0 x0+0)≠0:=by simpa using Aj
  have h1:y1+c0 y0 x0=18446744073709551616:=by unfold uh at h1;omega
  have u0:U (g0 y0 x0):=by exact dW _
  have u1:U (ul (y1+c0 y0 x0+0)):=by exact dW _
  have u2:U (IntKind.u64.wrap (y2+1)):=by rw [bT];exact dW _
  have hW:n3 (g0 y0 x0) (ul (y1+c0 y0 x0+0)) (IntKind.u64.wrap (y2+1))=x0+n3 y0 y1 y2:=by unfold n3 g0;rw [bT];unfold ul;omega
  have hz:(IntKind.u64.wrap (y2+1)≠0)=True:=eq_true (by intro e;rw [e] at hW;have:=u0.2;have:=u1.2;unfold n3 at hW;omega)
  have hn:nl [g0 y0 x0,ul (y1+c0 y0 x0+0),IntKind.u64.wrap (y2+1),0]=3:=by rw [nl4];simp only [nl,if_neg (of_eq_true hz)]
  have kc0:K (c0 y0 x0):=by unfold K;omega
  have vc0:U (c0 y0 x0):=by unfold U;omega
  rw [<- hW]
  exact kB ((hs _).call (aXe lS x0 xs y0 y1 y2 ys) (aA (by simp only [sh,bJ,gK,fK,iL,hU,u0,u1,u2,hz,hn,K0,kc0,vc0,Aj,hm,and_true,true_and]))) rfl ⟨⟨rfl,fun _=>rfl⟩,⟨rfl,fun _=>rfl⟩,trivial⟩
open M in
theorem PF {ca:Nat} (lS:ca=6\/ca=7\/ca=8\/ca=9) (xs ys:List SV) {x0 x1 y0 y1 y2:Int} (gK:U x0) (gM:U x1) (hN:(x0+18446744073709551616*x1)<aO) (fK:U y0) (iL:U y1) (Hn:y2=1):aE Tryz.prog Γv 95 jP (fun l=>look l (tR (.aJ 64 false 0 2 ca) (.aJ 65 true 0 3 7) (ww x0 (ww x1 xs)) (ww y0 (ww y1 (ww y2 ys))))) 100 100
 { val:=.ptr 100 true 0,new:=rB (((x0+18446744073709551616*x1)+n3 y0 y1 y2)%aO) 8,wr:=nE (.aJ 64 false 0 2 ca) (.aJ 65 true 0 3 7) (ww y0 (ww y1 (ww y2 ys))) }:=by
 have hs:∀ h,aI Tryz.prog (env (Aw h) 22) 95 (aF (env (Aw h) 22) Tryz.f95 true [] 400):=fun h=>aM (bP _ 22) (bV _ (wG h) 22) mix Tryz.func95 (by kernel_rfl) true [] 400
 have hU:U y2:=by unfold U;omega
 have:=gK.1;have:=gK.2;have:=gM.1;have:=gM.2;have:=fK.1;have:=fK.2;have:=iL.1;have:=iL.2
 have GA:(x0+18446744073709551616*x1)<1361129467683753853853498429727072845819:=hN
 skip
 have ec0:c0 y0 x0=(y0+x0)/18446744073709551616:=by unfold c0 uh;omega
 have ec1:c1 y0 y1 x0 x1=(y1+x1+c0 y0 x0)/18446744073709551616:=by unfold c1 uh;omega
 have Aj:(uh (y2+c1 y0 y1 x0 x1+0)==0)=true:=by rw [Hn];simp only [beq_iff_eq];unfold uh;omega
 have u0:U (g0 y0 x0):=by exact dW _
 have u1:U (g1 y0 y1 x0 x1):=by exact dW _
 have u2:U (ul (y2+c1 y0 y1 x0 x1+0)):=by exact dW _
 have hW:n3 (g0 y0 x0) (g1 y0 y1 x0 x1) (ul (y2+c1 y0 y1 x0 x1+0))=(x0+18446744073709551616*x1)+n3 y0 y1 y2:=by unfold n3 g0 g1;unfold ul;omega
 have hz:(ul (y2+c1 y0 y1 x0 x1+0)≠0)=True:=eq_true (by intro e;rw [e] at hW;have:=u0.2;have:=u1.2;unfold n3 at hW;omega)
 have hn:nl [g0 y0 x0,g1 y0 y1 x0 x1,ul (y2+c1 y0 y1 x0 x1+0),0]=3:=by rw [nl4];simp only [nl,if_neg (of_eq_true hz)]
 have kc0:K (c0 y0 x0):=by unfold K;omega
 have vc0:U (c0 y0 x0):=by unfold U;omega
 have kc1:K (c1 y0 y1 x0 x1):=by unfold K;omega
 have vc1:U (c1 y0 y1 x0 x1):=by unfold U;omega
 rw [<- hW]
 exact kB ((hs _).call (bEb lS x0 x1 xs y0 y1 y2 ys) (aA (by simp only [sh,bJ,gK,gM,fK,iL,hU,u0,u1,u2,hz,hn,K0,kc0,kc1,vc0,vc1,Aj,and_true,true_and]))) rfl ⟨⟨rfl,fun _=>rfl⟩,⟨rfl,fun _=>rfl⟩,trivial⟩
open M in
theorem PE {ca:Nat} (lS:ca=6\/ca=7\/ca=8\/ca=9) (xs ys:List SV) {x0 x1 x2 y0 y1 y2:Int} (gK:U x0) (gM:U x1) (nX:U x2) (hN:n3 x0 x1 x2<aO) (fK:U y0) (iL:U y1) (Hn:y2=1):aE Tryz.prog Γv 95 jP (fun l=>look l (tR (.aJ 64 false 0 3 ca) (.aJ 65 true 0 3 7) (ww x0 (ww x1 (ww x2 xs))) (ww y0 (ww y1 (ww y2 ys))))) 100 100
 { val:=.ptr 100 true 0,new:=rB ((n3 x0 x1 x2+n3 y0 y1 y2)%aO) 8,wr:=nE (.aJ 64 false 0 3 ca) (.aJ 65 true 0 3 7) (ww y0 (ww y1 (ww y2 ys))) }:=by
 have hs:∀ h,aI Tryz.prog (env (Aw h) 22) 95 (aF (env (Aw h) 22) Tryz.f95 true [] 400):=fun h=>aM (bP _ 22) (bV _ (wG h) 22) mix Tryz.func95 (by kernel_rfl) true [] 400
 have hU:U y2:=by unfold U;omega
 have:=gK.1;have:=gK.2;have:=gM.1;have:=gM.2;have:=nX.1;have:=nX.2;have:=fK.1;have:=fK.2;have:=iL.1;have:=iL.2
 have GA:n3 x0 x1 x2<1361129467683753853853498429727072845819:=hN
 unfold n3 at GA
 have ec0:c0 x0 y0=(x0+y0)/18446744073709551616:=by unfold c0 uh;omega
 have ec1:c1 x0 x1 y0 y1=(x1+y1+c0 x0 y0)/18446744073709551616:=by unfold c1 uh;omega
 have ec2:c2 x0 x1 x2 y0 y1 y2=(x2+y2+c1 x0 x1 y0 y1)/18446744073709551616:=by unfold c2 uh;omega
 have Aj:c2 x0 x1 x2 y0 y1 y2=0:=by omega
 have u0:U (g0 x0 y0):=by exact dW _
 have u1:U (g1 x0 x1 y0 y1):=by exact dW _
 have u2:U (g2 x0 x1 x2 y0 y1 y2):=by exact dW _
 have hW:n3 (g0 x0 y0) (g1 x0 x1 y0 y1) (g2 x0 x1 x2 y0 y1 y2)=n3 x0 x1 x2+n3 y0 y1 y2:=by unfold n3 g0 g1 g2;unfold ul;omega
 have hz:(g2 x0 x1 x2 y0 y1 y2≠0)=True:=eq_true (by intro e;rw [e] at hW;have:=u0.2;have:=u1.2;unfold n3 at hW;omega)
 have hn:nl [g0 x0 y0,g1 x0 x1 y0 y1,g2 x0 x1 x2 y0 y1 y2,0]=3:=by rw [nl4];simp only [nl,if_neg (of_eq_true hz)]
 have kc0:K (c0 x0 y0):=by unfold K;omega
 have vc0:U (c0 x0 y0):=by unfold U;omega
 have kc1:K (c1 x0 x1 y0 y1):=by unfold K;omega
 have vc1:U (c1 x0 x1 y0 y1):=by unfold U;omega
 rw [<- hW]
 exact kB ((hs _).call (bEa lS x0 x1 x2 xs y0 y1 y2 ys) (aA (by simp only [sh,bJ,gK,gM,nX,fK,iL,hU,u0,u1,u2,hz,hn,K0,kc0,kc1,vc0,vc1,Aj,and_true,true_and]))) rfl ⟨⟨rfl,fun _=>rfl⟩,⟨rfl,fun _=>rfl⟩,trivial⟩
def nB:List SB:=[.own [.bool true false,.raw (.slice none 0 0)] 146]
theorem pC (h:Bool) (iq ir:Nat):aI Tryz.prog (env (XT h iq ir) 22) 97 (aF (env (XT h iq ir) 22) Tryz.f97 true [] 400):=aM (bP _ 22) (bV _ (aEx h iq ir) 22) mix Tryz.func97 (by kernel_rfl) true [] 400
theorem DG (ca ct:Nat) (xs ys:List SV):aE Tryz.prog Γv 97 jP (fun l=>look l (tR (.aJ 64 false 0 0 ca) (.aJ 65 false 0 0 ct) xs ys)) 100 100
 { val:=.ptr 100 true 0,new:=nB,wr:=nE (.aJ 64 false 0 0 ca) (.aJ 65 false 0 0 ct) ys }:=
 uR ((((((pC true 0 0).call (aEd ca ct  xs ys) (by simp)).bF 61 _ rfl (by decide)).bF 63 _ rfl (by decide)).bF 65 _ rfl (by decide)).re rfl (fun _=>rfl) ⟨⟨rfl,fun _=>rfl⟩,trivial⟩ ⟨rfl,⟨rfl,fun _=>rfl⟩,rfl,⟨rfl,fun _=>rfl⟩,rfl,⟨rfl,fun _=>rfl⟩,rfl,⟨rfl,fun _=>rfl⟩,rfl,⟨rfl,fun _=>rfl⟩,trivial⟩)
theorem DF (ca ct:Nat) (y0:Int) (xs ys:List SV):aE Tryz.prog Γv 97 jP (fun l=>look l (tR (.aJ 64 false 0 0 ca) (.aJ 65 false 0 1 ct) xs (ww y0 ys))) 100 100
 { val:=.ptr 100 true 0,new:=nB,wr:=nE (.aJ 64 false 0 0 ca) (.aJ 65 false 0 1 ct) (ww y0 ys) }:=
 uR ((((((pC true 0 0).call (aEc ca ct y0 xs ys) (by simp)).bF 61 _ rfl (by decide)).bF 63 _ rfl (by decide)).bF 65 _ rfl (by decide)).re rfl (fun _=>rfl) ⟨⟨rfl,fun _=>rfl⟩,trivial⟩ ⟨rfl,⟨rfl,fun _=>rfl⟩,rfl,⟨rfl,fun _=>rfl⟩,rfl,⟨rfl,fun _=>rfl⟩,rfl,⟨rfl,fun _=>rfl⟩,rfl,⟨rfl,fun _=>rfl⟩,trivial⟩)
theorem DE (ca ct:Nat) (y0 y1:Int) (xs ys:List SV):aE Tryz.prog Γv 97 jP (fun l=>look l (tR (.aJ 64 false 0 0 ca) (.aJ 65 false 0 2 ct) xs (ww y0 (ww y1 ys)))) 100 100
 { val:=.ptr 100 true 0,new:=nB,wr:=nE (.aJ 64 false 0 0 ca) (.aJ 65 false 0 2 ct) (ww y0 (ww y1 ys)) }:=
 uR ((((((pC true 0 0).call (aEb ca ct y0 y1 xs ys) (by simp)).bF 61 _ rfl (by decide)).bF 63 _ rfl (by decide)).bF 65 _ rfl (by decide)).re rfl (fun _=>rfl) ⟨⟨rfl,fun _=>rfl⟩,trivial⟩ ⟨rfl,⟨rfl,fun _=>rfl⟩,rfl,⟨rfl,fun _=>rfl⟩,rfl,⟨rfl,fun _=>rfl⟩,rfl,⟨rfl,fun _=>rfl⟩,rfl,⟨rfl,fun _=>rfl⟩,trivial⟩)
theorem DC (ca ct:Nat) (x0:Int) (xs ys:List SV):aE Tryz.prog Γv 97 jP (fun l=>look l (tR (.aJ 64 false 0 1 ca) (.aJ 65 false 0 0 ct) (ww x0 xs) ys)) 100 100
 { val:=.ptr 100 true 0,new:=nB,wr:=nE (.aJ 64 false 0 1 ca) (.aJ 65 false 0 0 ct) ys }:=
 uR ((((((pC true 0 0).call (aEa ca ct x0 xs ys) (by simp)).bF 61 _ rfl (by decide)).bF 63 _ rfl (by decide)).bF 65 _ rfl (by decide)).re rfl (fun _=>rfl) ⟨⟨rfl,fun _=>rfl⟩,trivial⟩ ⟨rfl,⟨rfl,fun _=>rfl⟩,rfl,⟨rfl,fun _=>rfl⟩,rfl,⟨rfl,fun _=>rfl⟩,rfl,⟨rfl,fun _=>rfl⟩,rfl,⟨rfl,fun _=>rfl⟩,trivial⟩)
theorem CZ (ca ct:Nat) (x0 x1:Int) (xs ys:List SV):aE Tryz.prog Γv 97 jP (fun l=>look l (tR (.aJ 64 false 0 2 ca) (.aJ 65 false 0 0 ct) (ww x0 (ww x1 xs)) ys)) 100 100
 { val:=.ptr 100 true 0,new:=nB,wr:=nE (.aJ 64 false 0 2 ca) (.aJ 65 false 0 0 ct) ys }:=
 uR ((((((pC true 0 0).call (aDv ca ct x0 x1 xs ys) (by simp)).bF 61 _ rfl (by decide)).bF 63 _ rfl (by decide)).bF 65 _ rfl (by decide)).re rfl (fun _=>rfl) ⟨⟨rfl,fun _=>rfl⟩,trivial⟩ ⟨rfl,⟨rfl,fun _=>rfl⟩,rfl,⟨rfl,fun _=>rfl⟩,rfl,⟨rfl,fun _=>rfl⟩,rfl,⟨rfl,fun _=>rfl⟩,rfl,⟨rfl,fun _=>rfl⟩,trivial⟩)
theorem CW (ca ct:Nat) (x0 x1 x2:Int) (xs ys:List SV):aE Tryz.prog Γv 97 jP (fun l=>look l (tR (.aJ 64 false 0 3 ca) (.aJ 65 false 0 0 ct) (ww x0 (ww x1 (ww x2 xs))) ys)) 100 100
 { val:=.ptr 100 true 0,new:=nB,wr:=nE (.aJ 64 false 0 3 ca) (.aJ 65 false 0 0 ct) ys }:=
 uR ((((((pC true 0 0).call (aDq ca ct x0 x1 x2 xs ys) (by simp)).bF 61 _ rfl (by decide)).bF 63 _ rfl (by decide)).bF 65 _ rfl (by decide)).re rfl (fun _=>rfl) ⟨⟨rfl,fun _=>rfl⟩,trivial⟩ ⟨rfl,⟨rfl,fun _=>rfl⟩,rfl,⟨rfl,fun _=>rfl⟩,rfl,⟨rfl,fun _=>rfl⟩,rfl,⟨rfl,fun _=>rfl⟩,rfl,⟨rfl,fun _=>rfl⟩,trivial⟩)
open M in
set_option maxHeartbeats 1000000 in
theorem DB (ca ct:Nat) (xs ys:List SV) {x0 y0:Int} (gK:U x0) (fK:U y0) (hzx:x0≠0) (ES:y0≠0) (hN:x0<aO) (hT:y0<21267647932558653966460912964485513216):aE Tryz.prog Γv 97 jP (fun l=>look l (tR (.aJ 64 false 0 1 ca) (.aJ 65 false 0 1 ct) (ww x0 xs) (ww y0 ys))) 100 100
 { val:=.ptr 100 true 0,new:=rB ((x0*y0)%aO) 6,wr:=nE (.aJ 64 false 0 1 ca) (.aJ 65 false 0 1 ct) (ww y0 ys) }:=by
 have:=gK.1;have:=gK.2;have:=fK.1;have:=fK.2
 have GA:x0<1361129467683753853853498429727072845819:=hN
 have Cz:1<=x0:=by omega
 have Cy:1<=y0:=by omega
 have pA:1<=x0*y0:=Int.le_trans (by decide) (Int.mul_le_mul Cz Cy (by decide) (by omega))
 have Rm:x0*y0<=1361129467683753853853498429727072845818*21267647932558653966460912964485513215:=Int.mul_le_mul (by omega) (by omega) (by omega) (by decide)
 have hE:x0*y0=x0*y0:=by grind
 have q0:=nJ (x0*y0+0)
 have m0:=eR gK fK
 have Mm:U (uh (x0*y0+0)):=Cq gK fK U0
 have ul0:U (ul (x0*y0+0)):=dW _
 have hb:(y0==0)=false:=by simpa using ES
 have hS:ul (x0*y0+0)+18446744073709551616*uh (x0*y0+0)=x0*y0:=by
  rw [hE]
  skip
  generalize x0*y0=z0 at *
  omega
 have Rh:U (ul (x0*y0+0))/\U (uh (x0*y0+0)):=by refine ⟨?_,?_⟩ <;> first | exact U0 | assumption | exact dW _
 obtain ⟨Ce,Cd⟩:=Rh
 have:=Ce.1;have:=Ce.2;have:=Cd.1;have:=Cd.2
 by_cases ht:uh (x0*y0+0)=0
 .have hz:(ul (x0*y0+0)≠0)=True:=eq_true (by intro e;rw [e,ht] at hS;clear hE;generalize x0*y0=zz at hS pA Rm;omega)
  have hn:nl [ul (x0*y0+0),0]=1:=(gQ [ul (x0*y0+0)]).trans (by simp only [nl,if_neg (of_eq_true hz)])
  rw [ht,Int.mul_zero,Int.add_zero] at hS
  rw [<- hS]
  exact kB ((pC true 1 0).call (aDz ca ct x0 y0 xs ys) (aA (by simp only [sh,bJ,gK,fK,U0,K0,dW,Mm,hb,ht,hz,hn,and_true,true_and]))) rfl ⟨⟨rfl,fun _=>rfl⟩,⟨rfl,fun _=>rfl⟩,trivial⟩
 .have hz:(uh (x0*y0+0)≠0)=True:=eq_true ht
  have hn:nl [ul (x0*y0+0),uh (x0*y0+0)]=2:=by simp only [nl,if_neg ht]
  rw [<- hS]
  exact kB ((pC true 2 0).call (aDy ca ct x0 y0 xs ys) (aA (by simp only [sh,bJ,gK,fK,U0,K0,dW,Mm,hb,hz,hn,and_true,true_and]))) rfl ⟨⟨rfl,fun _=>rfl⟩,⟨rfl,fun _=>rfl⟩,trivial⟩
open M in
set_option maxHeartbeats 1000000 in
theorem DA (ca ct:Nat) (xs ys:List SV) {x0 y0 y1:Int} (gK:U x0) (fK:U y0) (iL:U y1) (hzx:x0≠0) (ES:y1≠0) (hN:x0<aO) (hT:(y0+18446744073709551616*y1)<21267647932558653966460912964485513216):aE Tryz.prog Γv 97 jP (fun l=>look l (tR (.aJ 64 false 0 1 ca) (.aJ 65 false 0 2 ct) (ww x0 xs) (ww y0 (ww y1 ys)))) 100 100
 { val:=.ptr 100 true 0,new:=rB ((x0*(y0+18446744073709551616*y1))%aO) 7,wr:=nE (.aJ 64 false 0 1 ca) (.aJ 65 false 0 2 ct) (ww y0 (ww y1 ys)) }:=by
 have:=gK.1;have:=gK.2;have:=fK.1;have:=fK.2;have:=iL.1;have:=iL.2
 have GA:x0<1361129467683753853853498429727072845819:=hN
 have Cz:1<=x0:=by omega
 have Cy:18446744073709551616<=(y0+18446744073709551616*y1):=by omega
 have pA:18446744073709551616<=x0*(y0+18446744073709551616*y1):=Int.le_trans (by decide) (Int.mul_le_mul Cz Cy (by decide) (by omega))
 have Rm:x0*(y0+18446744073709551616*y1)<=1361129467683753853853498429727072845818*21267647932558653966460912964485513215:=Int.mul_le_mul (by omega) (by omega) (by omega) (by decide)
 have hE:x0*(y0+18446744073709551616*y1)=y0*x0+18446744073709551616*(y1*x0):=by grind
 have q0:=nJ (y0*x0+0)
 have m0:=eR fK gK
 have Mm:U (uh (y0*x0+0)):=Cq fK gK U0
 have ul0:U (ul (y0*x0+0)):=dW _
 have q1:=nJ (y1*x0+uh (y0*x0+0))
 have m1:=eR iL gK
 have UY:U (uh (y1*x0+uh (y0*x0+0))):=Cq iL gK Mm
 have ul1:U (ul (y1*x0+uh (y0*x0+0))):=dW _
 have hb:(x0==0)=false:=by simpa using hzx
 have hS:n3 (ul (y0*x0+0)) (ul (y1*x0+uh (y0*x0+0))) (uh (y1*x0+uh (y0*x0+0)))=x0*(y0+18446744073709551616*y1):=by
  rw [hE]
  unfold n3
  generalize y0*x0=z0 at *
  generalize y1*x0=z1 at *
  omega
 have Rh:U (ul (y0*x0+0))/\U (ul (y1*x0+uh (y0*x0+0)))/\U (uh (y1*x0+uh (y0*x0+0))):=by refine ⟨?_,?_,?_⟩ <;> first | exact U0 | assumption | exact dW _
 obtain ⟨Ce,Cd,Hl⟩:=Rh
 have:=Ce.1;have:=Ce.2;have:=Cd.1;have:=Cd.2;have:=Hl.1;have:=Hl.2
 by_cases ht:uh (y1*x0+uh (y0*x0+0))=0
 .have hz:(ul (y1*x0+uh (y0*x0+0))≠0)=True:=eq_true (by intro e;rw [e,ht] at hS;clear hE;unfold n3 at hS;generalize x0*(y0+18446744073709551616*y1)=zz at hS pA Rm;omega)
  have hn:nl [ul (y0*x0+0),ul (y1*x0+uh (y0*x0+0)),0]=2:=(gQ [ul (y0*x0+0),ul (y1*x0+uh (y0*x0+0))]).trans (by simp only [nl,if_neg (of_eq_true hz)])
  have hS:ul (y0*x0+0)+18446744073709551616*ul (y1*x0+uh (y0*x0+0))=x0*(y0+18446744073709551616*y1):=by rw [<- hS,ht];unfold n3;omega
  rw [<- hS]
  exact kB ((pC true 0 2).call (aDx ca ct x0 y0 y1 xs ys) (aA (by simp only [sh,bJ,gK,fK,iL,U0,K0,dW,Mm,UY,hb,ht,hz,hn,and_true,true_and]))) rfl ⟨⟨rfl,fun _=>rfl⟩,⟨rfl,fun _=>rfl⟩,trivial⟩
 .have hz:(uh (y1*x0+uh (y0*x0+0))≠0)=True:=eq_true ht
  have hn:nl [ul (y0*x0+0),ul (y1*x0+uh (y0*x0+0)),uh (y1*x0+uh (y0*x0+0))]=3:=by simp only [nl,if_neg ht]
  rw [<- hS]
  exact kB ((pC true 0 3).call (aDw ca ct x0 y0 y1 xs ys) (aA (by simp only [sh,bJ,gK,fK,iL,U0,K0,dW,Mm,UY,hb,hz,hn,and_true,true_and]))) rfl ⟨⟨rfl,fun _=>rfl⟩,⟨rfl,fun _=>rfl⟩,trivial⟩
open M in
set_option maxHeartbeats 1000000 in
theorem CY (ca ct:Nat) (xs ys:List SV) {x0 x1 y0:Int} (gK:U x0) (gM:U x1) (fK:U y0) (hzx:x1≠0) (ES:y0≠0) (hN:(x0+18446744073709551616*x1)<aO) (hT:y0<21267647932558653966460912964485513216):aE Tryz.prog Γv 97 jP (fun l=>look l (tR (.aJ 64 false 0 2 ca) (.aJ 65 false 0 1 ct) (ww x0 (ww x1 xs)) (ww y0 ys))) 100 100
 { val:=.ptr 100 true 0,new:=rB (((x0+18446744073709551616*x1)*y0)%aO) 7,wr:=nE (.aJ 64 false 0 2 ca) (.aJ 65 false 0 1 ct) (ww y0 ys) }:=by
 have:=gK.1;have:=gK.2;have:=gM.1;have:=gM.2;have:=fK.1;have:=fK.2
 have GA:(x0+18446744073709551616*x1)<1361129467683753853853498429727072845819:=hN
 have Cz:18446744073709551616<=(x0+18446744073709551616*x1):=by omega
 have Cy:1<=y0:=by omega
 have pA:18446744073709551616<=(x0+18446744073709551616*x1)*y0:=Int.le_trans (by decide) (Int.mul_le_mul Cz Cy (by decide) (by omega))
 have Rm:(x0+18446744073709551616*x1)*y0<=1361129467683753853853498429727072845818*21267647932558653966460912964485513215:=Int.mul_le_mul (by omega) (by omega) (by omega) (by decide)
 have hE:(x0+18446744073709551616*x1)*y0=x0*y0+18446744073709551616*(x1*y0):=by grind
 have q0:=nJ (x0*y0+0)
 have m0:=eR gK fK
 have Mm:U (uh (x0*y0+0)):=Cq gK fK U0
 have ul0:U (ul (x0*y0+0)):=dW _
 have q1:=nJ (x1*y0+uh (x0*y0+0))
 have m1:=eR gM fK
 have UY:U (uh (x1*y0+uh (x0*y0+0))):=Cq gM fK Mm
 have ul1:U (ul (x1*y0+uh (x0*y0+0))):=dW _
 have hb:(y0==0)=false:=by simpa using ES
 have hS:n3 (ul (x0*y0+0)) (ul (x1*y0+uh (x0*y0+0))) (uh (x1*y0+uh (x0*y0+0)))=(x0+18446744073709551616*x1)*y0:=by
  rw [hE]
  unfold n3
  generalize x0*y0=z0 at *
  generalize x1*y0=z1 at *
  omega
 have Rh:U (ul (x0*y0+0))/\U (ul (x1*y0+uh (x0*y0+0)))/\U (uh (x1*y0+uh (x0*y0+0))):=by refine ⟨?_,?_,?_⟩ <;> first | exact U0 | assumption | exact dW _
 obtain ⟨Ce,Cd,Hl⟩:=Rh
 have:=Ce.1;have:=Ce.2;have:=Cd.1;have:=Cd.2;have:=Hl.1;have:=Hl.2
 by_cases ht:uh (x1*y0+uh (x0*y0+0))=0
 .have hz:(ul (x1*y0+uh (x0*y0+0))≠0)=True:=eq_true (by intro e;rw [e,ht] at hS;clear hE;unfold n3 at hS;generalize (x0+18446744073709551616*x1)*y0=zz at hS pA Rm;omega)
  have hn:nl [ul (x0*y0+0),ul (x1*y0+uh (x0*y0+0)),0]=2:=(gQ [ul (x0*y0+0),ul (x1*y0+uh (x0*y0+0))]).trans (by simp only [nl,if_neg (of_eq_true hz)])
  have hS:ul (x0*y0+0)+18446744073709551616*ul (x1*y0+uh (x0*y0+0))=(x0+18446744073709551616*x1)*y0:=by rw [<- hS,ht];unfold n3;omega
  rw [<- hS]
  exact kB ((pC true 0 2).call (aDu ca ct x0 x1 y0 xs ys) (aA (by simp only [sh,bJ,gK,gM,fK,U0,K0,dW,Mm,UY,hb,ht,hz,hn,and_true,true_and]))) rfl ⟨⟨rfl,fun _=>rfl⟩,⟨rfl,fun _=>rfl⟩,trivial⟩
 .have hz:(uh (x1*y0+uh (x0*y0+0))≠0)=True:=eq_true ht
  have hn:nl [ul (x0*y0+0),ul (x1*y0+uh (x0*y0+0)),uh (x1*y0+uh (x0*y0+0))]=3:=by simp only [nl,if_neg ht]
  rw [<- hS]
  exact kB ((pC true 0 3).call (aDt ca ct x0 x1 y0 xs ys) (aA (by simp only [sh,bJ,gK,gM,fK,U0,K0,dW,Mm,UY,hb,hz,hn,and_true,true_and]))) rfl ⟨⟨rfl,fun _=>rfl⟩,⟨rfl,fun _=>rfl⟩,trivial⟩
open M in
set_option maxHeartbeats 1000000 in
theorem CV (ca ct:Nat) (xs ys:List SV) {x0 x1 x2 y0:Int} (gK:U x0) (gM:U x1) (nX:U x2) (fK:U y0) (hzx:x2≠0) (ES:y0≠0) (hN:n3 x0 x1 x2<aO) (hT:y0<21267647932558653966460912964485513216):aE Tryz.prog Γv 97 jP (fun l=>look l (tR (.aJ 64 false 0 3 ca) (.aJ 65 false 0 1 ct) (ww x0 (ww x1 (ww x2 xs))) (ww y0 ys))) 100 100
 { val:=.ptr 100 true 0,new:=rB ((n3 x0 x1 x2*y0)%aO) 8,wr:=nE (.aJ 64 false 0 3 ca) (.aJ 65 false 0 1 ct) (ww y0 ys) }:=by
 have:=gK.1;have:=gK.2;have:=gM.1;have:=gM.2;have:=nX.1;have:=nX.2;have:=fK.1;have:=fK.2
 have GA:n3 x0 x1 x2<1361129467683753853853498429727072845819:=hN
 have Cz:340282366920938463463374607431768211456<=n3 x0 x1 x2:=by unfold n3;omega
 have Cy:1<=y0:=by omega
 have pA:340282366920938463463374607431768211456<=n3 x0 x1 x2*y0:=Int.le_trans (by decide) (Int.mul_le_mul Cz Cy (by decide) (by omega))
 have Rm:n3 x0 x1 x2*y0<=1361129467683753853853498429727072845818*21267647932558653966460912964485513215:=Int.mul_le_mul (by omega) (by omega) (by omega) (by decide)
 have hE:n3 x0 x1 x2*y0=x0*y0+18446744073709551616*(x1*y0)+340282366920938463463374607431768211456*(x2*y0):=by unfold n3;grind
 have q0:=nJ (x0*y0+0)
 have m0:=eR gK fK
 have Mm:U (uh (x0*y0+0)):=Cq gK fK U0
 have ul0:U (ul (x0*y0+0)):=dW _
 have q1:=nJ (x1*y0+uh (x0*y0+0))
 have m1:=eR gM fK
 have UY:U (uh (x1*y0+uh (x0*y0+0))):=Cq gM fK Mm
 have ul1:U (ul (x1*y0+uh (x0*y0+0))):=dW _
 have q2:=nJ (x2*y0+uh (x1*y0+uh (x0*y0+0)))
 have m2:=eR nX fK
 have uh2:U (uh (x2*y0+uh (x1*y0+uh (x0*y0+0)))):=Cq nX fK UY
 have ul2:U (ul (x2*y0+uh (x1*y0+uh (x0*y0+0)))):=dW _
 have hb:(y0==0)=false:=by simpa using ES
 have hS:n4 (ul (x0*y0+0)) (ul (x1*y0+uh (x0*y0+0))) (ul (x2*y0+uh (x1*y0+uh (x0*y0+0)))) (uh (x2*y0+uh (x1*y0+uh (x0*y0+0))))=n3 x0 x1 x2*y0:=by
  rw [hE]
  unfold n4
  generalize x0*y0=z0 at *
  generalize x1*y0=z1 at *
  generalize x2*y0=z2 at *
  omega
 have Rh:U (ul (x0*y0+0))/\U (ul (x1*y0+uh (x0*y0+0)))/\U (ul (x2*y0+uh (x1*y0+uh (x0*y0+0))))/\U (uh (x2*y0+uh (x1*y0+uh (x0*y0+0)))):=by refine ⟨?_,?_,?_,?_⟩ <;> first | exact U0 | assumption | exact dW _
 obtain ⟨Ce,Cd,Hl,Wm⟩:=Rh
 have:=Ce.1;have:=Ce.2;have:=Cd.1;have:=Cd.2;have:=Hl.1;have:=Hl.2;have:=Wm.1;have:=Wm.2
 by_cases ht:uh (x2*y0+uh (x1*y0+uh (x0*y0+0)))=0
 .have hz:(ul (x2*y0+uh (x1*y0+uh (x0*y0+0)))≠0)=True:=eq_true (by intro e;rw [e,ht] at hS;clear hE;unfold n4 at hS;generalize n3 x0 x1 x2*y0=zz at hS pA Rm;omega)
  have hn:nl [ul (x0*y0+0),ul (x1*y0+uh (x0*y0+0)),ul (x2*y0+uh (x1*y0+uh (x0*y0+0))),0]=3:=(gQ [ul (x0*y0+0),ul (x1*y0+uh (x0*y0+0)),ul (x2*y0+uh (x1*y0+uh (x0*y0+0)))]).trans (by simp only [nl,if_neg (of_eq_true hz)])
  have hS:n3 (ul (x0*y0+0)) (ul (x1*y0+uh (x0*y0+0))) (ul (x2*y0+uh (x1*y0+uh (x0*y0+0))))=n3 x0 x1 x2*y0:=by rw [<- hS,ht];unfold n4 n3;omega
  rw [<- hS]
  exact kB ((pC true 0 3).call (aDp ca ct x0 x1 x2 y0 xs ys) (aA (by simp only [sh,bJ,gK,gM,nX,fK,U0,K0,dW,Mm,UY,uh2,hb,ht,hz,hn,and_true,true_and]))) rfl ⟨⟨rfl,fun _=>rfl⟩,⟨rfl,fun _=>rfl⟩,trivial⟩
 .have hz:(uh (x2*y0+uh (x1*y0+uh (x0*y0+0)))≠0)=True:=eq_true ht
  have hn:nl [ul (x0*y0+0),ul (x1*y0+uh (x0*y0+0)),ul (x2*y0+uh (x1*y0+uh (x0*y0+0))),uh (x2*y0+uh (x1*y0+uh (x0*y0+0)))]=4:=by simp only [nl,if_neg ht]
  rw [<- hS]
  exact kB ((pC true 0 4).call (aDo ca ct x0 x1 x2 y0 xs ys) (aA (by simp only [sh,bJ,gK,gM,nX,fK,U0,K0,dW,Mm,UY,uh2,hb,hz,hn,and_true,true_and]))) rfl ⟨⟨rfl,fun _=>rfl⟩,⟨rfl,fun _=>rfl⟩,trivial⟩
open M in
set_option maxHeartbeats 1000000 in
theorem CX (ca ct:Nat) (xs ys:List SV) {x0 x1 y0 y1:Int} (gK:U x0) (gM:U x1) (fK:U y0) (iL:U y1) (hzx:x1≠0) (ES:y1≠0) (hN:(x0+18446744073709551616*x1)<aO) (hT:(y0+18446744073709551616*y1)<21267647932558653966460912964485513216):aE Tryz.prog Γv 97 jP (fun l=>look l (tR (.aJ 64 false 0 2 ca) (.aJ 65 false 0 2 ct) (ww x0 (ww x1 xs)) (ww y0 (ww y1 ys)))) 100 100
 { val:=.ptr 100 true 0,new:=rB (((x0+18446744073709551616*x1)*(y0+18446744073709551616*y1))%aO) 8,wr:=nE (.aJ 64 false 0 2 ca) (.aJ 65 false 0 2 ct) (ww y0 (ww y1 ys)) }:=by
 have:=gK.1;have:=gK.2;have:=gM.1;have:=gM.2;have:=fK.1;have:=fK.2;have:=iL.1;have:=iL.2
 have GA:(x0+18446744073709551616*x1)<1361129467683753853853498429727072845819:=hN
 have Cz:18446744073709551616<=(x0+18446744073709551616*x1):=by omega
 have Cy:18446744073709551616<=(y0+18446744073709551616*y1):=by omega
 have pA:340282366920938463463374607431768211456<=(x0+18446744073709551616*x1)*(y0+18446744073709551616*y1):=Int.le_trans (by decide) (Int.mul_le_mul Cz Cy (by decide) (by omega))
 have Rm:(x0+18446744073709551616*x1)*(y0+18446744073709551616*y1)<=1361129467683753853853498429727072845818*21267647932558653966460912964485513215:=Int.mul_le_mul (by omega) (by omega) (by omega) (by decide)
 have hE:(x0+18446744073709551616*x1)*(y0+18446744073709551616*y1)=x0*y0+18446744073709551616*(x0*y1)+18446744073709551616*(x1*y0)+340282366920938463463374607431768211456*(x1*y1):=by grind
 cases GM:(y0 != 0) with
 | false=>
   have FK:=eR gK iL
   obtain ⟨qa0,Jw,yG⟩:q0 x0 y1+18446744073709551616*k0 x0 y1=x0*y1+0+0/\U (q0 x0 y1)/\U (k0 x0 y1):=nK FK.1 FK.2 U0 U0
   have FJ:=eR gM iL
   obtain ⟨qa1,Cp,Am⟩:q1 x0 x1 y1+18446744073709551616*k1 x0 x1 y1=x1*y1+0+k0 x0 y1/\U (q1 x0 x1 y1)/\U (k1 x0 x1 y1):=nK FJ.1 FJ.2 U0 yG
   have hb:(y0 != 0)=false:=by simpa using GM
   have y00:y0=0:=by simpa using hb
   have rH:(y1 != 0)=true:=by simpa using ES
   rw [y00] at hE
   simp only [Int.mul_zero,Int.zero_add,Int.add_zero] at hE
   have hS:n4 0 (q0 x0 y1) (q1 x0 x1 y1) (k1 x0 x1 y1)=(x0+18446744073709551616*x1)*(y0+18446744073709551616*y1):=by
    rw [y00,Int.zero_add,hE]
    unfold n4
    generalize x0*y1=z0 at *
    generalize x1*y1=z1 at *
    omega
   have Rh:U (0)/\U (q0 x0 y1)/\U (q1 x0 x1 y1)/\U (k1 x0 x1 y1):=by refine ⟨?_,?_,?_,?_⟩ <;> first | exact U0 | assumption | exact dW _
   obtain ⟨Ce,Cd,Hl,Wm⟩:=Rh
   have:=Ce.1;have:=Ce.2;have:=Cd.1;have:=Cd.2;have:=Hl.1;have:=Hl.2;have:=Wm.1;have:=Wm.2
   by_cases ht:k1 x0 x1 y1=0
   .have hz:(q1 x0 x1 y1≠0)=True:=eq_true (by intro e;rw [e,ht] at hS;clear hE;unfold n4 at hS;generalize (x0+18446744073709551616*x1)*(y0+18446744073709551616*y1)=zz at hS pA Rm;omega)
    have hn:nl [0,q0 x0 y1,q1 x0 x1 y1,0]=3:=(gQ [0,q0 x0 y1,q1 x0 x1 y1]).trans (by simp only [nl,if_neg (of_eq_true hz)])
    have hS:n3 0 (q0 x0 y1) (q1 x0 x1 y1)=(x0+18446744073709551616*x1)*(y0+18446744073709551616*y1):=by rw [<- hS,ht];unfold n4 n3;omega
    rw [<- hS]
    exact kB ((pC false 0 3).call (PC ca ct x0 x1 y0 y1 xs ys) (aA (by simp only [sh,bJ,gK,gM,fK,iL,U0,K0,dW,Jw,yG,Cp,Am,hb,rH,ht,hz,hn,and_true,true_and]))) rfl ⟨⟨rfl,fun _=>rfl⟩,⟨rfl,fun _=>rfl⟩,trivial⟩
   .have hz:(k1 x0 x1 y1≠0)=True:=eq_true ht
    have hn:nl [0,q0 x0 y1,q1 x0 x1 y1,k1 x0 x1 y1]=4:=by simp only [nl,if_neg ht]
    rw [<- hS]
    exact kB ((pC false 0 4).call (PB ca ct x0 x1 y0 y1 xs ys) (aA (by simp only [sh,bJ,gK,gM,fK,iL,U0,K0,dW,Jw,yG,Cp,Am,hb,rH,hz,hn,and_true,true_and]))) rfl ⟨⟨rfl,fun _=>rfl⟩,⟨rfl,fun _=>rfl⟩,trivial⟩
 | true=>
   have FK:=eR gK fK
   obtain ⟨qa0,Jw,yG⟩:q0 x0 y0+18446744073709551616*k0 x0 y0=x0*y0+0+0/\U (q0 x0 y0)/\U (k0 x0 y0):=nK FK.1 FK.2 U0 U0
   have FJ:=eR gM fK
   obtain ⟨qa1,Cp,Am⟩:q1 x0 x1 y0+18446744073709551616*k1 x0 x1 y0=x1*y0+0+k0 x0 y0/\U (q1 x0 x1 y0)/\U (k1 x0 x1 y0):=nK FJ.1 FJ.2 U0 yG
   have mb0:=eR gK iL
   obtain ⟨qb0,VU,AT⟩:r0 x0 x1 y0 y1+18446744073709551616*Jn x0 x1 y0 y1=x0*y1+q1 x0 x1 y0+0/\U (r0 x0 x1 y0 y1)/\U (Jn x0 x1 y0 y1):=nK mb0.1 mb0.2 Cp U0
   have mb1:=eR gM iL
   obtain ⟨qb1,VT,GF⟩:e1 x0 x1 y0 y1+18446744073709551616*f1 x0 x1 y0 y1=x1*y1+k1 x0 x1 y0+Jn x0 x1 y0 y1/\U (e1 x0 x1 y0 y1)/\U (f1 x0 x1 y0 y1):=nK mb1.1 mb1.2 Am AT
   have hb:(y0 != 0)=true:=GM
   have rH:(y1 != 0)=true:=by simpa using ES
   have hS:n4 (q0 x0 y0) (r0 x0 x1 y0 y1) (e1 x0 x1 y0 y1) (f1 x0 x1 y0 y1)=(x0+18446744073709551616*x1)*(y0+18446744073709551616*y1):=by
    rw [hE]
    unfold n4
    generalize x0*y0=z0 at *
    generalize x0*y1=z1 at *
    generalize x1*y0=z2 at *
    generalize x1*y1=z3 at *
    omega
   have Rh:U (q0 x0 y0)/\U (r0 x0 x1 y0 y1)/\U (e1 x0 x1 y0 y1)/\U (f1 x0 x1 y0 y1):=by refine ⟨?_,?_,?_,?_⟩ <;> first | exact U0 | assumption | exact dW _
   obtain ⟨Ce,Cd,Hl,Wm⟩:=Rh
   have:=Ce.1;have:=Ce.2;have:=Cd.1;have:=Cd.2;have:=Hl.1;have:=Hl.2;have:=Wm.1;have:=Wm.2
   by_cases ht:f1 x0 x1 y0 y1=0
   .have hz:(e1 x0 x1 y0 y1≠0)=True:=eq_true (by intro e;rw [e,ht] at hS;clear hE;unfold n4 at hS;generalize (x0+18446744073709551616*x1)*(y0+18446744073709551616*y1)=zz at hS pA Rm;omega)
    have hn:nl [q0 x0 y0,r0 x0 x1 y0 y1,e1 x0 x1 y0 y1,0]=3:=(gQ [q0 x0 y0,r0 x0 x1 y0 y1,e1 x0 x1 y0 y1]).trans (by simp only [nl,if_neg (of_eq_true hz)])
    have hS:n3 (q0 x0 y0) (r0 x0 x1 y0 y1) (e1 x0 x1 y0 y1)=(x0+18446744073709551616*x1)*(y0+18446744073709551616*y1):=by rw [<- hS,ht];unfold n4 n3;omega
    rw [<- hS]
    exact kB ((pC true 0 3).call (aDs ca ct x0 x1 y0 y1 xs ys) (aA (by simp only [sh,bJ,gK,gM,fK,iL,U0,K0,dW,Jw,yG,Cp,Am,VU,AT,VT,GF,hb,rH,ht,hz,hn,and_true,true_and]))) rfl ⟨⟨rfl,fun _=>rfl⟩,⟨rfl,fun _=>rfl⟩,trivial⟩
   .have hz:(f1 x0 x1 y0 y1≠0)=True:=eq_true ht
    have hn:nl [q0 x0 y0,r0 x0 x1 y0 y1,e1 x0 x1 y0 y1,f1 x0 x1 y0 y1]=4:=by simp only [nl,if_neg ht]
    rw [<- hS]
    exact kB ((pC true 0 4).call (aDr ca ct x0 x1 y0 y1 xs ys) (aA (by simp only [sh,bJ,gK,gM,fK,iL,U0,K0,dW,Jw,yG,Cp,Am,VU,AT,VT,GF,hb,rH,hz,hn,and_true,true_and]))) rfl ⟨⟨rfl,fun _=>rfl⟩,⟨rfl,fun _=>rfl⟩,trivial⟩
open M in
set_option maxHeartbeats 1000000 in
theorem CU (ca ct:Nat) (xs ys:List SV) {x0 x1 x2 y0 y1:Int} (gK:U x0) (gM:U x1) (nX:U x2) (fK:U y0) (iL:U y1) (hzx:x2≠0) (ES:y1≠0) (hN:n3 x0 x1 x2<aO) (hT:(y0+18446744073709551616*y1)<21267647932558653966460912964485513216):aE Tryz.prog Γv 97 jP (fun l=>look l (tR (.aJ 64 false 0 3 ca) (.aJ 65 false 0 2 ct) (ww x0 (ww x1 (ww x2 xs))) (ww y0 (ww y1 ys)))) 100 100
 { val:=.ptr 100 true 0,new:=rB ((n3 x0 x1 x2*(y0+18446744073709551616*y1))%aO) 9,wr:=nE (.aJ 64 false 0 3 ca) (.aJ 65 false 0 2 ct) (ww y0 (ww y1 ys)) }:=by
 have:=gK.1;have:=gK.2;have:=gM.1;have:=gM.2;have:=nX.1;have:=nX.2;have:=fK.1;have:=fK.2;have:=iL.1;have:=iL.2
 have GA:n3 x0 x1 x2<1361129467683753853853498429727072845819:=hN
 have Cz:340282366920938463463374607431768211456<=n3 x0 x1 x2:=by unfold n3;omega
 have Cy:18446744073709551616<=(y0+18446744073709551616*y1):=by omega
 have pA:6277101735386680763835789423207666416102355444464034512896<=n3 x0 x1 x2*(y0+18446744073709551616*y1):=Int.le_trans (by decide) (Int.mul_le_mul Cz Cy (by decide) (by omega))
 have Rm:n3 x0 x1 x2*(y0+18446744073709551616*y1)<=1361129467683753853853498429727072845818*21267647932558653966460912964485513215:=Int.mul_le_mul (by omega) (by omega) (by omega) (by decide)
 have hE:n3 x0 x1 x2*(y0+18446744073709551616*y1)=x0*y0+18446744073709551616*(x0*y1)+18446744073709551616*(x1*y0)+340282366920938463463374607431768211456*(x1*y1)+340282366920938463463374607431768211456*(x2*y0)+6277101735386680763835789423207666416102355444464034512896*(x2*y1):=by unfold n3;grind
 cases GM:(y0 != 0) with
 | false=>
   have FK:=eR gK iL
   obtain ⟨qa0,Jw,yG⟩:q0 x0 y1+18446744073709551616*k0 x0 y1=x0*y1+0+0/\U (q0 x0 y1)/\U (k0 x0 y1):=nK FK.1 FK.2 U0 U0
   have FJ:=eR gM iL
   obtain ⟨qa1,Cp,Am⟩:q1 x0 x1 y1+18446744073709551616*k1 x0 x1 y1=x1*y1+0+k0 x0 y1/\U (q1 x0 x1 y1)/\U (k1 x0 x1 y1):=nK FJ.1 FJ.2 U0 yG
   have ma2:=eR nX iL
   obtain ⟨qa2,VV,VS⟩:q2 x0 x1 x2 y1+18446744073709551616*k2 x0 x1 x2 y1=x2*y1+0+k1 x0 x1 y1/\U (q2 x0 x1 x2 y1)/\U (k2 x0 x1 x2 y1):=nK ma2.1 ma2.2 U0 Am
   have hb:(y0 != 0)=false:=by simpa using GM
   have y00:y0=0:=by simpa using hb
   have rH:(y1 != 0)=true:=by simpa using ES
   rw [y00] at hE
   simp only [Int.mul_zero,Int.zero_add,Int.add_zero] at hE
   have hS:n4 0 (q0 x0 y1) (q1 x0 x1 y1) (q2 x0 x1 x2 y1)+115792089237316195423570985008687907853269984665640564039457584007913129639936*(k2 x0 x1 x2 y1)=n3 x0 x1 x2*(y0+18446744073709551616*y1):=by
    rw [y00,Int.zero_add,hE]
    unfold n4
    generalize x0*y1=z0 at *
    generalize x1*y1=z1 at *
    generalize x2*y1=z2 at *
    omega
   have Rh:U (0)/\U (q0 x0 y1)/\U (q1 x0 x1 y1)/\U (q2 x0 x1 x2 y1)/\U (k2 x0 x1 x2 y1):=by refine ⟨?_,?_,?_,?_,?_⟩ <;> first | exact U0 | assumption | exact dW _
   obtain ⟨Ce,Cd,Hl,Wm,uw4⟩:=Rh
   have:=Ce.1;have:=Ce.2;have:=Cd.1;have:=Cd.2;have:=Hl.1;have:=Hl.2;have:=Wm.1;have:=Wm.2;have:=uw4.1;have:=uw4.2
   have ht:k2 x0 x1 x2 y1=0:=by clear hE;unfold n4 at hS;generalize n3 x0 x1 x2*(y0+18446744073709551616*y1)=zz at hS pA Rm;omega
   have hz:(q2 x0 x1 x2 y1≠0)=True:=eq_true (by intro e;rw [e,ht] at hS;clear hE;unfold n4 at hS;generalize n3 x0 x1 x2*(y0+18446744073709551616*y1)=zz at hS pA Rm;omega)
   have hn:nl [0,q0 x0 y1,q1 x0 x1 y1,q2 x0 x1 x2 y1,0]=4:=(gQ [0,q0 x0 y1,q1 x0 x1 y1,q2 x0 x1 x2 y1]).trans (by simp only [nl,if_neg (of_eq_true hz)])
   rw [ht,Int.mul_zero,Int.add_zero] at hS
   rw [<- hS]
   exact kB ((pC false 0 4).call (PA ca ct x0 x1 x2 y0 y1 xs ys) (aA (by simp only [sh,bJ,gK,gM,nX,fK,iL,U0,K0,dW,Jw,yG,Cp,Am,VV,VS,hb,rH,ht,hz,hn,and_true,true_and]))) rfl ⟨⟨rfl,fun _=>rfl⟩,⟨rfl,fun _=>rfl⟩,trivial⟩
 | true=>
   have FK:=eR gK fK
   obtain ⟨qa0,Jw,yG⟩:q0 x0 y0+18446744073709551616*k0 x0 y0=x0*y0+0+0/\U (q0 x0 y0)/\U (k0 x0 y0):=nK FK.1 FK.2 U0 U0
   have FJ:=eR gM fK
   obtain ⟨qa1,Cp,Am⟩:q1 x0 x1 y0+18446744073709551616*k1 x0 x1 y0=x1*y0+0+k0 x0 y0/\U (q1 x0 x1 y0)/\U (k1 x0 x1 y0):=nK FJ.1 FJ.2 U0 yG
   have ma2:=eR nX fK
   obtain ⟨qa2,VV,VS⟩:q2 x0 x1 x2 y0+18446744073709551616*k2 x0 x1 x2 y0=x2*y0+0+k1 x0 x1 y0/\U (q2 x0 x1 x2 y0)/\U (k2 x0 x1 x2 y0):=nK ma2.1 ma2.2 U0 Am
   have mb0:=eR gK iL
   obtain ⟨qb0,VU,AT⟩:r0 x0 x1 y0 y1+18446744073709551616*Jn x0 x1 y0 y1=x0*y1+q1 x0 x1 y0+0/\U (r0 x0 x1 y0 y1)/\U (Jn x0 x1 y0 y1):=nK mb0.1 mb0.2 Cp U0
   have mb1:=eR gM iL
   obtain ⟨qb1,VT,GF⟩:r1 x0 x1 x2 y0 y1+18446744073709551616*s1' x0 x1 x2 y0 y1=x1*y1+q2 x0 x1 x2 y0+Jn x0 x1 y0 y1/\U (r1 x0 x1 x2 y0 y1)/\U (s1' x0 x1 x2 y0 y1):=nK mb1.1 mb1.2 VV AT
   have mb2:=eR nX iL
   obtain ⟨qb2,aZh,aZg⟩:r2 x0 x1 x2 y0 y1+18446744073709551616*VA x0 x1 x2 y0 y1=x2*y1+k2 x0 x1 x2 y0+s1' x0 x1 x2 y0 y1/\U (r2 x0 x1 x2 y0 y1)/\U (VA x0 x1 x2 y0 y1):=nK mb2.1 mb2.2 VS GF
   have hb:(y0 != 0)=true:=GM
   have rH:(y1 != 0)=true:=by simpa using ES
   have hS:n4 (q0 x0 y0) (r0 x0 x1 y0 y1) (r1 x0 x1 x2 y0 y1) (r2 x0 x1 x2 y0 y1)+115792089237316195423570985008687907853269984665640564039457584007913129639936*(VA x0 x1 x2 y0 y1)=n3 x0 x1 x2*(y0+18446744073709551616*y1):=by
    rw [hE]
    unfold n4
    generalize x0*y0=z0 at *
    generalize x0*y1=z1 at *
    generalize x1*y0=z2 at *
    generalize x1*y1=z3 at *
    generalize x2*y0=z4 at *
    generalize x2*y1=z5 at *
    omega
   have Rh:U (q0 x0 y0)/\U (r0 x0 x1 y0 y1)/\U (r1 x0 x1 x2 y0 y1)/\U (r2 x0 x1 x2 y0 y1)/\U (VA x0 x1 x2 y0 y1):=by refine ⟨?_,?_,?_,?_,?_⟩ <;> first | exact U0 | assumption | exact dW _
   obtain ⟨Ce,Cd,Hl,Wm,uw4⟩:=Rh
   have:=Ce.1;have:=Ce.2;have:=Cd.1;have:=Cd.2;have:=Hl.1;have:=Hl.2;have:=Wm.1;have:=Wm.2;have:=uw4.1;have:=uw4.2
   have ht:VA x0 x1 x2 y0 y1=0:=by clear hE;unfold n4 at hS;generalize n3 x0 x1 x2*(y0+18446744073709551616*y1)=zz at hS pA Rm;omega
   have hz:(r2 x0 x1 x2 y0 y1≠0)=True:=eq_true (by intro e;rw [e,ht] at hS;clear hE;unfold n4 at hS;generalize n3 x0 x1 x2*(y0+18446744073709551616*y1)=zz at hS pA Rm;omega)
   have hn:nl [q0 x0 y0,r0 x0 x1 y0 y1,r1 x0 x1 x2 y0 y1,r2 x0 x1 x2 y0 y1,0]=4:=(gQ [q0 x0 y0,r0 x0 x1 y0 y1,r1 x0 x1 x2 y0 y1,r2 x0 x1 x2 y0 y1]).trans (by simp only [nl,if_neg (of_eq_true hz)])
   rw [ht,Int.mul_zero,Int.add_zero] at hS
   rw [<- hS]
   exact kB ((pC true 0 4).call (aDn ca ct x0 x1 x2 y0 y1 xs ys) (aA (by simp only [sh,bJ,gK,gM,nX,fK,iL,U0,K0,dW,Jw,yG,Cp,Am,VV,VS,VU,AT,VT,GF,aZh,aZg,hb,rH,ht,hz,hn,and_true,true_and]))) rfl ⟨⟨rfl,fun _=>rfl⟩,⟨rfl,fun _=>rfl⟩,trivial⟩
namespace M
theorem sh1 {b:Int} (h:Bt b):dK .u64 (IntKind.u64.wrap b) 8=b*256:=by
 have:=h.1;have:=h.2
 have e:IntKind.u64.wrap b=b:=by rw [bT];unfold ul;omega
 rw [e]
 show IntKind.u64.wrap (b*256)=_
 rw [bT];unfold ul;omega
theorem or1 {acc b:Int} (h:Bt b) (h0:0<=acc) (h1:acc<256):lD .u64 acc (b*256)=acc+b*256:=by
 have:=h.1;have:=h.2
 obtain ⟨a,rfl⟩:=zzT h0
 obtain ⟨b,rfl⟩:=zzT h.1
 have e:(b:Int)*256=((b*2^8:Nat):Int):=by rw [Int.natCast_mul];rfl
 have UP:(2:Nat)^8=256:=rfl
 rw [e,FI,FH (by omega) (by omega)]
 omega
theorem sh2 {b:Int} (h:Bt b):dK .u64 (IntKind.u64.wrap b) 16=b*65536:=by
 have:=h.1;have:=h.2
 have e:IntKind.u64.wrap b=b:=by rw [bT];unfold ul;omega
 rw [e]
 show IntKind.u64.wrap (b*65536)=_
 rw [bT];unfold ul;omega
theorem bBd {acc b:Int} (h:Bt b) (h0:0<=acc) (h1:acc<65536):lD .u64 acc (b*65536)=acc+b*65536:=by
 have:=h.1;have:=h.2
 obtain ⟨a,rfl⟩:=zzT h0
 obtain ⟨b,rfl⟩:=zzT h.1
 have e:(b:Int)*65536=((b*2^16:Nat):Int):=by rw [Int.natCast_mul];rfl
 have UP:(2:Nat)^16=65536:=rfl
 rw [e,FI,FH (by omega) (by omega)]
 omega
theorem sh3 {b:Int} (h:Bt b):dK .u64 (IntKind.u64.wrap b) 24=b*16777216:=by
 have:=h.1;have:=h.2
 have e:IntKind.u64.wrap b=b:=by rw [bT];unfold ul;omega
 rw [e]
 show IntKind.u64.wrap (b*16777216)=_
 rw [bT];unfold ul;omega
theorem or3 {acc b:Int} (h:Bt b) (h0:0<=acc) (h1:acc<16777216):lD .u64 acc (b*16777216)=acc+b*16777216:=by
 have:=h.1;have:=h.2
 obtain ⟨a,rfl⟩:=zzT h0
 obtain ⟨b,rfl⟩:=zzT h.1
 have e:(b:Int)*16777216=((b*2^24:Nat):Int):=by rw [Int.natCast_mul];rfl
 have UP:(2:Nat)^24=16777216:=rfl
 rw [e,FI,FH (by omega) (by omega)]
 omega
theorem sh4 {b:Int} (h:Bt b):dK .u64 (IntKind.u64.wrap b) 32=b*4294967296:=by
 have:=h.1;have:=h.2
 have e:IntKind.u64.wrap b=b:=by rw [bT];unfold ul;omega
 rw [e]
 show IntKind.u64.wrap (b*4294967296)=_
 rw [bT];unfold ul;omega
theorem or4 {acc b:Int} (h:Bt b) (h0:0<=acc) (h1:acc<4294967296):lD .u64 acc (b*4294967296)=acc+b*4294967296:=by
 have:=h.1;have:=h.2
 obtain ⟨a,rfl⟩:=zzT h0
 obtain ⟨b,rfl⟩:=zzT h.1
 have e:(b:Int)*4294967296=((b*2^32:Nat):Int):=by rw [Int.natCast_mul];rfl
 have UP:(2:Nat)^32=4294967296:=rfl
 rw [e,FI,FH (by omega) (by omega)]
 omega
theorem sh5 {b:Int} (h:Bt b):dK .u64 (IntKind.u64.wrap b) 40=b*1099511627776:=by
 have:=h.1;have:=h.2
 have e:IntKind.u64.wrap b=b:=by rw [bT];unfold ul;omega
 rw [e]
 show IntKind.u64.wrap (b*1099511627776)=_
 rw [bT];unfold ul;omega
theorem or5 {acc b:Int} (h:Bt b) (h0:0<=acc) (h1:acc<1099511627776):lD .u64 acc (b*1099511627776)=acc+b*1099511627776:=by
 have:=h.1;have:=h.2
 obtain ⟨a,rfl⟩:=zzT h0
 obtain ⟨b,rfl⟩:=zzT h.1
 have e:(b:Int)*1099511627776=((b*2^40:Nat):Int):=by rw [Int.natCast_mul];rfl
 have UP:(2:Nat)^40=1099511627776:=rfl
 rw [e,FI,FH (by omega) (by omega)]
 omega
theorem sh6 {b:Int} (h:Bt b):dK .u64 (IntKind.u64.wrap b) 48=b*281474976710656:=by
 have:=h.1;have:=h.2
 have e:IntKind.u64.wrap b=b:=by rw [bT];unfold ul;omega
 rw [e]
 show IntKind.u64.wrap (b*281474976710656)=_
 rw [bT];unfold ul;omega
theorem or6 {acc b:Int} (h:Bt b) (h0:0<=acc) (h1:acc<281474976710656):lD .u64 acc (b*281474976710656)=acc+b*281474976710656:=by
 have:=h.1;have:=h.2
 obtain ⟨a,rfl⟩:=zzT h0
 obtain ⟨b,rfl⟩:=zzT h.1
 have e:(b:Int)*281474976710656=((b*2^48:Nat):Int):=by rw [Int.natCast_mul];rfl
 have UP:(2:Nat)^48=281474976710656:=rfl
 rw [e,FI,FH (by omega) (by omega)]
 omega
theorem sh7 {b:Int} (h:Bt b):dK .u64 (IntKind.u64.wrap b) 56=b*72057594037927936:=by
 have:=h.1;have:=h.2
 have e:IntKind.u64.wrap b=b:=by rw [bT];unfold ul;omega
 rw [e]
 show IntKind.u64.wrap (b*72057594037927936)=_
 rw [bT];unfold ul;omega
theorem or7 {acc b:Int} (h:Bt b) (h0:0<=acc) (h1:acc<72057594037927936):lD .u64 acc (b*72057594037927936)=acc+b*72057594037927936:=by
 have:=h.1;have:=h.2
 obtain ⟨a,rfl⟩:=zzT h0
 obtain ⟨b,rfl⟩:=zzT h.1
 have e:(b:Int)*72057594037927936=((b*2^56:Nat):Int):=by rw [Int.natCast_mul];rfl
 have UP:(2:Nat)^56=72057594037927936:=rfl
 rw [e,FI,FH (by omega) (by omega)]
 omega
theorem V8 (b0 b1 b2 b3 b4 b5 b6 b7:Int):V [b0,b1,b2,b3,b4,b5,b6,b7]=b0+b1*256+b2*65536+b3*16777216+b4*4294967296+b5*1099511627776+b6*281474976710656+b7*72057594037927936:=by
 simp [V,vs]
 omega
theorem yQ {b0 b1 b2 b3 b4 b5 b6 b7:Int} (h0:Bt b0) (h1:Bt b1) (h2:Bt b2) (h3:Bt b3) (h4:Bt b4) (h5:Bt b5) (h6:Bt b6) (h7:Bt b7):iY b0 b1 b2 b3 b4 b5 b6 b7=V [b0,b1,b2,b3,b4,b5,b6,b7]/\U (V [b0,b1,b2,b3,b4,b5,b6,b7]):=by
 have:=h0.1;have:=h0.2;have:=h1.1;have:=h1.2;have:=h2.1;have:=h2.2;have:=h3.1;have:=h3.2;have:=h4.1;have:=h4.2;have:=h5.1;have:=h5.2;have:=h6.1;have:=h6.2;have:=h7.1;have:=h7.2
 have e:IntKind.u64.wrap b0=b0:=by rw [bT];unfold ul;omega
 rw [V8]
 unfold iY
 rw [e,sh1 h1,sh2 h2,sh3 h3,sh4 h4,sh5 h5,sh6 h6,sh7 h7]
 rw [or1 h1 (by omega) (by omega),bBd h2 (by omega) (by omega),or3 h3 (by omega) (by omega),or4 h4 (by omega) (by omega),or5 h5 (by omega) (by omega),or6 h6 (by omega) (by omega),or7 h7 (by omega) (by omega)]
 exact ⟨rfl,by unfold U;omega⟩
theorem aKy {b:Int} (h:b=1):lD .u64 0 (dK .u64 (IntKind.u64.wrap b) 0)=1:=by subst h;decide
end M
open M in
theorem OC {b0  b1  b2  b3  b4  b5  b6  b7  b8  b9  dF  dE  dD  dJ  dI  gZ  iU:Int} (hb:bI [b0,b1,b2,b3,b4,b5,b6,b7,b8,b9,dF,dE,dD,dJ,dI,gZ,iU]) (h1:iU=1):aE Tryz.prog Γv 91 [.cQ 61 0 17 0] (fun l=>look l [(61,.row 1 (bc [b0,b1,b2,b3,b4,b5,b6,b7,b8,b9,dF,dE,dD,dJ,dI,gZ,iU]) 5)]) 100 100
 { val:=.ptr 100 true 0,new:=[.own [.bool true false,.aJ 101 true 0 3 7] 146,.own (wc [V [b0,b1,b2,b3,b4,b5,b6,b7],V [b8,b9,dF,dE,dD,dJ,dI,gZ],1,0,0,0,0]) 196],wr:=[(61,.row 1 (bc [b0,b1,b2,b3,b4,b5,b6,b7,b8,b9,dF,dE,dD,dJ,dI,gZ,iU]) 5)] }:=by
 have hs:aI Tryz.prog (env (Kh 0 3) 22) 91 (aF (env (Kh 0 3) 22) Tryz.f91 true [] 400):=aM (bP _ 22) (bV _ (Ll 0 3) 22) mix Tryz.func91 (by kernel_rfl) true [] 400
 have e0:=(yQ (hb _ (by simp)) (hb _ (by simp)) (hb _ (by simp)) (hb _ (by simp)) (hb _ (by simp)) (hb _ (by simp)) (hb _ (by simp)) (hb _ (by simp)):M.iY b0 b1 b2 b3 b4 b5 b6 b7=V [b0,b1,b2,b3,b4,b5,b6,b7]/\_).1
 have e1:=(yQ (hb _ (by simp)) (hb _ (by simp)) (hb _ (by simp)) (hb _ (by simp)) (hb _ (by simp)) (hb _ (by simp)) (hb _ (by simp)) (hb _ (by simp)):M.iY b8 b9 dF dE dD dJ dI gZ=V [b8,b9,dF,dE,dD,dJ,dI,gZ]/\_).1
 have e2:=aKy h1
 refine ((hs.call (n17 b0 b1 b2 b3 b4 b5 b6 b7 b8 b9 dF dE dD dJ dI gZ iU) (aA ?_)).bF 61 _ rfl (by decide)).re rfl (fun _=>rfl) ⟨⟨rfl,fun _=>rfl⟩,⟨rfl,fun _=>by rw [e0,e1,e2];rfl⟩,trivial⟩ ⟨rfl,rfl,trivial⟩
 simp only [sh,bJ,e2,nl,and_true]
 simp
open M in
theorem CG {b0  b1  b2  b3  b4  b5  b6  b7  b8  b9  dF  dE  dD  dJ  dI  gZ  iU  nC  nA  mZ  mY  mX  mW  mV  mU  mT  mS  mR  mQ  mP  mO  mL:Int} (hb:bI [b0,b1,b2,b3,b4,b5,b6,b7,b8,b9,dF,dE,dD,dJ,dI,gZ,iU,nC,nA,mZ,mY,mX,mW,mV,mU,mT,mS,mR,mQ,mP,mO,mL]):aE Tryz.prog Γv 91 [.aJ 61 true 0 16 32] (fun l=>look l [(61,.fS (bc [b0,b1,b2,b3,b4,b5,b6,b7,b8,b9,dF,dE,dD,dJ,dI,gZ,iU,nC,nA,mZ,mY,mX,mW,mV,mU,mT,mS,mR,mQ,mP,mO,mL]))]) 100 100
 { val:=.ptr 100 true 0,new:=[.own [.bool true false,.aJ 101 false 0 (nl [V [b0,b1,b2,b3,b4,b5,b6,b7],V [b8,b9,dF,dE,dD,dJ,dI,gZ]]) 6] 146,.own (wc [V [b0,b1,b2,b3,b4,b5,b6,b7],V [b8,b9,dF,dE,dD,dJ,dI,gZ],0,0,0,0]) 196] }:=by
 have hs:∀ iq,aI Tryz.prog (env (Kh iq 0) 22) 91 (aF (env (Kh iq 0) 22) Tryz.f91 true [] 400):=fun iq=>aM (bP _ 22) (bV _ (Ll iq 0) 22) mix Tryz.func91 (by kernel_rfl) true [] 400
 have e0:=(yQ (hb _ (by simp)) (hb _ (by simp)) (hb _ (by simp)) (hb _ (by simp)) (hb _ (by simp)) (hb _ (by simp)) (hb _ (by simp)) (hb _ (by simp)):M.iY b0 b1 b2 b3 b4 b5 b6 b7=V [b0,b1,b2,b3,b4,b5,b6,b7]/\_).1
 have e1:=(yQ (hb _ (by simp)) (hb _ (by simp)) (hb _ (by simp)) (hb _ (by simp)) (hb _ (by simp)) (hb _ (by simp)) (hb _ (by simp)) (hb _ (by simp)):M.iY b8 b9 dF dE dD dJ dI gZ=V [b8,b9,dF,dE,dD,dJ,dI,gZ]/\_).1
 rcases VB (V [b0,b1,b2,b3,b4,b5,b6,b7]) (V [b8,b9,dF,dE,dD,dJ,dI,gZ]) with ⟨h,_⟩ | ⟨h,_⟩ | ⟨h,_⟩
 .refine ((hs 0).call (aBw b0 b1 b2 b3 b4 b5 b6 b7 b8 b9 dF dE dD dJ dI gZ iU nC nA mZ mY mX mW mV mU mT mS mR mQ mP mO mL) (aA ?_)).re rfl (fun _=>rfl) ⟨⟨rfl,fun _=>by rw [h];rfl⟩,⟨rfl,fun _=>by rw [e0,e1];rfl⟩,trivial⟩ trivial
  simp only [sh,bJ,e0,e1,h,and_true]
 .refine ((hs 1).call (aBv b0 b1 b2 b3 b4 b5 b6 b7 b8 b9 dF dE dD dJ dI gZ iU nC nA mZ mY mX mW mV mU mT mS mR mQ mP mO mL) (aA ?_)).re rfl (fun _=>rfl) ⟨⟨rfl,fun _=>by rw [h];rfl⟩,⟨rfl,fun _=>by rw [e0,e1];rfl⟩,trivial⟩ trivial
  simp only [sh,bJ,e0,e1,h,and_true]
 .refine ((hs 2).call (aBu b0 b1 b2 b3 b4 b5 b6 b7 b8 b9 dF dE dD dJ dI gZ iU nC nA mZ mY mX mW mV mU mT mS mR mQ mP mO mL) (aA ?_)).re rfl (fun _=>rfl) ⟨⟨rfl,fun _=>by rw [h];rfl⟩,⟨rfl,fun _=>by rw [e0,e1];rfl⟩,trivial⟩ trivial
  simp only [sh,bJ,e0,e1,h,and_true]
open M in
theorem Ve {b0  b1  b2  b3  b4  b5  b6  b7  b8  b9  dF  dE  dD  dJ  dI  gZ  iU  nC  nA  mZ  mY  mX  mW  mV  mU  mT  mS  mR  mQ  mP  mO  mL:Int} (hb:bI [b0,b1,b2,b3,b4,b5,b6,b7,b8,b9,dF,dE,dD,dJ,dI,gZ,iU,nC,nA,mZ,mY,mX,mW,mV,mU,mT,mS,mR,mQ,mP,mO,mL]):aE Tryz.prog Γv 91 [.aJ 61 true 16 16 16] (fun l=>look l [(61,.fS (bc [b0,b1,b2,b3,b4,b5,b6,b7,b8,b9,dF,dE,dD,dJ,dI,gZ,iU,nC,nA,mZ,mY,mX,mW,mV,mU,mT,mS,mR,mQ,mP,mO,mL]))]) 100 100
 { val:=.ptr 100 true 0,new:=[.own [.bool true false,.aJ 101 false 0 (nl [V [iU,nC,nA,mZ,mY,mX,mW,mV],V [mU,mT,mS,mR,mQ,mP,mO,mL]]) 6] 146,.own (wc [V [iU,nC,nA,mZ,mY,mX,mW,mV],V [mU,mT,mS,mR,mQ,mP,mO,mL],0,0,0,0]) 196] }:=by
 have hs:∀ iq,aI Tryz.prog (env (Kh iq 0) 22) 91 (aF (env (Kh iq 0) 22) Tryz.f91 true [] 400):=fun iq=>aM (bP _ 22) (bV _ (Ll iq 0) 22) mix Tryz.func91 (by kernel_rfl) true [] 400
 have e0:=(yQ (hb _ (by simp)) (hb _ (by simp)) (hb _ (by simp)) (hb _ (by simp)) (hb _ (by simp)) (hb _ (by simp)) (hb _ (by simp)) (hb _ (by simp)):M.iY iU nC nA mZ mY mX mW mV=V [iU,nC,nA,mZ,mY,mX,mW,mV]/\_).1
 have e1:=(yQ (hb _ (by simp)) (hb _ (by simp)) (hb _ (by simp)) (hb _ (by simp)) (hb _ (by simp)) (hb _ (by simp)) (hb _ (by simp)) (hb _ (by simp)):M.iY mU mT mS mR mQ mP mO mL=V [mU,mT,mS,mR,mQ,mP,mO,mL]/\_).1
 rcases VB (V [iU,nC,nA,mZ,mY,mX,mW,mV]) (V [mU,mT,mS,mR,mQ,mP,mO,mL]) with ⟨h,_⟩ | ⟨h,_⟩ | ⟨h,_⟩
 .refine ((hs 0).call (OF b0 b1 b2 b3 b4 b5 b6 b7 b8 b9 dF dE dD dJ dI gZ iU nC nA mZ mY mX mW mV mU mT mS mR mQ mP mO mL) (aA ?_)).re rfl (fun _=>rfl) ⟨⟨rfl,fun _=>by rw [h];rfl⟩,⟨rfl,fun _=>by rw [e0,e1];rfl⟩,trivial⟩ trivial
  simp only [sh,bJ,e0,e1,h,and_true]
 .refine ((hs 1).call (OE b0 b1 b2 b3 b4 b5 b6 b7 b8 b9 dF dE dD dJ dI gZ iU nC nA mZ mY mX mW mV mU mT mS mR mQ mP mO mL) (aA ?_)).re rfl (fun _=>rfl) ⟨⟨rfl,fun _=>by rw [h];rfl⟩,⟨rfl,fun _=>by rw [e0,e1];rfl⟩,trivial⟩ trivial
  simp only [sh,bJ,e0,e1,h,and_true]
 .refine ((hs 2).call (OD b0 b1 b2 b3 b4 b5 b6 b7 b8 b9 dF dE dD dJ dI gZ iU nC nA mZ mY mX mW mV mU mT mS mR mQ mP mO mL) (aA ?_)).re rfl (fun _=>rfl) ⟨⟨rfl,fun _=>by rw [h];rfl⟩,⟨rfl,fun _=>by rw [e0,e1];rfl⟩,trivial⟩ trivial
  simp only [sh,bJ,e0,e1,h,and_true]
def bBb:Option SB->Option (List Int)
 | some (.own cs _)=>dA .u8 cs
 | some (.ints .u8 xs _)=>some xs
 | _=>none
open M in
def To (vs:List SV) (T:bA):Option Canon:=match vs with
 | [.cQ l 0 17 0]=>match T l with
   | some (.row 1 cs 5)=>match dA .u8 cs with
     | some [b0,b1,b2,b3,b4,b5,b6,b7,b8,b9,dF,dE,dD,dJ,dI,gZ,iU]=>some { eN:=[.cQ 61 0 17 0],T0:=[(61,.row 1 (bc [b0,b1,b2,b3,b4,b5,b6,b7,b8,b9,dF,dE,dD,dJ,dI,gZ,iU]) 5)],vl:=[(61,.lab l 0)],e0:={ val:=.ptr 100 true 0,new:=[.own [.bool true false,.aJ 101 true 0 3 7] 146,.own (wc [V [b0,b1,b2,b3,b4,b5,b6,b7],V [b8,b9,dF,dE,dD,dJ,dI,gZ],1,0,0,0,0]) 196],wr:=[(61,.row 1 (bc [b0,b1,b2,b3,b4,b5,b6,b7,b8,b9,dF,dE,dD,dJ,dI,gZ,iU]) 5)] },conds:=[bI [b0,b1,b2,b3,b4,b5,b6,b7,b8,b9,dF,dE,dD,dJ,dI,gZ,iU],iU=1] }
     | _=>none
   | _=>none
 | [.aJ l true oo 16 c]=>match bBb (T l) with
   | some [b0,b1,b2,b3,b4,b5,b6,b7,b8,b9,dF,dE,dD,dJ,dI,gZ,iU,nC,nA,mZ,mY,mX,mW,mV,mU,mT,mS,mR,mQ,mP,mO,mL]=>match Nat.beq oo 0&&Nat.beq c 32,Nat.beq oo 16&&Nat.beq c 16 with
     | true,_=>some { eN:=[.aJ 61 true 0 16 32],T0:=[(61,.fS (bc [b0,b1,b2,b3,b4,b5,b6,b7,b8,b9,dF,dE,dD,dJ,dI,gZ,iU,nC,nA,mZ,mY,mX,mW,mV,mU,mT,mS,mR,mQ,mP,mO,mL]))],vl:=[(61,.lab l 0)],e0:={ val:=.ptr 100 true 0,new:=[.own [.bool true false,.aJ 101 false 0 (nl [V [b0,b1,b2,b3,b4,b5,b6,b7],V [b8,b9,dF,dE,dD,dJ,dI,gZ]]) 6] 146,.own (wc [V [b0,b1,b2,b3,b4,b5,b6,b7],V [b8,b9,dF,dE,dD,dJ,dI,gZ],0,0,0,0]) 196] },conds:=[bI [b0,b1,b2,b3,b4,b5,b6,b7,b8,b9,dF,dE,dD,dJ,dI,gZ,iU,nC,nA,mZ,mY,mX,mW,mV,mU,mT,mS,mR,mQ,mP,mO,mL]] }
     | _,true=>some { eN:=[.aJ 61 true 16 16 16],T0:=[(61,.fS (bc [b0,b1,b2,b3,b4,b5,b6,b7,b8,b9,dF,dE,dD,dJ,dI,gZ,iU,nC,nA,mZ,mY,mX,mW,mV,mU,mT,mS,mR,mQ,mP,mO,mL]))],vl:=[(61,.lab l 0)],e0:={ val:=.ptr 100 true 0,new:=[.own [.bool true false,.aJ 101 false 0 (nl [V [iU,nC,nA,mZ,mY,mX,mW,mV],V [mU,mT,mS,mR,mQ,mP,mO,mL]]) 6] 146,.own (wc [V [iU,nC,nA,mZ,mY,mX,mW,mV],V [mU,mT,mS,mR,mQ,mP,mO,mL],0,0,0,0]) 196] },conds:=[bI [b0,b1,b2,b3,b4,b5,b6,b7,b8,b9,dF,dE,dD,dJ,dI,gZ,iU,nC,nA,mZ,mY,mX,mW,mV,mU,mT,mS,mR,mQ,mP,mO,mL]] }
     | _,_=>none
   | _=>none
 | _=>none
theorem Kp (Γ:Env) (hg:Γ.aT=aB):aI Tryz.prog Γ 91 (aL aB 100 To):=by
 refine aW hg fun vs T c hd hc=>?_
 unfold To at hd
 split at hd
 case h_3=>cases hd
 .split at hd
  case h_2=>cases hd
  split at hd
  case h_2=>cases hd
  cases hd
  exact (OC (hc _ (by simp)) (hc _ (by simp))).words (by rw [hg];rfl) (fun _=>rfl) (fun _ _ h=>h) (fun _=>rfl) rfl rfl
 .split at hd
  case h_2=>cases hd
  split at hd
  case h_3=>cases hd
  .cases hd
   exact (CG (hc _ (by simp))).words (by rw [hg];rfl) (fun _=>rfl) (fun _ _ h=>h) (fun _=>rfl) rfl rfl
  .cases hd
   exact (Ve (hc _ (by simp))).words (by rw [hg];rfl) (fun _=>rfl) (fun _ _ h=>h) (fun _=>rfl) rfl rfl
open M in
def KU (iT:Nat) (vs:List SV) (T:bA):Option Canon:=match vs with
 | [.agg [.ptr lp true 0],.ptr la true 0,.ptr lb true 0]=>match T la,T lb,T lp with
   | some (.own [.bool _ _,X] 146),some (.own [.bool _ _,.aJ ly _ 0 3 7] 146),some (.own [.bool _ _,.aJ lq _ 0 3 8] 146)=>match T ly with
     | some (.own ys 196)=>match dA .u64 ys with
       | some (y0::y1::y2::yr)=>match X with
         | .raw (.slice none 0 0)=>match Nat.beq iT 7 with
           | true=>some { eN:=jP,T0:=tR (.raw (.slice none 0 0)) (.aJ 65 true 0 3 7) [.int true .i64 40] (ww y0 (ww y1 (ww y2 (wc yr)))),vl:=[(61,.lab la 0),(62,.lab lp 0),(63,.lab lb 0),(64,.lab 17 0),(65,.lab ly 0),(66,.lab lq 0)],e0:={ val:=.ptr 100 true 0,new:=rB ((0+n3 y0 y1 y2)%aO) 7,wr:=nE (.raw (.slice none 0 0)) (.aJ 65 true 0 3 7) (ww y0 (ww y1 (ww y2 (wc yr)))) },conds:=[U y0,U y1,y2=1] }
           | false=>none
         | .aJ lx _ 0 n ca=>match T lx with
           | some (.own xs 196)=>match dA .u64 xs,Nat.ble 6 ca&&Nat.ble ca 9 with
             | some (x0::x1::x2::xr),true=>match Nat.beq iT 7,Nat.beq iT 8 with
               | true,_=>some { eN:=jP,T0:=tR (.aJ 64 false 0 n ca) (.aJ 65 true 0 3 7) (ww x0 (ww x1 (ww x2 (wc xr)))) (ww y0 (ww y1 (ww y2 (wc yr)))),vl:=[(61,.lab la 0),(62,.lab lp 0),(63,.lab lb 0),(64,.lab lx 0),(65,.lab ly 0),(66,.lab lq 0)],e0:={ val:=.ptr 100 true 0,new:=rB ((n3 x0 x1 x2+n3 y0 y1 y2)%aO) 7,wr:=nE (.aJ 64 false 0 n ca) (.aJ 65 true 0 3 7) (ww y0 (ww y1 (ww y2 (wc yr)))) },conds:=[n=nl [x0,x1,x2],n=0,U y0,U y1,y2=1] }
               | _,true=>some { eN:=jP,T0:=tR (.aJ 64 false 0 n ca) (.aJ 65 true 0 3 7) (ww x0 (ww x1 (ww x2 (wc xr)))) (ww y0 (ww y1 (ww y2 (wc yr)))),vl:=[(61,.lab la 0),(62,.lab lp 0),(63,.lab lb 0),(64,.lab lx 0),(65,.lab ly 0),(66,.lab lq 0)],e0:={ val:=.ptr 100 true 0,new:=rB ((n3 x0 x1 x2+n3 y0 y1 y2)%aO) 8,wr:=nE (.aJ 64 false 0 n ca) (.aJ 65 true 0 3 7) (ww y0 (ww y1 (ww y2 (wc yr)))) },conds:=[n=nl [x0,x1,x2],n≠0,U x0,U x1,U x2,n3 x0 x1 x2<aO,U y0,U y1,y2=1] }
               | _,_=>none
             | _,_=>none
           | _=>none
         | _=>none
       | _=>none
     | _=>none
   | _,_,_=>none
 | _=>none
open M in
theorem TJ {n ca:Nat} (lS:ca=6\/ca=7\/ca=8\/ca=9) (xs ys:List SV) {x0 x1 x2 y0 y1 y2:Int} (hn:n=nl [x0,x1,x2]) (Gd:n≠0) (gK:U x0) (gM:U x1) (nX:U x2) (hN:n3 x0 x1 x2<aO) (fK:U y0) (iL:U y1) (Hn:y2=1):aE Tryz.prog Γv 95 jP (fun l=>look l (tR (.aJ 64 false 0 n ca) (.aJ 65 true 0 3 7) (ww x0 (ww x1 (ww x2 xs))) (ww y0 (ww y1 (ww y2 ys))))) 100 100
 { val:=.ptr 100 true 0,new:=rB ((n3 x0 x1 x2+n3 y0 y1 y2)%aO) 8,wr:=nE (.aJ 64 false 0 n ca) (.aJ 65 true 0 3 7) (ww y0 (ww y1 (ww y2 ys))) }:=by
 rcases nl3 x0 x1 x2 with ⟨h,_⟩ | ⟨h,_,e1,e2⟩ | ⟨h,_,e2⟩ | ⟨h,_⟩
 .omega
 .rw [h] at hn;subst hn
  have e:n3 x0 x1 x2=x0:=by rw [e1,e2];unfold n3;omega
  rw [e] at hN |-
  exact PG lS (ww x1 (ww x2 xs)) ys gK hN fK iL Hn
 .rw [h] at hn;subst hn
  have e:n3 x0 x1 x2=x0+18446744073709551616*x1:=by rw [e2];unfold n3;omega
  rw [e] at hN |-
  exact PF lS (ww x2 xs) ys gK gM hN fK iL Hn
 .rw [h] at hn;subst hn
  exact PE lS xs ys gK gM nX hN fK iL Hn
open M in
theorem aQy (iT:Nat) (Γ:Env) (hg:Γ.aT=aB):aI Tryz.prog Γ 95 (aL aB 100 (KU iT)):=by
 refine aW hg fun vs T c hd hc=>?_
 unfold KU at hd
 split at hd
 case h_2=>cases hd
 split at hd
 case h_2=>cases hd
 split at hd
 case h_2=>cases hd
 split at hd
 case h_2=>cases hd
 rename_i y0 y1 y2 yr _
 split at hd
 case h_3=>cases hd
 .split at hd
  case h_2=>cases hd
  cases hd
  exact (PD [.int true .i64 40] (wc yr) (hc _ (by simp)) (hc _ (by simp)) (hc _ (by simp))).words (by rw [hg];rfl) (fun _=>rfl) (fun _ _ h=>h) (fun _=>rfl) rfl rfl
 .split at hd
  case h_2=>cases hd
  split at hd
  case h_2=>cases hd
  rename_i n ca _ _ _ _ _ _ x0 x1 x2 xr _ lS
  simp only [zzn] at lS
  have c1:=zzL lS.1
  have c2:=zzL lS.2
  split at hd
  case h_3=>cases hd
  .cases hd
   have hn:n=nl [x0,x1,x2]:=hc _ (by simp)
   have h0:n=0:=hc _ (by simp)
   rcases nl3 x0 x1 x2 with ⟨h,e0,e1,e2⟩ | ⟨h,_⟩ | ⟨h,_⟩ | ⟨h,_⟩
   .have e:n3 x0 x1 x2=0:=by rw [e0,e1,e2];rfl
    rw [e]
    subst h0
    exact (PH ca _ (wc yr) (hc _ (by simp)) (hc _ (by simp)) (hc _ (by simp))).words (by rw [hg];rfl) (fun _=>rfl) (fun _ _ h=>h) (fun _=>rfl) rfl rfl
   .omega
   .omega
   .omega
  .cases hd
   exact (TJ (by omega) (wc xr) (wc yr) (hc _ (by simp)) (hc _ (by simp)) (hc _ (by simp)) (hc _ (by simp)) (hc _ (by simp)) (hc _ (by simp)) (hc _ (by simp)) (hc _ (by simp)) (hc _ (by simp))).words (by rw [hg];rfl) (fun _=>rfl) (fun _ _ h=>h) (fun _=>rfl) rfl rfl
open M in
def JA (gE:Nat) (vs:List SV) (T:bA):Option Canon:=match vs with
 | [.agg [.ptr lp true 0],.ptr la true 0,.ptr lb true 0]=>match T la,T lb,T lp with
   | some (.own [.bool _ _,.aJ lx _ 0 n ca] 146),some (.own [.bool _ _,.aJ ly _ 0 m ct] 146),some (.own [.bool _ _,.aJ lq _ 0 3 8] 146)=>match T lx,T ly with
     | some (.own xs 196),some (.own ys 196)=>match dA .u64 xs,dA .u64 ys with
       | some (x0::x1::x2::xr),some (y0::y1::yr)=>some { eN:=jP,T0:=tR (.aJ 64 false 0 n ca) (.aJ 65 false 0 m ct) (ww x0 (ww x1 (ww x2 (wc xr)))) (ww y0 (ww y1 (wc yr))),vl:=[(61,.lab la 0),(62,.lab lp 0),(63,.lab lb 0),(64,.lab lx 0),(65,.lab ly 0),(66,.lab lq 0)],e0:={ val:=.ptr 100 true 0,new:=(match gE with | 0=>nB | c=>rB ((n3 x0 x1 x2*(y0+18446744073709551616*y1))%aO) c),wr:=nE (.aJ 64 false 0 n ca) (.aJ 65 false 0 m ct) (ww y0 (ww y1 (wc yr))) },conds:=[n=nl [x0,x1,x2],m=nl [y0,y1],gE=(if n=0\/m=0 then 0 else n+m+4),U x0,U x1,U x2,n3 x0 x1 x2<aO,U y0,U y1,y0+18446744073709551616*y1<21267647932558653966460912964485513216] }
       | _,_=>none
     | _,_=>none
   | _,_,_=>none
 | _=>none
open M in
theorem aVt (gE:Nat) (Γ:Env) (hg:Γ.aT=aB):aI Tryz.prog Γ 97 (aL aB 100 (JA gE)):=by
 refine aW hg fun vs T c hd hc=>?_
 unfold JA at hd
 split at hd
 case h_2=>cases hd
 split at hd
 case h_2=>cases hd
 split at hd
 case h_2=>cases hd
 split at hd
 case h_2=>cases hd
 rename_i n ca _ _ _ _ m ct _ _ _ _ _ _ _ _ _ _ _ _ _ _ _ x0 x1 x2 xr y0 y1 yr _ _
 cases hd
 have hn:n=nl [x0,x1,x2]:=hc _ (by simp)
 have hm:m=nl [y0,y1]:=hc _ (by simp)
 have hp:gE=(if n=0\/m=0 then 0 else n+m+4):=hc _ (by simp)
 have gK:U x0:=hc _ (by simp)
 have gM:U x1:=hc _ (by simp)
 have nX:U x2:=hc _ (by simp)
 have hN:n3 x0 x1 x2<aO:=hc _ (by simp)
 have fK:U y0:=hc _ (by simp)
 have iL:U y1:=hc _ (by simp)
 have hT:y0+18446744073709551616*y1<21267647932558653966460912964485513216:=hc _ (by simp)
 have fin:∀ {e:bL},aE Tryz.prog Γv 97 jP (fun l=>look l (tR (.aJ 64 false 0 n ca) (.aJ 65 false 0 m ct) (ww x0 (ww x1 (ww x2 (wc xr)))) (ww y0 (ww y1 (wc yr))))) 100 100 e->aE Tryz.prog Γ 97 jP (fun l=>look l (tR (.aJ 64 false 0 n ca) (.aJ 65 false 0 m ct) (ww x0 (ww x1 (ww x2 (wc xr)))) (ww y0 (ww y1 (wc yr))))) 100 100 e:=fun h=>h.words (by rw [hg];rfl) (fun _=>rfl) (fun _ _ h=>h) (fun _=>rfl) rfl rfl
 clear hc
 rcases nl3 x0 x1 x2 with ⟨h,_⟩ | ⟨h,z,e1,e2⟩ | ⟨h,z,e2⟩ | ⟨h,z⟩ <;> rw [h] at hn <;> subst hn <;> rcases VB y0 y1 with ⟨k,_⟩ | ⟨k,w,f1⟩ | ⟨k,w⟩ <;> rw [k] at hm <;> subst hm <;> simp at hp <;> subst hp
 .exact fin (DG ca ct  (ww x0 (ww x1 (ww x2 (wc xr)))) (ww y0 (ww y1 (wc yr))))
 .exact fin (DF ca ct y0 (ww x0 (ww x1 (ww x2 (wc xr)))) (ww y1 (wc yr)))
 .exact fin (DE ca ct y0 y1 (ww x0 (ww x1 (ww x2 (wc xr)))) (wc yr))
 .exact fin (DC ca ct x0 (ww x1 (ww x2 (wc xr))) (ww y0 (ww y1 (wc yr))))
 .have e:n3 x0 x1 x2=x0:=by rw [e1,e2];unfold n3;omega
  rw [e] at hN |-
  have f:y0+18446744073709551616*y1=y0:=by rw [f1];omega
  rw [f] at hT |-
  exact fin (DB ca ct (ww x1 (ww x2 (wc xr))) (ww y1 (wc yr)) gK fK z w hN hT)
 .have e:n3 x0 x1 x2=x0:=by rw [e1,e2];unfold n3;omega
  rw [e] at hN |-
  exact fin (DA ca ct (ww x1 (ww x2 (wc xr))) (wc yr) gK fK iL z w hN hT)
 .exact fin (CZ ca ct x0 x1 (ww x2 (wc xr)) (ww y0 (ww y1 (wc yr))))
 .have e:n3 x0 x1 x2=x0+18446744073709551616*x1:=by rw [e2];unfold n3;omega
  rw [e] at hN |-
  have f:y0+18446744073709551616*y1=y0:=by rw [f1];omega
  rw [f] at hT |-
  exact fin (CY ca ct (ww x2 (wc xr)) (ww y1 (wc yr)) gK gM fK z w hN hT)
 .have e:n3 x0 x1 x2=x0+18446744073709551616*x1:=by rw [e2];unfold n3;omega
  rw [e] at hN |-
  exact fin (CX ca ct (ww x2 (wc xr)) (wc yr) gK gM fK iL z w hN hT)
 .exact fin (CW ca ct x0 x1 x2 (wc xr) (ww y0 (ww y1 (wc yr))))
 .have f:y0+18446744073709551616*y1=y0:=by rw [f1];omega
  rw [f] at hT |-
  exact fin (CV ca ct (wc xr) (ww y1 (wc yr)) gK gM nX fK z w hN hT)
 .exact fin (CU ca ct (wc xr) (wc yr) gK gM nX fK iL z w hN hT)
noncomputable def exT (iT gE:Nat):Nat->Option Sum:=dO (dO (dO AQ 91 (aL aB 100 To)) 95 (aL aB 100 (KU iT))) 97 (aL aB 100 (JA gE))
theorem aPf (iT gE:Nat):∀ f S,exT iT gE f=some S->∀ Γ:Env,Γ.aT=aB->aI Tryz.prog Γ f S:=bE (bE (bE qH 91 _ Kp) 95 _ (aQy iT)) 97 _ (aVt gE)
def Dh:List SV:=[.int true .u64 0,.int true .u64 0,.int true .u64 9223372036854775808]
theorem bEz (u0 u1 u2 u3 q0 h0 h1 h2 h3:Int) :
 (Ah 100 (aY 100 (Jt Dh (wc [u0,u1,u2,u3,0,0,0,0]) (wc [q0]))) [] (jV 4 8 1 1 1 9223372036854775808 18446744073709551615 (.int true .u64 0) 1) (jU (wc [h0,h1,h2,h3]) (wc [u0,u1,u2,u3,0,0,0,0]) (wc [q0])) 101 [61,63] jW (Dv Dh (wc [u0,u1,u2,u3,0,0,0,0]) (wc [q0]) 4 8 1 1)) =
 sh (0:Int) fun z0=>
 some (.go (.loop yS),Hb,[(3:Nat)=(3:Nat),(4:Nat)=(4:Nat),(11259375:Int)=h0,z0=h1,z0=h2,z0=h3,[q0]=[q0],[u0,u1,u2,u3,z0,z0,z0,z0]=[u0,u1,u2,u3,z0,z0,z0,z0]]):=by kernel_rfl
theorem bEy (fB fC:List SV) (u0 u1 u2 u3 v1 v2 v3 q0 h0 h1 h2 h3 g0 g1 g2 g3:Int) :
 gB Dh fB fC 4 8 1 1 1 9223372036854775808 18446744073709551615 1 0 (.int true .u64 0) (.int false .u64 v3) (wc [u0,u1,u2,u3,0,0,0,0]) (wc [u0,v1,v2,v3,0,0,0,0]) (wc [q0]) (wc [q0]) (wc [h0,h1,h2,h3]) (wc [g0,g1,g2,g3]) [false,true,false,true] =
 sh (0:Int) fun z2=>
 sh (9223372036854775808:Int) fun z1=>
 sh (z2*M.dq z1 z2 u3+z2) fun z3=>
 sh (z2*M.dq z1 z2 u3+M.uh z3) fun z0=>
 sh (u1-M.ul z3-z2) fun z7=>
 sh (u2-M.ul z0-M.ub z7) fun z4=>
 sh (z1*M.dq z1 z2 u3+M.uh z0) fun z5=>
 sh (M.dq z1 z2 u3*z2) fun z6=>
 sh (u3-M.ul z5-M.ub z4) fun z8=>
 sh (M.dq z1 z2 u3) fun z9=>
 some (Cf.at Ex.normal,[],[(M.dq z1 z2 u3==z2)=true,(M.ub z8 != z2)=false,M.U u3,M.U (M.ul z5),M.K (M.ub z4),u3=u3,M.ul z5=M.ul z5,M.ub z4=M.ub z4,M.U u2,M.U (M.ul z0),M.K (M.ub z7),u2=u2,M.ul z0=M.ul z0,M.ub z7=M.ub z7,M.U u1,M.U (M.ul z3),M.K z2,u1=u1,M.ul z3=M.ul z3,z2=z2,(M.uh z5==z2)=true,M.U z1,M.U z9,M.U (M.uh z0),z1=z1,M.dq z1 z2 u3=M.dq z1 z2 u3,M.uh z0=M.uh z0,M.U z2,M.U z9,M.U (M.uh z3),z2=z2,M.dq z1 z2 u3=M.dq z1 z2 u3,M.uh z3=M.uh z3,M.U z2,M.U z9,M.U z2,z2=z2,M.dq z1 z2 u3=M.dq z1 z2 u3,z2=z2,M.gt (M.uh z6) (M.ul z6) (M.dr z1 z2 u3) u2=false,M.U (M.ul z6),M.U u2,M.uh z6=M.uh z6,M.ul z6=M.ul z6,M.dr z1 z2 u3=M.dr z1 z2 u3,u2=u2,M.U z9,M.U z2,M.dq z1 z2 u3=M.dq z1 z2 u3,z2=z2,M.U z2,M.U u3,z2<z1,z2=z2,u3=u3,(3:Nat)=(3:Nat),(4:Nat)=(4:Nat),M.ul z8=v3,M.ul z3=g0,M.ul z0=g1,M.ul z5=g2,M.uh z5=g3,[q0]=[q0],[u0,M.ul z7,M.ul z4,M.ul z8,z2,z2,z2,z2]=[u0,v1,v2,v3,z2,z2,z2,z2]]):=by kernel_rfl
theorem bEx (fB fC:List SV) (u0 u1 u2 u3 v0 v1 v2 v3 q0 q1 h0 h1 h2 h3 g0 g1 g2 g3:Int) :
 gB Dh fB fC 4 8 1 1 1 9223372036854775808 18446744073709551615 0 (-1) (.int false .u64 u3) (.int false .u64 v2) (wc [u0,u1,u2,u3,0,0,0,0]) (wc [v0,v1,v2,v3,0,0,0,0]) (wc [q0]) (wc [q1]) (wc [h0,h1,h2,h3]) (wc [g0,g1,g2,g3]) [true,false,false] =
 sh (0:Int) fun z4=>
 sh (9223372036854775808:Int) fun z1=>
 sh (z4*M.dq z1 u3 u2+z4) fun z6=>
 sh (z4*M.dq z1 u3 u2+M.uh z6) fun z0=>
 sh (u0-M.ul z6-z4) fun z2=>
 sh (z1*M.dq z1 u3 u2+M.uh z0) fun z3=>
 sh (u1-M.ul z0-M.ub z2) fun z8=>
 sh (u2-M.ul z3-M.ub z8) fun z5=>
 sh (M.dq z1 u3 u2*z4) fun z7=>
 sh (M.dq z1 u3 u2) fun z9=>
 sh (u3-M.uh z3-M.ub z5) fun z10=>
 some (Cf.at Ex.normal,[],[(M.ub z10 != z4)=false,M.U u3,M.U (M.uh z3),M.K (M.ub z5),u3=u3,M.uh z3=M.uh z3,M.ub z5=M.ub z5,M.U u2,M.U (M.ul z3),M.K (M.ub z8),u2=u2,M.ul z3=M.ul z3,M.ub z8=M.ub z8,M.U u1,M.U (M.ul z0),M.K (M.ub z2),u1=u1,M.ul z0=M.ul z0,M.ub z2=M.ub z2,M.U u0,M.U (M.ul z6),M.K z4,u0=u0,M.ul z6=M.ul z6,z4=z4,M.U z1,M.U z9,M.U (M.uh z0),z1=z1,M.dq z1 u3 u2=M.dq z1 u3 u2,M.uh z0=M.uh z0,M.U z4,M.U z9,M.U (M.uh z6),z4=z4,M.dq z1 u3 u2=M.dq z1 u3 u2,M.uh z6=M.uh z6,M.U z4,M.U z9,M.U z4,z4=z4,M.dq z1 u3 u2=M.dq z1 u3 u2,z4=z4,M.gt (M.uh z7) (M.ul z7) (M.dr z1 u3 u2) u1=false,M.U (M.ul z7),M.U u1,M.uh z7=M.uh z7,M.ul z7=M.ul z7,M.dr z1 u3 u2=M.dr z1 u3 u2,u1=u1,M.U z9,M.U z4,M.dq z1 u3 u2=M.dq z1 u3 u2,z4=z4,M.U u3,M.U u2,u3<z1,u3=u3,u2=u2,(u3 != z1)=true,(3:Nat)=(3:Nat),(4:Nat)=(4:Nat),M.ul z5=v2,M.ul z6=g0,M.ul z0=g1,M.ul z3=g2,M.uh z3=g3,[M.dq z1 u3 u2]=[q1],[M.ul z2,M.ul z8,M.ul z5,M.ul z10,z4,z4,z4,z4]=[v0,v1,v2,v3,z4,z4,z4,z4]]):=by kernel_rfl
theorem bEv (fB fC:List SV) (u0 u1 u2 u3 q0 h0 h1 h2 h3:Int) :
 gB Dh fB fC 4 8 1 1 1 9223372036854775808 18446744073709551615 (-1) (-1) (.int false .u64 u2) (.int false .u64 u2) (wc [u0,u1,u2,u3,0,0,0,0]) (wc [u0,u1,u2,u3,0,0,0,0]) (wc [q0]) (wc [q0]) (wc [h0,h1,h2,h3]) (wc [h0,h1,h2,h3]) [] =
 sh (0:Int) fun z0=>
 some (Cf.at (Ex.exit 0),[],[(3:Nat)=(3:Nat),(4:Nat)=(4:Nat),u2=u2,h0=h0,h1=h1,h2=h2,h3=h3,[q0]=[q0],[u0,u1,u2,u3,z0,z0,z0,z0]=[u0,u1,u2,u3,z0,z0,z0,z0]]):=by kernel_rfl
theorem bEw (fB fC:List SV) (u0 u1 u2 u3 q0 h0 h1 h2 h3:Int) :
 Oq Dh fB fC 4 8 1 1 1 9223372036854775808 18446744073709551615 (.int false .u64 u2) (wc [u0,u1,u2,u3,0,0,0,0]) (wc [q0]) (wc [h0,h1,h2,h3]) =
 sh (0:Int) fun z0=>
 some {val:=SV.eP [],wr:=[(61,SB.own [SV.int false IntKind.u64 q0] 196),(63,SB.own [SV.int false IntKind.u64 u0,SV.int false IntKind.u64 u1,SV.int false IntKind.u64 u2,SV.int false IntKind.u64 u3,SV.int false IntKind.u64 z0,SV.int false IntKind.u64 z0,SV.int false IntKind.u64 z0,SV.int false IntKind.u64 z0] 196)]}:=by kernel_rfl
open M in
theorem aPr (fB fC:List SV) (q0 h0 h1 h2 h3:Int) {u0 u1 u2 u3:Int} (a1:U u1) (a2:U u2) (a3:U u3) (hd:u3<9223372036854775808) :
 ∃ ps,gB Dh fB fC 4 8 1 1 1 9223372036854775808 18446744073709551615 1 0 (.int true .u64 0) (.int false .u64 u3) (wc [u0,u1,u2,u3,0,0,0,0]) (wc [u0,u1,u2,u3,0,0,0,0]) (wc [q0]) (wc [q0]) (wc [h0,h1,h2,h3]) (wc [0,0,0,0]) [false,true,false,true]=some (.at .normal,[],ps)/\∀ q∈ps,q:=by
 have z2:=a1.1;have z3:=a1.2;have z4:=a2.1;have z5:=a2.2;have z6:=a3.1;have z7:=a3.2
 have e0:U 9223372036854775808:=⟨by decide,by decide⟩
 have hQ:dq 9223372036854775808 0 u3=0:=by unfold dq;omega
 have hR:dr 9223372036854775808 0 u3=u3:=by unfold dr;omega
 have hg:gt 0 0 u3 u2=false:=by unfold gt;exact zzF (by omega)
 refine ⟨_,bEy fB fC u0 u1 u2 u3 _ _ _ q0 h0 h1 h2 h3 _ _ _ _,aA ?_⟩
 simp only [hQ,hR,bJ,Int.mul_zero,Int.zero_mul,Int.add_zero,Int.sub_zero,ul0,Mm,tX a1,tX a2,tX a3,vO a1,vO a2,vO a3,hg,U0,K0,e0,a1,a2,a3,and_true,true_and]
 and_intros <;> first | rfl | decide
open M in
theorem aPq (fB fC:List SV) (q0:Int) {u0 u1 u2 u3:Int} (a0:U u0) (a1:U u1) (a2:U u2) (h3:0<=u3) (hd:u3<4) :
 ∃ ps,gB Dh fB fC 4 8 1 1 1 9223372036854775808 18446744073709551615 0 (-1) (.int false .u64 u3) (.int false .u64 (u2%9223372036854775808)) (wc [u0,u1,u2,u3,0,0,0,0]) (wc [u0,u1,u2%9223372036854775808,0,0,0,0,0]) (wc [q0]) (wc [dq 9223372036854775808 u3 u2]) (wc [0,0,0,0]) (wc [0,0,u2/9223372036854775808*9223372036854775808,u3]) [true,false,false]=some (.at .normal,[],ps)/\∀ q∈ps,q:=by
 have z0:=a0.1;have z1:=a0.2;have z2:=a1.1;have z3:=a1.2;have z4:=a2.1;have z5:=a2.2
 have a3:U u3:=by unfold U;omega
 have e0:U 9223372036854775808:=⟨by decide,by decide⟩
 obtain ⟨Q,hQ⟩:∃ Q,Q=dq 9223372036854775808 u3 u2:=⟨_,rfl⟩
 have hQ':Q=2*u3+u2/9223372036854775808:=by rw [hQ];unfold dq;omega
 have hR:dr 9223372036854775808 u3 u2=u2%9223372036854775808:=by unfold dr;omega
 have aQ:U Q:=by unfold U;omega
 have hl:ul (9223372036854775808*Q)=u2/9223372036854775808*9223372036854775808:=by unfold ul;omega
 have hh:uh (9223372036854775808*Q)=u3:=by unfold uh;omega
 have aP:U (u2/9223372036854775808*9223372036854775808):=by unfold U;omega
 have hs:u2-u2/9223372036854775808*9223372036854775808=u2%9223372036854775808:=by omega
 have aS:U (u2%9223372036854775808):=by unfold U;omega
 have hg:gt 0 0 (u2%9223372036854775808) u1=false:=by unfold gt;exact zzF (by omega)
 have h33:u3-u3=0:=by omega
 have e9:(u3 != 9223372036854775808)=true:=bne_iff_ne.2 (by omega)
 have cM:u3<9223372036854775808:=by omega
 refine ⟨_,bEx fB fC u0 u1 u2 u3 _ _ _ _ q0 _ 0 0 0 0 _ _ _ _,aA ?_⟩
 rw [<- hQ]
 simp only [hR,bJ,Int.mul_zero,Int.zero_mul,Int.zero_add,Int.add_zero,Int.sub_zero,ul0,Mm,hl,hh,hs,h33,tX a0,tX a1,tX aS,tX U0,vO a0,vO a1,vO aS,hg,U0,K0,e0,a0,a1,a2,a3,aQ,aP,aS,e9,cM,and_true,true_and]
 first | done | (and_intros <;> first | rfl | decide)
open M in
set_option maxHeartbeats 2000000 in
theorem aFm {u0 u1 u2 u3:Int} (y0:Int) (a0:U u0) (a1:U u1) (a2:U u2) (h3:0<=u3) (hd:u3<4) :
 aE Tryz.prog Γv 259 (Dd 4 8 1 1) (Jt Dh (wc [u0,u1,u2,u3,0,0,0,0]) (wc [y0])) 100 100 { val:=.eP [],wr:=[(61,.own (wc [dq 9223372036854775808 u3 u2]) 196),(63,.own (wc [u0,u1,u2%9223372036854775808,0,0,0,0,0]) 196)] }:=by
 have a3:U u3:=by unfold U;omega
 refine gI lU lV Tryz.func259 (by kernel_rfl) rfl (zzL (by kernel_rfl)) rfl [] ?_
 intro w0' Mx V0 Q hb H
 have aR:=lU
 have aU:=lV
 refine G.Ah aR aU mix hb [] (bEz u0 u1 u2 u3 y0 11259375 0 0 0) (aA (by simp only [sh,bJ,and_true])) ?_
 refine G.loop (fun r s=>(r=2/\s=bM (jV 4 8 1 1 1 9223372036854775808 18446744073709551615 (.int true .u64 0) 1) (jU (wc [11259375,0,0,0]) (wc [u0,u1,u2,u3,0,0,0,0]) (wc [y0])) 101 [61,63] jW)
  \/ (r=1/\s=bM (jV 4 8 1 1 1 9223372036854775808 18446744073709551615 (.int false .u64 u3) 0) (jU (wc [0,0,0,0]) (wc [u0,u1,u2,u3,0,0,0,0]) (wc [y0])) 101 [61,63] jW)
  \/ (r=0/\s=bM (jV 4 8 1 1 1 9223372036854775808 18446744073709551615 (.int false .u64 (u2%9223372036854775808)) (-1)) (jU (wc [0,0,u2/9223372036854775808*9223372036854775808,u3]) (wc [u0,u1,u2%9223372036854775808,0,0,0,0,0]) (wc [dq 9223372036854775808 u3 u2])) 101 [61,63] jW)) (r0:=2) (.inl ⟨rfl,rfl⟩) ?_
 rintro r s (⟨rfl,rfl⟩ | ⟨rfl,rfl⟩ | ⟨rfl,rfl⟩)
 .obtain ⟨ps,e,hp⟩:=aPr (wc [u0,u1,u2,u3,0,0,0,0]) (wc [y0]) y0 11259375 0 0 0 (u0:=u0) a1 a2 a3 (by omega)
  exact G.lW aR aU mix hb _ e hp 1 (by omega) (.inr (.inl ⟨rfl,rfl⟩))
 .obtain ⟨ps,e,hp⟩:=aPq (wc [u0,u1,u2,u3,0,0,0,0]) (wc [y0]) y0 a0 a1 a2 h3 hd
  exact G.lW aR aU mix hb _ e hp 0 (by omega) (.inr (.inr ⟨rfl,rfl⟩))
 .exact G.Ah aR aU mix hb [] (bEv _ _ u0 u1 _ _ _ _ _ _ _) (aA (by simp only [sh,bJ,and_true])) (G.leave (fun h=>by cases h)
   (G.fin aR aU mix [] H (bEw _ _ u0 u1 _ _ _ _ _ _ _) (by simp) rfl rfl rfl))
open M in
def KI (vs:List SV) (T:bA):Option Canon:=match vs with
 | [.aJ lq true 0 1 1,.ptr ls true 0,.aJ lu true 0 4 8,.cQ lv 0 3 0]=>match T lq,T ls,T lu,T lv with
   | some (.own qs 196),some (.own [.raw (.pointer none)] 306),some (.own us 196),some (.row 1 _ 196)=>match dA .u64 qs,dA .u64 us with
     | some [y0],some [u0,u1,u2,u3,_,_,_,_]=>some { eN:=Dd 4 8 1 1,T0:=[(61,.own (wc [y0]) 196),(62,.own [.raw (.pointer none)] 306),(63,.own (wc [u0,u1,u2,u3,0,0,0,0]) 196),(64,.row 1 Dh 196)],vl:=[(61,.lab lq 0),(62,.lab ls 0),(63,.lab lu 0),(64,.lab lv 0)],e0:={ val:=.eP [],wr:=[(61,.own (wc [dq 9223372036854775808 u3 u2]) 196),(63,.own (wc [u0,u1,u2%9223372036854775808,0,0,0,0,0]) 196),(62,.own [.raw (.pointer none)] 306),(64,.row 1 Dh 196)] },conds:=[U u0,U u1,U u2,0<=u3,u3<4] }
     | _,_=>none
   | _,_,_,_=>none
 | _=>none
theorem aXn (Γ:Env) (hg:Γ.aT=aB):aI Tryz.prog Γ 259 (aL aB 100 KI):=by
 refine aW hg fun vs T c hd hc=>?_
 unfold KI at hd
 split at hd
 case h_2=>cases hd
 split at hd
 case h_2=>cases hd
 split at hd
 case h_2=>cases hd
 cases hd
 exact (((aFm _ (hc _ (by simp)) (hc _ (by simp)) (hc _ (by simp)) (hc _ (by simp)) (hc _ (by simp))).bF 62 _ rfl (by decide)).bF 64 _ rfl (by decide)).words (by rw [hg];rfl) (fun _=>rfl) (fun _ _ h=>h) (fun _=>rfl) rfl rfl
noncomputable def XU (h:List Bool):Nat->Option Sum:=Hf AQ 192 h
theorem aEy (h:List Bool):∀ f S,XU h f=some S->∀ Γ:Env,Γ.aT=aB->aI Tryz.prog Γ f S:=oH qH 192 h
def nF:List SV:=[.ptr 61 true 0,.aJ 62 true 0 16 16]
def oX:List SV:=List.replicate 16 (.int true .u8 0)
def VN (X:SV) (xs:List SV) (out:List SV):List (Nat × SB):=[(61,.fS [.bool true false,X]),(62,.own out 59),(63,.fS xs)]
noncomputable def Xm (h:List Bool) (X:SV) (xs:List SV):Option bL:=aF (env (XU h) 22) Tryz.f149 true [] 400 nF (fun l=>look l (VN X xs oX)) 100 100
namespace M
def sr:Nat->Int->Int
 | 0,a=>a
 | j+1,a=>cB .u64 (sr j a) 8
def eW (j:Nat) (a:Int):Int:=IntKind.u8.wrap (sr j a)
end M
namespace M
def bts (a0 a1:Int):List Int:=[eW 7 a1,eW 6 a1,eW 5 a1,eW 4 a1,eW 3 a1,eW 2 a1,eW 1 a1,eW 0 a1,eW 7 a0,eW 6 a0,eW 5 a0,eW 4 a0,eW 3 a0,eW 2 a0,eW 1 a0,eW 0 a0]
def fbZ (l:List Int) (k:Nat):List Prop:=(List.range k).reverse.map fun j=>(l.getD j 0==0)=true
def fbO (l:List Int) (k:Nat):List Prop:=((l.getD k 0==0)=false)::fbZ l k
def fbP (k n:Nat):List Bool:=match Nat.blt k n with
 | true=>List.replicate k true++[false]
 | false=>List.replicate n true
def fbQ (l:List Int) (k n:Nat):List Prop:=match Nat.blt k n with
 | true=>fbO l k
 | false=>fbZ l n
theorem MN (l:List Int) (n:Nat):∃ k,k<=n/\∀ q∈fbQ l k n,q:=by
 have zer:∀ m,(∀ j,j<m->(l.getD j 0==0)=true)->∀ q∈fbZ l m,q:=fun m h q hq=>by
  obtain ⟨j,hj,rfl⟩:=List.mem_map.1 hq
  exact h j (by simpa using hj)
 have key:∀ m,m<=n->(∃ k,k<=n/\∀ q∈fbQ l k n,q)\/∀ j,j<m->(l.getD j 0==0)=true:=by
  intro m
  induction m with
  | zero=>exact fun _=>.inr fun j h=>by omega
  | succ m ih=>
    intro hm
    rcases ih (by omega) with h | h
    .exact .inl h
    .cases hb:(l.getD m 0==0) with
     | false=>
       refine .inl ⟨m,by omega,?_⟩
       unfold fbQ
       rw [show Nat.blt m n=true by rw [Nat.blt_eq];omega]
       intro q hq
       rcases List.mem_cons.1 hq with rfl | hq
       .exact hb
       .exact zer m h q hq
     | true=>exact .inr fun j hj=>if e:j=m then by rw [e];exact hb else h j (by omega)
 rcases key n (zzr _) with h | h
 .exact h
 .refine ⟨n,zzr _,?_⟩
  unfold fbQ
  rw [show Nat.blt n n=false by cases hb:Nat.blt n n with
   | false=>rfl
   | true=>rw [Nat.blt_eq] at hb;omega]
  exact zer n h
end M
theorem aEl (c:Nat) (xs:List SV) :
 Xm [] (.aJ 63 true 0 0 c) xs =
 some {val:=.aJ 62 true 0 16 16,wr:=[(62,.own oX 59)]}:=by kernel_rfl
theorem bEp (xs:List SV) :
 Xm [] (.raw (.slice none 0 0)) xs =
 some {val:=.aJ 62 true 0 16 16,wr:=[(62,.own oX 59)]}:=by kernel_rfl
def fbW (n:Nat) (l:List Int):List SV:=oX.take (16-n)++bc (l.drop (16-n))
theorem bEr (c:Nat) (a0:Int) (xs:List SV) (k:Nat) (hk:k<=8):Xm (M.fbP k 8) (.aJ 63 true 0 1 c) (ww a0 xs)=some { bK:=M.fbQ ((M.bts a0 0).drop 8) k 8,val:=.aJ 62 true 0 16 16,wr:=[(62,.own (fbW 8 (M.bts a0 0)) 59)] }:=by
 rcases (by omega:k=0\/k=1\/k=2\/k=3\/k=4\/k=5\/k=6\/k=7\/k=8) with rfl | rfl | rfl | rfl | rfl | rfl | rfl | rfl | rfl <;> kernel_rfl
theorem bEq (c:Nat) (a0 a1:Int) (xs:List SV) (k:Nat) (hk:k<=16):Xm (M.fbP k 16) (.aJ 63 true 0 2 c) (ww a0 (ww a1 xs))=some { bK:=M.fbQ (M.bts a0 a1) k 16,val:=.aJ 62 true 0 16 16,wr:=[(62,.own (fbW 16 (M.bts a0 a1)) 59)] }:=by
 rcases (by omega:k=0\/k=1\/k=2\/k=3\/k=4\/k=5\/k=6\/k=7\/k=8\/k=9\/k=10\/k=11\/k=12\/k=13\/k=14\/k=15\/k=16) with rfl | rfl | rfl | rfl | rfl | rfl | rfl | rfl | rfl | rfl | rfl | rfl | rfl | rfl | rfl | rfl | rfl <;> kernel_rfl
namespace M
def nb (n:Int) (j:Nat):Int:=n/256^j%256
theorem aGq (a:Int):∀ j:Nat,sr j a=a/256^j
 | 0=>by simp [sr]
 | j+1=>by
   show Int.fdiv (sr j a) 256=_
   rw [Int.fdiv_eq_ediv_of_nonneg _ (by decide),aGq a j,Int.pow_succ]
   exact Int.ediv_ediv_of_nonneg (Int.le_of_lt (Int.pow_pos (by decide)))
theorem aHz (j:Nat) (a:Int):eW j a=a/256^j%256:=by
 unfold eW
 rw [IntKind.wrap_u8,aGq]
theorem aVq (a0 a1:Int) (j:Nat) (hj:j<8):nb (a0+18446744073709551616*a1) j=eW j a0:=by
 rw [aHz]
 unfold nb
 rcases (by omega:j=0\/j=1\/j=2\/j=3\/j=4\/j=5\/j=6\/j=7) with rfl | rfl | rfl | rfl | rfl | rfl | rfl | rfl <;> omega
theorem aVr {a0:Int} (h0:U a0) (a1:Int) (j:Nat) (hj:j<8):nb (a0+18446744073709551616*a1) (j+8)=eW j a1:=by
 have:=h0.1
 have:=h0.2
 rw [aHz]
 unfold nb
 rcases (by omega:j=0\/j=1\/j=2\/j=3\/j=4\/j=5\/j=6\/j=7) with rfl | rfl | rfl | rfl | rfl | rfl | rfl | rfl <;> omega
def nbs (n:Int):List Int:=[nb n 15,nb n 14,nb n 13,nb n 12,nb n 11,nb n 10,nb n 9,nb n 8,nb n 7,nb n 6,nb n 5,nb n 4,nb n 3,nb n 2,nb n 1,nb n 0]
theorem MA {a0:Int} (h0:U a0) (a1:Int):nbs (a0+18446744073709551616*a1)=bts a0 a1:=by
 have h:=aVr h0 a1
 have l:=aVq a0 a1
 simp only [nbs,bts,List.cons.injEq,and_true]
 exact ⟨h 7 (by decide),h 6 (by decide),h 5 (by decide),h 4 (by decide),h 3 (by decide),h 2 (by decide),h 1 (by decide),h 0 (by decide),l 7 (by decide),l 6 (by decide),l 5 (by decide),l 4 (by decide),l 3 (by decide),l 2 (by decide),l 1 (by decide),l 0 (by decide)⟩
end M
def fbE (n:Int):bL:={ val:=.aJ 62 true 0 16 16,wr:=[(62,.own (bc (M.nbs n)) 59)] }
theorem XQ (h:List Bool):aI Tryz.prog (env (XU h) 22) 149 (aF (env (XU h) 22) Tryz.f149 true [] 400):=aM (bP _ 22) (bV _ (aEy h) 22) mix Tryz.func149 (by kernel_rfl) true [] 400
theorem aRv:M.nbs 0=List.replicate 16 0:=by decide
theorem PK (xs:List SV):aE Tryz.prog Γv 149 nF (fun l=>look l (VN (.raw (.slice none 0 0)) xs oX)) 100 100 (fbE 0):=
 ((XQ []).call (bEp xs) (by simp)).re rfl (fun _=>rfl) trivial ⟨rfl,⟨rfl,fun _=>by rw [aRv];rfl⟩,trivial⟩
theorem PN (c:Nat) (xs:List SV):aE Tryz.prog Γv 149 nF (fun l=>look l (VN (.aJ 63 true 0 0 c) xs oX)) 100 100 (fbE 0):=
 ((XQ []).call (aEl c xs) (by simp)).re rfl (fun _=>rfl) trivial ⟨rfl,⟨rfl,fun _=>by rw [aRv];rfl⟩,trivial⟩
open M in
theorem PM (c:Nat) {a0:Int} (h0:U a0) (xs:List SV):aE Tryz.prog Γv 149 nF (fun l=>look l (VN (.aJ 63 true 0 1 c) (ww a0 xs) oX)) 100 100 (fbE a0):=by
 obtain ⟨k,hk,ho⟩:=MN ((bts a0 0).drop 8) 8
 have e:=MA h0 0
 rw [Int.mul_zero,Int.add_zero] at e
 exact ((XQ _).call (bEr c a0 xs k hk) ho).re rfl (fun _=>rfl) trivial ⟨rfl,⟨rfl,fun V=>by rw [e];rfl⟩,trivial⟩
open M in
theorem PL (c:Nat) {a0 a1:Int} (h0:U a0) (_:U a1) (xs:List SV):aE Tryz.prog Γv 149 nF (fun l=>look l (VN (.aJ 63 true 0 2 c) (ww a0 (ww a1 xs)) oX)) 100 100 (fbE (a0+18446744073709551616*a1)):=by
 obtain ⟨k,hk,ho⟩:=MN (bts a0 a1) 16
 have e:=MA h0 a1
 exact ((XQ _).call (bEq c a0 a1 xs k hk) ho).re rfl (fun _=>rfl) trivial ⟨rfl,⟨rfl,fun V=>by rw [e];rfl⟩,trivial⟩
end Go.Proofs.YticicdfijghigaaGreatDoor.Sx
