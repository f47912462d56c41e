/- math/big: (*Int).Mod by 2^130 - 5, in place, as a summary; calls on the same blocks in other words. -/
import Derived.Test.YticicdfijghigaaGreatDoorQF
open Go
set_option maxRecDepth 100000
namespace Go.Proofs.YticicdfijghigaaGreatDoor.Sx
theorem Sf {B C:SB} (h:jO B C):jO C B:=by
 cases B with
 | own cs t=>
   cases C with
   | own ds t'=>exact ⟨h.1.symm,fun V=>(h.2 V).symm⟩
   | _=>simp [jO] at h
 | _=>simp only [jO] at h;subst h;exact cC _
theorem aE.reL {P:Program} {Γ:Env} {f:FuncId} {vs Kh:List SV} {L L':List (Nat × SB)} {lab F:Nat} {e:bJ} (h:aE P Γ f vs (fun l=>look l L) lab F e) (hw:oL L L') (hv:∀ V,aG V Kh=aG V vs):aE P Γ f Kh (fun l=>look l L') lab F e:=by
 intro w0 M V T2 w xs aK Hx Xy hf hF hx o a K Q hK
 obtain ⟨T3,hT3⟩:∃ T3:aZ,T3=fun l=>match look l L with
  | some B=>some B
  | none=>T2 l:=⟨_,rfl⟩
 have src:∀ l B,T3 l=some B->∃ C,T2 l=some C/\jO C B:=by
  intro l B hl
  rw [hT3] at hl
  simp only at hl
  rcases pO (l:=l) hw with ⟨e1,e2⟩ | ⟨C,D,e1,e2,e3⟩
  .rw [e1] at hl;exact ⟨B,hl,cC B⟩
  .rw [e1] at hl;cases hl;exact ⟨D,aK l D e2,Sf e3⟩
 have back:∀ l B,T2 l=some B->∃ C,T3 l=some C/\jO C B:=by
  intro l B hl
  rw [hT3]
  rcases pO (l:=l) hw with ⟨e1,e2⟩ | ⟨C,D,e1,e2,e3⟩
  .simp only [e1];exact ⟨B,hl,cC B⟩
  .simp only [e1]
   have:=aK l D e2
   rw [hl] at this
   cases this
   exact ⟨C,rfl,e3⟩
 have move:∀ {T T':aZ} {V:aY} {w:World},(∀ l B,T' l=some B->∃ C,T l=some C/\jO C B)->aC w0 M V T w->aC w0 M V T' w:=by
  intro T T' V w hs ht
  refine ⟨fun l B hl=>?_,fun l B l' B' n dD hl rL ho hb iD=>?_,fun l B n hl ho hb=>?_,ht.frame,fun l B hl=>?_⟩
  .obtain ⟨C,hC,hs⟩:=hs l B hl
   exact (kW hs V w l).1 (ht.ok l C hC)
  .obtain ⟨C,hC,fP⟩:=hs l B hl
   obtain ⟨C',SI,Dv⟩:=hs l' B' rL
   obtain ⟨_,b1,b2⟩:=kW fP V w l
   obtain ⟨_,b1',b2'⟩:=kW Dv V w l'
   exact ht.jN l C l' C' n dD hC SI (b2 ▸ ho) (b1 ▸ hb) (b1' ▸ iD)
  .obtain ⟨C,hC,hs⟩:=hs l B hl
   obtain ⟨_,b1,b2⟩:=kW hs V w l
   exact ht.perm l C n hC (b2 ▸ ho) (b1 ▸ hb)
  .obtain ⟨C,hC,hs⟩:=hs l B hl
   exact Gk hs (ht.sM l C hC)
 refine h w0 M V T3 w xs (fun l B hl=>?_) (move src Hx) Xy hf hF ((hv V).symm.trans hx) o a K Q fun V' x w' h1 h2 h3=>hK V' x w' h1 h2 (move (fun l B hl=>?_) h3)
 .have hl:look l L=some B:=hl
  rw [hT3];simp only;rw [hl]
 .unfold eE at hl |-
  cases hk:look l (e.eG lab) with
  | some C=>rw [hk] at hl;cases hl;exact ⟨_,rfl,cC _⟩
  | none=>rw [hk] at hl;exact back l B hl
noncomputable def aKc:Option bJ:=aJ (env (pD true 0 0) 22) Tryz.f138 true [] 400 qQ (fun l=>look l [(61,.own [.bool true false,.raw (.slice none 0 0)] 146),(62,.own [.bool true false,.aH 66 true 0 3 8] 146),(66,.own Dz 196),(18,.fN [.int true .i64 40])]) 100 100
theorem md0 (x:Int) :
 aKc =
 some {val:=SV.ptr 61 true 0,wr:=[(61,SB.own [SV.bool true false,SV.raw (Value.slice none (0:Nat) (0:Nat))] 146)]}:=by kernel_rfl
open M in
def GH (vs:List SV) (T:aZ):Option Canon:=match vs with
 | [.ptr l1 true 0,.ptr l1' true 0,.ptr l2 true 0]=>match Nat.beq l1 l1',T l1,T l2 with
   | true,some (.own [.bool _ _,X] 146),some (.own [.bool _ _,.aH lp _ 0 3 8] 146)=>match X with
     | .raw (.slice none 0 0)=>some { eR:=qQ,T0:=[(61,.own [.bool true false,.raw (.slice none 0 0)] 146),(62,.own [.bool true false,.aH 66 true 0 3 8] 146),(66,.own Dz 196),(18,.fN [.int true .i64 40])],vl:=[(61,.lab l1 0),(62,.lab l2 0),(66,.lab lp 0)],e0:={ val:=.ptr 61 true 0,wr:=[(61,.own [.bool true false,.raw (.slice none 0 0)] 146),(62,.own [.bool true false,.aH 66 true 0 3 8] 146),(66,.own Dz 196)] } }
     | .aH lw true 0 n cap=>match T lw with
       | some (.own cs 196)=>match cX .u64 cs with
         | some [a0,a1,_,_,_,_]=>match Nat.beq cap 6,Nat.beq n 1,Nat.beq n 2 with
           | true,true,_=>some { eR:=qQ,T0:=[(61,.own [.bool true false,.aH 63 true 0 1 6] 146),(62,.own [.bool true false,.aH 66 true 0 3 8] 146),(63,.own (wc [a0,0,0,0,0,0]) 196),(66,.own Dz 196),(18,.fN [.int true .i64 40])],vl:=[(61,.lab l1 0),(62,.lab l2 0),(63,.lab lw 0),(66,.lab lp 0)],e0:={ val:=.ptr 61 true 0,wr:=[(61,.own [.bool true false,.aH 63 false 0 (ln (a0%bA)) 6] 146),(63,.own (wc [w0 (a0%bA),w1 (a0%bA),w2 (a0%bA),0,0,0]) 196),(62,.own [.bool true false,.aH 66 true 0 3 8] 146),(66,.own Dz 196)] },conds:=[U a0,a0≠0] }
           | true,_,true=>some { eR:=qQ,T0:=[(61,.own [.bool true false,.aH 63 true 0 2 6] 146),(62,.own [.bool true false,.aH 66 true 0 3 8] 146),(63,.own (wc [a0,a1,0,0,0,0]) 196),(66,.own Dz 196),(18,.fN [.int true .i64 40])],vl:=[(61,.lab l1 0),(62,.lab l2 0),(63,.lab lw 0),(66,.lab lp 0)],e0:={ val:=.ptr 61 true 0,wr:=[(61,.own [.bool true false,.aH 63 false 0 (ln ((a0+18446744073709551616*a1)%bA)) 6] 146),(63,.own (wc [w0 ((a0+18446744073709551616*a1)%bA),w1 ((a0+18446744073709551616*a1)%bA),w2 ((a0+18446744073709551616*a1)%bA),0,0,0]) 196),(62,.own [.bool true false,.aH 66 true 0 3 8] 146),(66,.own Dz 196)] },conds:=[U a0,U a1,a1≠0] }
           | _,_,_=>none
         | some [a0,a1,a2,_,_,_,_]=>match Nat.beq cap 7,Nat.beq n 2,Nat.beq n 3 with
           | true,true,_=>some { eR:=qQ,T0:=[(61,.own [.bool true false,.aH 63 true 0 2 7] 146),(62,.own [.bool true false,.aH 66 true 0 3 8] 146),(63,.own (wc [a0,a1,0,0,0,0,0]) 196),(66,.own Dz 196),(18,.fN [.int true .i64 40])],vl:=[(61,.lab l1 0),(62,.lab l2 0),(63,.lab lw 0),(66,.lab lp 0)],e0:={ val:=.ptr 61 true 0,wr:=[(61,.own [.bool true false,.aH 63 false 0 (ln ((a0+18446744073709551616*a1)%bA)) 7] 146),(63,.own (wc [w0 ((a0+18446744073709551616*a1)%bA),w1 ((a0+18446744073709551616*a1)%bA),w2 ((a0+18446744073709551616*a1)%bA),0,0,0,0]) 196),(62,.own [.bool true false,.aH 66 true 0 3 8] 146),(66,.own Dz 196)] },conds:=[U a0,U a1,a1≠0] }
           | true,_,true=>some { eR:=qQ,T0:=[(61,.own [.bool true false,.aH 63 true 0 3 7] 146),(62,.own [.bool true false,.aH 66 true 0 3 8] 146),(63,.own (wc [a0,a1,a2,0,0,0,0]) 196),(66,.own Dz 196),(18,.fN [.int true .i64 40])],vl:=[(61,.lab l1 0),(62,.lab l2 0),(63,.lab lw 0),(66,.lab lp 0)],e0:={ val:=.ptr 61 true 0,wr:=[(61,.own [.bool true false,.aH 63 false 0 (ln (n3 a0 a1 a2%bA)) 7] 146),(63,.own (wc [w0 (n3 a0 a1 a2%bA),w1 (n3 a0 a1 a2%bA),w2 (n3 a0 a1 a2%bA),0,0,0,0]) 196),(62,.own [.bool true false,.aH 66 true 0 3 8] 146),(66,.own Dz 196)] },conds:=[U a0,U a1,U a2,a2≠0] }
           | _,_,_=>none
         | some [a0,a1,a2,a3,_,_,_,_]=>match Nat.beq cap 8,Nat.beq n 3,Nat.beq n 4 with
           | true,true,_=>some { eR:=qQ,T0:=[(61,.own [.bool true false,.aH 63 true 0 3 8] 146),(62,.own [.bool true false,.aH 66 true 0 3 8] 146),(63,.own (wc [a0,a1,a2,0,0,0,0,0]) 196),(66,.own Dz 196),(18,.fN [.int true .i64 40])],vl:=[(61,.lab l1 0),(62,.lab l2 0),(63,.lab lw 0),(66,.lab lp 0)],e0:={ val:=.ptr 61 true 0,wr:=[(61,.own [.bool true false,.aH 63 false 0 (ln (n3 a0 a1 a2%bA)) 8] 146),(63,.own (wc [w0 (n3 a0 a1 a2%bA),w1 (n3 a0 a1 a2%bA),w2 (n3 a0 a1 a2%bA),0,0,0,0,0]) 196),(62,.own [.bool true false,.aH 66 true 0 3 8] 146),(66,.own Dz 196)] },conds:=[U a0,U a1,U a2,a2≠0] }
           | true,_,true=>some { eR:=qQ,T0:=[(61,.own [.bool true false,.aH 63 true 0 4 8] 146),(62,.own [.bool true false,.aH 66 true 0 3 8] 146),(63,.own (wc [a0,a1,a2,a3,0,0,0,0]) 196),(66,.own Dz 196),(18,.fN [.int true .i64 40])],vl:=[(61,.lab l1 0),(62,.lab l2 0),(63,.lab lw 0),(66,.lab lp 0)],e0:={ val:=.ptr 61 true 0,wr:=[(61,.own [.bool true false,.aH 63 false 0 (ln (n4 a0 a1 a2 a3%bA)) 8] 146),(63,.own (wc [w0 (n4 a0 a1 a2 a3%bA),w1 (n4 a0 a1 a2 a3%bA),w2 (n4 a0 a1 a2 a3%bA),0,0,0,0,0]) 196),(62,.own [.bool true false,.aH 66 true 0 3 8] 146),(66,.own Dz 196)] },conds:=[U a0,U a1,U a2,U a3,a3≠0] }
           | _,_,_=>none
         | some [a0,a1,a2,a3,_,_,_,_,_]=>match Nat.beq cap 9,Nat.beq n 4 with
           | true,true=>some { eR:=qQ,T0:=[(61,.own [.bool true false,.aH 63 true 0 4 9] 146),(62,.own [.bool true false,.aH 66 true 0 3 8] 146),(63,.own (wc [a0,a1,a2,a3,0,0,0,0,0]) 196),(66,.own Dz 196),(18,.fN [.int true .i64 40])],vl:=[(61,.lab l1 0),(62,.lab l2 0),(63,.lab lw 0),(66,.lab lp 0)],e0:={ val:=.ptr 61 true 0,wr:=[(61,.own [.bool true false,.aH 63 false 0 (ln (n4 a0 a1 a2 a3%bA)) 9] 146),(63,.own (wc [w0 (n4 a0 a1 a2 a3%bA),w1 (n4 a0 a1 a2 a3%bA),w2 (n4 a0 a1 a2 a3%bA),0,0,0,0,0,0]) 196),(62,.own [.bool true false,.aH 66 true 0 3 8] 146),(66,.own Dz 196)] },conds:=[U a0,U a1,U a2,U a3,a3≠0] }
           | _,_=>none
         | _=>none
       | _=>none
     | _=>none
   | _,_,_=>none
 | _=>none
open M in
theorem aSk (Γ:Env) (hg:Γ.aR=aB):aI Tryz.prog Γ 138 (aL aB 100 GH):=by
 refine aW hg fun vs T c hd hc=>?_
 unfold GH at hd
 split at hd
 case h_2=>cases hd
 split at hd
 case h_2=>cases hd
 split at hd
 case h_3=>cases hd
 .cases hd
  have hs:aI Tryz.prog (env (pD true 0 0) 22) 138 (aJ (env (pD true 0 0) 22) Tryz.f138 true [] 400):=aN (bQ _ 22) (bW _ (nR true 0 0) 22) mix Tryz.func138 (by kernel_rfl) true [] 400
  exact (((hs.call (md0 0) (by simp)).bE 62 _ rfl (by decide)).bE 66 _ rfl (by decide)).words (by rw [hg];rfl) (fun _=>rfl) (fun _ _ h=>h) (fun _=>rfl) rfl rfl
 split at hd
 case h_2=>cases hd
 split at hd
 case h_5=>cases hd
 .rename_i a0 a1 _ _ _ _ _
  split at hd
  case h_3=>cases hd
  .cases hd
   exact (((Sq (hc _ (by simp)) (hc _ (by simp))).bE 62 _ rfl (by decide)).bE 66 _ rfl (by decide)).words (by rw [hg];rfl) (fun _=>rfl) (fun _ _ h=>h) (fun _=>rfl) rfl rfl
  .cases hd
   exact (((Sp (hc _ (by simp)) (hc _ (by simp)) (hc _ (by simp))).bE 62 _ rfl (by decide)).bE 66 _ rfl (by decide)).words (by rw [hg];rfl) (fun _=>rfl) (fun _ _ h=>h) (fun _=>rfl) rfl rfl
 .rename_i a0 a1 a2 _ _ _ _ _
  split at hd
  case h_3=>cases hd
  .cases hd
   exact (((So (hc _ (by simp)) (hc _ (by simp)) (hc _ (by simp))).bE 62 _ rfl (by decide)).bE 66 _ rfl (by decide)).words (by rw [hg];rfl) (fun _=>rfl) (fun _ _ h=>h) (fun _=>rfl) rfl rfl
  .cases hd
   have h3:a2≠0:=hc _ (by simp)
   have u0:U a0:=hc _ (by simp)
   have u1:U a1:=hc _ (by simp)
   have u2:U a2:=hc _ (by simp)
   by_cases hp:n3 a0 a1 a2<bA
   .exact (((Sn u0 u1 u2 h3 hp).bE 62 _ rfl (by decide)).bE 66 _ rfl (by decide)).words (by rw [hg];rfl) (fun _=>rfl) (fun _ _ h=>h) (fun _=>rfl) rfl rfl
   .exact (((Gt (.inl rfl) u0 u1 u2 (by omega)).bE 62 _ rfl (by decide)).bE 66 _ rfl (by decide)).words (by rw [hg];rfl) (fun _=>rfl) (fun _ _ h=>h) (fun _=>rfl) rfl rfl
 .rename_i a0 a1 a2 a3 _ _ _ _ _
  split at hd
  case h_3=>cases hd
  .cases hd
   have h3:a2≠0:=hc _ (by simp)
   have u0:U a0:=hc _ (by simp)
   have u1:U a1:=hc _ (by simp)
   have u2:U a2:=hc _ (by simp)
   by_cases hp:n3 a0 a1 a2<bA
   .exact (((Sm u0 u1 u2 h3 hp).bE 62 _ rfl (by decide)).bE 66 _ rfl (by decide)).words (by rw [hg];rfl) (fun _=>rfl) (fun _ _ h=>h) (fun _=>rfl) rfl rfl
   .exact (((Gt (.inr rfl) u0 u1 u2 (by omega)).bE 62 _ rfl (by decide)).bE 66 _ rfl (by decide)).words (by rw [hg];rfl) (fun _=>rfl) (fun _ _ h=>h) (fun _=>rfl) rfl rfl
  .cases hd
   have h3:a3≠0:=hc _ (by simp)
   have u0:U a0:=hc _ (by simp)
   have u1:U a1:=hc _ (by simp)
   have u2:U a2:=hc _ (by simp)
   have u3:U a3:=hc _ (by simp)
   have hp:bA<=n4 a0 a1 a2 a3:=by
    have:=u0.1;have:=u1.1;have:=u2.1;have:=u3.1
    unfold bA n4;omega
   exact (((Gs (.inl rfl) u0 u1 u2 u3 hp).bE 62 _ rfl (by decide)).bE 66 _ rfl (by decide)).words (by rw [hg];rfl) (fun _=>rfl) (fun _ _ h=>h) (fun _=>rfl) rfl rfl
 .rename_i a0 a1 a2 a3 _ _ _ _ _ _
  split at hd
  case h_2=>cases hd
  .cases hd
   have h3:a3≠0:=hc _ (by simp)
   have u0:U a0:=hc _ (by simp)
   have u1:U a1:=hc _ (by simp)
   have u2:U a2:=hc _ (by simp)
   have u3:U a3:=hc _ (by simp)
   have hp:bA<=n4 a0 a1 a2 a3:=by
    have:=u0.1;have:=u1.1;have:=u2.1;have:=u3.1
    unfold bA n4;omega
   exact (((Gs (.inr rfl) u0 u1 u2 u3 hp).bE 62 _ rfl (by decide)).bE 66 _ rfl (by decide)).words (by rw [hg];rfl) (fun _=>rfl) (fun _ _ h=>h) (fun _=>rfl) rfl rfl
noncomputable def aGp:Nat->Option Sum:=dM Yb 138 (aL aB 100 GH)
theorem Wz:∀ f S,aGp f=some S->∀ Γ:Env,Γ.aR=aB->aI Tryz.prog Γ f S:=bD pK 138 _ aSk
noncomputable def Ia (iq ir:Nat):Nat->Option Sum:=dM Yb 186 (aL aB 100 (tE iq ir))
theorem Jj (iq ir:Nat):∀ f S,Ia iq ir f=some S->∀ Γ:Env,Γ.aR=aB->aI Tryz.prog Γ f S:=bD pK 186 _ (Cg iq ir)
def bc (xs:List Int):List SV:=xs.map (.int false .u8)
noncomputable def aJw (bs:List Int):Option bJ:=aJ (env (Ia 0 3) 22) Tryz.f91 true [] 400 [.cP 61 0 17 0] (fun l=>look l [(61,.row 1 (bc bs) 5)]) 100 100
noncomputable def xE (iq:Nat) (o c:Nat) (bs:List Int):Option bJ:=aJ (env (Ia iq 0) 22) Tryz.f91 true [] 400 [.aH 61 true o 16 c] (fun l=>look l [(61,.fN (bc bs))]) 100 100
namespace M
def iP (b0 b1 b2 b3 b4 b5 b6 b7:Int):Int:=kN .u64 (kN .u64 (kN .u64 (kN .u64 (kN .u64 (kN .u64 (kN .u64 (IntKind.u64.wrap b0) (dI .u64 (IntKind.u64.wrap b1) 8)) (dI .u64 (IntKind.u64.wrap b2) 16)) (dI .u64 (IntKind.u64.wrap b3) 24)) (dI .u64 (IntKind.u64.wrap b4) 32)) (dI .u64 (IntKind.u64.wrap b5) 40)) (dI .u64 (IntKind.u64.wrap b6) 48)) (dI .u64 (IntKind.u64.wrap b7) 56)
end M
theorem n17 (b0 b1 b2 b3 b4 b5 b6 b7 b8 b9 dC dB dA dH dG gN iW:Int) :
 aJw [b0,b1,b2,b3,b4,b5,b6,b7,b8,b9,dC,dB,dA,dH,dG,gN,iW] =
 sh (IntKind.u64.wrap iW) fun z0=>
 some {bK:=([M.nl [M.iP b0 b1 b2 b3 b4 b5 b6 b7,M.iP b8 b9 dC dB dA dH dG gN,kN .u64 0 (dI .u64 z0 0)]=3,[M.iP b0 b1 b2 b3 b4 b5 b6 b7,M.iP b8 b9 dC dB dA dH dG gN,kN .u64 0 (dI .u64 z0 0),0,0,0,0]=[M.iP b0 b1 b2 b3 b4 b5 b6 b7,M.iP b8 b9 dC dB dA dH dG gN,kN .u64 0 (dI .u64 z0 0),0,0,0,0]]:List Prop),val:=.ptr 100 true 0,new:=[.own [.bool true false,.aH 101 true 0 3 7] 146,.own [.int false .u64 (M.iP b0 b1 b2 b3 b4 b5 b6 b7),.int false .u64 (M.iP b8 b9 dC dB dA dH dG gN),.int false .u64 (kN .u64 0 (dI .u64 z0 0)),.int false .u64 0,.int false .u64 0,.int false .u64 0,.int false .u64 0] 196]}:=by kernel_rfl
theorem ZA (b0 b1 b2 b3 b4 b5 b6 b7 b8 b9 dC dB dA dH dG gN iW mO mL mK mJ mI mH mG mF mE mD mC mB mA lZ lY:Int) :
 xE 0 0 32 [b0,b1,b2,b3,b4,b5,b6,b7,b8,b9,dC,dB,dA,dH,dG,gN,iW,mO,mL,mK,mJ,mI,mH,mG,mF,mE,mD,mC,mB,mA,lZ,lY] =
 some {bK:=([M.nl [M.iP b0 b1 b2 b3 b4 b5 b6 b7,M.iP b8 b9 dC dB dA dH dG gN]=0,[M.iP b0 b1 b2 b3 b4 b5 b6 b7,M.iP b8 b9 dC dB dA dH dG gN,0,0,0,0]=[M.iP b0 b1 b2 b3 b4 b5 b6 b7,M.iP b8 b9 dC dB dA dH dG gN,0,0,0,0]]:List Prop),val:=.ptr 100 true 0,new:=[.own [.bool true false,.aH 101 true 0 0 6] 146,.own [.int false .u64 (M.iP b0 b1 b2 b3 b4 b5 b6 b7),.int false .u64 (M.iP b8 b9 dC dB dA dH dG gN),.int false .u64 0,.int false .u64 0,.int false .u64 0,.int false .u64 0] 196]}:=by kernel_rfl
theorem LJ (b0 b1 b2 b3 b4 b5 b6 b7 b8 b9 dC dB dA dH dG gN iW mO mL mK mJ mI mH mG mF mE mD mC mB mA lZ lY:Int) :
 xE 0 16 16 [b0,b1,b2,b3,b4,b5,b6,b7,b8,b9,dC,dB,dA,dH,dG,gN,iW,mO,mL,mK,mJ,mI,mH,mG,mF,mE,mD,mC,mB,mA,lZ,lY] =
 some {bK:=([M.nl [M.iP iW mO mL mK mJ mI mH mG,M.iP mF mE mD mC mB mA lZ lY]=0,[M.iP iW mO mL mK mJ mI mH mG,M.iP mF mE mD mC mB mA lZ lY,0,0,0,0]=[M.iP iW mO mL mK mJ mI mH mG,M.iP mF mE mD mC mB mA lZ lY,0,0,0,0]]:List Prop),val:=.ptr 100 true 0,new:=[.own [.bool true false,.aH 101 true 0 0 6] 146,.own [.int false .u64 (M.iP iW mO mL mK mJ mI mH mG),.int false .u64 (M.iP mF mE mD mC mB mA lZ lY),.int false .u64 0,.int false .u64 0,.int false .u64 0,.int false .u64 0] 196]}:=by kernel_rfl
theorem YZ (b0 b1 b2 b3 b4 b5 b6 b7 b8 b9 dC dB dA dH dG gN iW mO mL mK mJ mI mH mG mF mE mD mC mB mA lZ lY:Int) :
 xE 1 0 32 [b0,b1,b2,b3,b4,b5,b6,b7,b8,b9,dC,dB,dA,dH,dG,gN,iW,mO,mL,mK,mJ,mI,mH,mG,mF,mE,mD,mC,mB,mA,lZ,lY] =
 some {bK:=([M.nl [M.iP b0 b1 b2 b3 b4 b5 b6 b7,M.iP b8 b9 dC dB dA dH dG gN]=1,[M.iP b0 b1 b2 b3 b4 b5 b6 b7,M.iP b8 b9 dC dB dA dH dG gN,0,0,0,0]=[M.iP b0 b1 b2 b3 b4 b5 b6 b7,M.iP b8 b9 dC dB dA dH dG gN,0,0,0,0]]:List Prop),val:=.ptr 100 true 0,new:=[.own [.bool true false,.aH 101 true 0 1 6] 146,.own [.int false .u64 (M.iP b0 b1 b2 b3 b4 b5 b6 b7),.int false .u64 (M.iP b8 b9 dC dB dA dH dG gN),.int false .u64 0,.int false .u64 0,.int false .u64 0,.int false .u64 0] 196]}:=by kernel_rfl
theorem LI (b0 b1 b2 b3 b4 b5 b6 b7 b8 b9 dC dB dA dH dG gN iW mO mL mK mJ mI mH mG mF mE mD mC mB mA lZ lY:Int) :
 xE 1 16 16 [b0,b1,b2,b3,b4,b5,b6,b7,b8,b9,dC,dB,dA,dH,dG,gN,iW,mO,mL,mK,mJ,mI,mH,mG,mF,mE,mD,mC,mB,mA,lZ,lY] =
 some {bK:=([M.nl [M.iP iW mO mL mK mJ mI mH mG,M.iP mF mE mD mC mB mA lZ lY]=1,[M.iP iW mO mL mK mJ mI mH mG,M.iP mF mE mD mC mB mA lZ lY,0,0,0,0]=[M.iP iW mO mL mK mJ mI mH mG,M.iP mF mE mD mC mB mA lZ lY,0,0,0,0]]:List Prop),val:=.ptr 100 true 0,new:=[.own [.bool true false,.aH 101 true 0 1 6] 146,.own [.int false .u64 (M.iP iW mO mL mK mJ mI mH mG),.int false .u64 (M.iP mF mE mD mC mB mA lZ lY),.int false .u64 0,.int false .u64 0,.int false .u64 0,.int false .u64 0] 196]}:=by kernel_rfl
theorem YY (b0 b1 b2 b3 b4 b5 b6 b7 b8 b9 dC dB dA dH dG gN iW mO mL mK mJ mI mH mG mF mE mD mC mB mA lZ lY:Int) :
 xE 2 0 32 [b0,b1,b2,b3,b4,b5,b6,b7,b8,b9,dC,dB,dA,dH,dG,gN,iW,mO,mL,mK,mJ,mI,mH,mG,mF,mE,mD,mC,mB,mA,lZ,lY] =
 some {bK:=([M.nl [M.iP b0 b1 b2 b3 b4 b5 b6 b7,M.iP b8 b9 dC dB dA dH dG gN]=2,[M.iP b0 b1 b2 b3 b4 b5 b6 b7,M.iP b8 b9 dC dB dA dH dG gN,0,0,0,0]=[M.iP b0 b1 b2 b3 b4 b5 b6 b7,M.iP b8 b9 dC dB dA dH dG gN,0,0,0,0]]:List Prop),val:=.ptr 100 true 0,new:=[.own [.bool true false,.aH 101 true 0 2 6] 146,.own [.int false .u64 (M.iP b0 b1 b2 b3 b4 b5 b6 b7),.int false .u64 (M.iP b8 b9 dC dB dA dH dG gN),.int false .u64 0,.int false .u64 0,.int false .u64 0,.int false .u64 0] 196]}:=by kernel_rfl
theorem LH (b0 b1 b2 b3 b4 b5 b6 b7 b8 b9 dC dB dA dH dG gN iW mO mL mK mJ mI mH mG mF mE mD mC mB mA lZ lY:Int) :
 xE 2 16 16 [b0,b1,b2,b3,b4,b5,b6,b7,b8,b9,dC,dB,dA,dH,dG,gN,iW,mO,mL,mK,mJ,mI,mH,mG,mF,mE,mD,mC,mB,mA,lZ,lY] =
 some {bK:=([M.nl [M.iP iW mO mL mK mJ mI mH mG,M.iP mF mE mD mC mB mA lZ lY]=2,[M.iP iW mO mL mK mJ mI mH mG,M.iP mF mE mD mC mB mA lZ lY,0,0,0,0]=[M.iP iW mO mL mK mJ mI mH mG,M.iP mF mE mD mC mB mA lZ lY,0,0,0,0]]:List Prop),val:=.ptr 100 true 0,new:=[.own [.bool true false,.aH 101 true 0 2 6] 146,.own [.int false .u64 (M.iP iW mO mL mK mJ mI mH mG),.int false .u64 (M.iP mF mE mD mC mB mA lZ lY),.int false .u64 0,.int false .u64 0,.int false .u64 0,.int false .u64 0] 196]}:=by kernel_rfl
noncomputable def zE (h:List Bool):Nat->Option Sum:=Ez (dM aGp 186 (aL aB 100 (tE 0 3))) 194 h
theorem uZ (h:List Bool):∀ f S,zE h f=some S->∀ Γ:Env,Γ.aR=aB->aI Tryz.prog Γ f S:=nS (bD Wz 186 _ (Cg 0 3)) 194 h
def jG:List SV:=[.agg [.ptr 62 true 0],.ptr 61 true 0,.ptr 63 true 0]
def sL (X Y:SV) (xs ys:List SV):List (Nat × SB):=[(61,.own [.bool true false,X] 146),(62,.own [.bool true false,.aH 66 true 0 3 8] 146),(63,.own [.bool true false,Y] 146),(64,.fN xs),(65,.own ys 196),(66,.own Dz 196),(17,.fN [.int true .i64 40]),(18,.fN [.int true .i64 40])]
noncomputable def Gb (h:List Bool) (X:SV) (xs ys:List SV):Option bJ:=aJ (env (zE h) 22) Tryz.f95 true [] 400 jG (fun l=>look l (sL X (.aH 65 true 0 3 7) xs ys)) 100 100
def ww (x:Int) (r:List SV):List SV:=.int false .u64 x::r
namespace M
def az (p z c:Int):Int:=ul (ul (p+z)+c+0)
def ac (p z c:Int):Int:=IntKind.u64.wrap (uh (ul (p+z)+c+0)+uh (p+z))
def q0 (x0 y:Int):Int:=az (x0*y) 0 0
def k0 (x0 y:Int):Int:=ac (x0*y) 0 0
def q1 (x0 x1 y:Int):Int:=az (x1*y) 0 (k0 x0 y)
def k1 (x0 x1 y:Int):Int:=ac (x1*y) 0 (k0 x0 y)
def q2 (x0 x1 x2 y:Int):Int:=az (x2*y) 0 (k1 x0 x1 y)
def k2 (x0 x1 x2 y:Int):Int:=ac (x2*y) 0 (k1 x0 x1 y)
def r0 (x0 x1 y0 y1:Int):Int:=az (x0*y1) (q1 x0 x1 y0) 0
def Hh (x0 x1 y0 y1:Int):Int:=ac (x0*y1) (q1 x0 x1 y0) 0
def r1 (x0 x1 x2 y0 y1:Int):Int:=az (x1*y1) (q2 x0 x1 x2 y0) (Hh x0 x1 y0 y1)
def s1' (x0 x1 x2 y0 y1:Int):Int:=ac (x1*y1) (q2 x0 x1 x2 y0) (Hh x0 x1 y0 y1)
def r2 (x0 x1 x2 y0 y1:Int):Int:=az (x2*y1) (k2 x0 x1 x2 y0) (s1' x0 x1 x2 y0 y1)
def RT (x0 x1 x2 y0 y1:Int):Int:=ac (x2*y1) (k2 x0 x1 x2 y0) (s1' x0 x1 x2 y0 y1)
def e1 (x0 x1 y0 y1:Int):Int:=az (x1*y1) (k1 x0 x1 y0) (Hh x0 x1 y0 y1)
def f1 (x0 x1 y0 y1:Int):Int:=ac (x1*y1) (k1 x0 x1 y0) (Hh x0 x1 y0 y1)
def g0 (x0 y0:Int):Int:=ul (x0+y0+0)
def c0 (x0 y0:Int):Int:=uh (x0+y0+0)
def g1 (x0 x1 y0 y1:Int):Int:=ul (x1+y1+c0 x0 y0)
def c1 (x0 x1 y0 y1:Int):Int:=uh (x1+y1+c0 x0 y0)
def g2 (x0 x1 x2 y0 y1 y2:Int):Int:=ul (x2+y2+c1 x0 x1 y0 y1)
def c2 (x0 x1 x2 y0 y1 y2:Int):Int:=uh (x2+y2+c1 x0 x1 y0 y1)
end M
def wQ:List (Nat × SB):=[(62,.own [.bool true false,.aH 66 true 0 3 8] 146),(66,.own Dz 196)]
theorem aZr (ca:Nat) (xs:List SV) (y0 y1 y2:Int) (ys:List SV) :
 Gb [] (.aH 64 true 0 0 ca) xs (ww y0 (ww y1 (ww y2 ys))) =
 sh (M.n3 y0 y1 y2%M.bA) fun z0=>
 some {bK:=([M.U y0,M.U y1,M.U y2,y2≠0,[y0,y1,y2,0,0,0,0]=[y0,y1,y2,0,0,0,0]]:List Prop),val:=.ptr 100 true 0,new:=[.own [.bool true false,.aH 101 false 0 (M.ln z0) 7] 146,.own [.int false .u64 (M.w0 z0),.int false .u64 (M.w1 z0),.int false .u64 (M.w2 z0),.int false .u64 0,.int false .u64 0,.int false .u64 0,.int false .u64 0] 196],wr:=wQ}:=by kernel_rfl
theorem aZq {ca:Nat} (lC:ca=6\/ca=7\/ca=8\/ca=9) (x0:Int) (xs:List SV) (y0 y1 y2:Int) (ys:List SV) :
 Gb [true] (.aH 64 true 0 1 ca) (ww x0 xs) (ww y0 (ww y1 (ww y2 ys))) =
 sh (y1+M.c0 y0 x0+0) fun z0=>
 sh (M.n3 (M.g0 y0 x0) (M.ul z0) y2%M.bA) fun z1=>
 some {bK:=([M.U (M.g0 y0 x0),M.U (M.ul z0),M.U y2,y2≠0,[M.g0 y0 x0,M.ul z0,y2,0,0,0,0,0]=[M.g0 y0 x0,M.ul z0,y2,0,0,0,0,0],M.nl [M.g0 y0 x0,M.ul z0,y2,0]=3,[M.g0 y0 x0,M.ul z0,y2,0,0,0,0,0]=[M.g0 y0 x0,M.ul z0,y2,0,0,0,0,0],(M.uh z0==0)=true,M.U y1,M.U (M.c0 y0 x0),M.K 0,y1=y1,M.c0 y0 x0=M.c0 y0 x0,(0 :Int)=0,M.U y0,M.U x0,M.K 0,y0=y0,x0=x0,(0 :Int)=0]:List Prop),val:=.ptr 100 true 0,new:=[.own [.bool true false,.aH 101 false 0 (M.ln z1) 8] 146,.own [.int false .u64 (M.w0 z1),.int false .u64 (M.w1 z1),.int false .u64 (M.w2 z1),.int false .u64 0,.int false .u64 0,.int false .u64 0,.int false .u64 0,.int false .u64 0] 196],wr:=wQ}:=by rcases lC with rfl | rfl | rfl | rfl <;> kernel_rfl
theorem aTs {ca:Nat} (lC:ca=6\/ca=7\/ca=8\/ca=9) (x0:Int) (xs:List SV) (y0 y1 y2:Int) (ys:List SV) :
 Gb [false,true] (.aH 64 true 0 1 ca) (ww x0 xs) (ww y0 (ww y1 (ww y2 ys))) =
 sh (y1+M.c0 y0 x0+0) fun z1=>
 sh (IntKind.u64.wrap (y2+1)) fun z2=>
 sh (M.n3 (M.g0 y0 x0) (M.ul z1) z2%M.bA) fun z0=>
 some {bK:=([M.U (M.g0 y0 x0),M.U (M.ul z1),M.U z2,IntKind.u64.wrap (y2+1)≠0,[M.g0 y0 x0,M.ul z1,IntKind.u64.wrap (y2+1),0,0,0,0,0]=[M.g0 y0 x0,M.ul z1,IntKind.u64.wrap (y2+1),0,0,0,0,0],M.nl [M.g0 y0 x0,M.ul z1,IntKind.u64.wrap (y2+1),0]=3,[M.g0 y0 x0,M.ul z1,IntKind.u64.wrap (y2+1),0,0,0,0,0]=[M.g0 y0 x0,M.ul z1,IntKind.u64.wrap (y2+1),0,0,0,0,0],(y2 != 18446744073709551615)=true,(M.uh z1==0)=false,M.U y1,M.U (M.c0 y0 x0),M.K 0,y1=y1,M.c0 y0 x0=M.c0 y0 x0,(0 :Int)=0,M.U y0,M.U x0,M.K 0,y0=y0,x0=x0,(0 :Int)=0]:List Prop),val:=.ptr 100 true 0,new:=[.own [.bool true false,.aH 101 false 0 (M.ln z0) 8] 146,.own [.int false .u64 (M.w0 z0),.int false .u64 (M.w1 z0),.int false .u64 (M.w2 z0),.int false .u64 0,.int false .u64 0,.int false .u64 0,.int false .u64 0,.int false .u64 0] 196],wr:=wQ}:=by rcases lC with rfl | rfl | rfl | rfl <;> kernel_rfl
theorem aZp {ca:Nat} (lC:ca=6\/ca=7\/ca=8\/ca=9) (x0 x1:Int) (xs:List SV) (y0 y1 y2:Int) (ys:List SV) :
 Gb [true] (.aH 64 true 0 2 ca) (ww x0 (ww x1 xs)) (ww y0 (ww y1 (ww y2 ys))) =
 sh (y2+M.c1 y0 y1 x0 x1+0) fun z0=>
 sh (M.n3 (M.g0 y0 x0) (M.g1 y0 y1 x0 x1) (M.ul z0)%M.bA) fun z1=>
 some {bK:=([M.U (M.g0 y0 x0),M.U (M.g1 y0 y1 x0 x1),M.U (M.ul z0),M.ul z0≠0,[M.g0 y0 x0,M.g1 y0 y1 x0 x1,M.ul z0,0,0,0,0,0]=[M.g0 y0 x0,M.g1 y0 y1 x0 x1,M.ul z0,0,0,0,0,0],M.nl [M.g0 y0 x0,M.g1 y0 y1 x0 x1,M.ul z0,0]=3,[M.g0 y0 x0,M.g1 y0 y1 x0 x1,M.ul z0,0,0,0,0,0]=[M.g0 y0 x0,M.g1 y0 y1 x0 x1,M.ul z0,0,0,0,0,0],(M.uh z0==0)=true,M.U y2,M.U (M.c1 y0 y1 x0 x1),M.K 0,y2=y2,M.c1 y0 y1 x0 x1=M.c1 y0 y1 x0 x1,(0 :Int)=0,M.U y1,M.U x1,M.K (M.c0 y0 x0),y1=y1,x1=x1,M.c0 y0 x0=M.c0 y0 x0,M.U y0,M.U x0,M.K 0,y0=y0,x0=x0,(0 :Int)=0]:List Prop),val:=.ptr 100 true 0,new:=[.own [.bool true false,.aH 101 false 0 (M.ln z1) 8] 146,.own [.int false .u64 (M.w0 z1),.int false .u64 (M.w1 z1),.int false .u64 (M.w2 z1),.int false .u64 0,.int false .u64 0,.int false .u64 0,.int false .u64 0,.int false .u64 0] 196],wr:=wQ}:=by rcases lC with rfl | rfl | rfl | rfl <;> kernel_rfl
theorem aZo {ca:Nat} (lC:ca=6\/ca=7\/ca=8\/ca=9) (x0 x1 x2:Int) (xs:List SV) (y0 y1 y2:Int) (ys:List SV) :
 Gb [] (.aH 64 true 0 3 ca) (ww x0 (ww x1 (ww x2 xs))) (ww y0 (ww y1 (ww y2 ys))) =
 sh (M.g2 x0 x1 x2 y0 y1 y2) fun z1=>
 sh (M.n3 (M.g0 x0 y0) (M.g1 x0 x1 y0 y1) z1%M.bA) fun z0=>
 some {bK:=([M.U (M.g0 x0 y0),M.U (M.g1 x0 x1 y0 y1),M.U z1,M.g2 x0 x1 x2 y0 y1 y2≠0,[M.g0 x0 y0,M.g1 x0 x1 y0 y1,M.g2 x0 x1 x2 y0 y1 y2,M.c2 x0 x1 x2 y0 y1 y2,0,0,0,0]=[M.g0 x0 y0,M.g1 x0 x1 y0 y1,M.g2 x0 x1 x2 y0 y1 y2,0,0,0,0,0],M.nl [M.g0 x0 y0,M.g1 x0 x1 y0 y1,M.g2 x0 x1 x2 y0 y1 y2,M.c2 x0 x1 x2 y0 y1 y2]=3,[M.g0 x0 y0,M.g1 x0 x1 y0 y1,M.g2 x0 x1 x2 y0 y1 y2,M.c2 x0 x1 x2 y0 y1 y2,0,0,0,0]=[M.g0 x0 y0,M.g1 x0 x1 y0 y1,M.g2 x0 x1 x2 y0 y1 y2,M.c2 x0 x1 x2 y0 y1 y2,0,0,0,0],M.U x2,M.U y2,M.K (M.c1 x0 x1 y0 y1),x2=x2,y2=y2,M.c1 x0 x1 y0 y1=M.c1 x0 x1 y0 y1,M.U x1,M.U y1,M.K (M.c0 x0 y0),x1=x1,y1=y1,M.c0 x0 y0=M.c0 x0 y0,M.U x0,M.U y0,M.K 0,x0=x0,y0=y0,(0 :Int)=0]:List Prop),val:=.ptr 100 true 0,new:=[.own [.bool true false,.aH 101 false 0 (M.ln z0) 8] 146,.own [.int false .u64 (M.w0 z0),.int false .u64 (M.w1 z0),.int false .u64 (M.w2 z0),.int false .u64 0,.int false .u64 0,.int false .u64 0,.int false .u64 0,.int false .u64 0] 196],wr:=wQ}:=by rcases lC with rfl | rfl | rfl | rfl <;> kernel_rfl
theorem aZn (xs:List SV) (y0 y1 y2:Int) (ys:List SV) :
 Gb [] (.raw (.slice none 0 0)) xs (ww y0 (ww y1 (ww y2 ys))) =
 sh (M.n3 y0 y1 y2%M.bA) fun z0=>
 some {bK:=([M.U y0,M.U y1,M.U y2,y2≠0,[y0,y1,y2,0,0,0,0]=[y0,y1,y2,0,0,0,0]]:List Prop),val:=.ptr 100 true 0,new:=[.own [.bool true false,.aH 101 false 0 (M.ln z0) 7] 146,.own [.int false .u64 (M.w0 z0),.int false .u64 (M.w1 z0),.int false .u64 (M.w2 z0),.int false .u64 0,.int false .u64 0,.int false .u64 0,.int false .u64 0] 196],wr:=wQ}:=by kernel_rfl
noncomputable def UT (h:Bool) (iq ir:Nat):Nat->Option Sum:=Ez (Ez (dM aGp 186 (aL aB 100 (tE iq ir))) 241 [false]) 238 [h,true]
theorem aCd (h:Bool) (iq ir:Nat):∀ f S,UT h iq ir f=some S->∀ Γ:Env,Γ.aR=aB->aI Tryz.prog Γ f S:=nS (nS (bD Wz 186 _ (Cg iq ir)) 241 _) 238 _
noncomputable def iZ (h:Bool) (iq ir:Nat) (X Y:SV) (xs ys:List SV):Option bJ:=aJ (env (UT h iq ir) 22) Tryz.f97 true [] 400 jG (fun l=>look l (sL X Y xs ys)) 100 100
theorem aBi (ca ct:Nat) (xs ys:List SV) :
 iZ true 0 0 (.aH 64 true 0 0 ca) (.aH 65 true 0 0 ct) xs ys =
 some {val:=.ptr 100 true 0,new:=[.own [.bool true false,.raw (Value.slice none 0 0)] 146],wr:=wQ}:=by kernel_rfl
theorem aBh (ca ct:Nat) (y0:Int) (xs ys:List SV) :
 iZ true 0 0 (.aH 64 true 0 0 ca) (.aH 65 true 0 1 ct) xs (ww y0 ys) =
 some {val:=.ptr 100 true 0,new:=[.own [.bool true false,.raw (Value.slice none 0 0)] 146],wr:=wQ}:=by kernel_rfl
theorem aBg (ca ct:Nat) (y0 y1:Int) (xs ys:List SV) :
 iZ true 0 0 (.aH 64 true 0 0 ca) (.aH 65 true 0 2 ct) xs (ww y0 (ww y1 ys)) =
 some {val:=.ptr 100 true 0,new:=[.own [.bool true false,.raw (Value.slice none 0 0)] 146],wr:=wQ}:=by kernel_rfl
theorem aBf (ca ct:Nat) (x0:Int) (xs ys:List SV) :
 iZ true 0 0 (.aH 64 true 0 1 ca) (.aH 65 true 0 0 ct) (ww x0 xs) ys =
 some {val:=.ptr 100 true 0,new:=[.own [.bool true false,.raw (Value.slice none 0 0)] 146],wr:=wQ}:=by kernel_rfl
theorem aBe (ca ct:Nat) (x0 y0:Int) (xs ys:List SV) :
 iZ true 1 0 (.aH 64 true 0 1 ca) (.aH 65 true 0 1 ct) (ww x0 xs) (ww y0 ys) =
 sh (x0*y0+0) fun z0=>
 sh (M.ul z0%M.bA) fun z1=>
 some {bK:=([M.U (M.ul z0),M.ul z0≠0,[M.ul z0,M.uh z0,0,0,0,0]=[M.ul z0,0,0,0,0,0],M.nl [M.ul z0,M.uh z0]=1,[M.ul z0,M.uh z0,0,0,0,0]=[M.ul z0,M.uh z0,0,0,0,0],M.U x0,M.U y0,M.U 0,x0=x0,y0=y0,(0 :Int)=0,(y0==0)=false]:List Prop),val:=.ptr 100 true 0,new:=[.own [.bool true false,.aH 101 false 0 (M.ln z1) 6] 146,.own [.int false .u64 (M.w0 z1),.int false .u64 (M.w1 z1),.int false .u64 (M.w2 z1),.int false .u64 0,.int false .u64 0,.int false .u64 0] 196],wr:=wQ}:=by kernel_rfl
theorem aBd (ca ct:Nat) (x0 y0:Int) (xs ys:List SV) :
 iZ true 2 0 (.aH 64 true 0 1 ca) (.aH 65 true 0 1 ct) (ww x0 xs) (ww y0 ys) =
 sh (x0*y0+0) fun z1=>
 sh ((M.ul z1+18446744073709551616*M.uh z1)%M.bA) fun z0=>
 some {bK:=([M.U (M.ul z1),M.U (M.uh z1),M.uh z1≠0,[M.ul z1,M.uh z1,0,0,0,0]=[M.ul z1,M.uh z1,0,0,0,0],M.nl [M.ul z1,M.uh z1]=2,[M.ul z1,M.uh z1,0,0,0,0]=[M.ul z1,M.uh z1,0,0,0,0],M.U x0,M.U y0,M.U 0,x0=x0,y0=y0,(0 :Int)=0,(y0==0)=false]:List Prop),val:=.ptr 100 true 0,new:=[.own [.bool true false,.aH 101 false 0 (M.ln z0) 6] 146,.own [.int false .u64 (M.w0 z0),.int false .u64 (M.w1 z0),.int false .u64 (M.w2 z0),.int false .u64 0,.int false .u64 0,.int false .u64 0] 196],wr:=wQ}:=by kernel_rfl
theorem aBc (ca ct:Nat) (x0 y0 y1:Int) (xs ys:List SV) :
 iZ true 0 2 (.aH 64 true 0 1 ca) (.aH 65 true 0 2 ct) (ww x0 xs) (ww y0 (ww y1 ys)) =
 sh (y0*x0+0) fun z2=>
 sh (y1*x0+M.uh z2) fun z0=>
 sh ((M.ul z2+18446744073709551616*M.ul z0)%M.bA) fun z1=>
 some {bK:=([M.U (M.ul z2),M.U (M.ul z0),M.ul z0≠0,[M.ul z2,M.ul z0,M.uh z0,0,0,0,0]=[M.ul z2,M.ul z0,0,0,0,0,0],M.nl [M.ul z2,M.ul z0,M.uh z0]=2,[M.ul z2,M.ul z0,M.uh z0,0,0,0,0]=[M.ul z2,M.ul z0,M.uh z0,0,0,0,0],M.U y1,M.U x0,M.U (M.uh z2),y1=y1,x0=x0,M.uh z2=M.uh z2,M.U y0,M.U x0,M.U 0,y0=y0,x0=x0,(0 :Int)=0,(x0==0)=false]:List Prop),val:=.ptr 100 true 0,new:=[.own [.bool true false,.aH 101 false 0 (M.ln z1) 7] 146,.own [.int false .u64 (M.w0 z1),.int false .u64 (M.w1 z1),.int false .u64 (M.w2 z1),.int false .u64 0,.int false .u64 0,.int false .u64 0,.int false .u64 0] 196],wr:=wQ}:=by kernel_rfl
theorem aBb (ca ct:Nat) (x0 y0 y1:Int) (xs ys:List SV) :
 iZ true 0 3 (.aH 64 true 0 1 ca) (.aH 65 true 0 2 ct) (ww x0 xs) (ww y0 (ww y1 ys)) =
 sh (y0*x0+0) fun z2=>
 sh (y1*x0+M.uh z2) fun z0=>
 sh (M.n3 (M.ul z2) (M.ul z0) (M.uh z0)%M.bA) fun z1=>
 some {bK:=([M.U (M.ul z2),M.U (M.ul z0),M.U (M.uh z0),M.uh z0≠0,[M.ul z2,M.ul z0,M.uh z0,0,0,0,0]=[M.ul z2,M.ul z0,M.uh z0,0,0,0,0],M.nl [M.ul z2,M.ul z0,M.uh z0]=3,[M.ul z2,M.ul z0,M.uh z0,0,0,0,0]=[M.ul z2,M.ul z0,M.uh z0,0,0,0,0],M.U y1,M.U x0,M.U (M.uh z2),y1=y1,x0=x0,M.uh z2=M.uh z2,M.U y0,M.U x0,M.U 0,y0=y0,x0=x0,(0 :Int)=0,(x0==0)=false]:List Prop),val:=.ptr 100 true 0,new:=[.own [.bool true false,.aH 101 false 0 (M.ln z1) 7] 146,.own [.int false .u64 (M.w0 z1),.int false .u64 (M.w1 z1),.int false .u64 (M.w2 z1),.int false .u64 0,.int false .u64 0,.int false .u64 0,.int false .u64 0] 196],wr:=wQ}:=by kernel_rfl
theorem aBa (ca ct:Nat) (x0 x1:Int) (xs ys:List SV) :
 iZ true 0 0 (.aH 64 true 0 2 ca) (.aH 65 true 0 0 ct) (ww x0 (ww x1 xs)) ys =
 some {val:=.ptr 100 true 0,new:=[.own [.bool true false,.raw (Value.slice none 0 0)] 146],wr:=wQ}:=by kernel_rfl
theorem aAz (ca ct:Nat) (x0 x1 y0:Int) (xs ys:List SV) :
 iZ true 0 2 (.aH 64 true 0 2 ca) (.aH 65 true 0 1 ct) (ww x0 (ww x1 xs)) (ww y0 ys) =
 sh (x0*y0+0) fun z2=>
 sh (x1*y0+M.uh z2) fun z0=>
 sh ((M.ul z2+18446744073709551616*M.ul z0)%M.bA) fun z1=>
 some {bK:=([M.U (M.ul z2),M.U (M.ul z0),M.ul z0≠0,[M.ul z2,M.ul z0,M.uh z0,0,0,0,0]=[M.ul z2,M.ul z0,0,0,0,0,0],M.nl [M.ul z2,M.ul z0,M.uh z0]=2,[M.ul z2,M.ul z0,M.uh z0,0,0,0,0]=[M.ul z2,M.ul z0,M.uh z0,0,0,0,0],M.U x1,M.U y0,M.U (M.uh z2),x1=x1,y0=y0,M.uh z2=M.uh z2,M.U x0,M.U y0,M.U 0,x0=x0,y0=y0,(0 :Int)=0,(y0==0)=false]:List Prop),val:=.ptr 100 true 0,new:=[.own [.bool true false,.aH 101 false 0 (M.ln z1) 7] 146,.own [.int false .u64 (M.w0 z1),.int false .u64 (M.w1 z1),.int false .u64 (M.w2 z1),.int false .u64 0,.int false .u64 0,.int false .u64 0,.int false .u64 0] 196],wr:=wQ}:=by kernel_rfl
theorem aAy (ca ct:Nat) (x0 x1 y0:Int) (xs ys:List SV) :
 iZ true 0 3 (.aH 64 true 0 2 ca) (.aH 65 true 0 1 ct) (ww x0 (ww x1 xs)) (ww y0 ys) =
 sh (x0*y0+0) fun z2=>
 sh (x1*y0+M.uh z2) fun z0=>
 sh (M.n3 (M.ul z2) (M.ul z0) (M.uh z0)%M.bA) fun z1=>
 some {bK:=([M.U (M.ul z2),M.U (M.ul z0),M.U (M.uh z0),M.uh z0≠0,[M.ul z2,M.ul z0,M.uh z0,0,0,0,0]=[M.ul z2,M.ul z0,M.uh z0,0,0,0,0],M.nl [M.ul z2,M.ul z0,M.uh z0]=3,[M.ul z2,M.ul z0,M.uh z0,0,0,0,0]=[M.ul z2,M.ul z0,M.uh z0,0,0,0,0],M.U x1,M.U y0,M.U (M.uh z2),x1=x1,y0=y0,M.uh z2=M.uh z2,M.U x0,M.U y0,M.U 0,x0=x0,y0=y0,(0 :Int)=0,(y0==0)=false]:List Prop),val:=.ptr 100 true 0,new:=[.own [.bool true false,.aH 101 false 0 (M.ln z1) 7] 146,.own [.int false .u64 (M.w0 z1),.int false .u64 (M.w1 z1),.int false .u64 (M.w2 z1),.int false .u64 0,.int false .u64 0,.int false .u64 0,.int false .u64 0] 196],wr:=wQ}:=by kernel_rfl
theorem aAx (ca ct:Nat) (x0 x1 y0 y1:Int) (xs ys:List SV) :
 iZ true 0 3 (.aH 64 true 0 2 ca) (.aH 65 true 0 2 ct) (ww x0 (ww x1 xs)) (ww y0 (ww y1 ys)) =
 sh (M.n3 (M.q0 x0 y0) (M.r0 x0 x1 y0 y1) (M.e1 x0 x1 y0 y1)%M.bA) fun z0=>
 sh (x1*y1+M.k1 x0 x1 y0) fun z1=>
 sh (x0*y1+M.q1 x0 x1 y0) fun z2=>
 sh (x1*y0+0) fun z3=>
 sh (x0*y0+0) fun z4=>
 some {bK:=([M.U (M.q0 x0 y0),M.U (M.r0 x0 x1 y0 y1),M.U (M.e1 x0 x1 y0 y1),M.e1 x0 x1 y0 y1≠0,[M.q0 x0 y0,M.r0 x0 x1 y0 y1,M.e1 x0 x1 y0 y1,M.f1 x0 x1 y0 y1,0,0,0,0]=[M.q0 x0 y0,M.r0 x0 x1 y0 y1,M.e1 x0 x1 y0 y1,0,0,0,0,0],M.nl [M.q0 x0 y0,M.r0 x0 x1 y0 y1,M.e1 x0 x1 y0 y1,M.f1 x0 x1 y0 y1]=3,[M.q0 x0 y0,M.r0 x0 x1 y0 y1,M.e1 x0 x1 y0 y1,M.f1 x0 x1 y0 y1,0,0,0,0]=[M.q0 x0 y0,M.r0 x0 x1 y0 y1,M.e1 x0 x1 y0 y1,M.f1 x0 x1 y0 y1,0,0,0,0],M.U (M.ul z1),M.U (M.Hh x0 x1 y0 y1),M.K 0,M.ul z1=M.ul z1,M.Hh x0 x1 y0 y1=M.Hh x0 x1 y0 y1,(0 :Int)=0,M.U x1,M.U y1,M.U (M.k1 x0 x1 y0),x1=x1,y1=y1,M.k1 x0 x1 y0=M.k1 x0 x1 y0,M.U (M.ul z2),M.U 0,M.K 0,M.ul z2=M.ul z2,(0 :Int)=0,(0 :Int)=0,M.U x0,M.U y1,M.U (M.q1 x0 x1 y0),x0=x0,y1=y1,M.q1 x0 x1 y0=M.q1 x0 x1 y0,(y1 != 0)=true,M.U (M.ul z3),M.U (M.k0 x0 y0),M.K 0,M.ul z3=M.ul z3,M.k0 x0 y0=M.k0 x0 y0,(0 :Int)=0,M.U x1,M.U y0,M.U 0,x1=x1,y0=y0,(0 :Int)=0,M.U (M.ul z4),M.U 0,M.K 0,M.ul z4=M.ul z4,(0 :Int)=0,(0 :Int)=0,M.U x0,M.U y0,M.U 0,x0=x0,y0=y0,(0 :Int)=0,(y0 != 0)=true]:List Prop),val:=.ptr 100 true 0,new:=[.own [.bool true false,.aH 101 false 0 (M.ln z0) 8] 146,.own [.int false .u64 (M.w0 z0),.int false .u64 (M.w1 z0),.int false .u64 (M.w2 z0),.int false .u64 0,.int false .u64 0,.int false .u64 0,.int false .u64 0,.int false .u64 0] 196],wr:=wQ}:=by kernel_rfl
theorem MH (ca ct:Nat) (x0 x1 y0 y1:Int) (xs ys:List SV) :
 iZ false 0 3 (.aH 64 true 0 2 ca) (.aH 65 true 0 2 ct) (ww x0 (ww x1 xs)) (ww y0 (ww y1 ys)) =
 sh (M.n3 0 (M.q0 x0 y1) (M.q1 x0 x1 y1)%M.bA) fun z0=>
 sh (x1*y1+0) fun z1=>
 sh (x0*y1+0) fun z2=>
 some {bK:=([M.U 0,M.U (M.q0 x0 y1),M.U (M.q1 x0 x1 y1),M.q1 x0 x1 y1≠0,[0,M.q0 x0 y1,M.q1 x0 x1 y1,M.k1 x0 x1 y1,0,0,0,0]=[0,M.q0 x0 y1,M.q1 x0 x1 y1,0,0,0,0,0],M.nl [0,M.q0 x0 y1,M.q1 x0 x1 y1,M.k1 x0 x1 y1]=3,[0,M.q0 x0 y1,M.q1 x0 x1 y1,M.k1 x0 x1 y1,0,0,0,0]=[0,M.q0 x0 y1,M.q1 x0 x1 y1,M.k1 x0 x1 y1,0,0,0,0],M.U (M.ul z1),M.U (M.k0 x0 y1),M.K 0,M.ul z1=M.ul z1,M.k0 x0 y1=M.k0 x0 y1,(0 :Int)=0,M.U x1,M.U y1,M.U 0,x1=x1,y1=y1,(0 :Int)=0,M.U (M.ul z2),M.U 0,M.K 0,M.ul z2=M.ul z2,(0 :Int)=0,(0 :Int)=0,M.U x0,M.U y1,M.U 0,x0=x0,y1=y1,(0 :Int)=0,(y1 != 0)=true,(y0 != 0)=false]:List Prop),val:=.ptr 100 true 0,new:=[.own [.bool true false,.aH 101 false 0 (M.ln z0) 8] 146,.own [.int false .u64 (M.w0 z0),.int false .u64 (M.w1 z0),.int false .u64 (M.w2 z0),.int false .u64 0,.int false .u64 0,.int false .u64 0,.int false .u64 0,.int false .u64 0] 196],wr:=wQ}:=by kernel_rfl
theorem aAw (ca ct:Nat) (x0 x1 y0 y1:Int) (xs ys:List SV) :
 iZ true 0 4 (.aH 64 true 0 2 ca) (.aH 65 true 0 2 ct) (ww x0 (ww x1 xs)) (ww y0 (ww y1 ys)) =
 sh (M.n4 (M.q0 x0 y0) (M.r0 x0 x1 y0 y1) (M.e1 x0 x1 y0 y1) (M.f1 x0 x1 y0 y1)%M.bA) fun z0=>
 sh (x1*y1+M.k1 x0 x1 y0) fun z1=>
 sh (x0*y1+M.q1 x0 x1 y0) fun z2=>
 sh (x1*y0+0) fun z3=>
 sh (x0*y0+0) fun z4=>
 some {bK:=([M.U (M.q0 x0 y0),M.U (M.r0 x0 x1 y0 y1),M.U (M.e1 x0 x1 y0 y1),M.U (M.f1 x0 x1 y0 y1),M.f1 x0 x1 y0 y1≠0,[M.q0 x0 y0,M.r0 x0 x1 y0 y1,M.e1 x0 x1 y0 y1,M.f1 x0 x1 y0 y1,0,0,0,0]=[M.q0 x0 y0,M.r0 x0 x1 y0 y1,M.e1 x0 x1 y0 y1,M.f1 x0 x1 y0 y1,0,0,0,0],M.nl [M.q0 x0 y0,M.r0 x0 x1 y0 y1,M.e1 x0 x1 y0 y1,M.f1 x0 x1 y0 y1]=4,[M.q0 x0 y0,M.r0 x0 x1 y0 y1,M.e1 x0 x1 y0 y1,M.f1 x0 x1 y0 y1,0,0,0,0]=[M.q0 x0 y0,M.r0 x0 x1 y0 y1,M.e1 x0 x1 y0 y1,M.f1 x0 x1 y0 y1,0,0,0,0],M.U (M.ul z1),M.U (M.Hh x0 x1 y0 y1),M.K 0,M.ul z1=M.ul z1,M.Hh x0 x1 y0 y1=M.Hh x0 x1 y0 y1,(0 :Int)=0,M.U x1,M.U y1,M.U (M.k1 x0 x1 y0),x1=x1,y1=y1,M.k1 x0 x1 y0=M.k1 x0 x1 y0,M.U (M.ul z2),M.U 0,M.K 0,M.ul z2=M.ul z2,(0 :Int)=0,(0 :Int)=0,M.U x0,M.U y1,M.U (M.q1 x0 x1 y0),x0=x0,y1=y1,M.q1 x0 x1 y0=M.q1 x0 x1 y0,(y1 != 0)=true,M.U (M.ul z3),M.U (M.k0 x0 y0),M.K 0,M.ul z3=M.ul z3,M.k0 x0 y0=M.k0 x0 y0,(0 :Int)=0,M.U x1,M.U y0,M.U 0,x1=x1,y0=y0,(0 :Int)=0,M.U (M.ul z4),M.U 0,M.K 0,M.ul z4=M.ul z4,(0 :Int)=0,(0 :Int)=0,M.U x0,M.U y0,M.U 0,x0=x0,y0=y0,(0 :Int)=0,(y0 != 0)=true]:List Prop),val:=.ptr 100 true 0,new:=[.own [.bool true false,.aH 101 false 0 (M.ln z0) 8] 146,.own [.int false .u64 (M.w0 z0),.int false .u64 (M.w1 z0),.int false .u64 (M.w2 z0),.int false .u64 0,.int false .u64 0,.int false .u64 0,.int false .u64 0,.int false .u64 0] 196],wr:=wQ}:=by kernel_rfl
theorem MG (ca ct:Nat) (x0 x1 y0 y1:Int) (xs ys:List SV) :
 iZ false 0 4 (.aH 64 true 0 2 ca) (.aH 65 true 0 2 ct) (ww x0 (ww x1 xs)) (ww y0 (ww y1 ys)) =
 sh (M.n4 0 (M.q0 x0 y1) (M.q1 x0 x1 y1) (M.k1 x0 x1 y1)%M.bA) fun z0=>
 sh (x1*y1+0) fun z1=>
 sh (x0*y1+0) fun z2=>
 some {bK:=([M.U 0,M.U (M.q0 x0 y1),M.U (M.q1 x0 x1 y1),M.U (M.k1 x0 x1 y1),M.k1 x0 x1 y1≠0,[0,M.q0 x0 y1,M.q1 x0 x1 y1,M.k1 x0 x1 y1,0,0,0,0]=[0,M.q0 x0 y1,M.q1 x0 x1 y1,M.k1 x0 x1 y1,0,0,0,0],M.nl [0,M.q0 x0 y1,M.q1 x0 x1 y1,M.k1 x0 x1 y1]=4,[0,M.q0 x0 y1,M.q1 x0 x1 y1,M.k1 x0 x1 y1,0,0,0,0]=[0,M.q0 x0 y1,M.q1 x0 x1 y1,M.k1 x0 x1 y1,0,0,0,0],M.U (M.ul z1),M.U (M.k0 x0 y1),M.K 0,M.ul z1=M.ul z1,M.k0 x0 y1=M.k0 x0 y1,(0 :Int)=0,M.U x1,M.U y1,M.U 0,x1=x1,y1=y1,(0 :Int)=0,M.U (M.ul z2),M.U 0,M.K 0,M.ul z2=M.ul z2,(0 :Int)=0,(0 :Int)=0,M.U x0,M.U y1,M.U 0,x0=x0,y1=y1,(0 :Int)=0,(y1 != 0)=true,(y0 != 0)=false]:List Prop),val:=.ptr 100 true 0,new:=[.own [.bool true false,.aH 101 false 0 (M.ln z0) 8] 146,.own [.int false .u64 (M.w0 z0),.int false .u64 (M.w1 z0),.int false .u64 (M.w2 z0),.int false .u64 0,.int false .u64 0,.int false .u64 0,.int false .u64 0,.int false .u64 0] 196],wr:=wQ}:=by kernel_rfl
theorem aAv (ca ct:Nat) (x0 x1 x2:Int) (xs ys:List SV) :
 iZ true 0 0 (.aH 64 true 0 3 ca) (.aH 65 true 0 0 ct) (ww x0 (ww x1 (ww x2 xs))) ys =
 some {val:=.ptr 100 true 0,new:=[.own [.bool true false,.raw (Value.slice none 0 0)] 146],wr:=wQ}:=by kernel_rfl
theorem aAu (ca ct:Nat) (x0 x1 x2 y0:Int) (xs ys:List SV) :
 iZ true 0 3 (.aH 64 true 0 3 ca) (.aH 65 true 0 1 ct) (ww x0 (ww x1 (ww x2 xs))) (ww y0 ys) =
 sh (x0*y0+0) fun z3=>
 sh (x1*y0+M.uh z3) fun z0=>
 sh (x2*y0+M.uh z0) fun z1=>
 sh (M.n3 (M.ul z3) (M.ul z0) (M.ul z1)%M.bA) fun z2=>
 some {bK:=([M.U (M.ul z3),M.U (M.ul z0),M.U (M.ul z1),M.ul z1≠0,[M.ul z3,M.ul z0,M.ul z1,M.uh z1,0,0,0,0]=[M.ul z3,M.ul z0,M.ul z1,0,0,0,0,0],M.nl [M.ul z3,M.ul z0,M.ul z1,M.uh z1]=3,[M.ul z3,M.ul z0,M.ul z1,M.uh z1,0,0,0,0]=[M.ul z3,M.ul z0,M.ul z1,M.uh z1,0,0,0,0],M.U x2,M.U y0,M.U (M.uh z0),x2=x2,y0=y0,M.uh z0=M.uh z0,M.U x1,M.U y0,M.U (M.uh z3),x1=x1,y0=y0,M.uh z3=M.uh z3,M.U x0,M.U y0,M.U 0,x0=x0,y0=y0,(0 :Int)=0,(y0==0)=false]:List Prop),val:=.ptr 100 true 0,new:=[.own [.bool true false,.aH 101 false 0 (M.ln z2) 8] 146,.own [.int false .u64 (M.w0 z2),.int false .u64 (M.w1 z2),.int false .u64 (M.w2 z2),.int false .u64 0,.int false .u64 0,.int false .u64 0,.int false .u64 0,.int false .u64 0] 196],wr:=wQ}:=by kernel_rfl
theorem aAt (ca ct:Nat) (x0 x1 x2 y0:Int) (xs ys:List SV) :
 iZ true 0 4 (.aH 64 true 0 3 ca) (.aH 65 true 0 1 ct) (ww x0 (ww x1 (ww x2 xs))) (ww y0 ys) =
 sh (x0*y0+0) fun z3=>
 sh (x1*y0+M.uh z3) fun z0=>
 sh (x2*y0+M.uh z0) fun z1=>
 sh (M.n4 (M.ul z3) (M.ul z0) (M.ul z1) (M.uh z1)%M.bA) fun z2=>
 some {bK:=([M.U (M.ul z3),M.U (M.ul z0),M.U (M.ul z1),M.U (M.uh z1),M.uh z1≠0,[M.ul z3,M.ul z0,M.ul z1,M.uh z1,0,0,0,0]=[M.ul z3,M.ul z0,M.ul z1,M.uh z1,0,0,0,0],M.nl [M.ul z3,M.ul z0,M.ul z1,M.uh z1]=4,[M.ul z3,M.ul z0,M.ul z1,M.uh z1,0,0,0,0]=[M.ul z3,M.ul z0,M.ul z1,M.uh z1,0,0,0,0],M.U x2,M.U y0,M.U (M.uh z0),x2=x2,y0=y0,M.uh z0=M.uh z0,M.U x1,M.U y0,M.U (M.uh z3),x1=x1,y0=y0,M.uh z3=M.uh z3,M.U x0,M.U y0,M.U 0,x0=x0,y0=y0,(0 :Int)=0,(y0==0)=false]:List Prop),val:=.ptr 100 true 0,new:=[.own [.bool true false,.aH 101 false 0 (M.ln z2) 8] 146,.own [.int false .u64 (M.w0 z2),.int false .u64 (M.w1 z2),.int false .u64 (M.w2 z2),.int false .u64 0,.int false .u64 0,.int false .u64 0,.int false .u64 0,.int false .u64 0] 196],wr:=wQ}:=by kernel_rfl
theorem aAs (ca ct:Nat) (x0 x1 x2 y0 y1:Int) (xs ys:List SV) :
 iZ true 0 4 (.aH 64 true 0 3 ca) (.aH 65 true 0 2 ct) (ww x0 (ww x1 (ww x2 xs))) (ww y0 (ww y1 ys)) =
 sh (M.r1 x0 x1 x2 y0 y1) fun z7=>
 sh (M.r2 x0 x1 x2 y0 y1) fun z8=>
 sh (M.n4 (M.q0 x0 y0) (M.r0 x0 x1 y0 y1) z7 z8%M.bA) fun z0=>
 sh (x2*y1+M.k2 x0 x1 x2 y0) fun z1=>
 sh (x1*y1+M.q2 x0 x1 x2 y0) fun z2=>
 sh (x0*y1+M.q1 x0 x1 y0) fun z3=>
 sh (x2*y0+0) fun z4=>
 sh (x1*y0+0) fun z5=>
 sh (x0*y0+0) fun z6=>
 some {bK:=([M.U (M.q0 x0 y0),M.U (M.r0 x0 x1 y0 y1),M.U z7,M.U z8,M.r2 x0 x1 x2 y0 y1≠0,[M.q0 x0 y0,M.r0 x0 x1 y0 y1,M.r1 x0 x1 x2 y0 y1,M.r2 x0 x1 x2 y0 y1,M.RT x0 x1 x2 y0 y1,0,0,0,0]=[M.q0 x0 y0,M.r0 x0 x1 y0 y1,M.r1 x0 x1 x2 y0 y1,M.r2 x0 x1 x2 y0 y1,0,0,0,0,0],M.nl [M.q0 x0 y0,M.r0 x0 x1 y0 y1,M.r1 x0 x1 x2 y0 y1,M.r2 x0 x1 x2 y0 y1,M.RT x0 x1 x2 y0 y1]=4,[M.q0 x0 y0,M.r0 x0 x1 y0 y1,M.r1 x0 x1 x2 y0 y1,M.r2 x0 x1 x2 y0 y1,M.RT x0 x1 x2 y0 y1,0,0,0,0]=[M.q0 x0 y0,M.r0 x0 x1 y0 y1,M.r1 x0 x1 x2 y0 y1,M.r2 x0 x1 x2 y0 y1,M.RT x0 x1 x2 y0 y1,0,0,0,0],M.U (M.ul z1),M.U (M.s1' x0 x1 x2 y0 y1),M.K 0,M.ul z1=M.ul z1,M.s1' x0 x1 x2 y0 y1=M.s1' x0 x1 x2 y0 y1,(0 :Int)=0,M.U x2,M.U y1,M.U (M.k2 x0 x1 x2 y0),x2=x2,y1=y1,M.k2 x0 x1 x2 y0=M.k2 x0 x1 x2 y0,M.U (M.ul z2),M.U (M.Hh x0 x1 y0 y1),M.K 0,M.ul z2=M.ul z2,M.Hh x0 x1 y0 y1=M.Hh x0 x1 y0 y1,(0 :Int)=0,M.U x1,M.U y1,M.U (M.q2 x0 x1 x2 y0),x1=x1,y1=y1,M.q2 x0 x1 x2 y0=M.q2 x0 x1 x2 y0,M.U (M.ul z3),M.U 0,M.K 0,M.ul z3=M.ul z3,(0 :Int)=0,(0 :Int)=0,M.U x0,M.U y1,M.U (M.q1 x0 x1 y0),x0=x0,y1=y1,M.q1 x0 x1 y0=M.q1 x0 x1 y0,(y1 != 0)=true,M.U (M.ul z4),M.U (M.k1 x0 x1 y0),M.K 0,M.ul z4=M.ul z4,M.k1 x0 x1 y0=M.k1 x0 x1 y0,(0 :Int)=0,M.U x2,M.U y0,M.U 0,x2=x2,y0=y0,(0 :Int)=0,M.U (M.ul z5),M.U (M.k0 x0 y0),M.K 0,M.ul z5=M.ul z5,M.k0 x0 y0=M.k0 x0 y0,(0 :Int)=0,M.U x1,M.U y0,M.U 0,x1=x1,y0=y0,(0 :Int)=0,M.U (M.ul z6),M.U 0,M.K 0,M.ul z6=M.ul z6,(0 :Int)=0,(0 :Int)=0,M.U x0,M.U y0,M.U 0,x0=x0,y0=y0,(0 :Int)=0,(y0 != 0)=true]:List Prop),val:=.ptr 100 true 0,new:=[.own [.bool true false,.aH 101 false 0 (M.ln z0) 9] 146,.own [.int false .u64 (M.w0 z0),.int false .u64 (M.w1 z0),.int false .u64 (M.w2 z0),.int false .u64 0,.int false .u64 0,.int false .u64 0,.int false .u64 0,.int false .u64 0,.int false .u64 0] 196],wr:=wQ}:=by kernel_rfl
theorem MF (ca ct:Nat) (x0 x1 x2 y0 y1:Int) (xs ys:List SV) :
 iZ false 0 4 (.aH 64 true 0 3 ca) (.aH 65 true 0 2 ct) (ww x0 (ww x1 (ww x2 xs))) (ww y0 (ww y1 ys)) =
 sh (M.n4 0 (M.q0 x0 y1) (M.q1 x0 x1 y1) (M.q2 x0 x1 x2 y1)%M.bA) fun z0=>
 sh (x2*y1+0) fun z1=>
 sh (x1*y1+0) fun z2=>
 sh (x0*y1+0) fun z3=>
 some {bK:=([M.U 0,M.U (M.q0 x0 y1),M.U (M.q1 x0 x1 y1),M.U (M.q2 x0 x1 x2 y1),M.q2 x0 x1 x2 y1≠0,[0,M.q0 x0 y1,M.q1 x0 x1 y1,M.q2 x0 x1 x2 y1,M.k2 x0 x1 x2 y1,0,0,0,0]=[0,M.q0 x0 y1,M.q1 x0 x1 y1,M.q2 x0 x1 x2 y1,0,0,0,0,0],M.nl [0,M.q0 x0 y1,M.q1 x0 x1 y1,M.q2 x0 x1 x2 y1,M.k2 x0 x1 x2 y1]=4,[0,M.q0 x0 y1,M.q1 x0 x1 y1,M.q2 x0 x1 x2 y1,M.k2 x0 x1 x2 y1,0,0,0,0]=[0,M.q0 x0 y1,M.q1 x0 x1 y1,M.q2 x0 x1 x2 y1,M.k2 x0 x1 x2 y1,0,0,0,0],M.U (M.ul z1),M.U (M.k1 x0 x1 y1),M.K 0,M.ul z1=M.ul z1,M.k1 x0 x1 y1=M.k1 x0 x1 y1,(0 :Int)=0,M.U x2,M.U y1,M.U 0,x2=x2,y1=y1,(0 :Int)=0,M.U (M.ul z2),M.U (M.k0 x0 y1),M.K 0,M.ul z2=M.ul z2,M.k0 x0 y1=M.k0 x0 y1,(0 :Int)=0,M.U x1,M.U y1,M.U 0,x1=x1,y1=y1,(0 :Int)=0,M.U (M.ul z3),M.U 0,M.K 0,M.ul z3=M.ul z3,(0 :Int)=0,(0 :Int)=0,M.U x0,M.U y1,M.U 0,x0=x0,y1=y1,(0 :Int)=0,(y1 != 0)=true,(y0 != 0)=false]:List Prop),val:=.ptr 100 true 0,new:=[.own [.bool true false,.aH 101 false 0 (M.ln z0) 9] 146,.own [.int false .u64 (M.w0 z0),.int false .u64 (M.w1 z0),.int false .u64 (M.w2 z0),.int false .u64 0,.int false .u64 0,.int false .u64 0,.int false .u64 0,.int false .u64 0,.int false .u64 0] 196],wr:=wQ}:=by kernel_rfl
def rB (R:Int) (cap:Nat):List SB:=[.own [.bool true false,.aH 101 false 0 (M.ln R) cap] 146,.own (wc (M.w0 R::M.w1 R::M.w2 R::List.replicate (cap-3) 0)) 196]
def mQ (X Y:SV) (ys:List SV):List (Nat × SB):=wQ++[(61,.own [.bool true false,X] 146),(63,.own [.bool true false,Y] 146),(65,.own ys 196)]
namespace M
theorem nl3 (a b c:Int):(nl [a,b,c]=0/\a=0/\b=0/\c=0)\/(nl [a,b,c]=1/\a≠0/\b=0/\c=0)\/(nl [a,b,c]=2/\b≠0/\c=0)\/(nl [a,b,c]=3/\c≠0):=by
 by_cases hc:c=0
 .by_cases hb:b=0
  .by_cases ha:a=0
   .left;exact ⟨by simp only [nl,hc,hb,ha,if_true],ha,hb,hc⟩
   .right;left;exact ⟨by simp only [nl,hc,hb,if_true,if_neg ha],ha,hb,hc⟩
  .right;right;left;exact ⟨by simp only [nl,hc,if_true,if_neg hb],hb,hc⟩
 .right;right;right;exact ⟨by simp only [nl,if_neg hc],hc⟩
theorem RU (a b:Int):(nl [a,b]=0/\a=0/\b=0)\/(nl [a,b]=1/\a≠0/\b=0)\/(nl [a,b]=2/\b≠0):=by
 by_cases hb:b=0
 .by_cases ha:a=0
  .left;exact ⟨by simp only [nl,hb,ha,if_true],ha,hb⟩
  .right;left;exact ⟨by simp only [nl,hb,if_true,if_neg ha],ha,hb⟩
 .right;right;exact ⟨by simp only [nl,if_neg hb],hb⟩
theorem mW {p z c:Int} (RZ:0<=p) (hp:p<=340282366920938463426481119284349108225) (hz:U z) (hc:U c):az p z c+18446744073709551616*ac p z c=p+z+c/\U (az p z c)/\U (ac p z c):=by
 have:=hz.1;have:=hz.2;have:=hc.1;have:=hc.2
 unfold az ac
 rw [bP]
 unfold U ul uh
 omega
end M
theorem tI {f:FuncId} {n m ca cb:Nat} {b:Bool} {xs ys:List SV} {e:bJ} (h:aE Tryz.prog Γv f jG (fun l=>look l (sL (.aH 64 true 0 n ca) (.aH 65 true 0 m cb) xs ys)) 100 100 e):aE Tryz.prog Γv f jG (fun l=>look l (sL (.aH 64 false 0 n ca) (.aH 65 b 0 m cb) xs ys)) 100 100 e:=
 aE.reL (L:=sL (.aH 64 true 0 n ca) (.aH 65 true 0 m cb) xs ys) (L':=sL (.aH 64 false 0 n ca) (.aH 65 b 0 m cb) xs ys) h ⟨rfl,⟨rfl,fun _=>rfl⟩,rfl,cC _,rfl,⟨rfl,fun _=>rfl⟩,rfl,cC _,rfl,cC _,rfl,cC _,rfl,cC _,rfl,cC _,trivial⟩ (fun _=>rfl)
theorem jQ {Γ:Env} {f:FuncId} {n m ca cb:Nat} {b:Bool} {xs ys:List SV} {ob:List Prop} {N N':List SB} (h:aE Tryz.prog Γ f jG (fun l=>look l (sL (.aH 64 true 0 n ca) (.aH 65 true 0 m cb) xs ys)) 100 100 { bK:=ob,val:=.ptr 100 true 0,new:=N,wr:=wQ }) (hg:Γv.aR=Γ.aR) (hn:xC N N') :
 aE Tryz.prog Γv f jG (fun l=>look l (sL (.aH 64 false 0 n ca) (.aH 65 b 0 m cb) xs ys)) 100 100 { val:=.ptr 100 true 0,new:=N',wr:=mQ (.aH 64 false 0 n ca) (.aH 65 b 0 m cb) ys }:=
 tI ((((h.bE 61 _ rfl (by decide)).bE 63 _ rfl (by decide)).bE 65 _ rfl (by decide)).re hg (fun _=>rfl) hn ⟨rfl,⟨rfl,fun _=>rfl⟩,rfl,⟨rfl,fun _=>rfl⟩,rfl,⟨rfl,fun _=>rfl⟩,rfl,⟨rfl,fun _=>rfl⟩,rfl,⟨rfl,fun _=>rfl⟩,trivial⟩)
open M in
theorem MI (xs ys:List SV) {y0 y1 y2:Int} (fG:U y0) (iA:U y1) (Fj:y2=1):aE Tryz.prog Γv 95 jG (fun l=>look l (sL (.raw (.slice none 0 0)) (.aH 65 true 0 3 7) xs (ww y0 (ww y1 (ww y2 ys))))) 100 100
 { val:=.ptr 100 true 0,new:=rB ((0+n3 y0 y1 y2)%bA) 7,wr:=mQ (.raw (.slice none 0 0)) (.aH 65 true 0 3 7) (ww y0 (ww y1 (ww y2 ys))) }:=by
 have hs:aI Tryz.prog (env (zE []) 22) 95 (aJ (env (zE []) 22) Tryz.f95 true [] 400):=aN (bQ _ 22) (bW _ (uZ []) 22) mix Tryz.func95 (by kernel_rfl) true [] 400
 have hU:U y2:=by unfold U;omega
 have hz:y2≠0:=by omega
 rw [Int.zero_add]
 exact (((((hs.call (aZn xs y0 y1 y2 ys) (aA (by simp only [sh,bX,fG,iA,hU,and_true,true_and];exact hz))).bE 61 _ rfl (by decide)).bE 63 _ rfl (by decide)).bE 65 _ rfl (by decide)).re rfl (fun _=>rfl) ⟨⟨rfl,fun _=>rfl⟩,⟨rfl,fun _=>rfl⟩,trivial⟩ ⟨rfl,⟨rfl,fun _=>rfl⟩,rfl,⟨rfl,fun _=>rfl⟩,rfl,⟨rfl,fun _=>rfl⟩,rfl,⟨rfl,fun _=>rfl⟩,rfl,⟨rfl,fun _=>rfl⟩,trivial⟩)
open M in
theorem MM (ca:Nat) (xs ys:List SV) {y0 y1 y2:Int} (fG:U y0) (iA:U y1) (Fj:y2=1):aE Tryz.prog Γv 95 jG (fun l=>look l (sL (.aH 64 false 0 0 ca) (.aH 65 true 0 3 7) xs (ww y0 (ww y1 (ww y2 ys))))) 100 100
 { val:=.ptr 100 true 0,new:=rB ((0+n3 y0 y1 y2)%bA) 7,wr:=mQ (.aH 64 false 0 0 ca) (.aH 65 true 0 3 7) (ww y0 (ww y1 (ww y2 ys))) }:=by
 have hs:∀ h,aI Tryz.prog (env (zE h) 22) 95 (aJ (env (zE h) 22) Tryz.f95 true [] 400):=fun h=>aN (bQ _ 22) (bW _ (uZ h) 22) mix Tryz.func95 (by kernel_rfl) true [] 400
 have hU:U y2:=by unfold U;omega
 have hz:(y2≠0)=True:=eq_true (by omega)
 have hW:0+n3 y0 y1 y2=n3 y0 y1 y2:=Int.zero_add _
 rw [hW]
 exact jQ ((hs _).call (aZr ca xs y0 y1 y2 ys) (aA (by simp only [sh,bX,fG,iA,hU,hz,and_true,true_and]))) rfl ⟨⟨rfl,fun _=>rfl⟩,⟨rfl,fun _=>rfl⟩,trivial⟩
open M in
theorem ML {ca:Nat} (lC:ca=6\/ca=7\/ca=8\/ca=9) (xs ys:List SV) {x0 y0 y1 y2:Int} (gC:U x0) (hN:x0<bA) (fG:U y0) (iA:U y1) (Fj:y2=1):aE Tryz.prog Γv 95 jG (fun l=>look l (sL (.aH 64 false 0 1 ca) (.aH 65 true 0 3 7) (ww x0 xs) (ww y0 (ww y1 (ww y2 ys))))) 100 100
 { val:=.ptr 100 true 0,new:=rB ((x0+n3 y0 y1 y2)%bA) 8,wr:=mQ (.aH 64 false 0 1 ca) (.aH 65 true 0 3 7) (ww y0 (ww y1 (ww y2 ys))) }:=by
 have hs:∀ h,aI Tryz.prog (env (zE h) 22) 95 (aJ (env (zE h) 22) Tryz.f95 true [] 400):=fun h=>aN (bQ _ 22) (bW _ (uZ h) 22) mix Tryz.func95 (by kernel_rfl) true [] 400
 have hU:U y2:=by unfold U;omega
 have:=gC.1;have:=gC.2;have:=fG.1;have:=fG.2;have:=iA.1;have:=iA.2
 have DG:x0<1361129467683753853853498429727072845819:=hN
 skip
 have ec0:c0 y0 x0=(y0+x0)/18446744073709551616:=by unfold c0 uh;omega
 by_cases An:(uh (y1+c0 y0 x0+0)==0)=true
 .have h1:uh (y1+c0 y0 x0+0)=0:=by simpa using An
  have h1:y1+c0 y0 x0<18446744073709551616:=by unfold uh at h1;omega
  have u0:U (g0 y0 x0):=by exact dU _
  have u1:U (ul (y1+c0 y0 x0+0)):=by exact dU _
  have u2:U (y2):=by exact hU
  have hW:n3 (g0 y0 x0) (ul (y1+c0 y0 x0+0)) (y2)=x0+n3 y0 y1 y2:=by unfold n3 g0;unfold ul;omega
  have hz:(y2≠0)=True:=eq_true (by intro e;rw [e] at hW;have:=u0.2;have:=u1.2;unfold n3 at hW;omega)
  have hn:nl [g0 y0 x0,ul (y1+c0 y0 x0+0),y2,0]=3:=by rw [nl4];simp only [nl,if_neg (of_eq_true hz)]
  have kc0:K (c0 y0 x0):=by unfold K;omega
  have vc0:U (c0 y0 x0):=by unfold U;omega
  rw [<- hW]
  exact jQ ((hs _).call (aZq lC x0 xs y0 y1 y2 ys) (aA (by simp only [sh,bX,gC,fG,iA,hU,u0,u1,u2,hz,hn,K0,kc0,vc0,An,and_true,true_and]))) rfl ⟨⟨rfl,fun _=>rfl⟩,⟨rfl,fun _=>rfl⟩,trivial⟩
 .have An:(uh (y1+c0 y0 x0+0)==0)=false:=by simpa using An
  have hm:(y2 != 18446744073709551615)=true:=by rw [Fj];decide
  have h1:uh (y1+c0 y0 x0+0)≠0:=by simpa using An
  have h1:y1+c0 y0 x0=18446744073709551616:=by unfold uh at h1;omega
  have u0:U (g0 y0 x0):=by exact dU _
  have u1:U (ul (y1+c0 y0 x0+0)):=by exact dU _
  have u2:U (IntKind.u64.wrap (y2+1)):=by rw [bP];exact dU _
  have hW:n3 (g0 y0 x0) (ul (y1+c0 y0 x0+0)) (IntKind.u64.wrap (y2+1))=x0+n3 y0 y1 y2:=by unfold n3 g0;rw [bP];unfold ul;omega
  have hz:(IntKind.u64.wrap (y2+1)≠0)=True:=eq_true (by intro e;rw [e] at hW;have:=u0.2;have:=u1.2;unfold n3 at hW;omega)
  have hn:nl [g0 y0 x0,ul (y1+c0 y0 x0+0),IntKind.u64.wrap (y2+1),0]=3:=by rw [nl4];simp only [nl,if_neg (of_eq_true hz)]
  have kc0:K (c0 y0 x0):=by unfold K;omega
  have vc0:U (c0 y0 x0):=by unfold U;omega
  rw [<- hW]
  exact jQ ((hs _).call (aTs lC x0 xs y0 y1 y2 ys) (aA (by simp only [sh,bX,gC,fG,iA,hU,u0,u1,u2,hz,hn,K0,kc0,vc0,An,hm,and_true,true_and]))) rfl ⟨⟨rfl,fun _=>rfl⟩,⟨rfl,fun _=>rfl⟩,trivial⟩
open M in
theorem MK {ca:Nat} (lC:ca=6\/ca=7\/ca=8\/ca=9) (xs ys:List SV) {x0 x1 y0 y1 y2:Int} (gC:U x0) (gD:U x1) (hN:(x0+18446744073709551616*x1)<bA) (fG:U y0) (iA:U y1) (Fj:y2=1):aE Tryz.prog Γv 95 jG (fun l=>look l (sL (.aH 64 false 0 2 ca) (.aH 65 true 0 3 7) (ww x0 (ww x1 xs)) (ww y0 (ww y1 (ww y2 ys))))) 100 100
 { val:=.ptr 100 true 0,new:=rB (((x0+18446744073709551616*x1)+n3 y0 y1 y2)%bA) 8,wr:=mQ (.aH 64 false 0 2 ca) (.aH 65 true 0 3 7) (ww y0 (ww y1 (ww y2 ys))) }:=by
 have hs:∀ h,aI Tryz.prog (env (zE h) 22) 95 (aJ (env (zE h) 22) Tryz.f95 true [] 400):=fun h=>aN (bQ _ 22) (bW _ (uZ h) 22) mix Tryz.func95 (by kernel_rfl) true [] 400
 have hU:U y2:=by unfold U;omega
 have:=gC.1;have:=gC.2;have:=gD.1;have:=gD.2;have:=fG.1;have:=fG.2;have:=iA.1;have:=iA.2
 have DG:(x0+18446744073709551616*x1)<1361129467683753853853498429727072845819:=hN
 skip
 have ec0:c0 y0 x0=(y0+x0)/18446744073709551616:=by unfold c0 uh;omega
 have ec1:c1 y0 y1 x0 x1=(y1+x1+c0 y0 x0)/18446744073709551616:=by unfold c1 uh;omega
 have An:(uh (y2+c1 y0 y1 x0 x1+0)==0)=true:=by rw [Fj];simp only [beq_iff_eq];unfold uh;omega
 have u0:U (g0 y0 x0):=by exact dU _
 have u1:U (g1 y0 y1 x0 x1):=by exact dU _
 have u2:U (ul (y2+c1 y0 y1 x0 x1+0)):=by exact dU _
 have hW:n3 (g0 y0 x0) (g1 y0 y1 x0 x1) (ul (y2+c1 y0 y1 x0 x1+0))=(x0+18446744073709551616*x1)+n3 y0 y1 y2:=by unfold n3 g0 g1;unfold ul;omega
 have hz:(ul (y2+c1 y0 y1 x0 x1+0)≠0)=True:=eq_true (by intro e;rw [e] at hW;have:=u0.2;have:=u1.2;unfold n3 at hW;omega)
 have hn:nl [g0 y0 x0,g1 y0 y1 x0 x1,ul (y2+c1 y0 y1 x0 x1+0),0]=3:=by rw [nl4];simp only [nl,if_neg (of_eq_true hz)]
 have kc0:K (c0 y0 x0):=by unfold K;omega
 have vc0:U (c0 y0 x0):=by unfold U;omega
 have kc1:K (c1 y0 y1 x0 x1):=by unfold K;omega
 have vc1:U (c1 y0 y1 x0 x1):=by unfold U;omega
 rw [<- hW]
 exact jQ ((hs _).call (aZp lC x0 x1 xs y0 y1 y2 ys) (aA (by simp only [sh,bX,gC,gD,fG,iA,hU,u0,u1,u2,hz,hn,K0,kc0,kc1,vc0,vc1,An,and_true,true_and]))) rfl ⟨⟨rfl,fun _=>rfl⟩,⟨rfl,fun _=>rfl⟩,trivial⟩
open M in
theorem MJ {ca:Nat} (lC:ca=6\/ca=7\/ca=8\/ca=9) (xs ys:List SV) {x0 x1 x2 y0 y1 y2:Int} (gC:U x0) (gD:U x1) (nJ:U x2) (hN:n3 x0 x1 x2<bA) (fG:U y0) (iA:U y1) (Fj:y2=1):aE Tryz.prog Γv 95 jG (fun l=>look l (sL (.aH 64 false 0 3 ca) (.aH 65 true 0 3 7) (ww x0 (ww x1 (ww x2 xs))) (ww y0 (ww y1 (ww y2 ys))))) 100 100
 { val:=.ptr 100 true 0,new:=rB ((n3 x0 x1 x2+n3 y0 y1 y2)%bA) 8,wr:=mQ (.aH 64 false 0 3 ca) (.aH 65 true 0 3 7) (ww y0 (ww y1 (ww y2 ys))) }:=by
 have hs:∀ h,aI Tryz.prog (env (zE h) 22) 95 (aJ (env (zE h) 22) Tryz.f95 true [] 400):=fun h=>aN (bQ _ 22) (bW _ (uZ h) 22) mix Tryz.func95 (by kernel_rfl) true [] 400
 have hU:U y2:=by unfold U;omega
 have:=gC.1;have:=gC.2;have:=gD.1;have:=gD.2;have:=nJ.1;have:=nJ.2;have:=fG.1;have:=fG.2;have:=iA.1;have:=iA.2
 have DG:n3 x0 x1 x2<1361129467683753853853498429727072845819:=hN
 unfold n3 at DG
 have ec0:c0 x0 y0=(x0+y0)/18446744073709551616:=by unfold c0 uh;omega
 have ec1:c1 x0 x1 y0 y1=(x1+y1+c0 x0 y0)/18446744073709551616:=by unfold c1 uh;omega
 have ec2:c2 x0 x1 x2 y0 y1 y2=(x2+y2+c1 x0 x1 y0 y1)/18446744073709551616:=by unfold c2 uh;omega
 have An:c2 x0 x1 x2 y0 y1 y2=0:=by omega
 have u0:U (g0 x0 y0):=by exact dU _
 have u1:U (g1 x0 x1 y0 y1):=by exact dU _
 have u2:U (g2 x0 x1 x2 y0 y1 y2):=by exact dU _
 have hW:n3 (g0 x0 y0) (g1 x0 x1 y0 y1) (g2 x0 x1 x2 y0 y1 y2)=n3 x0 x1 x2+n3 y0 y1 y2:=by unfold n3 g0 g1 g2;unfold ul;omega
 have hz:(g2 x0 x1 x2 y0 y1 y2≠0)=True:=eq_true (by intro e;rw [e] at hW;have:=u0.2;have:=u1.2;unfold n3 at hW;omega)
 have hn:nl [g0 x0 y0,g1 x0 x1 y0 y1,g2 x0 x1 x2 y0 y1 y2,0]=3:=by rw [nl4];simp only [nl,if_neg (of_eq_true hz)]
 have kc0:K (c0 x0 y0):=by unfold K;omega
 have vc0:U (c0 x0 y0):=by unfold U;omega
 have kc1:K (c1 x0 x1 y0 y1):=by unfold K;omega
 have vc1:U (c1 x0 x1 y0 y1):=by unfold U;omega
 rw [<- hW]
 exact jQ ((hs _).call (aZo lC x0 x1 x2 xs y0 y1 y2 ys) (aA (by simp only [sh,bX,gC,gD,nJ,fG,iA,hU,u0,u1,u2,hz,hn,K0,kc0,kc1,vc0,vc1,An,and_true,true_and]))) rfl ⟨⟨rfl,fun _=>rfl⟩,⟨rfl,fun _=>rfl⟩,trivial⟩
def nB:List SB:=[.own [.bool true false,.raw (.slice none 0 0)] 146]
theorem oH (h:Bool) (iq ir:Nat):aI Tryz.prog (env (UT h iq ir) 22) 97 (aJ (env (UT h iq ir) 22) Tryz.f97 true [] 400):=aN (bQ _ 22) (bW _ (aCd h iq ir) 22) mix Tryz.func97 (by kernel_rfl) true [] 400
theorem AO (ca ct:Nat) (xs ys:List SV):aE Tryz.prog Γv 97 jG (fun l=>look l (sL (.aH 64 false 0 0 ca) (.aH 65 false 0 0 ct) xs ys)) 100 100
 { val:=.ptr 100 true 0,new:=nB,wr:=mQ (.aH 64 false 0 0 ca) (.aH 65 false 0 0 ct) ys }:=
 tI ((((((oH true 0 0).call (aBi ca ct  xs ys) (by simp)).bE 61 _ rfl (by decide)).bE 63 _ rfl (by decide)).bE 65 _ rfl (by decide)).re rfl (fun _=>rfl) ⟨⟨rfl,fun _=>rfl⟩,trivial⟩ ⟨rfl,⟨rfl,fun _=>rfl⟩,rfl,⟨rfl,fun _=>rfl⟩,rfl,⟨rfl,fun _=>rfl⟩,rfl,⟨rfl,fun _=>rfl⟩,rfl,⟨rfl,fun _=>rfl⟩,trivial⟩)
theorem AN (ca ct:Nat) (y0:Int) (xs ys:List SV):aE Tryz.prog Γv 97 jG (fun l=>look l (sL (.aH 64 false 0 0 ca) (.aH 65 false 0 1 ct) xs (ww y0 ys))) 100 100
 { val:=.ptr 100 true 0,new:=nB,wr:=mQ (.aH 64 false 0 0 ca) (.aH 65 false 0 1 ct) (ww y0 ys) }:=
 tI ((((((oH true 0 0).call (aBh ca ct y0 xs ys) (by simp)).bE 61 _ rfl (by decide)).bE 63 _ rfl (by decide)).bE 65 _ rfl (by decide)).re rfl (fun _=>rfl) ⟨⟨rfl,fun _=>rfl⟩,trivial⟩ ⟨rfl,⟨rfl,fun _=>rfl⟩,rfl,⟨rfl,fun _=>rfl⟩,rfl,⟨rfl,fun _=>rfl⟩,rfl,⟨rfl,fun _=>rfl⟩,rfl,⟨rfl,fun _=>rfl⟩,trivial⟩)
theorem AM (ca ct:Nat) (y0 y1:Int) (xs ys:List SV):aE Tryz.prog Γv 97 jG (fun l=>look l (sL (.aH 64 false 0 0 ca) (.aH 65 false 0 2 ct) xs (ww y0 (ww y1 ys)))) 100 100
 { val:=.ptr 100 true 0,new:=nB,wr:=mQ (.aH 64 false 0 0 ca) (.aH 65 false 0 2 ct) (ww y0 (ww y1 ys)) }:=
 tI ((((((oH true 0 0).call (aBg ca ct y0 y1 xs ys) (by simp)).bE 61 _ rfl (by decide)).bE 63 _ rfl (by decide)).bE 65 _ rfl (by decide)).re rfl (fun _=>rfl) ⟨⟨rfl,fun _=>rfl⟩,trivial⟩ ⟨rfl,⟨rfl,fun _=>rfl⟩,rfl,⟨rfl,fun _=>rfl⟩,rfl,⟨rfl,fun _=>rfl⟩,rfl,⟨rfl,fun _=>rfl⟩,rfl,⟨rfl,fun _=>rfl⟩,trivial⟩)
theorem AL (ca ct:Nat) (x0:Int) (xs ys:List SV):aE Tryz.prog Γv 97 jG (fun l=>look l (sL (.aH 64 false 0 1 ca) (.aH 65 false 0 0 ct) (ww x0 xs) ys)) 100 100
 { val:=.ptr 100 true 0,new:=nB,wr:=mQ (.aH 64 false 0 1 ca) (.aH 65 false 0 0 ct) ys }:=
 tI ((((((oH true 0 0).call (aBf ca ct x0 xs ys) (by simp)).bE 61 _ rfl (by decide)).bE 63 _ rfl (by decide)).bE 65 _ rfl (by decide)).re rfl (fun _=>rfl) ⟨⟨rfl,fun _=>rfl⟩,trivial⟩ ⟨rfl,⟨rfl,fun _=>rfl⟩,rfl,⟨rfl,fun _=>rfl⟩,rfl,⟨rfl,fun _=>rfl⟩,rfl,⟨rfl,fun _=>rfl⟩,rfl,⟨rfl,fun _=>rfl⟩,trivial⟩)
theorem AI (ca ct:Nat) (x0 x1:Int) (xs ys:List SV):aE Tryz.prog Γv 97 jG (fun l=>look l (sL (.aH 64 false 0 2 ca) (.aH 65 false 0 0 ct) (ww x0 (ww x1 xs)) ys)) 100 100
 { val:=.ptr 100 true 0,new:=nB,wr:=mQ (.aH 64 false 0 2 ca) (.aH 65 false 0 0 ct) ys }:=
 tI ((((((oH true 0 0).call (aBa ca ct x0 x1 xs ys) (by simp)).bE 61 _ rfl (by decide)).bE 63 _ rfl (by decide)).bE 65 _ rfl (by decide)).re rfl (fun _=>rfl) ⟨⟨rfl,fun _=>rfl⟩,trivial⟩ ⟨rfl,⟨rfl,fun _=>rfl⟩,rfl,⟨rfl,fun _=>rfl⟩,rfl,⟨rfl,fun _=>rfl⟩,rfl,⟨rfl,fun _=>rfl⟩,rfl,⟨rfl,fun _=>rfl⟩,trivial⟩)
theorem AF (ca ct:Nat) (x0 x1 x2:Int) (xs ys:List SV):aE Tryz.prog Γv 97 jG (fun l=>look l (sL (.aH 64 false 0 3 ca) (.aH 65 false 0 0 ct) (ww x0 (ww x1 (ww x2 xs))) ys)) 100 100
 { val:=.ptr 100 true 0,new:=nB,wr:=mQ (.aH 64 false 0 3 ca) (.aH 65 false 0 0 ct) ys }:=
 tI ((((((oH true 0 0).call (aAv ca ct x0 x1 x2 xs ys) (by simp)).bE 61 _ rfl (by decide)).bE 63 _ rfl (by decide)).bE 65 _ rfl (by decide)).re rfl (fun _=>rfl) ⟨⟨rfl,fun _=>rfl⟩,trivial⟩ ⟨rfl,⟨rfl,fun _=>rfl⟩,rfl,⟨rfl,fun _=>rfl⟩,rfl,⟨rfl,fun _=>rfl⟩,rfl,⟨rfl,fun _=>rfl⟩,rfl,⟨rfl,fun _=>rfl⟩,trivial⟩)
open M in
set_option maxHeartbeats 1000000 in
theorem AK (ca ct:Nat) (xs ys:List SV) {x0 y0:Int} (gC:U x0) (fG:U y0) (hzx:x0≠0) (CA:y0≠0) (hN:x0<bA) (hT:y0<21267647932558653966460912964485513216):aE Tryz.prog Γv 97 jG (fun l=>look l (sL (.aH 64 false 0 1 ca) (.aH 65 false 0 1 ct) (ww x0 xs) (ww y0 ys))) 100 100
 { val:=.ptr 100 true 0,new:=rB ((x0*y0)%bA) 6,wr:=mQ (.aH 64 false 0 1 ca) (.aH 65 false 0 1 ct) (ww y0 ys) }:=by
 have:=gC.1;have:=gC.2;have:=fG.1;have:=fG.2
 have DG:x0<1361129467683753853853498429727072845819:=hN
 have Bd:1<=x0:=by omega
 have Bc:1<=y0:=by omega
 have oF:1<=x0*y0:=Int.le_trans (by decide) (Int.mul_le_mul Bd Bc (by decide) (by omega))
 have Pc:x0*y0<=1361129467683753853853498429727072845818*21267647932558653966460912964485513215:=Int.mul_le_mul (by omega) (by omega) (by omega) (by decide)
 have hE:x0*y0=x0*y0:=by grind
 have q0:=mU (x0*y0+0)
 have m0:=eN gC fG
 have Ki:U (uh (x0*y0+0)):=As gC fG U0
 have ul0:U (ul (x0*y0+0)):=dU _
 have hb:(y0==0)=false:=by simpa using CA
 have hS:ul (x0*y0+0)+18446744073709551616*uh (x0*y0+0)=x0*y0:=by
  rw [hE]
  skip
  generalize x0*y0=z0 at *
  omega
 have Ox:U (ul (x0*y0+0))/\U (uh (x0*y0+0)):=by refine ⟨?_,?_⟩ <;> first | exact U0 | assumption | exact dU _
 obtain ⟨Aj,Ai⟩:=Ox
 have:=Aj.1;have:=Aj.2;have:=Ai.1;have:=Ai.2
 by_cases ht:uh (x0*y0+0)=0
 .have hz:(ul (x0*y0+0)≠0)=True:=eq_true (by intro e;rw [e,ht] at hS;clear hE;generalize x0*y0=zz at hS oF Pc;omega)
  have hn:nl [ul (x0*y0+0),0]=1:=(gH [ul (x0*y0+0)]).trans (by simp only [nl,if_neg (of_eq_true hz)])
  rw [ht,Int.mul_zero,Int.add_zero] at hS
  rw [<- hS]
  exact jQ ((oH true 1 0).call (aBe ca ct x0 y0 xs ys) (aA (by simp only [sh,bX,gC,fG,U0,K0,dU,Ki,hb,ht,hz,hn,and_true,true_and]))) rfl ⟨⟨rfl,fun _=>rfl⟩,⟨rfl,fun _=>rfl⟩,trivial⟩
 .have hz:(uh (x0*y0+0)≠0)=True:=eq_true ht
  have hn:nl [ul (x0*y0+0),uh (x0*y0+0)]=2:=by simp only [nl,if_neg ht]
  rw [<- hS]
  exact jQ ((oH true 2 0).call (aBd ca ct x0 y0 xs ys) (aA (by simp only [sh,bX,gC,fG,U0,K0,dU,Ki,hb,hz,hn,and_true,true_and]))) rfl ⟨⟨rfl,fun _=>rfl⟩,⟨rfl,fun _=>rfl⟩,trivial⟩
open M in
set_option maxHeartbeats 1000000 in
theorem AJ (ca ct:Nat) (xs ys:List SV) {x0 y0 y1:Int} (gC:U x0) (fG:U y0) (iA:U y1) (hzx:x0≠0) (CA:y1≠0) (hN:x0<bA) (hT:(y0+18446744073709551616*y1)<21267647932558653966460912964485513216):aE Tryz.prog Γv 97 jG (fun l=>look l (sL (.aH 64 false 0 1 ca) (.aH 65 false 0 2 ct) (ww x0 xs) (ww y0 (ww y1 ys)))) 100 100
 { val:=.ptr 100 true 0,new:=rB ((x0*(y0+18446744073709551616*y1))%bA) 7,wr:=mQ (.aH 64 false 0 1 ca) (.aH 65 false 0 2 ct) (ww y0 (ww y1 ys)) }:=by
 have:=gC.1;have:=gC.2;have:=fG.1;have:=fG.2;have:=iA.1;have:=iA.2
 have DG:x0<1361129467683753853853498429727072845819:=hN
 have Bd:1<=x0:=by omega
 have Bc:18446744073709551616<=(y0+18446744073709551616*y1):=by omega
 have oF:18446744073709551616<=x0*(y0+18446744073709551616*y1):=Int.le_trans (by decide) (Int.mul_le_mul Bd Bc (by decide) (by omega))
 have Pc:x0*(y0+18446744073709551616*y1)<=1361129467683753853853498429727072845818*21267647932558653966460912964485513215:=Int.mul_le_mul (by omega) (by omega) (by omega) (by decide)
 have hE:x0*(y0+18446744073709551616*y1)=y0*x0+18446744073709551616*(y1*x0):=by grind
 have q0:=mU (y0*x0+0)
 have m0:=eN fG gC
 have Ki:U (uh (y0*x0+0)):=As fG gC U0
 have ul0:U (ul (y0*x0+0)):=dU _
 have q1:=mU (y1*x0+uh (y0*x0+0))
 have m1:=eN iA gC
 have RR:U (uh (y1*x0+uh (y0*x0+0))):=As iA gC Ki
 have ul1:U (ul (y1*x0+uh (y0*x0+0))):=dU _
 have hb:(x0==0)=false:=by simpa using hzx
 have hS:n3 (ul (y0*x0+0)) (ul (y1*x0+uh (y0*x0+0))) (uh (y1*x0+uh (y0*x0+0)))=x0*(y0+18446744073709551616*y1):=by
  rw [hE]
  unfold n3
  generalize y0*x0=z0 at *
  generalize y1*x0=z1 at *
  omega
 have Ox:U (ul (y0*x0+0))/\U (ul (y1*x0+uh (y0*x0+0)))/\U (uh (y1*x0+uh (y0*x0+0))):=by refine ⟨?_,?_,?_⟩ <;> first | exact U0 | assumption | exact dU _
 obtain ⟨Aj,Ai,Fg⟩:=Ox
 have:=Aj.1;have:=Aj.2;have:=Ai.1;have:=Ai.2;have:=Fg.1;have:=Fg.2
 by_cases ht:uh (y1*x0+uh (y0*x0+0))=0
 .have hz:(ul (y1*x0+uh (y0*x0+0))≠0)=True:=eq_true (by intro e;rw [e,ht] at hS;clear hE;unfold n3 at hS;generalize x0*(y0+18446744073709551616*y1)=zz at hS oF Pc;omega)
  have hn:nl [ul (y0*x0+0),ul (y1*x0+uh (y0*x0+0)),0]=2:=(gH [ul (y0*x0+0),ul (y1*x0+uh (y0*x0+0))]).trans (by simp only [nl,if_neg (of_eq_true hz)])
  have hS:ul (y0*x0+0)+18446744073709551616*ul (y1*x0+uh (y0*x0+0))=x0*(y0+18446744073709551616*y1):=by rw [<- hS,ht];unfold n3;omega
  rw [<- hS]
  exact jQ ((oH true 0 2).call (aBc ca ct x0 y0 y1 xs ys) (aA (by simp only [sh,bX,gC,fG,iA,U0,K0,dU,Ki,RR,hb,ht,hz,hn,and_true,true_and]))) rfl ⟨⟨rfl,fun _=>rfl⟩,⟨rfl,fun _=>rfl⟩,trivial⟩
 .have hz:(uh (y1*x0+uh (y0*x0+0))≠0)=True:=eq_true ht
  have hn:nl [ul (y0*x0+0),ul (y1*x0+uh (y0*x0+0)),uh (y1*x0+uh (y0*x0+0))]=3:=by simp only [nl,if_neg ht]
  rw [<- hS]
  exact jQ ((oH true 0 3).call (aBb ca ct x0 y0 y1 xs ys) (aA (by simp only [sh,bX,gC,fG,iA,U0,K0,dU,Ki,RR,hb,hz,hn,and_true,true_and]))) rfl ⟨⟨rfl,fun _=>rfl⟩,⟨rfl,fun _=>rfl⟩,trivial⟩
open M in
set_option maxHeartbeats 1000000 in
theorem AH (ca ct:Nat) (xs ys:List SV) {x0 x1 y0:Int} (gC:U x0) (gD:U x1) (fG:U y0) (hzx:x1≠0) (CA:y0≠0) (hN:(x0+18446744073709551616*x1)<bA) (hT:y0<21267647932558653966460912964485513216):aE Tryz.prog Γv 97 jG (fun l=>look l (sL (.aH 64 false 0 2 ca) (.aH 65 false 0 1 ct) (ww x0 (ww x1 xs)) (ww y0 ys))) 100 100
 { val:=.ptr 100 true 0,new:=rB (((x0+18446744073709551616*x1)*y0)%bA) 7,wr:=mQ (.aH 64 false 0 2 ca) (.aH 65 false 0 1 ct) (ww y0 ys) }:=by
 have:=gC.1;have:=gC.2;have:=gD.1;have:=gD.2;have:=fG.1;have:=fG.2
 have DG:(x0+18446744073709551616*x1)<1361129467683753853853498429727072845819:=hN
 have Bd:18446744073709551616<=(x0+18446744073709551616*x1):=by omega
 have Bc:1<=y0:=by omega
 have oF:18446744073709551616<=(x0+18446744073709551616*x1)*y0:=Int.le_trans (by decide) (Int.mul_le_mul Bd Bc (by decide) (by omega))
 have Pc:(x0+18446744073709551616*x1)*y0<=1361129467683753853853498429727072845818*21267647932558653966460912964485513215:=Int.mul_le_mul (by omega) (by omega) (by omega) (by decide)
 have hE:(x0+18446744073709551616*x1)*y0=x0*y0+18446744073709551616*(x1*y0):=by grind
 have q0:=mU (x0*y0+0)
 have m0:=eN gC fG
 have Ki:U (uh (x0*y0+0)):=As gC fG U0
 have ul0:U (ul (x0*y0+0)):=dU _
 have q1:=mU (x1*y0+uh (x0*y0+0))
 have m1:=eN gD fG
 have RR:U (uh (x1*y0+uh (x0*y0+0))):=As gD fG Ki
 have ul1:U (ul (x1*y0+uh (x0*y0+0))):=dU _
 have hb:(y0==0)=false:=by simpa using CA
 have hS:n3 (ul (x0*y0+0)) (ul (x1*y0+uh (x0*y0+0))) (uh (x1*y0+uh (x0*y0+0)))=(x0+18446744073709551616*x1)*y0:=by
  rw [hE]
  unfold n3
  generalize x0*y0=z0 at *
  generalize x1*y0=z1 at *
  omega
 have Ox:U (ul (x0*y0+0))/\U (ul (x1*y0+uh (x0*y0+0)))/\U (uh (x1*y0+uh (x0*y0+0))):=by refine ⟨?_,?_,?_⟩ <;> first | exact U0 | assumption | exact dU _
 obtain ⟨Aj,Ai,Fg⟩:=Ox
 have:=Aj.1;have:=Aj.2;have:=Ai.1;have:=Ai.2;have:=Fg.1;have:=Fg.2
 by_cases ht:uh (x1*y0+uh (x0*y0+0))=0
 .have hz:(ul (x1*y0+uh (x0*y0+0))≠0)=True:=eq_true (by intro e;rw [e,ht] at hS;clear hE;unfold n3 at hS;generalize (x0+18446744073709551616*x1)*y0=zz at hS oF Pc;omega)
  have hn:nl [ul (x0*y0+0),ul (x1*y0+uh (x0*y0+0)),0]=2:=(gH [ul (x0*y0+0),ul (x1*y0+uh (x0*y0+0))]).trans (by simp only [nl,if_neg (of_eq_true hz)])
  have hS:ul (x0*y0+0)+18446744073709551616*ul (x1*y0+uh (x0*y0+0))=(x0+18446744073709551616*x1)*y0:=by rw [<- hS,ht];unfold n3;omega
  rw [<- hS]
  exact jQ ((oH true 0 2).call (aAz ca ct x0 x1 y0 xs ys) (aA (by simp only [sh,bX,gC,gD,fG,U0,K0,dU,Ki,RR,hb,ht,hz,hn,and_true,true_and]))) rfl ⟨⟨rfl,fun _=>rfl⟩,⟨rfl,fun _=>rfl⟩,trivial⟩
 .have hz:(uh (x1*y0+uh (x0*y0+0))≠0)=True:=eq_true ht
  have hn:nl [ul (x0*y0+0),ul (x1*y0+uh (x0*y0+0)),uh (x1*y0+uh (x0*y0+0))]=3:=by simp only [nl,if_neg ht]
  rw [<- hS]
  exact jQ ((oH true 0 3).call (aAy ca ct x0 x1 y0 xs ys) (aA (by simp only [sh,bX,gC,gD,fG,U0,K0,dU,Ki,RR,hb,hz,hn,and_true,true_and]))) rfl ⟨⟨rfl,fun _=>rfl⟩,⟨rfl,fun _=>rfl⟩,trivial⟩
open M in
set_option maxHeartbeats 1000000 in
theorem AE (ca ct:Nat) (xs ys:List SV) {x0 x1 x2 y0:Int} (gC:U x0) (gD:U x1) (nJ:U x2) (fG:U y0) (hzx:x2≠0) (CA:y0≠0) (hN:n3 x0 x1 x2<bA) (hT:y0<21267647932558653966460912964485513216):aE Tryz.prog Γv 97 jG (fun l=>look l (sL (.aH 64 false 0 3 ca) (.aH 65 false 0 1 ct) (ww x0 (ww x1 (ww x2 xs))) (ww y0 ys))) 100 100
 { val:=.ptr 100 true 0,new:=rB ((n3 x0 x1 x2*y0)%bA) 8,wr:=mQ (.aH 64 false 0 3 ca) (.aH 65 false 0 1 ct) (ww y0 ys) }:=by
 have:=gC.1;have:=gC.2;have:=gD.1;have:=gD.2;have:=nJ.1;have:=nJ.2;have:=fG.1;have:=fG.2
 have DG:n3 x0 x1 x2<1361129467683753853853498429727072845819:=hN
 have Bd:340282366920938463463374607431768211456<=n3 x0 x1 x2:=by unfold n3;omega
 have Bc:1<=y0:=by omega
 have oF:340282366920938463463374607431768211456<=n3 x0 x1 x2*y0:=Int.le_trans (by decide) (Int.mul_le_mul Bd Bc (by decide) (by omega))
 have Pc:n3 x0 x1 x2*y0<=1361129467683753853853498429727072845818*21267647932558653966460912964485513215:=Int.mul_le_mul (by omega) (by omega) (by omega) (by decide)
 have hE:n3 x0 x1 x2*y0=x0*y0+18446744073709551616*(x1*y0)+340282366920938463463374607431768211456*(x2*y0):=by unfold n3;grind
 have q0:=mU (x0*y0+0)
 have m0:=eN gC fG
 have Ki:U (uh (x0*y0+0)):=As gC fG U0
 have ul0:U (ul (x0*y0+0)):=dU _
 have q1:=mU (x1*y0+uh (x0*y0+0))
 have m1:=eN gD fG
 have RR:U (uh (x1*y0+uh (x0*y0+0))):=As gD fG Ki
 have ul1:U (ul (x1*y0+uh (x0*y0+0))):=dU _
 have q2:=mU (x2*y0+uh (x1*y0+uh (x0*y0+0)))
 have m2:=eN nJ fG
 have uh2:U (uh (x2*y0+uh (x1*y0+uh (x0*y0+0)))):=As nJ fG RR
 have ul2:U (ul (x2*y0+uh (x1*y0+uh (x0*y0+0)))):=dU _
 have hb:(y0==0)=false:=by simpa using CA
 have hS:n4 (ul (x0*y0+0)) (ul (x1*y0+uh (x0*y0+0))) (ul (x2*y0+uh (x1*y0+uh (x0*y0+0)))) (uh (x2*y0+uh (x1*y0+uh (x0*y0+0))))=n3 x0 x1 x2*y0:=by
  rw [hE]
  unfold n4
  generalize x0*y0=z0 at *
  generalize x1*y0=z1 at *
  generalize x2*y0=z2 at *
  omega
 have Ox:U (ul (x0*y0+0))/\U (ul (x1*y0+uh (x0*y0+0)))/\U (ul (x2*y0+uh (x1*y0+uh (x0*y0+0))))/\U (uh (x2*y0+uh (x1*y0+uh (x0*y0+0)))):=by refine ⟨?_,?_,?_,?_⟩ <;> first | exact U0 | assumption | exact dU _
 obtain ⟨Aj,Ai,Fg,Tx⟩:=Ox
 have:=Aj.1;have:=Aj.2;have:=Ai.1;have:=Ai.2;have:=Fg.1;have:=Fg.2;have:=Tx.1;have:=Tx.2
 by_cases ht:uh (x2*y0+uh (x1*y0+uh (x0*y0+0)))=0
 .have hz:(ul (x2*y0+uh (x1*y0+uh (x0*y0+0)))≠0)=True:=eq_true (by intro e;rw [e,ht] at hS;clear hE;unfold n4 at hS;generalize n3 x0 x1 x2*y0=zz at hS oF Pc;omega)
  have hn:nl [ul (x0*y0+0),ul (x1*y0+uh (x0*y0+0)),ul (x2*y0+uh (x1*y0+uh (x0*y0+0))),0]=3:=(gH [ul (x0*y0+0),ul (x1*y0+uh (x0*y0+0)),ul (x2*y0+uh (x1*y0+uh (x0*y0+0)))]).trans (by simp only [nl,if_neg (of_eq_true hz)])
  have hS:n3 (ul (x0*y0+0)) (ul (x1*y0+uh (x0*y0+0))) (ul (x2*y0+uh (x1*y0+uh (x0*y0+0))))=n3 x0 x1 x2*y0:=by rw [<- hS,ht];unfold n4 n3;omega
  rw [<- hS]
  exact jQ ((oH true 0 3).call (aAu ca ct x0 x1 x2 y0 xs ys) (aA (by simp only [sh,bX,gC,gD,nJ,fG,U0,K0,dU,Ki,RR,uh2,hb,ht,hz,hn,and_true,true_and]))) rfl ⟨⟨rfl,fun _=>rfl⟩,⟨rfl,fun _=>rfl⟩,trivial⟩
 .have hz:(uh (x2*y0+uh (x1*y0+uh (x0*y0+0)))≠0)=True:=eq_true ht
  have hn:nl [ul (x0*y0+0),ul (x1*y0+uh (x0*y0+0)),ul (x2*y0+uh (x1*y0+uh (x0*y0+0))),uh (x2*y0+uh (x1*y0+uh (x0*y0+0)))]=4:=by simp only [nl,if_neg ht]
  rw [<- hS]
  exact jQ ((oH true 0 4).call (aAt ca ct x0 x1 x2 y0 xs ys) (aA (by simp only [sh,bX,gC,gD,nJ,fG,U0,K0,dU,Ki,RR,uh2,hb,hz,hn,and_true,true_and]))) rfl ⟨⟨rfl,fun _=>rfl⟩,⟨rfl,fun _=>rfl⟩,trivial⟩
open M in
set_option maxHeartbeats 1000000 in
theorem AG (ca ct:Nat) (xs ys:List SV) {x0 x1 y0 y1:Int} (gC:U x0) (gD:U x1) (fG:U y0) (iA:U y1) (hzx:x1≠0) (CA:y1≠0) (hN:(x0+18446744073709551616*x1)<bA) (hT:(y0+18446744073709551616*y1)<21267647932558653966460912964485513216):aE Tryz.prog Γv 97 jG (fun l=>look l (sL (.aH 64 false 0 2 ca) (.aH 65 false 0 2 ct) (ww x0 (ww x1 xs)) (ww y0 (ww y1 ys)))) 100 100
 { val:=.ptr 100 true 0,new:=rB (((x0+18446744073709551616*x1)*(y0+18446744073709551616*y1))%bA) 8,wr:=mQ (.aH 64 false 0 2 ca) (.aH 65 false 0 2 ct) (ww y0 (ww y1 ys)) }:=by
 have:=gC.1;have:=gC.2;have:=gD.1;have:=gD.2;have:=fG.1;have:=fG.2;have:=iA.1;have:=iA.2
 have DG:(x0+18446744073709551616*x1)<1361129467683753853853498429727072845819:=hN
 have Bd:18446744073709551616<=(x0+18446744073709551616*x1):=by omega
 have Bc:18446744073709551616<=(y0+18446744073709551616*y1):=by omega
 have oF:340282366920938463463374607431768211456<=(x0+18446744073709551616*x1)*(y0+18446744073709551616*y1):=Int.le_trans (by decide) (Int.mul_le_mul Bd Bc (by decide) (by omega))
 have Pc:(x0+18446744073709551616*x1)*(y0+18446744073709551616*y1)<=1361129467683753853853498429727072845818*21267647932558653966460912964485513215:=Int.mul_le_mul (by omega) (by omega) (by omega) (by decide)
 have hE:(x0+18446744073709551616*x1)*(y0+18446744073709551616*y1)=x0*y0+18446744073709551616*(x0*y1)+18446744073709551616*(x1*y0)+340282366920938463463374607431768211456*(x1*y1):=by grind
 cases DR:(y0 != 0) with
 | false=>
   have CT:=eN gC iA
   obtain ⟨qa0,Hp,wY⟩:q0 x0 y1+18446744073709551616*k0 x0 y1=x0*y1+0+0/\U (q0 x0 y1)/\U (k0 x0 y1):=mW CT.1 CT.2 U0 U0
   have CS:=eN gD iA
   obtain ⟨qa1,Ar,yV⟩:q1 x0 x1 y1+18446744073709551616*k1 x0 x1 y1=x1*y1+0+k0 x0 y1/\U (q1 x0 x1 y1)/\U (k1 x0 x1 y1):=mW CS.1 CS.2 U0 wY
   have hb:(y0 != 0)=false:=by simpa using DR
   have y00:y0=0:=by simpa using hb
   have qH:(y1 != 0)=true:=by simpa using CA
   rw [y00] at hE
   simp only [Int.mul_zero,Int.zero_add,Int.add_zero] at hE
   have hS:n4 0 (q0 x0 y1) (q1 x0 x1 y1) (k1 x0 x1 y1)=(x0+18446744073709551616*x1)*(y0+18446744073709551616*y1):=by
    rw [y00,Int.zero_add,hE]
    unfold n4
    generalize x0*y1=z0 at *
    generalize x1*y1=z1 at *
    omega
   have Ox:U (0)/\U (q0 x0 y1)/\U (q1 x0 x1 y1)/\U (k1 x0 x1 y1):=by refine ⟨?_,?_,?_,?_⟩ <;> first | exact U0 | assumption | exact dU _
   obtain ⟨Aj,Ai,Fg,Tx⟩:=Ox
   have:=Aj.1;have:=Aj.2;have:=Ai.1;have:=Ai.2;have:=Fg.1;have:=Fg.2;have:=Tx.1;have:=Tx.2
   by_cases ht:k1 x0 x1 y1=0
   .have hz:(q1 x0 x1 y1≠0)=True:=eq_true (by intro e;rw [e,ht] at hS;clear hE;unfold n4 at hS;generalize (x0+18446744073709551616*x1)*(y0+18446744073709551616*y1)=zz at hS oF Pc;omega)
    have hn:nl [0,q0 x0 y1,q1 x0 x1 y1,0]=3:=(gH [0,q0 x0 y1,q1 x0 x1 y1]).trans (by simp only [nl,if_neg (of_eq_true hz)])
    have hS:n3 0 (q0 x0 y1) (q1 x0 x1 y1)=(x0+18446744073709551616*x1)*(y0+18446744073709551616*y1):=by rw [<- hS,ht];unfold n4 n3;omega
    rw [<- hS]
    exact jQ ((oH false 0 3).call (MH ca ct x0 x1 y0 y1 xs ys) (aA (by simp only [sh,bX,gC,gD,fG,iA,U0,K0,dU,Hp,wY,Ar,yV,hb,qH,ht,hz,hn,and_true,true_and]))) rfl ⟨⟨rfl,fun _=>rfl⟩,⟨rfl,fun _=>rfl⟩,trivial⟩
   .have hz:(k1 x0 x1 y1≠0)=True:=eq_true ht
    have hn:nl [0,q0 x0 y1,q1 x0 x1 y1,k1 x0 x1 y1]=4:=by simp only [nl,if_neg ht]
    rw [<- hS]
    exact jQ ((oH false 0 4).call (MG ca ct x0 x1 y0 y1 xs ys) (aA (by simp only [sh,bX,gC,gD,fG,iA,U0,K0,dU,Hp,wY,Ar,yV,hb,qH,hz,hn,and_true,true_and]))) rfl ⟨⟨rfl,fun _=>rfl⟩,⟨rfl,fun _=>rfl⟩,trivial⟩
 | true=>
   have CT:=eN gC fG
   obtain ⟨qa0,Hp,wY⟩:q0 x0 y0+18446744073709551616*k0 x0 y0=x0*y0+0+0/\U (q0 x0 y0)/\U (k0 x0 y0):=mW CT.1 CT.2 U0 U0
   have CS:=eN gD fG
   obtain ⟨qa1,Ar,yV⟩:q1 x0 x1 y0+18446744073709551616*k1 x0 x1 y0=x1*y0+0+k0 x0 y0/\U (q1 x0 x1 y0)/\U (k1 x0 x1 y0):=mW CS.1 CS.2 U0 wY
   have mb0:=eN gC iA
   obtain ⟨qb0,SQ,Ye⟩:r0 x0 x1 y0 y1+18446744073709551616*Hh x0 x1 y0 y1=x0*y1+q1 x0 x1 y0+0/\U (r0 x0 x1 y0 y1)/\U (Hh x0 x1 y0 y1):=mW mb0.1 mb0.2 Ar U0
   have mb1:=eN gD iA
   obtain ⟨qb1,SP,DK⟩:e1 x0 x1 y0 y1+18446744073709551616*f1 x0 x1 y0 y1=x1*y1+k1 x0 x1 y0+Hh x0 x1 y0 y1/\U (e1 x0 x1 y0 y1)/\U (f1 x0 x1 y0 y1):=mW mb1.1 mb1.2 yV Ye
   have hb:(y0 != 0)=true:=DR
   have qH:(y1 != 0)=true:=by simpa using CA
   have hS:n4 (q0 x0 y0) (r0 x0 x1 y0 y1) (e1 x0 x1 y0 y1) (f1 x0 x1 y0 y1)=(x0+18446744073709551616*x1)*(y0+18446744073709551616*y1):=by
    rw [hE]
    unfold n4
    generalize x0*y0=z0 at *
    generalize x0*y1=z1 at *
    generalize x1*y0=z2 at *
    generalize x1*y1=z3 at *
    omega
   have Ox:U (q0 x0 y0)/\U (r0 x0 x1 y0 y1)/\U (e1 x0 x1 y0 y1)/\U (f1 x0 x1 y0 y1):=by refine ⟨?_,?_,?_,?_⟩ <;> first | exact U0 | assumption | exact dU _
   obtain ⟨Aj,Ai,Fg,Tx⟩:=Ox
   have:=Aj.1;have:=Aj.2;have:=Ai.1;have:=Ai.2;have:=Fg.1;have:=Fg.2;have:=Tx.1;have:=Tx.2
   by_cases ht:f1 x0 x1 y0 y1=0
   .have hz:(e1 x0 x1 y0 y1≠0)=True:=eq_true (by intro e;rw [e,ht] at hS;clear hE;unfold n4 at hS;generalize (x0+18446744073709551616*x1)*(y0+18446744073709551616*y1)=zz at hS oF Pc;omega)
    have hn:nl [q0 x0 y0,r0 x0 x1 y0 y1,e1 x0 x1 y0 y1,0]=3:=(gH [q0 x0 y0,r0 x0 x1 y0 y1,e1 x0 x1 y0 y1]).trans (by simp only [nl,if_neg (of_eq_true hz)])
    have hS:n3 (q0 x0 y0) (r0 x0 x1 y0 y1) (e1 x0 x1 y0 y1)=(x0+18446744073709551616*x1)*(y0+18446744073709551616*y1):=by rw [<- hS,ht];unfold n4 n3;omega
    rw [<- hS]
    exact jQ ((oH true 0 3).call (aAx ca ct x0 x1 y0 y1 xs ys) (aA (by simp only [sh,bX,gC,gD,fG,iA,U0,K0,dU,Hp,wY,Ar,yV,SQ,Ye,SP,DK,hb,qH,ht,hz,hn,and_true,true_and]))) rfl ⟨⟨rfl,fun _=>rfl⟩,⟨rfl,fun _=>rfl⟩,trivial⟩
   .have hz:(f1 x0 x1 y0 y1≠0)=True:=eq_true ht
    have hn:nl [q0 x0 y0,r0 x0 x1 y0 y1,e1 x0 x1 y0 y1,f1 x0 x1 y0 y1]=4:=by simp only [nl,if_neg ht]
    rw [<- hS]
    exact jQ ((oH true 0 4).call (aAw ca ct x0 x1 y0 y1 xs ys) (aA (by simp only [sh,bX,gC,gD,fG,iA,U0,K0,dU,Hp,wY,Ar,yV,SQ,Ye,SP,DK,hb,qH,hz,hn,and_true,true_and]))) rfl ⟨⟨rfl,fun _=>rfl⟩,⟨rfl,fun _=>rfl⟩,trivial⟩
open M in
set_option maxHeartbeats 1000000 in
theorem AD (ca ct:Nat) (xs ys:List SV) {x0 x1 x2 y0 y1:Int} (gC:U x0) (gD:U x1) (nJ:U x2) (fG:U y0) (iA:U y1) (hzx:x2≠0) (CA:y1≠0) (hN:n3 x0 x1 x2<bA) (hT:(y0+18446744073709551616*y1)<21267647932558653966460912964485513216):aE Tryz.prog Γv 97 jG (fun l=>look l (sL (.aH 64 false 0 3 ca) (.aH 65 false 0 2 ct) (ww x0 (ww x1 (ww x2 xs))) (ww y0 (ww y1 ys)))) 100 100
 { val:=.ptr 100 true 0,new:=rB ((n3 x0 x1 x2*(y0+18446744073709551616*y1))%bA) 9,wr:=mQ (.aH 64 false 0 3 ca) (.aH 65 false 0 2 ct) (ww y0 (ww y1 ys)) }:=by
 have:=gC.1;have:=gC.2;have:=gD.1;have:=gD.2;have:=nJ.1;have:=nJ.2;have:=fG.1;have:=fG.2;have:=iA.1;have:=iA.2
 have DG:n3 x0 x1 x2<1361129467683753853853498429727072845819:=hN
 have Bd:340282366920938463463374607431768211456<=n3 x0 x1 x2:=by unfold n3;omega
 have Bc:18446744073709551616<=(y0+18446744073709551616*y1):=by omega
 have oF:6277101735386680763835789423207666416102355444464034512896<=n3 x0 x1 x2*(y0+18446744073709551616*y1):=Int.le_trans (by decide) (Int.mul_le_mul Bd Bc (by decide) (by omega))
 have Pc:n3 x0 x1 x2*(y0+18446744073709551616*y1)<=1361129467683753853853498429727072845818*21267647932558653966460912964485513215:=Int.mul_le_mul (by omega) (by omega) (by omega) (by decide)
 have hE:n3 x0 x1 x2*(y0+18446744073709551616*y1)=x0*y0+18446744073709551616*(x0*y1)+18446744073709551616*(x1*y0)+340282366920938463463374607431768211456*(x1*y1)+340282366920938463463374607431768211456*(x2*y0)+6277101735386680763835789423207666416102355444464034512896*(x2*y1):=by unfold n3;grind
 cases DR:(y0 != 0) with
 | false=>
   have CT:=eN gC iA
   obtain ⟨qa0,Hp,wY⟩:q0 x0 y1+18446744073709551616*k0 x0 y1=x0*y1+0+0/\U (q0 x0 y1)/\U (k0 x0 y1):=mW CT.1 CT.2 U0 U0
   have CS:=eN gD iA
   obtain ⟨qa1,Ar,yV⟩:q1 x0 x1 y1+18446744073709551616*k1 x0 x1 y1=x1*y1+0+k0 x0 y1/\U (q1 x0 x1 y1)/\U (k1 x0 x1 y1):=mW CS.1 CS.2 U0 wY
   have ma2:=eN nJ iA
   obtain ⟨qa2,SR,SO⟩:q2 x0 x1 x2 y1+18446744073709551616*k2 x0 x1 x2 y1=x2*y1+0+k1 x0 x1 y1/\U (q2 x0 x1 x2 y1)/\U (k2 x0 x1 x2 y1):=mW ma2.1 ma2.2 U0 yV
   have hb:(y0 != 0)=false:=by simpa using DR
   have y00:y0=0:=by simpa using hb
   have qH:(y1 != 0)=true:=by simpa using CA
   rw [y00] at hE
   simp only [Int.mul_zero,Int.zero_add,Int.add_zero] at hE
   have hS:n4 0 (q0 x0 y1) (q1 x0 x1 y1) (q2 x0 x1 x2 y1)+115792089237316195423570985008687907853269984665640564039457584007913129639936*(k2 x0 x1 x2 y1)=n3 x0 x1 x2*(y0+18446744073709551616*y1):=by
    rw [y00,Int.zero_add,hE]
    unfold n4
    generalize x0*y1=z0 at *
    generalize x1*y1=z1 at *
    generalize x2*y1=z2 at *
    omega
   have Ox:U (0)/\U (q0 x0 y1)/\U (q1 x0 x1 y1)/\U (q2 x0 x1 x2 y1)/\U (k2 x0 x1 x2 y1):=by refine ⟨?_,?_,?_,?_,?_⟩ <;> first | exact U0 | assumption | exact dU _
   obtain ⟨Aj,Ai,Fg,Tx,uw4⟩:=Ox
   have:=Aj.1;have:=Aj.2;have:=Ai.1;have:=Ai.2;have:=Fg.1;have:=Fg.2;have:=Tx.1;have:=Tx.2;have:=uw4.1;have:=uw4.2
   have ht:k2 x0 x1 x2 y1=0:=by clear hE;unfold n4 at hS;generalize n3 x0 x1 x2*(y0+18446744073709551616*y1)=zz at hS oF Pc;omega
   have hz:(q2 x0 x1 x2 y1≠0)=True:=eq_true (by intro e;rw [e,ht] at hS;clear hE;unfold n4 at hS;generalize n3 x0 x1 x2*(y0+18446744073709551616*y1)=zz at hS oF Pc;omega)
   have hn:nl [0,q0 x0 y1,q1 x0 x1 y1,q2 x0 x1 x2 y1,0]=4:=(gH [0,q0 x0 y1,q1 x0 x1 y1,q2 x0 x1 x2 y1]).trans (by simp only [nl,if_neg (of_eq_true hz)])
   rw [ht,Int.mul_zero,Int.add_zero] at hS
   rw [<- hS]
   exact jQ ((oH false 0 4).call (MF ca ct x0 x1 x2 y0 y1 xs ys) (aA (by simp only [sh,bX,gC,gD,nJ,fG,iA,U0,K0,dU,Hp,wY,Ar,yV,SR,SO,hb,qH,ht,hz,hn,and_true,true_and]))) rfl ⟨⟨rfl,fun _=>rfl⟩,⟨rfl,fun _=>rfl⟩,trivial⟩
 | true=>
   have CT:=eN gC fG
   obtain ⟨qa0,Hp,wY⟩:q0 x0 y0+18446744073709551616*k0 x0 y0=x0*y0+0+0/\U (q0 x0 y0)/\U (k0 x0 y0):=mW CT.1 CT.2 U0 U0
   have CS:=eN gD fG
   obtain ⟨qa1,Ar,yV⟩:q1 x0 x1 y0+18446744073709551616*k1 x0 x1 y0=x1*y0+0+k0 x0 y0/\U (q1 x0 x1 y0)/\U (k1 x0 x1 y0):=mW CS.1 CS.2 U0 wY
   have ma2:=eN nJ fG
   obtain ⟨qa2,SR,SO⟩:q2 x0 x1 x2 y0+18446744073709551616*k2 x0 x1 x2 y0=x2*y0+0+k1 x0 x1 y0/\U (q2 x0 x1 x2 y0)/\U (k2 x0 x1 x2 y0):=mW ma2.1 ma2.2 U0 yV
   have mb0:=eN gC iA
   obtain ⟨qb0,SQ,Ye⟩:r0 x0 x1 y0 y1+18446744073709551616*Hh x0 x1 y0 y1=x0*y1+q1 x0 x1 y0+0/\U (r0 x0 x1 y0 y1)/\U (Hh x0 x1 y0 y1):=mW mb0.1 mb0.2 Ar U0
   have mb1:=eN gD iA
   obtain ⟨qb1,SP,DK⟩:r1 x0 x1 x2 y0 y1+18446744073709551616*s1' x0 x1 x2 y0 y1=x1*y1+q2 x0 x1 x2 y0+Hh x0 x1 y0 y1/\U (r1 x0 x1 x2 y0 y1)/\U (s1' x0 x1 x2 y0 y1):=mW mb1.1 mb1.2 SR Ye
   have mb2:=eN nJ iA
   obtain ⟨qb2,aUy,aUx⟩:r2 x0 x1 x2 y0 y1+18446744073709551616*RT x0 x1 x2 y0 y1=x2*y1+k2 x0 x1 x2 y0+s1' x0 x1 x2 y0 y1/\U (r2 x0 x1 x2 y0 y1)/\U (RT x0 x1 x2 y0 y1):=mW mb2.1 mb2.2 SO DK
   have hb:(y0 != 0)=true:=DR
   have qH:(y1 != 0)=true:=by simpa using CA
   have hS:n4 (q0 x0 y0) (r0 x0 x1 y0 y1) (r1 x0 x1 x2 y0 y1) (r2 x0 x1 x2 y0 y1)+115792089237316195423570985008687907853269984665640564039457584007913129639936*(RT x0 x1 x2 y0 y1)=n3 x0 x1 x2*(y0+18446744073709551616*y1):=by
    rw [hE]
    unfold n4
    generalize x0*y0=z0 at *
    generalize x0*y1=z1 at *
    generalize x1*y0=z2 at *
    generalize x1*y1=z3 at *
    generalize x2*y0=z4 at *
    generalize x2*y1=z5 at *
    omega
   have Ox:U (q0 x0 y0)/\U (r0 x0 x1 y0 y1)/\U (r1 x0 x1 x2 y0 y1)/\U (r2 x0 x1 x2 y0 y1)/\U (RT x0 x1 x2 y0 y1):=by refine ⟨?_,?_,?_,?_,?_⟩ <;> first | exact U0 | assumption | exact dU _
   obtain ⟨Aj,Ai,Fg,Tx,uw4⟩:=Ox
   have:=Aj.1;have:=Aj.2;have:=Ai.1;have:=Ai.2;have:=Fg.1;have:=Fg.2;have:=Tx.1;have:=Tx.2;have:=uw4.1;have:=uw4.2
   have ht:RT x0 x1 x2 y0 y1=0:=by clear hE;unfold n4 at hS;generalize n3 x0 x1 x2*(y0+18446744073709551616*y1)=zz at hS oF Pc;omega
   have hz:(r2 x0 x1 x2 y0 y1≠0)=True:=eq_true (by intro e;rw [e,ht] at hS;clear hE;unfold n4 at hS;generalize n3 x0 x1 x2*(y0+18446744073709551616*y1)=zz at hS oF Pc;omega)
   have hn:nl [q0 x0 y0,r0 x0 x1 y0 y1,r1 x0 x1 x2 y0 y1,r2 x0 x1 x2 y0 y1,0]=4:=(gH [q0 x0 y0,r0 x0 x1 y0 y1,r1 x0 x1 x2 y0 y1,r2 x0 x1 x2 y0 y1]).trans (by simp only [nl,if_neg (of_eq_true hz)])
   rw [ht,Int.mul_zero,Int.add_zero] at hS
   rw [<- hS]
   exact jQ ((oH true 0 4).call (aAs ca ct x0 x1 x2 y0 y1 xs ys) (aA (by simp only [sh,bX,gC,gD,nJ,fG,iA,U0,K0,dU,Hp,wY,Ar,yV,SR,SO,SQ,Ye,SP,DK,aUy,aUx,hb,qH,ht,hz,hn,and_true,true_and]))) rfl ⟨⟨rfl,fun _=>rfl⟩,⟨rfl,fun _=>rfl⟩,trivial⟩
namespace M
theorem sh1 {b:Int} (h:Bt b):dI .u64 (IntKind.u64.wrap b) 8=b*256:=by
 have:=h.1;have:=h.2
 have e:IntKind.u64.wrap b=b:=by rw [bP];unfold ul;omega
 rw [e]
 show IntKind.u64.wrap (b*256)=_
 rw [bP];unfold ul;omega
theorem or1 {acc b:Int} (h:Bt b) (h0:0<=acc) (h1:acc<256):kN .u64 acc (b*256)=acc+b*256:=by
 have:=h.1;have:=h.2
 obtain ⟨a,rfl⟩:=Int.eq_ofNat_of_zero_le h0
 obtain ⟨b,rfl⟩:=Int.eq_ofNat_of_zero_le h.1
 have e:(b:Int)*256=((b*2^8:Nat):Int):=by rw [Int.natCast_mul];rfl
 have RJ:(2:Nat)^8=256:=rfl
 rw [e,CR,CQ (by omega) (by omega)]
 omega
theorem sh2 {b:Int} (h:Bt b):dI .u64 (IntKind.u64.wrap b) 16=b*65536:=by
 have:=h.1;have:=h.2
 have e:IntKind.u64.wrap b=b:=by rw [bP];unfold ul;omega
 rw [e]
 show IntKind.u64.wrap (b*65536)=_
 rw [bP];unfold ul;omega
theorem aWt {acc b:Int} (h:Bt b) (h0:0<=acc) (h1:acc<65536):kN .u64 acc (b*65536)=acc+b*65536:=by
 have:=h.1;have:=h.2
 obtain ⟨a,rfl⟩:=Int.eq_ofNat_of_zero_le h0
 obtain ⟨b,rfl⟩:=Int.eq_ofNat_of_zero_le h.1
 have e:(b:Int)*65536=((b*2^16:Nat):Int):=by rw [Int.natCast_mul];rfl
 have RJ:(2:Nat)^16=65536:=rfl
 rw [e,CR,CQ (by omega) (by omega)]
 omega
theorem sh3 {b:Int} (h:Bt b):dI .u64 (IntKind.u64.wrap b) 24=b*16777216:=by
 have:=h.1;have:=h.2
 have e:IntKind.u64.wrap b=b:=by rw [bP];unfold ul;omega
 rw [e]
 show IntKind.u64.wrap (b*16777216)=_
 rw [bP];unfold ul;omega
theorem or3 {acc b:Int} (h:Bt b) (h0:0<=acc) (h1:acc<16777216):kN .u64 acc (b*16777216)=acc+b*16777216:=by
 have:=h.1;have:=h.2
 obtain ⟨a,rfl⟩:=Int.eq_ofNat_of_zero_le h0
 obtain ⟨b,rfl⟩:=Int.eq_ofNat_of_zero_le h.1
 have e:(b:Int)*16777216=((b*2^24:Nat):Int):=by rw [Int.natCast_mul];rfl
 have RJ:(2:Nat)^24=16777216:=rfl
 rw [e,CR,CQ (by omega) (by omega)]
 omega
theorem sh4 {b:Int} (h:Bt b):dI .u64 (IntKind.u64.wrap b) 32=b*4294967296:=by
 have:=h.1;have:=h.2
 have e:IntKind.u64.wrap b=b:=by rw [bP];unfold ul;omega
 rw [e]
 show IntKind.u64.wrap (b*4294967296)=_
 rw [bP];unfold ul;omega
theorem or4 {acc b:Int} (h:Bt b) (h0:0<=acc) (h1:acc<4294967296):kN .u64 acc (b*4294967296)=acc+b*4294967296:=by
 have:=h.1;have:=h.2
 obtain ⟨a,rfl⟩:=Int.eq_ofNat_of_zero_le h0
 obtain ⟨b,rfl⟩:=Int.eq_ofNat_of_zero_le h.1
 have e:(b:Int)*4294967296=((b*2^32:Nat):Int):=by rw [Int.natCast_mul];rfl
 have RJ:(2:Nat)^32=4294967296:=rfl
 rw [e,CR,CQ (by omega) (by omega)]
 omega
theorem sh5 {b:Int} (h:Bt b):dI .u64 (IntKind.u64.wrap b) 40=b*1099511627776:=by
 have:=h.1;have:=h.2
 have e:IntKind.u64.wrap b=b:=by rw [bP];unfold ul;omega
 rw [e]
 show IntKind.u64.wrap (b*1099511627776)=_
 rw [bP];unfold ul;omega
theorem or5 {acc b:Int} (h:Bt b) (h0:0<=acc) (h1:acc<1099511627776):kN .u64 acc (b*1099511627776)=acc+b*1099511627776:=by
 have:=h.1;have:=h.2
 obtain ⟨a,rfl⟩:=Int.eq_ofNat_of_zero_le h0
 obtain ⟨b,rfl⟩:=Int.eq_ofNat_of_zero_le h.1
 have e:(b:Int)*1099511627776=((b*2^40:Nat):Int):=by rw [Int.natCast_mul];rfl
 have RJ:(2:Nat)^40=1099511627776:=rfl
 rw [e,CR,CQ (by omega) (by omega)]
 omega
theorem sh6 {b:Int} (h:Bt b):dI .u64 (IntKind.u64.wrap b) 48=b*281474976710656:=by
 have:=h.1;have:=h.2
 have e:IntKind.u64.wrap b=b:=by rw [bP];unfold ul;omega
 rw [e]
 show IntKind.u64.wrap (b*281474976710656)=_
 rw [bP];unfold ul;omega
theorem or6 {acc b:Int} (h:Bt b) (h0:0<=acc) (h1:acc<281474976710656):kN .u64 acc (b*281474976710656)=acc+b*281474976710656:=by
 have:=h.1;have:=h.2
 obtain ⟨a,rfl⟩:=Int.eq_ofNat_of_zero_le h0
 obtain ⟨b,rfl⟩:=Int.eq_ofNat_of_zero_le h.1
 have e:(b:Int)*281474976710656=((b*2^48:Nat):Int):=by rw [Int.natCast_mul];rfl
 have RJ:(2:Nat)^48=281474976710656:=rfl
 rw [e,CR,CQ (by omega) (by omega)]
 omega
theorem sh7 {b:Int} (h:Bt b):dI .u64 (IntKind.u64.wrap b) 56=b*72057594037927936:=by
 have:=h.1;have:=h.2
 have e:IntKind.u64.wrap b=b:=by rw [bP];unfold ul;omega
 rw [e]
 show IntKind.u64.wrap (b*72057594037927936)=_
 rw [bP];unfold ul;omega
theorem or7 {acc b:Int} (h:Bt b) (h0:0<=acc) (h1:acc<72057594037927936):kN .u64 acc (b*72057594037927936)=acc+b*72057594037927936:=by
 have:=h.1;have:=h.2
 obtain ⟨a,rfl⟩:=Int.eq_ofNat_of_zero_le h0
 obtain ⟨b,rfl⟩:=Int.eq_ofNat_of_zero_le h.1
 have e:(b:Int)*72057594037927936=((b*2^56:Nat):Int):=by rw [Int.natCast_mul];rfl
 have RJ:(2:Nat)^56=72057594037927936:=rfl
 rw [e,CR,CQ (by omega) (by omega)]
 omega
theorem V8 (b0 b1 b2 b3 b4 b5 b6 b7:Int):V [b0,b1,b2,b3,b4,b5,b6,b7]=b0+b1*256+b2*65536+b3*16777216+b4*4294967296+b5*1099511627776+b6*281474976710656+b7*72057594037927936:=by
 simp [V,vs]
 omega
theorem xG {b0 b1 b2 b3 b4 b5 b6 b7:Int} (h0:Bt b0) (h1:Bt b1) (h2:Bt b2) (h3:Bt b3) (h4:Bt b4) (h5:Bt b5) (h6:Bt b6) (h7:Bt b7):iP b0 b1 b2 b3 b4 b5 b6 b7=V [b0,b1,b2,b3,b4,b5,b6,b7]/\U (V [b0,b1,b2,b3,b4,b5,b6,b7]):=by
 have:=h0.1;have:=h0.2;have:=h1.1;have:=h1.2;have:=h2.1;have:=h2.2;have:=h3.1;have:=h3.2;have:=h4.1;have:=h4.2;have:=h5.1;have:=h5.2;have:=h6.1;have:=h6.2;have:=h7.1;have:=h7.2
 have e:IntKind.u64.wrap b0=b0:=by rw [bP];unfold ul;omega
 rw [V8]
 unfold iP
 rw [e,sh1 h1,sh2 h2,sh3 h3,sh4 h4,sh5 h5,sh6 h6,sh7 h7]
 rw [or1 h1 (by omega) (by omega),aWt h2 (by omega) (by omega),or3 h3 (by omega) (by omega),or4 h4 (by omega) (by omega),or5 h5 (by omega) (by omega),or6 h6 (by omega) (by omega),or7 h7 (by omega) (by omega)]
 exact ⟨rfl,by unfold U;omega⟩
theorem aHv {b:Int} (h:b=1):kN .u64 0 (dI .u64 (IntKind.u64.wrap b) 0)=1:=by subst h;decide
end M
open M in
theorem LG {b0  b1  b2  b3  b4  b5  b6  b7  b8  b9  dC  dB  dA  dH  dG  gN  iW:Int} (hb:bR [b0,b1,b2,b3,b4,b5,b6,b7,b8,b9,dC,dB,dA,dH,dG,gN,iW]) (h1:iW=1):aE Tryz.prog Γv 91 [.cP 61 0 17 0] (fun l=>look l [(61,.row 1 (bc [b0,b1,b2,b3,b4,b5,b6,b7,b8,b9,dC,dB,dA,dH,dG,gN,iW]) 5)]) 100 100
 { val:=.ptr 100 true 0,new:=[.own [.bool true false,.aH 101 true 0 3 7] 146,.own (wc [V [b0,b1,b2,b3,b4,b5,b6,b7],V [b8,b9,dC,dB,dA,dH,dG,gN],1,0,0,0,0]) 196],wr:=[(61,.row 1 (bc [b0,b1,b2,b3,b4,b5,b6,b7,b8,b9,dC,dB,dA,dH,dG,gN,iW]) 5)] }:=by
 have hs:aI Tryz.prog (env (Ia 0 3) 22) 91 (aJ (env (Ia 0 3) 22) Tryz.f91 true [] 400):=aN (bQ _ 22) (bW _ (Jj 0 3) 22) mix Tryz.func91 (by kernel_rfl) true [] 400
 have e0:=(xG (hb _ (by simp)) (hb _ (by simp)) (hb _ (by simp)) (hb _ (by simp)) (hb _ (by simp)) (hb _ (by simp)) (hb _ (by simp)) (hb _ (by simp)):M.iP b0 b1 b2 b3 b4 b5 b6 b7=V [b0,b1,b2,b3,b4,b5,b6,b7]/\_).1
 have e1:=(xG (hb _ (by simp)) (hb _ (by simp)) (hb _ (by simp)) (hb _ (by simp)) (hb _ (by simp)) (hb _ (by simp)) (hb _ (by simp)) (hb _ (by simp)):M.iP b8 b9 dC dB dA dH dG gN=V [b8,b9,dC,dB,dA,dH,dG,gN]/\_).1
 have e2:=aHv h1
 refine ((hs.call (n17 b0 b1 b2 b3 b4 b5 b6 b7 b8 b9 dC dB dA dH dG gN iW) (aA ?_)).bE 61 _ rfl (by decide)).re rfl (fun _=>rfl) ⟨⟨rfl,fun _=>rfl⟩,⟨rfl,fun _=>by rw [e0,e1,e2];rfl⟩,trivial⟩ ⟨rfl,rfl,trivial⟩
 simp only [sh,bX,e2,nl,and_true]
 simp
open M in
theorem Zp {b0  b1  b2  b3  b4  b5  b6  b7  b8  b9  dC  dB  dA  dH  dG  gN  iW  mO  mL  mK  mJ  mI  mH  mG  mF  mE  mD  mC  mB  mA  lZ  lY:Int} (hb:bR [b0,b1,b2,b3,b4,b5,b6,b7,b8,b9,dC,dB,dA,dH,dG,gN,iW,mO,mL,mK,mJ,mI,mH,mG,mF,mE,mD,mC,mB,mA,lZ,lY]):aE Tryz.prog Γv 91 [.aH 61 true 0 16 32] (fun l=>look l [(61,.fN (bc [b0,b1,b2,b3,b4,b5,b6,b7,b8,b9,dC,dB,dA,dH,dG,gN,iW,mO,mL,mK,mJ,mI,mH,mG,mF,mE,mD,mC,mB,mA,lZ,lY]))]) 100 100
 { val:=.ptr 100 true 0,new:=[.own [.bool true false,.aH 101 false 0 (nl [V [b0,b1,b2,b3,b4,b5,b6,b7],V [b8,b9,dC,dB,dA,dH,dG,gN]]) 6] 146,.own (wc [V [b0,b1,b2,b3,b4,b5,b6,b7],V [b8,b9,dC,dB,dA,dH,dG,gN],0,0,0,0]) 196] }:=by
 have hs:∀ iq,aI Tryz.prog (env (Ia iq 0) 22) 91 (aJ (env (Ia iq 0) 22) Tryz.f91 true [] 400):=fun iq=>aN (bQ _ 22) (bW _ (Jj iq 0) 22) mix Tryz.func91 (by kernel_rfl) true [] 400
 have e0:=(xG (hb _ (by simp)) (hb _ (by simp)) (hb _ (by simp)) (hb _ (by simp)) (hb _ (by simp)) (hb _ (by simp)) (hb _ (by simp)) (hb _ (by simp)):M.iP b0 b1 b2 b3 b4 b5 b6 b7=V [b0,b1,b2,b3,b4,b5,b6,b7]/\_).1
 have e1:=(xG (hb _ (by simp)) (hb _ (by simp)) (hb _ (by simp)) (hb _ (by simp)) (hb _ (by simp)) (hb _ (by simp)) (hb _ (by simp)) (hb _ (by simp)):M.iP b8 b9 dC dB dA dH dG gN=V [b8,b9,dC,dB,dA,dH,dG,gN]/\_).1
 rcases RU (V [b0,b1,b2,b3,b4,b5,b6,b7]) (V [b8,b9,dC,dB,dA,dH,dG,gN]) with ⟨h,_⟩ | ⟨h,_⟩ | ⟨h,_⟩
 .refine ((hs 0).call (ZA b0 b1 b2 b3 b4 b5 b6 b7 b8 b9 dC dB dA dH dG gN iW mO mL mK mJ mI mH mG mF mE mD mC mB mA lZ lY) (aA ?_)).re rfl (fun _=>rfl) ⟨⟨rfl,fun _=>by rw [h];rfl⟩,⟨rfl,fun _=>by rw [e0,e1];rfl⟩,trivial⟩ trivial
  simp only [sh,bX,e0,e1,h,and_true]
 .refine ((hs 1).call (YZ b0 b1 b2 b3 b4 b5 b6 b7 b8 b9 dC dB dA dH dG gN iW mO mL mK mJ mI mH mG mF mE mD mC mB mA lZ lY) (aA ?_)).re rfl (fun _=>rfl) ⟨⟨rfl,fun _=>by rw [h];rfl⟩,⟨rfl,fun _=>by rw [e0,e1];rfl⟩,trivial⟩ trivial
  simp only [sh,bX,e0,e1,h,and_true]
 .refine ((hs 2).call (YY b0 b1 b2 b3 b4 b5 b6 b7 b8 b9 dC dB dA dH dG gN iW mO mL mK mJ mI mH mG mF mE mD mC mB mA lZ lY) (aA ?_)).re rfl (fun _=>rfl) ⟨⟨rfl,fun _=>by rw [h];rfl⟩,⟨rfl,fun _=>by rw [e0,e1];rfl⟩,trivial⟩ trivial
  simp only [sh,bX,e0,e1,h,and_true]
open M in
theorem Sk {b0  b1  b2  b3  b4  b5  b6  b7  b8  b9  dC  dB  dA  dH  dG  gN  iW  mO  mL  mK  mJ  mI  mH  mG  mF  mE  mD  mC  mB  mA  lZ  lY:Int} (hb:bR [b0,b1,b2,b3,b4,b5,b6,b7,b8,b9,dC,dB,dA,dH,dG,gN,iW,mO,mL,mK,mJ,mI,mH,mG,mF,mE,mD,mC,mB,mA,lZ,lY]):aE Tryz.prog Γv 91 [.aH 61 true 16 16 16] (fun l=>look l [(61,.fN (bc [b0,b1,b2,b3,b4,b5,b6,b7,b8,b9,dC,dB,dA,dH,dG,gN,iW,mO,mL,mK,mJ,mI,mH,mG,mF,mE,mD,mC,mB,mA,lZ,lY]))]) 100 100
 { val:=.ptr 100 true 0,new:=[.own [.bool true false,.aH 101 false 0 (nl [V [iW,mO,mL,mK,mJ,mI,mH,mG],V [mF,mE,mD,mC,mB,mA,lZ,lY]]) 6] 146,.own (wc [V [iW,mO,mL,mK,mJ,mI,mH,mG],V [mF,mE,mD,mC,mB,mA,lZ,lY],0,0,0,0]) 196] }:=by
 have hs:∀ iq,aI Tryz.prog (env (Ia iq 0) 22) 91 (aJ (env (Ia iq 0) 22) Tryz.f91 true [] 400):=fun iq=>aN (bQ _ 22) (bW _ (Jj iq 0) 22) mix Tryz.func91 (by kernel_rfl) true [] 400
 have e0:=(xG (hb _ (by simp)) (hb _ (by simp)) (hb _ (by simp)) (hb _ (by simp)) (hb _ (by simp)) (hb _ (by simp)) (hb _ (by simp)) (hb _ (by simp)):M.iP iW mO mL mK mJ mI mH mG=V [iW,mO,mL,mK,mJ,mI,mH,mG]/\_).1
 have e1:=(xG (hb _ (by simp)) (hb _ (by simp)) (hb _ (by simp)) (hb _ (by simp)) (hb _ (by simp)) (hb _ (by simp)) (hb _ (by simp)) (hb _ (by simp)):M.iP mF mE mD mC mB mA lZ lY=V [mF,mE,mD,mC,mB,mA,lZ,lY]/\_).1
 rcases RU (V [iW,mO,mL,mK,mJ,mI,mH,mG]) (V [mF,mE,mD,mC,mB,mA,lZ,lY]) with ⟨h,_⟩ | ⟨h,_⟩ | ⟨h,_⟩
 .refine ((hs 0).call (LJ b0 b1 b2 b3 b4 b5 b6 b7 b8 b9 dC dB dA dH dG gN iW mO mL mK mJ mI mH mG mF mE mD mC mB mA lZ lY) (aA ?_)).re rfl (fun _=>rfl) ⟨⟨rfl,fun _=>by rw [h];rfl⟩,⟨rfl,fun _=>by rw [e0,e1];rfl⟩,trivial⟩ trivial
  simp only [sh,bX,e0,e1,h,and_true]
 .refine ((hs 1).call (LI b0 b1 b2 b3 b4 b5 b6 b7 b8 b9 dC dB dA dH dG gN iW mO mL mK mJ mI mH mG mF mE mD mC mB mA lZ lY) (aA ?_)).re rfl (fun _=>rfl) ⟨⟨rfl,fun _=>by rw [h];rfl⟩,⟨rfl,fun _=>by rw [e0,e1];rfl⟩,trivial⟩ trivial
  simp only [sh,bX,e0,e1,h,and_true]
 .refine ((hs 2).call (LH b0 b1 b2 b3 b4 b5 b6 b7 b8 b9 dC dB dA dH dG gN iW mO mL mK mJ mI mH mG mF mE mD mC mB mA lZ lY) (aA ?_)).re rfl (fun _=>rfl) ⟨⟨rfl,fun _=>by rw [h];rfl⟩,⟨rfl,fun _=>by rw [e0,e1];rfl⟩,trivial⟩ trivial
  simp only [sh,bX,e0,e1,h,and_true]
def aWr:Option SB->Option (List Int)
 | some (.own cs _)=>cX .u8 cs
 | some (.ints .u8 xs _)=>some xs
 | _=>none
open M in
def Qt (vs:List SV) (T:aZ):Option Canon:=match vs with
 | [.cP l 0 17 0]=>match T l with
   | some (.row 1 cs 5)=>match cX .u8 cs with
     | some [b0,b1,b2,b3,b4,b5,b6,b7,b8,b9,dC,dB,dA,dH,dG,gN,iW]=>some { eR:=[.cP 61 0 17 0],T0:=[(61,.row 1 (bc [b0,b1,b2,b3,b4,b5,b6,b7,b8,b9,dC,dB,dA,dH,dG,gN,iW]) 5)],vl:=[(61,.lab l 0)],e0:={ val:=.ptr 100 true 0,new:=[.own [.bool true false,.aH 101 true 0 3 7] 146,.own (wc [V [b0,b1,b2,b3,b4,b5,b6,b7],V [b8,b9,dC,dB,dA,dH,dG,gN],1,0,0,0,0]) 196],wr:=[(61,.row 1 (bc [b0,b1,b2,b3,b4,b5,b6,b7,b8,b9,dC,dB,dA,dH,dG,gN,iW]) 5)] },conds:=[bR [b0,b1,b2,b3,b4,b5,b6,b7,b8,b9,dC,dB,dA,dH,dG,gN,iW],iW=1] }
     | _=>none
   | _=>none
 | [.aH l true oo 16 c]=>match aWr (T l) with
   | some [b0,b1,b2,b3,b4,b5,b6,b7,b8,b9,dC,dB,dA,dH,dG,gN,iW,mO,mL,mK,mJ,mI,mH,mG,mF,mE,mD,mC,mB,mA,lZ,lY]=>match Nat.beq oo 0&&Nat.beq c 32,Nat.beq oo 16&&Nat.beq c 16 with
     | true,_=>some { eR:=[.aH 61 true 0 16 32],T0:=[(61,.fN (bc [b0,b1,b2,b3,b4,b5,b6,b7,b8,b9,dC,dB,dA,dH,dG,gN,iW,mO,mL,mK,mJ,mI,mH,mG,mF,mE,mD,mC,mB,mA,lZ,lY]))],vl:=[(61,.lab l 0)],e0:={ val:=.ptr 100 true 0,new:=[.own [.bool true false,.aH 101 false 0 (nl [V [b0,b1,b2,b3,b4,b5,b6,b7],V [b8,b9,dC,dB,dA,dH,dG,gN]]) 6] 146,.own (wc [V [b0,b1,b2,b3,b4,b5,b6,b7],V [b8,b9,dC,dB,dA,dH,dG,gN],0,0,0,0]) 196] },conds:=[bR [b0,b1,b2,b3,b4,b5,b6,b7,b8,b9,dC,dB,dA,dH,dG,gN,iW,mO,mL,mK,mJ,mI,mH,mG,mF,mE,mD,mC,mB,mA,lZ,lY]] }
     | _,true=>some { eR:=[.aH 61 true 16 16 16],T0:=[(61,.fN (bc [b0,b1,b2,b3,b4,b5,b6,b7,b8,b9,dC,dB,dA,dH,dG,gN,iW,mO,mL,mK,mJ,mI,mH,mG,mF,mE,mD,mC,mB,mA,lZ,lY]))],vl:=[(61,.lab l 0)],e0:={ val:=.ptr 100 true 0,new:=[.own [.bool true false,.aH 101 false 0 (nl [V [iW,mO,mL,mK,mJ,mI,mH,mG],V [mF,mE,mD,mC,mB,mA,lZ,lY]]) 6] 146,.own (wc [V [iW,mO,mL,mK,mJ,mI,mH,mG],V [mF,mE,mD,mC,mB,mA,lZ,lY],0,0,0,0]) 196] },conds:=[bR [b0,b1,b2,b3,b4,b5,b6,b7,b8,b9,dC,dB,dA,dH,dG,gN,iW,mO,mL,mK,mJ,mI,mH,mG,mF,mE,mD,mC,mB,mA,lZ,lY]] }
     | _,_=>none
   | _=>none
 | _=>none
theorem Ik (Γ:Env) (hg:Γ.aR=aB):aI Tryz.prog Γ 91 (aL aB 100 Qt):=by
 refine aW hg fun vs T c hd hc=>?_
 unfold Qt at hd
 split at hd
 case h_3=>cases hd
 .split at hd
  case h_2=>cases hd
  split at hd
  case h_2=>cases hd
  cases hd
  exact (LG (hc _ (by simp)) (hc _ (by simp))).words (by rw [hg];rfl) (fun _=>rfl) (fun _ _ h=>h) (fun _=>rfl) rfl rfl
 .split at hd
  case h_2=>cases hd
  split at hd
  case h_3=>cases hd
  .cases hd
   exact (Zp (hc _ (by simp))).words (by rw [hg];rfl) (fun _=>rfl) (fun _ _ h=>h) (fun _=>rfl) rfl rfl
  .cases hd
   exact (Sk (hc _ (by simp))).words (by rw [hg];rfl) (fun _=>rfl) (fun _ _ h=>h) (fun _=>rfl) rfl rfl
open M in
def HZ (iJ:Nat) (vs:List SV) (T:aZ):Option Canon:=match vs with
 | [.agg [.ptr lp true 0],.ptr la true 0,.ptr lb true 0]=>match T la,T lb,T lp with
   | some (.own [.bool _ _,X] 146),some (.own [.bool _ _,.aH ly _ 0 3 7] 146),some (.own [.bool _ _,.aH lq _ 0 3 8] 146)=>match T ly with
     | some (.own ys 196)=>match cX .u64 ys with
       | some (y0::y1::y2::yr)=>match X with
         | .raw (.slice none 0 0)=>match Nat.beq iJ 7 with
           | true=>some { eR:=jG,T0:=sL (.raw (.slice none 0 0)) (.aH 65 true 0 3 7) [.int true .i64 40] (ww y0 (ww y1 (ww y2 (wc yr)))),vl:=[(61,.lab la 0),(62,.lab lp 0),(63,.lab lb 0),(64,.lab 17 0),(65,.lab ly 0),(66,.lab lq 0)],e0:={ val:=.ptr 100 true 0,new:=rB ((0+n3 y0 y1 y2)%bA) 7,wr:=mQ (.raw (.slice none 0 0)) (.aH 65 true 0 3 7) (ww y0 (ww y1 (ww y2 (wc yr)))) },conds:=[U y0,U y1,y2=1] }
           | false=>none
         | .aH lx _ 0 n ca=>match T lx with
           | some (.own xs 196)=>match cX .u64 xs,Nat.ble 6 ca&&Nat.ble ca 9 with
             | some (x0::x1::x2::xr),true=>match Nat.beq iJ 7,Nat.beq iJ 8 with
               | true,_=>some { eR:=jG,T0:=sL (.aH 64 false 0 n ca) (.aH 65 true 0 3 7) (ww x0 (ww x1 (ww x2 (wc xr)))) (ww y0 (ww y1 (ww y2 (wc yr)))),vl:=[(61,.lab la 0),(62,.lab lp 0),(63,.lab lb 0),(64,.lab lx 0),(65,.lab ly 0),(66,.lab lq 0)],e0:={ val:=.ptr 100 true 0,new:=rB ((n3 x0 x1 x2+n3 y0 y1 y2)%bA) 7,wr:=mQ (.aH 64 false 0 n ca) (.aH 65 true 0 3 7) (ww y0 (ww y1 (ww y2 (wc yr)))) },conds:=[n=nl [x0,x1,x2],n=0,U y0,U y1,y2=1] }
               | _,true=>some { eR:=jG,T0:=sL (.aH 64 false 0 n ca) (.aH 65 true 0 3 7) (ww x0 (ww x1 (ww x2 (wc xr)))) (ww y0 (ww y1 (ww y2 (wc yr)))),vl:=[(61,.lab la 0),(62,.lab lp 0),(63,.lab lb 0),(64,.lab lx 0),(65,.lab ly 0),(66,.lab lq 0)],e0:={ val:=.ptr 100 true 0,new:=rB ((n3 x0 x1 x2+n3 y0 y1 y2)%bA) 8,wr:=mQ (.aH 64 false 0 n ca) (.aH 65 true 0 3 7) (ww y0 (ww y1 (ww y2 (wc yr)))) },conds:=[n=nl [x0,x1,x2],n≠0,U x0,U x1,U x2,n3 x0 x1 x2<bA,U y0,U y1,y2=1] }
               | _,_=>none
             | _,_=>none
           | _=>none
         | _=>none
       | _=>none
     | _=>none
   | _,_,_=>none
 | _=>none
open M in
theorem QJ {n ca:Nat} (lC:ca=6\/ca=7\/ca=8\/ca=9) (xs ys:List SV) {x0 x1 x2 y0 y1 y2:Int} (hn:n=nl [x0,x1,x2]) (Hl:n≠0) (gC:U x0) (gD:U x1) (nJ:U x2) (hN:n3 x0 x1 x2<bA) (fG:U y0) (iA:U y1) (Fj:y2=1):aE Tryz.prog Γv 95 jG (fun l=>look l (sL (.aH 64 false 0 n ca) (.aH 65 true 0 3 7) (ww x0 (ww x1 (ww x2 xs))) (ww y0 (ww y1 (ww y2 ys))))) 100 100
 { val:=.ptr 100 true 0,new:=rB ((n3 x0 x1 x2+n3 y0 y1 y2)%bA) 8,wr:=mQ (.aH 64 false 0 n ca) (.aH 65 true 0 3 7) (ww y0 (ww y1 (ww y2 ys))) }:=by
 rcases nl3 x0 x1 x2 with ⟨h,_⟩ | ⟨h,_,e1,e2⟩ | ⟨h,_,e2⟩ | ⟨h,_⟩
 .omega
 .rw [h] at hn;subst hn
  have e:n3 x0 x1 x2=x0:=by rw [e1,e2];unfold n3;omega
  rw [e] at hN |-
  exact ML lC (ww x1 (ww x2 xs)) ys gC hN fG iA Fj
 .rw [h] at hn;subst hn
  have e:n3 x0 x1 x2=x0+18446744073709551616*x1:=by rw [e2];unfold n3;omega
  rw [e] at hN |-
  exact MK lC (ww x2 xs) ys gC gD hN fG iA Fj
 .rw [h] at hn;subst hn
  exact MJ lC xs ys gC gD nJ hN fG iA Fj
open M in
theorem aNs (iJ:Nat) (Γ:Env) (hg:Γ.aR=aB):aI Tryz.prog Γ 95 (aL aB 100 (HZ iJ)):=by
 refine aW hg fun vs T c hd hc=>?_
 unfold HZ at hd
 split at hd
 case h_2=>cases hd
 split at hd
 case h_2=>cases hd
 split at hd
 case h_2=>cases hd
 split at hd
 case h_2=>cases hd
 rename_i y0 y1 y2 yr _
 split at hd
 case h_3=>cases hd
 .split at hd
  case h_2=>cases hd
  cases hd
  exact (MI [.int true .i64 40] (wc yr) (hc _ (by simp)) (hc _ (by simp)) (hc _ (by simp))).words (by rw [hg];rfl) (fun _=>rfl) (fun _ _ h=>h) (fun _=>rfl) rfl rfl
 .split at hd
  case h_2=>cases hd
  split at hd
  case h_2=>cases hd
  rename_i n ca _ _ _ _ _ _ x0 x1 x2 xr _ lC
  simp only [Bool.and_eq_true] at lC
  have c1:=Nat.le_of_ble_eq_true lC.1
  have c2:=Nat.le_of_ble_eq_true lC.2
  split at hd
  case h_3=>cases hd
  .cases hd
   have hn:n=nl [x0,x1,x2]:=hc _ (by simp)
   have h0:n=0:=hc _ (by simp)
   rcases nl3 x0 x1 x2 with ⟨h,e0,e1,e2⟩ | ⟨h,_⟩ | ⟨h,_⟩ | ⟨h,_⟩
   .have e:n3 x0 x1 x2=0:=by rw [e0,e1,e2];rfl
    rw [e]
    subst h0
    exact (MM ca _ (wc yr) (hc _ (by simp)) (hc _ (by simp)) (hc _ (by simp))).words (by rw [hg];rfl) (fun _=>rfl) (fun _ _ h=>h) (fun _=>rfl) rfl rfl
   .omega
   .omega
   .omega
  .cases hd
   exact (QJ (by omega) (wc xr) (wc yr) (hc _ (by simp)) (hc _ (by simp)) (hc _ (by simp)) (hc _ (by simp)) (hc _ (by simp)) (hc _ (by simp)) (hc _ (by simp)) (hc _ (by simp)) (hc _ (by simp))).words (by rw [hg];rfl) (fun _=>rfl) (fun _ _ h=>h) (fun _=>rfl) rfl rfl
open M in
def GF (fZ:Nat) (vs:List SV) (T:aZ):Option Canon:=match vs with
 | [.agg [.ptr lp true 0],.ptr la true 0,.ptr lb true 0]=>match T la,T lb,T lp with
   | some (.own [.bool _ _,.aH lx _ 0 n ca] 146),some (.own [.bool _ _,.aH ly _ 0 m ct] 146),some (.own [.bool _ _,.aH lq _ 0 3 8] 146)=>match T lx,T ly with
     | some (.own xs 196),some (.own ys 196)=>match cX .u64 xs,cX .u64 ys with
       | some (x0::x1::x2::xr),some (y0::y1::yr)=>some { eR:=jG,T0:=sL (.aH 64 false 0 n ca) (.aH 65 false 0 m ct) (ww x0 (ww x1 (ww x2 (wc xr)))) (ww y0 (ww y1 (wc yr))),vl:=[(61,.lab la 0),(62,.lab lp 0),(63,.lab lb 0),(64,.lab lx 0),(65,.lab ly 0),(66,.lab lq 0)],e0:={ val:=.ptr 100 true 0,new:=(match fZ with | 0=>nB | c=>rB ((n3 x0 x1 x2*(y0+18446744073709551616*y1))%bA) c),wr:=mQ (.aH 64 false 0 n ca) (.aH 65 false 0 m ct) (ww y0 (ww y1 (wc yr))) },conds:=[n=nl [x0,x1,x2],m=nl [y0,y1],fZ=(if n=0\/m=0 then 0 else n+m+4),U x0,U x1,U x2,n3 x0 x1 x2<bA,U y0,U y1,y0+18446744073709551616*y1<21267647932558653966460912964485513216] }
       | _,_=>none
     | _,_=>none
   | _,_,_=>none
 | _=>none
open M in
theorem aSi (fZ:Nat) (Γ:Env) (hg:Γ.aR=aB):aI Tryz.prog Γ 97 (aL aB 100 (GF fZ)):=by
 refine aW hg fun vs T c hd hc=>?_
 unfold GF at hd
 split at hd
 case h_2=>cases hd
 split at hd
 case h_2=>cases hd
 split at hd
 case h_2=>cases hd
 split at hd
 case h_2=>cases hd
 rename_i n ca _ _ _ _ m ct _ _ _ _ _ _ _ _ _ _ _ _ _ _ _ x0 x1 x2 xr y0 y1 yr _ _
 cases hd
 have hn:n=nl [x0,x1,x2]:=hc _ (by simp)
 have hm:m=nl [y0,y1]:=hc _ (by simp)
 have hp:fZ=(if n=0\/m=0 then 0 else n+m+4):=hc _ (by simp)
 have gC:U x0:=hc _ (by simp)
 have gD:U x1:=hc _ (by simp)
 have nJ:U x2:=hc _ (by simp)
 have hN:n3 x0 x1 x2<bA:=hc _ (by simp)
 have fG:U y0:=hc _ (by simp)
 have iA:U y1:=hc _ (by simp)
 have hT:y0+18446744073709551616*y1<21267647932558653966460912964485513216:=hc _ (by simp)
 have fin:∀ {e:bJ},aE Tryz.prog Γv 97 jG (fun l=>look l (sL (.aH 64 false 0 n ca) (.aH 65 false 0 m ct) (ww x0 (ww x1 (ww x2 (wc xr)))) (ww y0 (ww y1 (wc yr))))) 100 100 e->aE Tryz.prog Γ 97 jG (fun l=>look l (sL (.aH 64 false 0 n ca) (.aH 65 false 0 m ct) (ww x0 (ww x1 (ww x2 (wc xr)))) (ww y0 (ww y1 (wc yr))))) 100 100 e:=fun h=>h.words (by rw [hg];rfl) (fun _=>rfl) (fun _ _ h=>h) (fun _=>rfl) rfl rfl
 clear hc
 rcases nl3 x0 x1 x2 with ⟨h,_⟩ | ⟨h,z,e1,e2⟩ | ⟨h,z,e2⟩ | ⟨h,z⟩ <;> rw [h] at hn <;> subst hn <;> rcases RU y0 y1 with ⟨k,_⟩ | ⟨k,w,f1⟩ | ⟨k,w⟩ <;> rw [k] at hm <;> subst hm <;> simp at hp <;> subst hp
 .exact fin (AO ca ct  (ww x0 (ww x1 (ww x2 (wc xr)))) (ww y0 (ww y1 (wc yr))))
 .exact fin (AN ca ct y0 (ww x0 (ww x1 (ww x2 (wc xr)))) (ww y1 (wc yr)))
 .exact fin (AM ca ct y0 y1 (ww x0 (ww x1 (ww x2 (wc xr)))) (wc yr))
 .exact fin (AL ca ct x0 (ww x1 (ww x2 (wc xr))) (ww y0 (ww y1 (wc yr))))
 .have e:n3 x0 x1 x2=x0:=by rw [e1,e2];unfold n3;omega
  rw [e] at hN |-
  have f:y0+18446744073709551616*y1=y0:=by rw [f1];omega
  rw [f] at hT |-
  exact fin (AK ca ct (ww x1 (ww x2 (wc xr))) (ww y1 (wc yr)) gC fG z w hN hT)
 .have e:n3 x0 x1 x2=x0:=by rw [e1,e2];unfold n3;omega
  rw [e] at hN |-
  exact fin (AJ ca ct (ww x1 (ww x2 (wc xr))) (wc yr) gC fG iA z w hN hT)
 .exact fin (AI ca ct x0 x1 (ww x2 (wc xr)) (ww y0 (ww y1 (wc yr))))
 .have e:n3 x0 x1 x2=x0+18446744073709551616*x1:=by rw [e2];unfold n3;omega
  rw [e] at hN |-
  have f:y0+18446744073709551616*y1=y0:=by rw [f1];omega
  rw [f] at hT |-
  exact fin (AH ca ct (ww x2 (wc xr)) (ww y1 (wc yr)) gC gD fG z w hN hT)
 .have e:n3 x0 x1 x2=x0+18446744073709551616*x1:=by rw [e2];unfold n3;omega
  rw [e] at hN |-
  exact fin (AG ca ct (ww x2 (wc xr)) (wc yr) gC gD fG iA z w hN hT)
 .exact fin (AF ca ct x0 x1 x2 (wc xr) (ww y0 (ww y1 (wc yr))))
 .have f:y0+18446744073709551616*y1=y0:=by rw [f1];omega
  rw [f] at hT |-
  exact fin (AE ca ct (wc xr) (ww y1 (wc yr)) gC gD nJ fG z w hN hT)
 .exact fin (AD ca ct (wc xr) (wc yr) gC gD nJ fG iA z w hN hT)
noncomputable def exT (iJ fZ:Nat):Nat->Option Sum:=dM (dM (dM Yb 91 (aL aB 100 Qt)) 95 (aL aB 100 (HZ iJ))) 97 (aL aB 100 (GF fZ))
theorem aMc (iJ fZ:Nat):∀ f S,exT iJ fZ f=some S->∀ Γ:Env,Γ.aR=aB->aI Tryz.prog Γ f S:=bD (bD (bD pK 91 _ Ik) 95 _ (aNs iJ)) 97 _ (aSi fZ)
def Bj:List SV:=[.int true .u64 0,.int true .u64 0,.int true .u64 9223372036854775808]
theorem bAl (u0 u1 u2 u3 q0 h0 h1 h2 h3:Int) :
 (yQ 100 (bH 100 (Hn Bj (wc [u0,u1,u2,u3,0,0,0,0]) (wc [q0]))) [] (jL 4 8 1 1 1 9223372036854775808 18446744073709551615 (.int true .u64 0) 1) (jK (wc [h0,h1,h2,h3]) (wc [u0,u1,u2,u3,0,0,0,0]) (wc [q0])) 101 [61,63] jM (Bw Bj (wc [u0,u1,u2,u3,0,0,0,0]) (wc [q0]) 4 8 1 1)) =
 sh (0:Int) fun z0=>
 some (.go (.loop xH),Eu,[(3:Nat)=(3:Nat),(4:Nat)=(4:Nat),(11259375:Int)=h0,z0=h1,z0=h2,z0=h3,[q0]=[q0],[u0,u1,u2,u3,z0,z0,z0,z0]=[u0,u1,u2,u3,z0,z0,z0,z0]]):=by kernel_rfl
theorem bAk (eY eZ:List SV) (u0 u1 u2 u3 v1 v2 v3 q0 h0 h1 h2 h3 g0 g1 g2 g3:Int) :
 fW Bj eY eZ 4 8 1 1 1 9223372036854775808 18446744073709551615 1 0 (.int true .u64 0) (.int false .u64 v3) (wc [u0,u1,u2,u3,0,0,0,0]) (wc [u0,v1,v2,v3,0,0,0,0]) (wc [q0]) (wc [q0]) (wc [h0,h1,h2,h3]) (wc [g0,g1,g2,g3]) [false,true,false,true] =
 sh (0:Int) fun z2=>
 sh (9223372036854775808:Int) fun z1=>
 sh (z2*M.dq z1 z2 u3+z2) fun z3=>
 sh (z2*M.dq z1 z2 u3+M.uh z3) fun z0=>
 sh (u1-M.ul z3-z2) fun z7=>
 sh (u2-M.ul z0-M.ub z7) fun z4=>
 sh (z1*M.dq z1 z2 u3+M.uh z0) fun z5=>
 sh (M.dq z1 z2 u3*z2) fun z6=>
 sh (u3-M.ul z5-M.ub z4) fun z8=>
 sh (M.dq z1 z2 u3) fun z9=>
 some (Cf.at Ex.normal,[],[(M.dq z1 z2 u3==z2)=true,(M.ub z8 != z2)=false,M.U u3,M.U (M.ul z5),M.K (M.ub z4),u3=u3,M.ul z5=M.ul z5,M.ub z4=M.ub z4,M.U u2,M.U (M.ul z0),M.K (M.ub z7),u2=u2,M.ul z0=M.ul z0,M.ub z7=M.ub z7,M.U u1,M.U (M.ul z3),M.K z2,u1=u1,M.ul z3=M.ul z3,z2=z2,(M.uh z5==z2)=true,M.U z1,M.U z9,M.U (M.uh z0),z1=z1,M.dq z1 z2 u3=M.dq z1 z2 u3,M.uh z0=M.uh z0,M.U z2,M.U z9,M.U (M.uh z3),z2=z2,M.dq z1 z2 u3=M.dq z1 z2 u3,M.uh z3=M.uh z3,M.U z2,M.U z9,M.U z2,z2=z2,M.dq z1 z2 u3=M.dq z1 z2 u3,z2=z2,M.gt (M.uh z6) (M.ul z6) (M.dr z1 z2 u3) u2=false,M.U (M.ul z6),M.U u2,M.uh z6=M.uh z6,M.ul z6=M.ul z6,M.dr z1 z2 u3=M.dr z1 z2 u3,u2=u2,M.U z9,M.U z2,M.dq z1 z2 u3=M.dq z1 z2 u3,z2=z2,M.U z2,M.U u3,z2<z1,z2=z2,u3=u3,(3:Nat)=(3:Nat),(4:Nat)=(4:Nat),M.ul z8=v3,M.ul z3=g0,M.ul z0=g1,M.ul z5=g2,M.uh z5=g3,[q0]=[q0],[u0,M.ul z7,M.ul z4,M.ul z8,z2,z2,z2,z2]=[u0,v1,v2,v3,z2,z2,z2,z2]]):=by kernel_rfl
theorem bAj (eY eZ:List SV) (u0 u1 u2 u3 v0 v1 v2 v3 q0 q1 h0 h1 h2 h3 g0 g1 g2 g3:Int) :
 fW Bj eY eZ 4 8 1 1 1 9223372036854775808 18446744073709551615 0 (-1) (.int false .u64 u3) (.int false .u64 v2) (wc [u0,u1,u2,u3,0,0,0,0]) (wc [v0,v1,v2,v3,0,0,0,0]) (wc [q0]) (wc [q1]) (wc [h0,h1,h2,h3]) (wc [g0,g1,g2,g3]) [true,false,false] =
 sh (0:Int) fun z4=>
 sh (9223372036854775808:Int) fun z1=>
 sh (z4*M.dq z1 u3 u2+z4) fun z6=>
 sh (z4*M.dq z1 u3 u2+M.uh z6) fun z0=>
 sh (u0-M.ul z6-z4) fun z2=>
 sh (z1*M.dq z1 u3 u2+M.uh z0) fun z3=>
 sh (u1-M.ul z0-M.ub z2) fun z8=>
 sh (u2-M.ul z3-M.ub z8) fun z5=>
 sh (M.dq z1 u3 u2*z4) fun z7=>
 sh (M.dq z1 u3 u2) fun z9=>
 sh (u3-M.uh z3-M.ub z5) fun iI=>
 some (Cf.at Ex.normal,[],[(M.ub iI != z4)=false,M.U u3,M.U (M.uh z3),M.K (M.ub z5),u3=u3,M.uh z3=M.uh z3,M.ub z5=M.ub z5,M.U u2,M.U (M.ul z3),M.K (M.ub z8),u2=u2,M.ul z3=M.ul z3,M.ub z8=M.ub z8,M.U u1,M.U (M.ul z0),M.K (M.ub z2),u1=u1,M.ul z0=M.ul z0,M.ub z2=M.ub z2,M.U u0,M.U (M.ul z6),M.K z4,u0=u0,M.ul z6=M.ul z6,z4=z4,M.U z1,M.U z9,M.U (M.uh z0),z1=z1,M.dq z1 u3 u2=M.dq z1 u3 u2,M.uh z0=M.uh z0,M.U z4,M.U z9,M.U (M.uh z6),z4=z4,M.dq z1 u3 u2=M.dq z1 u3 u2,M.uh z6=M.uh z6,M.U z4,M.U z9,M.U z4,z4=z4,M.dq z1 u3 u2=M.dq z1 u3 u2,z4=z4,M.gt (M.uh z7) (M.ul z7) (M.dr z1 u3 u2) u1=false,M.U (M.ul z7),M.U u1,M.uh z7=M.uh z7,M.ul z7=M.ul z7,M.dr z1 u3 u2=M.dr z1 u3 u2,u1=u1,M.U z9,M.U z4,M.dq z1 u3 u2=M.dq z1 u3 u2,z4=z4,M.U u3,M.U u2,u3<z1,u3=u3,u2=u2,(u3 != z1)=true,(3:Nat)=(3:Nat),(4:Nat)=(4:Nat),M.ul z5=v2,M.ul z6=g0,M.ul z0=g1,M.ul z3=g2,M.uh z3=g3,[M.dq z1 u3 u2]=[q1],[M.ul z2,M.ul z8,M.ul z5,M.ul iI,z4,z4,z4,z4]=[v0,v1,v2,v3,z4,z4,z4,z4]]):=by kernel_rfl
theorem bAh (eY eZ:List SV) (u0 u1 u2 u3 q0 h0 h1 h2 h3:Int) :
 fW Bj eY eZ 4 8 1 1 1 9223372036854775808 18446744073709551615 (-1) (-1) (.int false .u64 u2) (.int false .u64 u2) (wc [u0,u1,u2,u3,0,0,0,0]) (wc [u0,u1,u2,u3,0,0,0,0]) (wc [q0]) (wc [q0]) (wc [h0,h1,h2,h3]) (wc [h0,h1,h2,h3]) [] =
 sh (0:Int) fun z0=>
 some (Cf.at (Ex.exit 0),[],[(3:Nat)=(3:Nat),(4:Nat)=(4:Nat),u2=u2,h0=h0,h1=h1,h2=h2,h3=h3,[q0]=[q0],[u0,u1,u2,u3,z0,z0,z0,z0]=[u0,u1,u2,u3,z0,z0,z0,z0]]):=by kernel_rfl
theorem bAi (eY eZ:List SV) (u0 u1 u2 u3 q0 h0 h1 h2 h3:Int) :
 Md Bj eY eZ 4 8 1 1 1 9223372036854775808 18446744073709551615 (.int false .u64 u2) (wc [u0,u1,u2,u3,0,0,0,0]) (wc [q0]) (wc [h0,h1,h2,h3]) =
 sh (0:Int) fun z0=>
 some {val:=SV.eL [],wr:=[(61,SB.own [SV.int false IntKind.u64 q0] 196),(63,SB.own [SV.int false IntKind.u64 u0,SV.int false IntKind.u64 u1,SV.int false IntKind.u64 u2,SV.int false IntKind.u64 u3,SV.int false IntKind.u64 z0,SV.int false IntKind.u64 z0,SV.int false IntKind.u64 z0,SV.int false IntKind.u64 z0] 196)]}:=by kernel_rfl
open M in
theorem aMn (eY eZ:List SV) (q0 h0 h1 h2 h3:Int) {u0 u1 u2 u3:Int} (a1:U u1) (a2:U u2) (a3:U u3) (hd:u3<9223372036854775808) :
 ∃ ps,fW Bj eY eZ 4 8 1 1 1 9223372036854775808 18446744073709551615 1 0 (.int true .u64 0) (.int false .u64 u3) (wc [u0,u1,u2,u3,0,0,0,0]) (wc [u0,u1,u2,u3,0,0,0,0]) (wc [q0]) (wc [q0]) (wc [h0,h1,h2,h3]) (wc [0,0,0,0]) [false,true,false,true]=some (.at .normal,[],ps)/\∀ q∈ps,q:=by
 have z2:=a1.1;have z3:=a1.2;have z4:=a2.1;have z5:=a2.2;have z6:=a3.1;have z7:=a3.2
 have e0:U 9223372036854775808:=⟨by decide,by decide⟩
 have hQ:dq 9223372036854775808 0 u3=0:=by unfold dq;omega
 have hR:dr 9223372036854775808 0 u3=u3:=by unfold dr;omega
 have hg:gt 0 0 u3 u2=false:=by unfold gt;exact decide_eq_false (by omega)
 refine ⟨_,bAk eY eZ u0 u1 u2 u3 _ _ _ q0 h0 h1 h2 h3 _ _ _ _,aA ?_⟩
 simp only [hQ,hR,bX,Int.mul_zero,Int.zero_mul,Int.add_zero,Int.sub_zero,ul0,Ki,sO a1,sO a2,sO a3,uI a1,uI a2,uI a3,hg,U0,K0,e0,a1,a2,a3,and_true,true_and]
 and_intros <;> first | rfl | decide
open M in
theorem aMm (eY eZ:List SV) (q0:Int) {u0 u1 u2 u3:Int} (a0:U u0) (a1:U u1) (a2:U u2) (h3:0<=u3) (hd:u3<4) :
 ∃ ps,fW Bj eY eZ 4 8 1 1 1 9223372036854775808 18446744073709551615 0 (-1) (.int false .u64 u3) (.int false .u64 (u2%9223372036854775808)) (wc [u0,u1,u2,u3,0,0,0,0]) (wc [u0,u1,u2%9223372036854775808,0,0,0,0,0]) (wc [q0]) (wc [dq 9223372036854775808 u3 u2]) (wc [0,0,0,0]) (wc [0,0,u2/9223372036854775808*9223372036854775808,u3]) [true,false,false]=some (.at .normal,[],ps)/\∀ q∈ps,q:=by
 have z0:=a0.1;have z1:=a0.2;have z2:=a1.1;have z3:=a1.2;have z4:=a2.1;have z5:=a2.2
 have a3:U u3:=by unfold U;omega
 have e0:U 9223372036854775808:=⟨by decide,by decide⟩
 obtain ⟨Q,hQ⟩:∃ Q,Q=dq 9223372036854775808 u3 u2:=⟨_,rfl⟩
 have hQ':Q=2*u3+u2/9223372036854775808:=by rw [hQ];unfold dq;omega
 have hR:dr 9223372036854775808 u3 u2=u2%9223372036854775808:=by unfold dr;omega
 have aQ:U Q:=by unfold U;omega
 have hl:ul (9223372036854775808*Q)=u2/9223372036854775808*9223372036854775808:=by unfold ul;omega
 have hh:uh (9223372036854775808*Q)=u3:=by unfold uh;omega
 have aP:U (u2/9223372036854775808*9223372036854775808):=by unfold U;omega
 have hs:u2-u2/9223372036854775808*9223372036854775808=u2%9223372036854775808:=by omega
 have aS:U (u2%9223372036854775808):=by unfold U;omega
 have hg:gt 0 0 (u2%9223372036854775808) u1=false:=by unfold gt;exact decide_eq_false (by omega)
 have h33:u3-u3=0:=by omega
 have e9:(u3 != 9223372036854775808)=true:=bne_iff_ne.2 (by omega)
 have cJ:u3<9223372036854775808:=by omega
 refine ⟨_,bAj eY eZ u0 u1 u2 u3 _ _ _ _ q0 _ 0 0 0 0 _ _ _ _,aA ?_⟩
 rw [<- hQ]
 simp only [hR,bX,Int.mul_zero,Int.zero_mul,Int.zero_add,Int.add_zero,Int.sub_zero,ul0,Ki,hl,hh,hs,h33,sO a0,sO a1,sO aS,sO U0,uI a0,uI a1,uI aS,hg,U0,K0,e0,a0,a1,a2,a3,aQ,aP,aS,e9,cJ,and_true,true_and]
 first | done | (and_intros <;> first | rfl | decide)
open M in
set_option maxHeartbeats 2000000 in
theorem aCs {u0 u1 u2 u3:Int} (y0:Int) (a0:U u0) (a1:U u1) (a2:U u2) (h3:0<=u3) (hd:u3<4) :
 aE Tryz.prog Γv 259 (Bh 4 8 1 1) (Hn Bj (wc [u0,u1,u2,u3,0,0,0,0]) (wc [y0])) 100 100 { val:=.eL [],wr:=[(61,.own (wc [dq 9223372036854775808 u3 u2]) 196),(63,.own (wc [u0,u1,u2%9223372036854775808,0,0,0,0,0]) 196)] }:=by
 have a3:U u3:=by unfold U;omega
 refine gQ lD lE Tryz.func259 (by kernel_rfl) rfl (Nat.le_of_ble_eq_true (by kernel_rfl)) rfl [] ?_
 intro w0' Mx V0 Q hb H
 have aT:=lD
 have aX:=lE
 refine G.yQ aT aX mix hb [] (bAl u0 u1 u2 u3 y0 11259375 0 0 0) (aA (by simp only [sh,bX,and_true])) ?_
 refine G.loop (fun r s=>(r=2/\s=cA (jL 4 8 1 1 1 9223372036854775808 18446744073709551615 (.int true .u64 0) 1) (jK (wc [11259375,0,0,0]) (wc [u0,u1,u2,u3,0,0,0,0]) (wc [y0])) 101 [61,63] jM)
  \/ (r=1/\s=cA (jL 4 8 1 1 1 9223372036854775808 18446744073709551615 (.int false .u64 u3) 0) (jK (wc [0,0,0,0]) (wc [u0,u1,u2,u3,0,0,0,0]) (wc [y0])) 101 [61,63] jM)
  \/ (r=0/\s=cA (jL 4 8 1 1 1 9223372036854775808 18446744073709551615 (.int false .u64 (u2%9223372036854775808)) (-1)) (jK (wc [0,0,u2/9223372036854775808*9223372036854775808,u3]) (wc [u0,u1,u2%9223372036854775808,0,0,0,0,0]) (wc [dq 9223372036854775808 u3 u2])) 101 [61,63] jM)) (r0:=2) (.inl ⟨rfl,rfl⟩) ?_
 rintro r s (⟨rfl,rfl⟩ | ⟨rfl,rfl⟩ | ⟨rfl,rfl⟩)
 .obtain ⟨ps,e,hp⟩:=aMn (wc [u0,u1,u2,u3,0,0,0,0]) (wc [y0]) y0 11259375 0 0 0 (u0:=u0) a1 a2 a3 (by omega)
  exact G.lG aT aX mix hb _ e hp 1 (by omega) (.inr (.inl ⟨rfl,rfl⟩))
 .obtain ⟨ps,e,hp⟩:=aMm (wc [u0,u1,u2,u3,0,0,0,0]) (wc [y0]) y0 a0 a1 a2 h3 hd
  exact G.lG aT aX mix hb _ e hp 0 (by omega) (.inr (.inr ⟨rfl,rfl⟩))
 .exact G.yQ aT aX mix hb [] (bAh _ _ u0 u1 _ _ _ _ _ _ _) (aA (by simp only [sh,bX,and_true])) (G.leave (fun h=>by cases h)
   (G.fin aT aX mix [] H (bAi _ _ u0 u1 _ _ _ _ _ _ _) (by simp) rfl rfl rfl))
open M in
def HP (vs:List SV) (T:aZ):Option Canon:=match vs with
 | [.aH lq true 0 1 1,.ptr ls true 0,.aH lu true 0 4 8,.cP lv 0 3 0]=>match T lq,T ls,T lu,T lv with
   | some (.own qs 196),some (.own [.raw (.pointer none)] 306),some (.own us 196),some (.row 1 _ 196)=>match cX .u64 qs,cX .u64 us with
     | some [y0],some [u0,u1,u2,u3,_,_,_,_]=>some { eR:=Bh 4 8 1 1,T0:=[(61,.own (wc [y0]) 196),(62,.own [.raw (.pointer none)] 306),(63,.own (wc [u0,u1,u2,u3,0,0,0,0]) 196),(64,.row 1 Bj 196)],vl:=[(61,.lab lq 0),(62,.lab ls 0),(63,.lab lu 0),(64,.lab lv 0)],e0:={ val:=.eL [],wr:=[(61,.own (wc [dq 9223372036854775808 u3 u2]) 196),(63,.own (wc [u0,u1,u2%9223372036854775808,0,0,0,0,0]) 196),(62,.own [.raw (.pointer none)] 306),(64,.row 1 Bj 196)] },conds:=[U u0,U u1,U u2,0<=u3,u3<4] }
     | _,_=>none
   | _,_,_,_=>none
 | _=>none
theorem aUb (Γ:Env) (hg:Γ.aR=aB):aI Tryz.prog Γ 259 (aL aB 100 HP):=by
 refine aW hg fun vs T c hd hc=>?_
 unfold HP at hd
 split at hd
 case h_2=>cases hd
 split at hd
 case h_2=>cases hd
 split at hd
 case h_2=>cases hd
 cases hd
 exact (((aCs _ (hc _ (by simp)) (hc _ (by simp)) (hc _ (by simp)) (hc _ (by simp)) (hc _ (by simp))).bE 62 _ rfl (by decide)).bE 64 _ rfl (by decide)).words (by rw [hg];rfl) (fun _=>rfl) (fun _ _ h=>h) (fun _=>rfl) rfl rfl
noncomputable def UU (h:List Bool):Nat->Option Sum:=Ez Yb 192 h
theorem aCe (h:List Bool):∀ f S,UU h f=some S->∀ Γ:Env,Γ.aR=aB->aI Tryz.prog Γ f S:=nS pK 192 h
def mR:List SV:=[.ptr 61 true 0,.aH 62 true 0 16 16]
def nL:List SV:=List.replicate 16 (.int true .u8 0)
def SJ (X:SV) (xs:List SV) (out:List SV):List (Nat × SB):=[(61,.fN [.bool true false,X]),(62,.own out 59),(63,.fN xs)]
noncomputable def Uy (h:List Bool) (X:SV) (xs:List SV):Option bJ:=aJ (env (UU h) 22) Tryz.f149 true [] 400 mR (fun l=>look l (SJ X xs nL)) 100 100
namespace M
def sr:Nat->Int->Int
 | 0,a=>a
 | j+1,a=>bZ .u64 (sr j a) 8
def eT (j:Nat) (a:Int):Int:=IntKind.u8.wrap (sr j a)
end M
namespace M
def bts (a0 a1:Int):List Int:=[eT 7 a1,eT 6 a1,eT 5 a1,eT 4 a1,eT 3 a1,eT 2 a1,eT 1 a1,eT 0 a1,eT 7 a0,eT 6 a0,eT 5 a0,eT 4 a0,eT 3 a0,eT 2 a0,eT 1 a0,eT 0 a0]
def fbZ (l:List Int) (k:Nat):List Prop:=(List.range k).reverse.map fun j=>(l.getD j 0==0)=true
def fbO (l:List Int) (k:Nat):List Prop:=((l.getD k 0==0)=false)::fbZ l k
def fbP (k n:Nat):List Bool:=match Nat.blt k n with
 | true=>List.replicate k true++[false]
 | false=>List.replicate n true
def fbQ (l:List Int) (k n:Nat):List Prop:=match Nat.blt k n with
 | true=>fbO l k
 | false=>fbZ l n
theorem JU (l:List Int) (n:Nat):∃ k,k<=n/\∀ q∈fbQ l k n,q:=by
 have zer:∀ m,(∀ j,j<m->(l.getD j 0==0)=true)->∀ q∈fbZ l m,q:=fun m h q hq=>by
  obtain ⟨j,hj,rfl⟩:=List.mem_map.1 hq
  exact h j (by simpa using hj)
 have key:∀ m,m<=n->(∃ k,k<=n/\∀ q∈fbQ l k n,q)\/∀ j,j<m->(l.getD j 0==0)=true:=by
  intro m
  induction m with
  | zero=>exact fun _=>.inr fun j h=>by omega
  | succ m ih=>
    intro hm
    rcases ih (by omega) with h | h
    .exact .inl h
    .cases hb:(l.getD m 0==0) with
     | false=>
       refine .inl ⟨m,by omega,?_⟩
       unfold fbQ
       rw [show Nat.blt m n=true by rw [Nat.blt_eq];omega]
       intro q hq
       rcases List.mem_cons.1 hq with rfl | hq
       .exact hb
       .exact zer m h q hq
     | true=>exact .inr fun j hj=>if e:j=m then by rw [e];exact hb else h j (by omega)
 rcases key n (Nat.le_refl _) with h | h
 .exact h
 .refine ⟨n,Nat.le_refl _,?_⟩
  unfold fbQ
  rw [show Nat.blt n n=false by cases hb:Nat.blt n n with
   | false=>rfl
   | true=>rw [Nat.blt_eq] at hb;omega]
  exact zer n h
end M
theorem aBq (c:Nat) (xs:List SV) :
 Uy [] (.aH 63 true 0 0 c) xs =
 some {val:=.aH 62 true 0 16 16,wr:=[(62,.own nL 59)]}:=by kernel_rfl
theorem bAd (xs:List SV) :
 Uy [] (.raw (.slice none 0 0)) xs =
 some {val:=.aH 62 true 0 16 16,wr:=[(62,.own nL 59)]}:=by kernel_rfl
def fbW (n:Nat) (l:List Int):List SV:=nL.take (16-n)++bc (l.drop (16-n))
theorem bAf (c:Nat) (a0:Int) (xs:List SV) (k:Nat) (hk:k<=8):Uy (M.fbP k 8) (.aH 63 true 0 1 c) (ww a0 xs)=some { bK:=M.fbQ ((M.bts a0 0).drop 8) k 8,val:=.aH 62 true 0 16 16,wr:=[(62,.own (fbW 8 (M.bts a0 0)) 59)] }:=by
 rcases (by omega:k=0\/k=1\/k=2\/k=3\/k=4\/k=5\/k=6\/k=7\/k=8) with rfl | rfl | rfl | rfl | rfl | rfl | rfl | rfl | rfl <;> kernel_rfl
theorem bAe (c:Nat) (a0 a1:Int) (xs:List SV) (k:Nat) (hk:k<=16):Uy (M.fbP k 16) (.aH 63 true 0 2 c) (ww a0 (ww a1 xs))=some { bK:=M.fbQ (M.bts a0 a1) k 16,val:=.aH 62 true 0 16 16,wr:=[(62,.own (fbW 16 (M.bts a0 a1)) 59)] }:=by
 rcases (by omega:k=0\/k=1\/k=2\/k=3\/k=4\/k=5\/k=6\/k=7\/k=8\/k=9\/k=10\/k=11\/k=12\/k=13\/k=14\/k=15\/k=16) with rfl | rfl | rfl | rfl | rfl | rfl | rfl | rfl | rfl | rfl | rfl | rfl | rfl | rfl | rfl | rfl | rfl <;> kernel_rfl
namespace M
def nb (n:Int) (j:Nat):Int:=n/256^j%256
theorem aDr (a:Int):∀ j:Nat,sr j a=a/256^j
 | 0=>by simp [sr]
 | j+1=>by
   show Int.fdiv (sr j a) 256=_
   rw [Int.fdiv_eq_ediv_of_nonneg _ (by decide),aDr a j,Int.pow_succ]
   exact Int.ediv_ediv_of_nonneg (Int.le_of_lt (Int.pow_pos (by decide)))
theorem aFb (j:Nat) (a:Int):eT j a=a/256^j%256:=by
 unfold eT
 rw [IntKind.wrap_u8,aDr]
theorem aSf (a0 a1:Int) (j:Nat) (hj:j<8):nb (a0+18446744073709551616*a1) j=eT j a0:=by
 rw [aFb]
 unfold nb
 rcases (by omega:j=0\/j=1\/j=2\/j=3\/j=4\/j=5\/j=6\/j=7) with rfl | rfl | rfl | rfl | rfl | rfl | rfl | rfl <;> omega
theorem aSg {a0:Int} (h0:U a0) (a1:Int) (j:Nat) (hj:j<8):nb (a0+18446744073709551616*a1) (j+8)=eT j a1:=by
 have:=h0.1
 have:=h0.2
 rw [aFb]
 unfold nb
 rcases (by omega:j=0\/j=1\/j=2\/j=3\/j=4\/j=5\/j=6\/j=7) with rfl | rfl | rfl | rfl | rfl | rfl | rfl | rfl <;> omega
def nbs (n:Int):List Int:=[nb n 15,nb n 14,nb n 13,nb n 12,nb n 11,nb n 10,nb n 9,nb n 8,nb n 7,nb n 6,nb n 5,nb n 4,nb n 3,nb n 2,nb n 1,nb n 0]
theorem JH {a0:Int} (h0:U a0) (a1:Int):nbs (a0+18446744073709551616*a1)=bts a0 a1:=by
 have h:=aSg h0 a1
 have l:=aSf a0 a1
 simp only [nbs,bts,List.cons.injEq,and_true]
 exact ⟨h 7 (by decide),h 6 (by decide),h 5 (by decide),h 4 (by decide),h 3 (by decide),h 2 (by decide),h 1 (by decide),h 0 (by decide),l 7 (by decide),l 6 (by decide),l 5 (by decide),l 4 (by decide),l 3 (by decide),l 2 (by decide),l 1 (by decide),l 0 (by decide)⟩
end M
def fbE (n:Int):bJ:={ val:=.aH 62 true 0 16 16,wr:=[(62,.own (bc (M.nbs n)) 59)] }
theorem UQ (h:List Bool):aI Tryz.prog (env (UU h) 22) 149 (aJ (env (UU h) 22) Tryz.f149 true [] 400):=aN (bQ _ 22) (bW _ (aCe h) 22) mix Tryz.func149 (by kernel_rfl) true [] 400
theorem aOo:M.nbs 0=List.replicate 16 0:=by decide
theorem MP (xs:List SV):aE Tryz.prog Γv 149 mR (fun l=>look l (SJ (.raw (.slice none 0 0)) xs nL)) 100 100 (fbE 0):=
 ((UQ []).call (bAd xs) (by simp)).re rfl (fun _=>rfl) trivial ⟨rfl,⟨rfl,fun _=>by rw [aOo];rfl⟩,trivial⟩
theorem MT (c:Nat) (xs:List SV):aE Tryz.prog Γv 149 mR (fun l=>look l (SJ (.aH 63 true 0 0 c) xs nL)) 100 100 (fbE 0):=
 ((UQ []).call (aBq c xs) (by simp)).re rfl (fun _=>rfl) trivial ⟨rfl,⟨rfl,fun _=>by rw [aOo];rfl⟩,trivial⟩
open M in
theorem MR (c:Nat) {a0:Int} (h0:U a0) (xs:List SV):aE Tryz.prog Γv 149 mR (fun l=>look l (SJ (.aH 63 true 0 1 c) (ww a0 xs) nL)) 100 100 (fbE a0):=by
 obtain ⟨k,hk,ho⟩:=JU ((bts a0 0).drop 8) 8
 have e:=JH h0 0
 rw [Int.mul_zero,Int.add_zero] at e
 exact ((UQ _).call (bAf c a0 xs k hk) ho).re rfl (fun _=>rfl) trivial ⟨rfl,⟨rfl,fun V=>by rw [e];rfl⟩,trivial⟩
open M in
theorem MQ (c:Nat) {a0 a1:Int} (h0:U a0) (_:U a1) (xs:List SV):aE Tryz.prog Γv 149 mR (fun l=>look l (SJ (.aH 63 true 0 2 c) (ww a0 (ww a1 xs)) nL)) 100 100 (fbE (a0+18446744073709551616*a1)):=by
 obtain ⟨k,hk,ho⟩:=JU (bts a0 a1) 16
 have e:=JH h0 a1
 exact ((UQ _).call (bAe c a0 a1 xs k hk) ho).re rfl (fun _=>rfl) trivial ⟨rfl,⟨rfl,fun V=>by rw [e];rfl⟩,trivial⟩
end Go.Proofs.YticicdfijghigaaGreatDoor.Sx
