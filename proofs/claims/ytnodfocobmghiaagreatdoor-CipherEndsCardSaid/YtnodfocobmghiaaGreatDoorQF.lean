/- math/big: (*Int).Mod by 2^130 - 5, in place, as a summary; calls on the same blocks in other words. -/
import Derived.Test.YtnodfocobmghiaaGreatDoorQE
open Go
set_option maxRecDepth 100000
namespace Go.Proofs.YtnodfocobmghiaaGreatDoor.Sx
theorem Pg {B C:SB} (h:kK B C):kK C B:=by
 cases B with
 | own cs t=>
   cases C with
   | own ds t'=>exact ⟨h.1.symm,fun V=>(h.2 V).symm⟩
   | _=>simp [kK] at h
 | _=>simp only [kK] at h;subst h;exact bW _
theorem aE.reL {P:Program} {Γ:Env} {f:FuncId} {vs Hz:List SV} {L L':List (Nat × SB)} {lab F:Nat} {e:bK} (h:aE P Γ f vs (fun l=>look l L) lab F e) (hw:nK L L') (hv:∀ V,aI V Hz=aI V vs):aE P Γ f Hz (fun l=>look l L') lab F e:=by
 intro w0 M V T2 w xs aO Fv Ur hf hF hx o a K Q hK
 obtain ⟨T3,hT3⟩:∃ T3:bB,T3=fun l=>match look l L with
  | some B=>some B
  | none=>T2 l:=⟨_,rfl⟩
 have src:∀ l B,T3 l=some B->∃ C,T2 l=some C/\kK C B:=by
  intro l B hl
  rw [hT3] at hl
  simp only at hl
  rcases oK (l:=l) hw with ⟨e1,e2⟩ | ⟨C,D,e1,e2,e3⟩
  .rw [e1] at hl;exact ⟨B,hl,bW B⟩
  .rw [e1] at hl;cases hl;exact ⟨D,aO l D e2,Pg e3⟩
 have back:∀ l B,T2 l=some B->∃ C,T3 l=some C/\kK C B:=by
  intro l B hl
  rw [hT3]
  rcases oK (l:=l) hw with ⟨e1,e2⟩ | ⟨C,D,e1,e2,e3⟩
  .simp only [e1];exact ⟨B,hl,bW B⟩
  .simp only [e1]
   have:=aO l D e2
   rw [hl] at this
   cases this
   exact ⟨C,rfl,e3⟩
 have move:∀ {T T':bB} {V:bA} {w:World},(∀ l B,T' l=some B->∃ C,T l=some C/\kK C B)->aD w0 M V T w->aD w0 M V T' w:=by
  intro T T' V w hs ht
  refine ⟨fun l B hl=>?_,fun l B l' B' n dJ hl sP ho hb iD=>?_,fun l B n hl ho hb=>?_,ht.frame⟩
  .obtain ⟨C,hC,hs⟩:=hs l B hl
   exact (jX hs V w l).1 (ht.ok l C hC)
  .obtain ⟨C,hC,iC⟩:=hs l B hl
   obtain ⟨C',hC',Ce⟩:=hs l' B' sP
   obtain ⟨_,b1,b2⟩:=jX iC V w l
   obtain ⟨_,b1',b2'⟩:=jX Ce V w l'
   exact ht.jI l C l' C' n dJ hC hC' (b2 ▸ ho) (b1 ▸ hb) (b1' ▸ iD)
  .obtain ⟨C,hC,hs⟩:=hs l B hl
   obtain ⟨_,b1,b2⟩:=jX hs V w l
   exact ht.perm l C n hC (b2 ▸ ho) (b1 ▸ hb)
 refine h w0 M V T3 w xs (fun l B hl=>?_) (move src Fv) Ur hf hF ((hv V).symm.trans hx) o a K Q fun V' x w' h1 h2 h3=>hK V' x w' h1 h2 (move (fun l B hl=>?_) h3)
 .have hl:look l L=some B:=hl
  rw [hT3];simp only;rw [hl]
 .unfold eQ at hl |-
  cases hk:look l (e.fA lab) with
  | some C=>rw [hk] at hl;cases hl;exact ⟨_,rfl,bW _⟩
  | none=>rw [hk] at hl;exact back l B hl
noncomputable def aFm:Option bK:=aJ (env (nY true 0 0) 22) Tryz.f98 true [] 400 pH (fun l=>look l [(61,.own [.bool true false,.raw (.slice none 0 0)] 102),(62,.own [.bool true false,.aG 66 true 0 3 8] 102),(66,.own Cg 142),(18,.fL [.int true .i64 40])]) 100 100
theorem md0 (x:Int) :
 aFm =
 some {val:=SV.ptr 61 true 0,wr:=[(61,SB.own [SV.bool true false,SV.raw (Value.slice none (0:Nat) (0:Nat))] 102)]}:=by kernel_rfl
open M in
def CL (vs:List SV) (T:bB):Option Canon:=match vs with
 | [.ptr l1 true 0,.ptr l1' true 0,.ptr l2 true 0]=>match Nat.beq l1 l1',T l1,T l2 with
   | true,some (.own [.bool _ _,X] 102),some (.own [.bool _ _,.aG lp _ 0 3 8] 102)=>match X with
     | .raw (.slice none 0 0)=>some { eN:=pH,T0:=[(61,.own [.bool true false,.raw (.slice none 0 0)] 102),(62,.own [.bool true false,.aG 66 true 0 3 8] 102),(66,.own Cg 142),(18,.fL [.int true .i64 40])],vl:=[(61,.lab l1 0),(62,.lab l2 0),(66,.lab lp 0)],e0:={ val:=.ptr 61 true 0,wr:=[(61,.own [.bool true false,.raw (.slice none 0 0)] 102),(62,.own [.bool true false,.aG 66 true 0 3 8] 102),(66,.own Cg 142)] } }
     | .aG lw true 0 n cap=>match T lw with
       | some (.own cs 142)=>match cR .u64 cs with
         | some [a0,a1,_,_,_,_]=>match Nat.beq cap 6,Nat.beq n 1,Nat.beq n 2 with
           | true,true,_=>some { eN:=pH,T0:=[(61,.own [.bool true false,.aG 63 true 0 1 6] 102),(62,.own [.bool true false,.aG 66 true 0 3 8] 102),(63,.own (wc [a0,0,0,0,0,0]) 142),(66,.own Cg 142),(18,.fL [.int true .i64 40])],vl:=[(61,.lab l1 0),(62,.lab l2 0),(63,.lab lw 0),(66,.lab lp 0)],e0:={ val:=.ptr 61 true 0,wr:=[(61,.own [.bool true false,.aG 63 false 0 (ln (a0%aX)) 6] 102),(63,.own (wc [w0 (a0%aX),w1 (a0%aX),w2 (a0%aX),0,0,0]) 142),(62,.own [.bool true false,.aG 66 true 0 3 8] 102),(66,.own Cg 142)] },conds:=[U a0,a0≠0] }
           | true,_,true=>some { eN:=pH,T0:=[(61,.own [.bool true false,.aG 63 true 0 2 6] 102),(62,.own [.bool true false,.aG 66 true 0 3 8] 102),(63,.own (wc [a0,a1,0,0,0,0]) 142),(66,.own Cg 142),(18,.fL [.int true .i64 40])],vl:=[(61,.lab l1 0),(62,.lab l2 0),(63,.lab lw 0),(66,.lab lp 0)],e0:={ val:=.ptr 61 true 0,wr:=[(61,.own [.bool true false,.aG 63 false 0 (ln ((a0+18446744073709551616*a1)%aX)) 6] 102),(63,.own (wc [w0 ((a0+18446744073709551616*a1)%aX),w1 ((a0+18446744073709551616*a1)%aX),w2 ((a0+18446744073709551616*a1)%aX),0,0,0]) 142),(62,.own [.bool true false,.aG 66 true 0 3 8] 102),(66,.own Cg 142)] },conds:=[U a0,U a1,a1≠0] }
           | _,_,_=>none
         | some [a0,a1,a2,_,_,_,_]=>match Nat.beq cap 7,Nat.beq n 2,Nat.beq n 3 with
           | true,true,_=>some { eN:=pH,T0:=[(61,.own [.bool true false,.aG 63 true 0 2 7] 102),(62,.own [.bool true false,.aG 66 true 0 3 8] 102),(63,.own (wc [a0,a1,0,0,0,0,0]) 142),(66,.own Cg 142),(18,.fL [.int true .i64 40])],vl:=[(61,.lab l1 0),(62,.lab l2 0),(63,.lab lw 0),(66,.lab lp 0)],e0:={ val:=.ptr 61 true 0,wr:=[(61,.own [.bool true false,.aG 63 false 0 (ln ((a0+18446744073709551616*a1)%aX)) 7] 102),(63,.own (wc [w0 ((a0+18446744073709551616*a1)%aX),w1 ((a0+18446744073709551616*a1)%aX),w2 ((a0+18446744073709551616*a1)%aX),0,0,0,0]) 142),(62,.own [.bool true false,.aG 66 true 0 3 8] 102),(66,.own Cg 142)] },conds:=[U a0,U a1,a1≠0] }
           | true,_,true=>some { eN:=pH,T0:=[(61,.own [.bool true false,.aG 63 true 0 3 7] 102),(62,.own [.bool true false,.aG 66 true 0 3 8] 102),(63,.own (wc [a0,a1,a2,0,0,0,0]) 142),(66,.own Cg 142),(18,.fL [.int true .i64 40])],vl:=[(61,.lab l1 0),(62,.lab l2 0),(63,.lab lw 0),(66,.lab lp 0)],e0:={ val:=.ptr 61 true 0,wr:=[(61,.own [.bool true false,.aG 63 false 0 (ln (n3 a0 a1 a2%aX)) 7] 102),(63,.own (wc [w0 (n3 a0 a1 a2%aX),w1 (n3 a0 a1 a2%aX),w2 (n3 a0 a1 a2%aX),0,0,0,0]) 142),(62,.own [.bool true false,.aG 66 true 0 3 8] 102),(66,.own Cg 142)] },conds:=[U a0,U a1,U a2,a2≠0] }
           | _,_,_=>none
         | some [a0,a1,a2,a3,_,_,_,_]=>match Nat.beq cap 8,Nat.beq n 3,Nat.beq n 4 with
           | true,true,_=>some { eN:=pH,T0:=[(61,.own [.bool true false,.aG 63 true 0 3 8] 102),(62,.own [.bool true false,.aG 66 true 0 3 8] 102),(63,.own (wc [a0,a1,a2,0,0,0,0,0]) 142),(66,.own Cg 142),(18,.fL [.int true .i64 40])],vl:=[(61,.lab l1 0),(62,.lab l2 0),(63,.lab lw 0),(66,.lab lp 0)],e0:={ val:=.ptr 61 true 0,wr:=[(61,.own [.bool true false,.aG 63 false 0 (ln (n3 a0 a1 a2%aX)) 8] 102),(63,.own (wc [w0 (n3 a0 a1 a2%aX),w1 (n3 a0 a1 a2%aX),w2 (n3 a0 a1 a2%aX),0,0,0,0,0]) 142),(62,.own [.bool true false,.aG 66 true 0 3 8] 102),(66,.own Cg 142)] },conds:=[U a0,U a1,U a2,a2≠0] }
           | true,_,true=>some { eN:=pH,T0:=[(61,.own [.bool true false,.aG 63 true 0 4 8] 102),(62,.own [.bool true false,.aG 66 true 0 3 8] 102),(63,.own (wc [a0,a1,a2,a3,0,0,0,0]) 142),(66,.own Cg 142),(18,.fL [.int true .i64 40])],vl:=[(61,.lab l1 0),(62,.lab l2 0),(63,.lab lw 0),(66,.lab lp 0)],e0:={ val:=.ptr 61 true 0,wr:=[(61,.own [.bool true false,.aG 63 false 0 (ln (n4 a0 a1 a2 a3%aX)) 8] 102),(63,.own (wc [w0 (n4 a0 a1 a2 a3%aX),w1 (n4 a0 a1 a2 a3%aX),w2 (n4 a0 a1 a2 a3%aX),0,0,0,0,0]) 142),(62,.own [.bool true false,.aG 66 true 0 3 8] 102),(66,.own Cg 142)] },conds:=[U a0,U a1,U a2,U a3,a3≠0] }
           | _,_,_=>none
         | some [a0,a1,a2,a3,_,_,_,_,_]=>match Nat.beq cap 9,Nat.beq n 4 with
           | true,true=>some { eN:=pH,T0:=[(61,.own [.bool true false,.aG 63 true 0 4 9] 102),(62,.own [.bool true false,.aG 66 true 0 3 8] 102),(63,.own (wc [a0,a1,a2,a3,0,0,0,0,0]) 142),(66,.own Cg 142),(18,.fL [.int true .i64 40])],vl:=[(61,.lab l1 0),(62,.lab l2 0),(63,.lab lw 0),(66,.lab lp 0)],e0:={ val:=.ptr 61 true 0,wr:=[(61,.own [.bool true false,.aG 63 false 0 (ln (n4 a0 a1 a2 a3%aX)) 9] 102),(63,.own (wc [w0 (n4 a0 a1 a2 a3%aX),w1 (n4 a0 a1 a2 a3%aX),w2 (n4 a0 a1 a2 a3%aX),0,0,0,0,0,0]) 142),(62,.own [.bool true false,.aG 66 true 0 3 8] 102),(66,.own Cg 142)] },conds:=[U a0,U a1,U a2,U a3,a3≠0] }
           | _,_=>none
         | _=>none
       | _=>none
     | _=>none
   | _,_,_=>none
 | _=>none
open M in
theorem aNm (Γ:Env) (hg:Γ.aR=aA):aF Tryz.prog Γ 98 (aL aA 100 CL):=by
 refine aU hg fun vs T c hd hc=>?_
 unfold CL at hd
 split at hd
 case h_2=>cases hd
 split at hd
 case h_2=>cases hd
 split at hd
 case h_3=>cases hd
 .cases hd
  have hs:aF Tryz.prog (env (nY true 0 0) 22) 98 (aJ (env (nY true 0 0) 22) Tryz.f98 true [] 400):=aM (bL _ 22) (bS _ (mQ true 0 0) 22) mix Tryz.func98 (by kernel_rfl) true [] 400
  exact (((hs.call (md0 0) (by simp)).bC 62 _ rfl (by decide)).bC 66 _ rfl (by decide)).words (by rw [hg];rfl) (fun _=>rfl) (fun _ _ h=>h) (fun _=>rfl) rfl rfl
 split at hd
 case h_2=>cases hd
 split at hd
 case h_5=>cases hd
 .rename_i a0 a1 _ _ _ _ _
  split at hd
  case h_3=>cases hd
  .cases hd
   exact (((Pr (hc _ (by simp)) (hc _ (by simp))).bC 62 _ rfl (by decide)).bC 66 _ rfl (by decide)).words (by rw [hg];rfl) (fun _=>rfl) (fun _ _ h=>h) (fun _=>rfl) rfl rfl
  .cases hd
   exact (((Pq (hc _ (by simp)) (hc _ (by simp)) (hc _ (by simp))).bC 62 _ rfl (by decide)).bC 66 _ rfl (by decide)).words (by rw [hg];rfl) (fun _=>rfl) (fun _ _ h=>h) (fun _=>rfl) rfl rfl
 .rename_i a0 a1 a2 _ _ _ _ _
  split at hd
  case h_3=>cases hd
  .cases hd
   exact (((Pp (hc _ (by simp)) (hc _ (by simp)) (hc _ (by simp))).bC 62 _ rfl (by decide)).bC 66 _ rfl (by decide)).words (by rw [hg];rfl) (fun _=>rfl) (fun _ _ h=>h) (fun _=>rfl) rfl rfl
  .cases hd
   have h3:a2≠0:=hc _ (by simp)
   have u0:U a0:=hc _ (by simp)
   have u1:U a1:=hc _ (by simp)
   have u2:U a2:=hc _ (by simp)
   by_cases hp:n3 a0 a1 a2<aX
   .exact (((Po u0 u1 u2 h3 hp).bC 62 _ rfl (by decide)).bC 66 _ rfl (by decide)).words (by rw [hg];rfl) (fun _=>rfl) (fun _ _ h=>h) (fun _=>rfl) rfl rfl
   .exact (((Eo (.inl rfl) u0 u1 u2 (by omega)).bC 62 _ rfl (by decide)).bC 66 _ rfl (by decide)).words (by rw [hg];rfl) (fun _=>rfl) (fun _ _ h=>h) (fun _=>rfl) rfl rfl
 .rename_i a0 a1 a2 a3 _ _ _ _ _
  split at hd
  case h_3=>cases hd
  .cases hd
   have h3:a2≠0:=hc _ (by simp)
   have u0:U a0:=hc _ (by simp)
   have u1:U a1:=hc _ (by simp)
   have u2:U a2:=hc _ (by simp)
   by_cases hp:n3 a0 a1 a2<aX
   .exact (((Pn u0 u1 u2 h3 hp).bC 62 _ rfl (by decide)).bC 66 _ rfl (by decide)).words (by rw [hg];rfl) (fun _=>rfl) (fun _ _ h=>h) (fun _=>rfl) rfl rfl
   .exact (((Eo (.inr rfl) u0 u1 u2 (by omega)).bC 62 _ rfl (by decide)).bC 66 _ rfl (by decide)).words (by rw [hg];rfl) (fun _=>rfl) (fun _ _ h=>h) (fun _=>rfl) rfl rfl
  .cases hd
   have h3:a3≠0:=hc _ (by simp)
   have u0:U a0:=hc _ (by simp)
   have u1:U a1:=hc _ (by simp)
   have u2:U a2:=hc _ (by simp)
   have u3:U a3:=hc _ (by simp)
   have hp:aX<=n4 a0 a1 a2 a3:=by
    have:=u0.1;have:=u1.1;have:=u2.1;have:=u3.1
    unfold aX n4;omega
   exact (((En (.inl rfl) u0 u1 u2 u3 hp).bC 62 _ rfl (by decide)).bC 66 _ rfl (by decide)).words (by rw [hg];rfl) (fun _=>rfl) (fun _ _ h=>h) (fun _=>rfl) rfl rfl
 .rename_i a0 a1 a2 a3 _ _ _ _ _ _
  split at hd
  case h_2=>cases hd
  .cases hd
   have h3:a3≠0:=hc _ (by simp)
   have u0:U a0:=hc _ (by simp)
   have u1:U a1:=hc _ (by simp)
   have u2:U a2:=hc _ (by simp)
   have u3:U a3:=hc _ (by simp)
   have hp:aX<=n4 a0 a1 a2 a3:=by
    have:=u0.1;have:=u1.1;have:=u2.1;have:=u3.1
    unfold aX n4;omega
   exact (((En (.inr rfl) u0 u1 u2 u3 hp).bC 62 _ rfl (by decide)).bC 66 _ rfl (by decide)).words (by rw [hg];rfl) (fun _=>rfl) (fun _ _ h=>h) (fun _=>rfl) rfl rfl
noncomputable def aCd:Nat->Option Sum:=dI Ut 98 (aL aA 100 CL)
theorem Ts:∀ f S,aCd f=some S->∀ Γ:Env,Γ.aR=aA->aF Tryz.prog Γ f S:=bD oH 98 _ aNm
noncomputable def Fy (iq ir:Nat):Nat->Option Sum:=dI Ut 145 (aL aA 100 (rV iq ir))
theorem Hc (iq ir:Nat):∀ f S,Fy iq ir f=some S->∀ Γ:Env,Γ.aR=aA->aF Tryz.prog Γ f S:=bD oH 145 _ (Aq iq ir)
def bc (xs:List Int):List SV:=xs.map (.int false .u8)
noncomputable def aFi (bs:List Int):Option bK:=aJ (env (Fy 0 3) 22) Tryz.f59 true [] 400 [.dD 61 0 17 0] (fun l=>look l [(61,.row 1 (bc bs) 5)]) 100 100
noncomputable def vS (iq:Nat) (o c:Nat) (bs:List Int):Option bK:=aJ (env (Fy iq 0) 22) Tryz.f59 true [] 400 [.aG 61 true o 16 c] (fun l=>look l [(61,.fL (bc bs))]) 100 100
namespace M
def hX (b0 b1 b2 b3 b4 b5 b6 b7:Int):Int:=jQ .u64 (jQ .u64 (jQ .u64 (jQ .u64 (jQ .u64 (jQ .u64 (jQ .u64 (IntKind.u64.wrap b0) (cZ .u64 (IntKind.u64.wrap b1) 8)) (cZ .u64 (IntKind.u64.wrap b2) 16)) (cZ .u64 (IntKind.u64.wrap b3) 24)) (cZ .u64 (IntKind.u64.wrap b4) 32)) (cZ .u64 (IntKind.u64.wrap b5) 40)) (cZ .u64 (IntKind.u64.wrap b6) 48)) (cZ .u64 (IntKind.u64.wrap b7) 56)
end M
theorem n17 (b0 b1 b2 b3 b4 b5 b6 b7 b8 b9 cV cU cT cY cX fW iI:Int) :
 aFi [b0,b1,b2,b3,b4,b5,b6,b7,b8,b9,cV,cU,cT,cY,cX,fW,iI] =
 sh (IntKind.u64.wrap iI) fun z0=>
 some {bO:=([M.nl [M.hX b0 b1 b2 b3 b4 b5 b6 b7,M.hX b8 b9 cV cU cT cY cX fW,jQ .u64 0 (cZ .u64 z0 0)]=3,[M.hX b0 b1 b2 b3 b4 b5 b6 b7,M.hX b8 b9 cV cU cT cY cX fW,jQ .u64 0 (cZ .u64 z0 0),0,0,0,0]=[M.hX b0 b1 b2 b3 b4 b5 b6 b7,M.hX b8 b9 cV cU cT cY cX fW,jQ .u64 0 (cZ .u64 z0 0),0,0,0,0]]:List Prop),val:=.ptr 100 true 0,new:=[.own [.bool true false,.aG 101 true 0 3 7] 102,.own [.int false .u64 (M.hX b0 b1 b2 b3 b4 b5 b6 b7),.int false .u64 (M.hX b8 b9 cV cU cT cY cX fW),.int false .u64 (jQ .u64 0 (cZ .u64 z0 0)),.int false .u64 0,.int false .u64 0,.int false .u64 0,.int false .u64 0] 142]}:=by kernel_rfl
theorem UF (b0 b1 b2 b3 b4 b5 b6 b7 b8 b9 cV cU cT cY cX fW iI lL lK lJ lI lH lG lF lE lD lC lB lA kZ kY kX:Int) :
 vS 0 0 32 [b0,b1,b2,b3,b4,b5,b6,b7,b8,b9,cV,cU,cT,cY,cX,fW,iI,lL,lK,lJ,lI,lH,lG,lF,lE,lD,lC,lB,lA,kZ,kY,kX] =
 some {bO:=([M.nl [M.hX b0 b1 b2 b3 b4 b5 b6 b7,M.hX b8 b9 cV cU cT cY cX fW]=0,[M.hX b0 b1 b2 b3 b4 b5 b6 b7,M.hX b8 b9 cV cU cT cY cX fW,0,0,0,0]=[M.hX b0 b1 b2 b3 b4 b5 b6 b7,M.hX b8 b9 cV cU cT cY cX fW,0,0,0,0]]:List Prop),val:=.ptr 100 true 0,new:=[.own [.bool true false,.aG 101 true 0 0 6] 102,.own [.int false .u64 (M.hX b0 b1 b2 b3 b4 b5 b6 b7),.int false .u64 (M.hX b8 b9 cV cU cT cY cX fW),.int false .u64 0,.int false .u64 0,.int false .u64 0,.int false .u64 0] 142]}:=by kernel_rfl
theorem HB (b0 b1 b2 b3 b4 b5 b6 b7 b8 b9 cV cU cT cY cX fW iI lL lK lJ lI lH lG lF lE lD lC lB lA kZ kY kX:Int) :
 vS 0 16 16 [b0,b1,b2,b3,b4,b5,b6,b7,b8,b9,cV,cU,cT,cY,cX,fW,iI,lL,lK,lJ,lI,lH,lG,lF,lE,lD,lC,lB,lA,kZ,kY,kX] =
 some {bO:=([M.nl [M.hX iI lL lK lJ lI lH lG lF,M.hX lE lD lC lB lA kZ kY kX]=0,[M.hX iI lL lK lJ lI lH lG lF,M.hX lE lD lC lB lA kZ kY kX,0,0,0,0]=[M.hX iI lL lK lJ lI lH lG lF,M.hX lE lD lC lB lA kZ kY kX,0,0,0,0]]:List Prop),val:=.ptr 100 true 0,new:=[.own [.bool true false,.aG 101 true 0 0 6] 102,.own [.int false .u64 (M.hX iI lL lK lJ lI lH lG lF),.int false .u64 (M.hX lE lD lC lB lA kZ kY kX),.int false .u64 0,.int false .u64 0,.int false .u64 0,.int false .u64 0] 142]}:=by kernel_rfl
theorem UE (b0 b1 b2 b3 b4 b5 b6 b7 b8 b9 cV cU cT cY cX fW iI lL lK lJ lI lH lG lF lE lD lC lB lA kZ kY kX:Int) :
 vS 1 0 32 [b0,b1,b2,b3,b4,b5,b6,b7,b8,b9,cV,cU,cT,cY,cX,fW,iI,lL,lK,lJ,lI,lH,lG,lF,lE,lD,lC,lB,lA,kZ,kY,kX] =
 some {bO:=([M.nl [M.hX b0 b1 b2 b3 b4 b5 b6 b7,M.hX b8 b9 cV cU cT cY cX fW]=1,[M.hX b0 b1 b2 b3 b4 b5 b6 b7,M.hX b8 b9 cV cU cT cY cX fW,0,0,0,0]=[M.hX b0 b1 b2 b3 b4 b5 b6 b7,M.hX b8 b9 cV cU cT cY cX fW,0,0,0,0]]:List Prop),val:=.ptr 100 true 0,new:=[.own [.bool true false,.aG 101 true 0 1 6] 102,.own [.int false .u64 (M.hX b0 b1 b2 b3 b4 b5 b6 b7),.int false .u64 (M.hX b8 b9 cV cU cT cY cX fW),.int false .u64 0,.int false .u64 0,.int false .u64 0,.int false .u64 0] 142]}:=by kernel_rfl
theorem HA (b0 b1 b2 b3 b4 b5 b6 b7 b8 b9 cV cU cT cY cX fW iI lL lK lJ lI lH lG lF lE lD lC lB lA kZ kY kX:Int) :
 vS 1 16 16 [b0,b1,b2,b3,b4,b5,b6,b7,b8,b9,cV,cU,cT,cY,cX,fW,iI,lL,lK,lJ,lI,lH,lG,lF,lE,lD,lC,lB,lA,kZ,kY,kX] =
 some {bO:=([M.nl [M.hX iI lL lK lJ lI lH lG lF,M.hX lE lD lC lB lA kZ kY kX]=1,[M.hX iI lL lK lJ lI lH lG lF,M.hX lE lD lC lB lA kZ kY kX,0,0,0,0]=[M.hX iI lL lK lJ lI lH lG lF,M.hX lE lD lC lB lA kZ kY kX,0,0,0,0]]:List Prop),val:=.ptr 100 true 0,new:=[.own [.bool true false,.aG 101 true 0 1 6] 102,.own [.int false .u64 (M.hX iI lL lK lJ lI lH lG lF),.int false .u64 (M.hX lE lD lC lB lA kZ kY kX),.int false .u64 0,.int false .u64 0,.int false .u64 0,.int false .u64 0] 142]}:=by kernel_rfl
theorem UD (b0 b1 b2 b3 b4 b5 b6 b7 b8 b9 cV cU cT cY cX fW iI lL lK lJ lI lH lG lF lE lD lC lB lA kZ kY kX:Int) :
 vS 2 0 32 [b0,b1,b2,b3,b4,b5,b6,b7,b8,b9,cV,cU,cT,cY,cX,fW,iI,lL,lK,lJ,lI,lH,lG,lF,lE,lD,lC,lB,lA,kZ,kY,kX] =
 some {bO:=([M.nl [M.hX b0 b1 b2 b3 b4 b5 b6 b7,M.hX b8 b9 cV cU cT cY cX fW]=2,[M.hX b0 b1 b2 b3 b4 b5 b6 b7,M.hX b8 b9 cV cU cT cY cX fW,0,0,0,0]=[M.hX b0 b1 b2 b3 b4 b5 b6 b7,M.hX b8 b9 cV cU cT cY cX fW,0,0,0,0]]:List Prop),val:=.ptr 100 true 0,new:=[.own [.bool true false,.aG 101 true 0 2 6] 102,.own [.int false .u64 (M.hX b0 b1 b2 b3 b4 b5 b6 b7),.int false .u64 (M.hX b8 b9 cV cU cT cY cX fW),.int false .u64 0,.int false .u64 0,.int false .u64 0,.int false .u64 0] 142]}:=by kernel_rfl
theorem GZ (b0 b1 b2 b3 b4 b5 b6 b7 b8 b9 cV cU cT cY cX fW iI lL lK lJ lI lH lG lF lE lD lC lB lA kZ kY kX:Int) :
 vS 2 16 16 [b0,b1,b2,b3,b4,b5,b6,b7,b8,b9,cV,cU,cT,cY,cX,fW,iI,lL,lK,lJ,lI,lH,lG,lF,lE,lD,lC,lB,lA,kZ,kY,kX] =
 some {bO:=([M.nl [M.hX iI lL lK lJ lI lH lG lF,M.hX lE lD lC lB lA kZ kY kX]=2,[M.hX iI lL lK lJ lI lH lG lF,M.hX lE lD lC lB lA kZ kY kX,0,0,0,0]=[M.hX iI lL lK lJ lI lH lG lF,M.hX lE lD lC lB lA kZ kY kX,0,0,0,0]]:List Prop),val:=.ptr 100 true 0,new:=[.own [.bool true false,.aG 101 true 0 2 6] 102,.own [.int false .u64 (M.hX iI lL lK lJ lI lH lG lF),.int false .u64 (M.hX lE lD lC lB lA kZ kY kX),.int false .u64 0,.int false .u64 0,.int false .u64 0,.int false .u64 0] 142]}:=by kernel_rfl
noncomputable def xO (h:List Bool):Nat->Option Sum:=zS (dI aCd 145 (aL aA 100 (rV 0 3))) 153 h
theorem tQ (h:List Bool):∀ f S,xO h f=some S->∀ Γ:Env,Γ.aR=aA->aF Tryz.prog Γ f S:=kT (bD Ts 145 _ (Aq 0 3)) 153 h
def iR:List SV:=[.agg [.ptr 62 true 0],.ptr 61 true 0,.ptr 63 true 0]
def rE (X Y:SV) (xs ys:List SV):List (Nat × SB):=[(61,.own [.bool true false,X] 102),(62,.own [.bool true false,.aG 66 true 0 3 8] 102),(63,.own [.bool true false,Y] 102),(64,.fL xs),(65,.own ys 142),(66,.own Cg 142),(17,.fL [.int true .i64 40]),(18,.fL [.int true .i64 40])]
noncomputable def Eb (h:List Bool) (X:SV) (xs ys:List SV):Option bK:=aJ (env (xO h) 22) Tryz.f63 true [] 400 iR (fun l=>look l (rE X (.aG 65 true 0 3 7) xs ys)) 100 100
def ww (x:Int) (r:List SV):List SV:=.int false .u64 x::r
namespace M
def az (p z c:Int):Int:=ul (ul (p+z)+c+0)
def ac (p z c:Int):Int:=IntKind.u64.wrap (uh (ul (p+z)+c+0)+uh (p+z))
def q0 (x0 y:Int):Int:=az (x0*y) 0 0
def k0 (x0 y:Int):Int:=ac (x0*y) 0 0
def q1 (x0 x1 y:Int):Int:=az (x1*y) 0 (k0 x0 y)
def k1 (x0 x1 y:Int):Int:=ac (x1*y) 0 (k0 x0 y)
def q2 (x0 x1 x2 y:Int):Int:=az (x2*y) 0 (k1 x0 x1 y)
def k2 (x0 x1 x2 y:Int):Int:=ac (x2*y) 0 (k1 x0 x1 y)
def r0 (x0 x1 y0 y1:Int):Int:=az (x0*y1) (q1 x0 x1 y0) 0
def Fe (x0 x1 y0 y1:Int):Int:=ac (x0*y1) (q1 x0 x1 y0) 0
def r1 (x0 x1 x2 y0 y1:Int):Int:=az (x1*y1) (q2 x0 x1 x2 y0) (Fe x0 x1 y0 y1)
def YN (x0 x1 x2 y0 y1:Int):Int:=ac (x1*y1) (q2 x0 x1 x2 y0) (Fe x0 x1 y0 y1)
def r2 (x0 x1 x2 y0 y1:Int):Int:=az (x2*y1) (k2 x0 x1 x2 y0) (YN x0 x1 x2 y0 y1)
def NJ (x0 x1 x2 y0 y1:Int):Int:=ac (x2*y1) (k2 x0 x1 x2 y0) (YN x0 x1 x2 y0 y1)
def e1 (x0 x1 y0 y1:Int):Int:=az (x1*y1) (k1 x0 x1 y0) (Fe x0 x1 y0 y1)
def f1 (x0 x1 y0 y1:Int):Int:=ac (x1*y1) (k1 x0 x1 y0) (Fe x0 x1 y0 y1)
def g0 (x0 y0:Int):Int:=ul (x0+y0+0)
def c0 (x0 y0:Int):Int:=uh (x0+y0+0)
def g1 (x0 x1 y0 y1:Int):Int:=ul (x1+y1+c0 x0 y0)
def c1 (x0 x1 y0 y1:Int):Int:=uh (x1+y1+c0 x0 y0)
def g2 (x0 x1 x2 y0 y1 y2:Int):Int:=ul (x2+y2+c1 x0 x1 y0 y1)
def c2 (x0 x1 x2 y0 y1 y2:Int):Int:=uh (x2+y2+c1 x0 x1 y0 y1)
end M
def vG:List (Nat × SB):=[(62,.own [.bool true false,.aG 66 true 0 3 8] 102),(66,.own Cg 142)]
theorem aTz (ca:Nat) (xs:List SV) (y0 y1 y2:Int) (ys:List SV) :
 Eb [] (.aG 64 true 0 0 ca) xs (ww y0 (ww y1 (ww y2 ys))) =
 sh (M.n3 y0 y1 y2%M.aX) fun z0=>
 some {bO:=([M.U y0,M.U y1,M.U y2,y2≠0,[y0,y1,y2,0,0,0,0]=[y0,y1,y2,0,0,0,0]]:List Prop),val:=.ptr 100 true 0,new:=[.own [.bool true false,.aG 101 false 0 (M.ln z0) 7] 102,.own [.int false .u64 (M.w0 z0),.int false .u64 (M.w1 z0),.int false .u64 (M.w2 z0),.int false .u64 0,.int false .u64 0,.int false .u64 0,.int false .u64 0] 142],wr:=vG}:=by kernel_rfl
theorem aTy {ca:Nat} (kA:ca=6\/ca=7\/ca=8\/ca=9) (x0:Int) (xs:List SV) (y0 y1 y2:Int) (ys:List SV) :
 Eb [true] (.aG 64 true 0 1 ca) (ww x0 xs) (ww y0 (ww y1 (ww y2 ys))) =
 sh (y1+M.c0 y0 x0+0) fun z0=>
 sh (M.n3 (M.g0 y0 x0) (M.ul z0) y2%M.aX) fun z1=>
 some {bO:=([M.U (M.g0 y0 x0),M.U (M.ul z0),M.U y2,y2≠0,[M.g0 y0 x0,M.ul z0,y2,0,0,0,0,0]=[M.g0 y0 x0,M.ul z0,y2,0,0,0,0,0],M.nl [M.g0 y0 x0,M.ul z0,y2,0]=3,[M.g0 y0 x0,M.ul z0,y2,0,0,0,0,0]=[M.g0 y0 x0,M.ul z0,y2,0,0,0,0,0],(M.uh z0==0)=true,M.U y1,M.U (M.c0 y0 x0),M.K 0,y1=y1,M.c0 y0 x0=M.c0 y0 x0,(0 :Int)=0,M.U y0,M.U x0,M.K 0,y0=y0,x0=x0,(0 :Int)=0]:List Prop),val:=.ptr 100 true 0,new:=[.own [.bool true false,.aG 101 false 0 (M.ln z1) 8] 102,.own [.int false .u64 (M.w0 z1),.int false .u64 (M.w1 z1),.int false .u64 (M.w2 z1),.int false .u64 0,.int false .u64 0,.int false .u64 0,.int false .u64 0,.int false .u64 0] 142],wr:=vG}:=by rcases kA with rfl | rfl | rfl | rfl <;> kernel_rfl
theorem aOt {ca:Nat} (kA:ca=6\/ca=7\/ca=8\/ca=9) (x0:Int) (xs:List SV) (y0 y1 y2:Int) (ys:List SV) :
 Eb [false,true] (.aG 64 true 0 1 ca) (ww x0 xs) (ww y0 (ww y1 (ww y2 ys))) =
 sh (y1+M.c0 y0 x0+0) fun z1=>
 sh (IntKind.u64.wrap (y2+1)) fun z2=>
 sh (M.n3 (M.g0 y0 x0) (M.ul z1) z2%M.aX) fun z0=>
 some {bO:=([M.U (M.g0 y0 x0),M.U (M.ul z1),M.U z2,IntKind.u64.wrap (y2+1)≠0,[M.g0 y0 x0,M.ul z1,IntKind.u64.wrap (y2+1),0,0,0,0,0]=[M.g0 y0 x0,M.ul z1,IntKind.u64.wrap (y2+1),0,0,0,0,0],M.nl [M.g0 y0 x0,M.ul z1,IntKind.u64.wrap (y2+1),0]=3,[M.g0 y0 x0,M.ul z1,IntKind.u64.wrap (y2+1),0,0,0,0,0]=[M.g0 y0 x0,M.ul z1,IntKind.u64.wrap (y2+1),0,0,0,0,0],(y2 != 18446744073709551615)=true,(M.uh z1==0)=false,M.U y1,M.U (M.c0 y0 x0),M.K 0,y1=y1,M.c0 y0 x0=M.c0 y0 x0,(0 :Int)=0,M.U y0,M.U x0,M.K 0,y0=y0,x0=x0,(0 :Int)=0]:List Prop),val:=.ptr 100 true 0,new:=[.own [.bool true false,.aG 101 false 0 (M.ln z0) 8] 102,.own [.int false .u64 (M.w0 z0),.int false .u64 (M.w1 z0),.int false .u64 (M.w2 z0),.int false .u64 0,.int false .u64 0,.int false .u64 0,.int false .u64 0,.int false .u64 0] 142],wr:=vG}:=by rcases kA with rfl | rfl | rfl | rfl <;> kernel_rfl
theorem aTx {ca:Nat} (kA:ca=6\/ca=7\/ca=8\/ca=9) (x0 x1:Int) (xs:List SV) (y0 y1 y2:Int) (ys:List SV) :
 Eb [true] (.aG 64 true 0 2 ca) (ww x0 (ww x1 xs)) (ww y0 (ww y1 (ww y2 ys))) =
 sh (y2+M.c1 y0 y1 x0 x1+0) fun z0=>
 sh (M.n3 (M.g0 y0 x0) (M.g1 y0 y1 x0 x1) (M.ul z0)%M.aX) fun z1=>
 some {bO:=([M.U (M.g0 y0 x0),M.U (M.g1 y0 y1 x0 x1),M.U (M.ul z0),M.ul z0≠0,[M.g0 y0 x0,M.g1 y0 y1 x0 x1,M.ul z0,0,0,0,0,0]=[M.g0 y0 x0,M.g1 y0 y1 x0 x1,M.ul z0,0,0,0,0,0],M.nl [M.g0 y0 x0,M.g1 y0 y1 x0 x1,M.ul z0,0]=3,[M.g0 y0 x0,M.g1 y0 y1 x0 x1,M.ul z0,0,0,0,0,0]=[M.g0 y0 x0,M.g1 y0 y1 x0 x1,M.ul z0,0,0,0,0,0],(M.uh z0==0)=true,M.U y2,M.U (M.c1 y0 y1 x0 x1),M.K 0,y2=y2,M.c1 y0 y1 x0 x1=M.c1 y0 y1 x0 x1,(0 :Int)=0,M.U y1,M.U x1,M.K (M.c0 y0 x0),y1=y1,x1=x1,M.c0 y0 x0=M.c0 y0 x0,M.U y0,M.U x0,M.K 0,y0=y0,x0=x0,(0 :Int)=0]:List Prop),val:=.ptr 100 true 0,new:=[.own [.bool true false,.aG 101 false 0 (M.ln z1) 8] 102,.own [.int false .u64 (M.w0 z1),.int false .u64 (M.w1 z1),.int false .u64 (M.w2 z1),.int false .u64 0,.int false .u64 0,.int false .u64 0,.int false .u64 0,.int false .u64 0] 142],wr:=vG}:=by rcases kA with rfl | rfl | rfl | rfl <;> kernel_rfl
theorem aTw {ca:Nat} (kA:ca=6\/ca=7\/ca=8\/ca=9) (x0 x1 x2:Int) (xs:List SV) (y0 y1 y2:Int) (ys:List SV) :
 Eb [] (.aG 64 true 0 3 ca) (ww x0 (ww x1 (ww x2 xs))) (ww y0 (ww y1 (ww y2 ys))) =
 sh (M.g2 x0 x1 x2 y0 y1 y2) fun z1=>
 sh (M.n3 (M.g0 x0 y0) (M.g1 x0 x1 y0 y1) z1%M.aX) fun z0=>
 some {bO:=([M.U (M.g0 x0 y0),M.U (M.g1 x0 x1 y0 y1),M.U z1,M.g2 x0 x1 x2 y0 y1 y2≠0,[M.g0 x0 y0,M.g1 x0 x1 y0 y1,M.g2 x0 x1 x2 y0 y1 y2,M.c2 x0 x1 x2 y0 y1 y2,0,0,0,0]=[M.g0 x0 y0,M.g1 x0 x1 y0 y1,M.g2 x0 x1 x2 y0 y1 y2,0,0,0,0,0],M.nl [M.g0 x0 y0,M.g1 x0 x1 y0 y1,M.g2 x0 x1 x2 y0 y1 y2,M.c2 x0 x1 x2 y0 y1 y2]=3,[M.g0 x0 y0,M.g1 x0 x1 y0 y1,M.g2 x0 x1 x2 y0 y1 y2,M.c2 x0 x1 x2 y0 y1 y2,0,0,0,0]=[M.g0 x0 y0,M.g1 x0 x1 y0 y1,M.g2 x0 x1 x2 y0 y1 y2,M.c2 x0 x1 x2 y0 y1 y2,0,0,0,0],M.U x2,M.U y2,M.K (M.c1 x0 x1 y0 y1),x2=x2,y2=y2,M.c1 x0 x1 y0 y1=M.c1 x0 x1 y0 y1,M.U x1,M.U y1,M.K (M.c0 x0 y0),x1=x1,y1=y1,M.c0 x0 y0=M.c0 x0 y0,M.U x0,M.U y0,M.K 0,x0=x0,y0=y0,(0 :Int)=0]:List Prop),val:=.ptr 100 true 0,new:=[.own [.bool true false,.aG 101 false 0 (M.ln z0) 8] 102,.own [.int false .u64 (M.w0 z0),.int false .u64 (M.w1 z0),.int false .u64 (M.w2 z0),.int false .u64 0,.int false .u64 0,.int false .u64 0,.int false .u64 0,.int false .u64 0] 142],wr:=vG}:=by rcases kA with rfl | rfl | rfl | rfl <;> kernel_rfl
theorem aTv (xs:List SV) (y0 y1 y2:Int) (ys:List SV) :
 Eb [] (.raw (.slice none 0 0)) xs (ww y0 (ww y1 (ww y2 ys))) =
 sh (M.n3 y0 y1 y2%M.aX) fun z0=>
 some {bO:=([M.U y0,M.U y1,M.U y2,y2≠0,[y0,y1,y2,0,0,0,0]=[y0,y1,y2,0,0,0,0]]:List Prop),val:=.ptr 100 true 0,new:=[.own [.bool true false,.aG 101 false 0 (M.ln z0) 7] 102,.own [.int false .u64 (M.w0 z0),.int false .u64 (M.w1 z0),.int false .u64 (M.w2 z0),.int false .u64 0,.int false .u64 0,.int false .u64 0,.int false .u64 0] 142],wr:=vG}:=by kernel_rfl
noncomputable def PU (h:Bool) (iq ir:Nat):Nat->Option Sum:=zS (zS (dI aCd 145 (aL aA 100 (rV iq ir))) 205 [false]) 202 [h,true]
theorem XC (h:Bool) (iq ir:Nat):∀ f S,PU h iq ir f=some S->∀ Γ:Env,Γ.aR=aA->aF Tryz.prog Γ f S:=kT (kT (bD Ts 145 _ (Aq iq ir)) 205 _) 202 _
noncomputable def iJ (h:Bool) (iq ir:Nat) (X Y:SV) (xs ys:List SV):Option bK:=aJ (env (PU h iq ir) 22) Tryz.f65 true [] 400 iR (fun l=>look l (rE X Y xs ys)) 100 100
theorem WJ (ca ct:Nat) (xs ys:List SV) :
 iJ true 0 0 (.aG 64 true 0 0 ca) (.aG 65 true 0 0 ct) xs ys =
 some {val:=.ptr 100 true 0,new:=[.own [.bool true false,.raw (Value.slice none 0 0)] 102],wr:=vG}:=by kernel_rfl
theorem WI (ca ct:Nat) (y0:Int) (xs ys:List SV) :
 iJ true 0 0 (.aG 64 true 0 0 ca) (.aG 65 true 0 1 ct) xs (ww y0 ys) =
 some {val:=.ptr 100 true 0,new:=[.own [.bool true false,.raw (Value.slice none 0 0)] 102],wr:=vG}:=by kernel_rfl
theorem WH (ca ct:Nat) (y0 y1:Int) (xs ys:List SV) :
 iJ true 0 0 (.aG 64 true 0 0 ca) (.aG 65 true 0 2 ct) xs (ww y0 (ww y1 ys)) =
 some {val:=.ptr 100 true 0,new:=[.own [.bool true false,.raw (Value.slice none 0 0)] 102],wr:=vG}:=by kernel_rfl
theorem WG (ca ct:Nat) (x0:Int) (xs ys:List SV) :
 iJ true 0 0 (.aG 64 true 0 1 ca) (.aG 65 true 0 0 ct) (ww x0 xs) ys =
 some {val:=.ptr 100 true 0,new:=[.own [.bool true false,.raw (Value.slice none 0 0)] 102],wr:=vG}:=by kernel_rfl
theorem WE (ca ct:Nat) (x0 y0:Int) (xs ys:List SV) :
 iJ true 1 0 (.aG 64 true 0 1 ca) (.aG 65 true 0 1 ct) (ww x0 xs) (ww y0 ys) =
 sh (x0*y0+0) fun z0=>
 sh (M.ul z0%M.aX) fun z1=>
 some {bO:=([M.U (M.ul z0),M.ul z0≠0,[M.ul z0,M.uh z0,0,0,0,0]=[M.ul z0,0,0,0,0,0],M.nl [M.ul z0,M.uh z0]=1,[M.ul z0,M.uh z0,0,0,0,0]=[M.ul z0,M.uh z0,0,0,0,0],M.U x0,M.U y0,M.U 0,x0=x0,y0=y0,(0 :Int)=0,(y0==0)=false]:List Prop),val:=.ptr 100 true 0,new:=[.own [.bool true false,.aG 101 false 0 (M.ln z1) 6] 102,.own [.int false .u64 (M.w0 z1),.int false .u64 (M.w1 z1),.int false .u64 (M.w2 z1),.int false .u64 0,.int false .u64 0,.int false .u64 0] 142],wr:=vG}:=by kernel_rfl
theorem WD (ca ct:Nat) (x0 y0:Int) (xs ys:List SV) :
 iJ true 2 0 (.aG 64 true 0 1 ca) (.aG 65 true 0 1 ct) (ww x0 xs) (ww y0 ys) =
 sh (x0*y0+0) fun z1=>
 sh ((M.ul z1+18446744073709551616*M.uh z1)%M.aX) fun z0=>
 some {bO:=([M.U (M.ul z1),M.U (M.uh z1),M.uh z1≠0,[M.ul z1,M.uh z1,0,0,0,0]=[M.ul z1,M.uh z1,0,0,0,0],M.nl [M.ul z1,M.uh z1]=2,[M.ul z1,M.uh z1,0,0,0,0]=[M.ul z1,M.uh z1,0,0,0,0],M.U x0,M.U y0,M.U 0,x0=x0,y0=y0,(0 :Int)=0,(y0==0)=false]:List Prop),val:=.ptr 100 true 0,new:=[.own [.bool true false,.aG 101 false 0 (M.ln z0) 6] 102,.own [.int false .u64 (M.w0 z0),.int false .u64 (M.w1 z0),.int false .u64 (M.w2 z0),.int false .u64 0,.int false .u64 0,.int false .u64 0] 142],wr:=vG}:=by kernel_rfl
theorem WC (ca ct:Nat) (x0 y0 y1:Int) (xs ys:List SV) :
 iJ true 0 2 (.aG 64 true 0 1 ca) (.aG 65 true 0 2 ct) (ww x0 xs) (ww y0 (ww y1 ys)) =
 sh (y0*x0+0) fun z2=>
 sh (y1*x0+M.uh z2) fun z0=>
 sh ((M.ul z2+18446744073709551616*M.ul z0)%M.aX) fun z1=>
 some {bO:=([M.U (M.ul z2),M.U (M.ul z0),M.ul z0≠0,[M.ul z2,M.ul z0,M.uh z0,0,0,0,0]=[M.ul z2,M.ul z0,0,0,0,0,0],M.nl [M.ul z2,M.ul z0,M.uh z0]=2,[M.ul z2,M.ul z0,M.uh z0,0,0,0,0]=[M.ul z2,M.ul z0,M.uh z0,0,0,0,0],M.U y1,M.U x0,M.U (M.uh z2),y1=y1,x0=x0,M.uh z2=M.uh z2,M.U y0,M.U x0,M.U 0,y0=y0,x0=x0,(0 :Int)=0,(x0==0)=false]:List Prop),val:=.ptr 100 true 0,new:=[.own [.bool true false,.aG 101 false 0 (M.ln z1) 7] 102,.own [.int false .u64 (M.w0 z1),.int false .u64 (M.w1 z1),.int false .u64 (M.w2 z1),.int false .u64 0,.int false .u64 0,.int false .u64 0,.int false .u64 0] 142],wr:=vG}:=by kernel_rfl
theorem WB (ca ct:Nat) (x0 y0 y1:Int) (xs ys:List SV) :
 iJ true 0 3 (.aG 64 true 0 1 ca) (.aG 65 true 0 2 ct) (ww x0 xs) (ww y0 (ww y1 ys)) =
 sh (y0*x0+0) fun z2=>
 sh (y1*x0+M.uh z2) fun z0=>
 sh (M.n3 (M.ul z2) (M.ul z0) (M.uh z0)%M.aX) fun z1=>
 some {bO:=([M.U (M.ul z2),M.U (M.ul z0),M.U (M.uh z0),M.uh z0≠0,[M.ul z2,M.ul z0,M.uh z0,0,0,0,0]=[M.ul z2,M.ul z0,M.uh z0,0,0,0,0],M.nl [M.ul z2,M.ul z0,M.uh z0]=3,[M.ul z2,M.ul z0,M.uh z0,0,0,0,0]=[M.ul z2,M.ul z0,M.uh z0,0,0,0,0],M.U y1,M.U x0,M.U (M.uh z2),y1=y1,x0=x0,M.uh z2=M.uh z2,M.U y0,M.U x0,M.U 0,y0=y0,x0=x0,(0 :Int)=0,(x0==0)=false]:List Prop),val:=.ptr 100 true 0,new:=[.own [.bool true false,.aG 101 false 0 (M.ln z1) 7] 102,.own [.int false .u64 (M.w0 z1),.int false .u64 (M.w1 z1),.int false .u64 (M.w2 z1),.int false .u64 0,.int false .u64 0,.int false .u64 0,.int false .u64 0] 142],wr:=vG}:=by kernel_rfl
theorem WA (ca ct:Nat) (x0 x1:Int) (xs ys:List SV) :
 iJ true 0 0 (.aG 64 true 0 2 ca) (.aG 65 true 0 0 ct) (ww x0 (ww x1 xs)) ys =
 some {val:=.ptr 100 true 0,new:=[.own [.bool true false,.raw (Value.slice none 0 0)] 102],wr:=vG}:=by kernel_rfl
theorem VZ (ca ct:Nat) (x0 x1 y0:Int) (xs ys:List SV) :
 iJ true 0 2 (.aG 64 true 0 2 ca) (.aG 65 true 0 1 ct) (ww x0 (ww x1 xs)) (ww y0 ys) =
 sh (x0*y0+0) fun z2=>
 sh (x1*y0+M.uh z2) fun z0=>
 sh ((M.ul z2+18446744073709551616*M.ul z0)%M.aX) fun z1=>
 some {bO:=([M.U (M.ul z2),M.U (M.ul z0),M.ul z0≠0,[M.ul z2,M.ul z0,M.uh z0,0,0,0,0]=[M.ul z2,M.ul z0,0,0,0,0,0],M.nl [M.ul z2,M.ul z0,M.uh z0]=2,[M.ul z2,M.ul z0,M.uh z0,0,0,0,0]=[M.ul z2,M.ul z0,M.uh z0,0,0,0,0],M.U x1,M.U y0,M.U (M.uh z2),x1=x1,y0=y0,M.uh z2=M.uh z2,M.U x0,M.U y0,M.U 0,x0=x0,y0=y0,(0 :Int)=0,(y0==0)=false]:List Prop),val:=.ptr 100 true 0,new:=[.own [.bool true false,.aG 101 false 0 (M.ln z1) 7] 102,.own [.int false .u64 (M.w0 z1),.int false .u64 (M.w1 z1),.int false .u64 (M.w2 z1),.int false .u64 0,.int false .u64 0,.int false .u64 0,.int false .u64 0] 142],wr:=vG}:=by kernel_rfl
theorem VY (ca ct:Nat) (x0 x1 y0:Int) (xs ys:List SV) :
 iJ true 0 3 (.aG 64 true 0 2 ca) (.aG 65 true 0 1 ct) (ww x0 (ww x1 xs)) (ww y0 ys) =
 sh (x0*y0+0) fun z2=>
 sh (x1*y0+M.uh z2) fun z0=>
 sh (M.n3 (M.ul z2) (M.ul z0) (M.uh z0)%M.aX) fun z1=>
 some {bO:=([M.U (M.ul z2),M.U (M.ul z0),M.U (M.uh z0),M.uh z0≠0,[M.ul z2,M.ul z0,M.uh z0,0,0,0,0]=[M.ul z2,M.ul z0,M.uh z0,0,0,0,0],M.nl [M.ul z2,M.ul z0,M.uh z0]=3,[M.ul z2,M.ul z0,M.uh z0,0,0,0,0]=[M.ul z2,M.ul z0,M.uh z0,0,0,0,0],M.U x1,M.U y0,M.U (M.uh z2),x1=x1,y0=y0,M.uh z2=M.uh z2,M.U x0,M.U y0,M.U 0,x0=x0,y0=y0,(0 :Int)=0,(y0==0)=false]:List Prop),val:=.ptr 100 true 0,new:=[.own [.bool true false,.aG 101 false 0 (M.ln z1) 7] 102,.own [.int false .u64 (M.w0 z1),.int false .u64 (M.w1 z1),.int false .u64 (M.w2 z1),.int false .u64 0,.int false .u64 0,.int false .u64 0,.int false .u64 0] 142],wr:=vG}:=by kernel_rfl
theorem VX (ca ct:Nat) (x0 x1 y0 y1:Int) (xs ys:List SV) :
 iJ true 0 3 (.aG 64 true 0 2 ca) (.aG 65 true 0 2 ct) (ww x0 (ww x1 xs)) (ww y0 (ww y1 ys)) =
 sh (M.n3 (M.q0 x0 y0) (M.r0 x0 x1 y0 y1) (M.e1 x0 x1 y0 y1)%M.aX) fun z0=>
 sh (x1*y1+M.k1 x0 x1 y0) fun z1=>
 sh (x0*y1+M.q1 x0 x1 y0) fun z2=>
 sh (x1*y0+0) fun z3=>
 sh (x0*y0+0) fun z4=>
 some {bO:=([M.U (M.q0 x0 y0),M.U (M.r0 x0 x1 y0 y1),M.U (M.e1 x0 x1 y0 y1),M.e1 x0 x1 y0 y1≠0,[M.q0 x0 y0,M.r0 x0 x1 y0 y1,M.e1 x0 x1 y0 y1,M.f1 x0 x1 y0 y1,0,0,0,0]=[M.q0 x0 y0,M.r0 x0 x1 y0 y1,M.e1 x0 x1 y0 y1,0,0,0,0,0],M.nl [M.q0 x0 y0,M.r0 x0 x1 y0 y1,M.e1 x0 x1 y0 y1,M.f1 x0 x1 y0 y1]=3,[M.q0 x0 y0,M.r0 x0 x1 y0 y1,M.e1 x0 x1 y0 y1,M.f1 x0 x1 y0 y1,0,0,0,0]=[M.q0 x0 y0,M.r0 x0 x1 y0 y1,M.e1 x0 x1 y0 y1,M.f1 x0 x1 y0 y1,0,0,0,0],M.U (M.ul z1),M.U (M.Fe x0 x1 y0 y1),M.K 0,M.ul z1=M.ul z1,M.Fe x0 x1 y0 y1=M.Fe x0 x1 y0 y1,(0 :Int)=0,M.U x1,M.U y1,M.U (M.k1 x0 x1 y0),x1=x1,y1=y1,M.k1 x0 x1 y0=M.k1 x0 x1 y0,M.U (M.ul z2),M.U 0,M.K 0,M.ul z2=M.ul z2,(0 :Int)=0,(0 :Int)=0,M.U x0,M.U y1,M.U (M.q1 x0 x1 y0),x0=x0,y1=y1,M.q1 x0 x1 y0=M.q1 x0 x1 y0,(y1 != 0)=true,M.U (M.ul z3),M.U (M.k0 x0 y0),M.K 0,M.ul z3=M.ul z3,M.k0 x0 y0=M.k0 x0 y0,(0 :Int)=0,M.U x1,M.U y0,M.U 0,x1=x1,y0=y0,(0 :Int)=0,M.U (M.ul z4),M.U 0,M.K 0,M.ul z4=M.ul z4,(0 :Int)=0,(0 :Int)=0,M.U x0,M.U y0,M.U 0,x0=x0,y0=y0,(0 :Int)=0,(y0 != 0)=true]:List Prop),val:=.ptr 100 true 0,new:=[.own [.bool true false,.aG 101 false 0 (M.ln z0) 8] 102,.own [.int false .u64 (M.w0 z0),.int false .u64 (M.w1 z0),.int false .u64 (M.w2 z0),.int false .u64 0,.int false .u64 0,.int false .u64 0,.int false .u64 0,.int false .u64 0] 142],wr:=vG}:=by kernel_rfl
theorem HZ (ca ct:Nat) (x0 x1 y0 y1:Int) (xs ys:List SV) :
 iJ false 0 3 (.aG 64 true 0 2 ca) (.aG 65 true 0 2 ct) (ww x0 (ww x1 xs)) (ww y0 (ww y1 ys)) =
 sh (M.n3 0 (M.q0 x0 y1) (M.q1 x0 x1 y1)%M.aX) fun z0=>
 sh (x1*y1+0) fun z1=>
 sh (x0*y1+0) fun z2=>
 some {bO:=([M.U 0,M.U (M.q0 x0 y1),M.U (M.q1 x0 x1 y1),M.q1 x0 x1 y1≠0,[0,M.q0 x0 y1,M.q1 x0 x1 y1,M.k1 x0 x1 y1,0,0,0,0]=[0,M.q0 x0 y1,M.q1 x0 x1 y1,0,0,0,0,0],M.nl [0,M.q0 x0 y1,M.q1 x0 x1 y1,M.k1 x0 x1 y1]=3,[0,M.q0 x0 y1,M.q1 x0 x1 y1,M.k1 x0 x1 y1,0,0,0,0]=[0,M.q0 x0 y1,M.q1 x0 x1 y1,M.k1 x0 x1 y1,0,0,0,0],M.U (M.ul z1),M.U (M.k0 x0 y1),M.K 0,M.ul z1=M.ul z1,M.k0 x0 y1=M.k0 x0 y1,(0 :Int)=0,M.U x1,M.U y1,M.U 0,x1=x1,y1=y1,(0 :Int)=0,M.U (M.ul z2),M.U 0,M.K 0,M.ul z2=M.ul z2,(0 :Int)=0,(0 :Int)=0,M.U x0,M.U y1,M.U 0,x0=x0,y1=y1,(0 :Int)=0,(y1 != 0)=true,(y0 != 0)=false]:List Prop),val:=.ptr 100 true 0,new:=[.own [.bool true false,.aG 101 false 0 (M.ln z0) 8] 102,.own [.int false .u64 (M.w0 z0),.int false .u64 (M.w1 z0),.int false .u64 (M.w2 z0),.int false .u64 0,.int false .u64 0,.int false .u64 0,.int false .u64 0,.int false .u64 0] 142],wr:=vG}:=by kernel_rfl
theorem VW (ca ct:Nat) (x0 x1 y0 y1:Int) (xs ys:List SV) :
 iJ true 0 4 (.aG 64 true 0 2 ca) (.aG 65 true 0 2 ct) (ww x0 (ww x1 xs)) (ww y0 (ww y1 ys)) =
 sh (M.n4 (M.q0 x0 y0) (M.r0 x0 x1 y0 y1) (M.e1 x0 x1 y0 y1) (M.f1 x0 x1 y0 y1)%M.aX) fun z0=>
 sh (x1*y1+M.k1 x0 x1 y0) fun z1=>
 sh (x0*y1+M.q1 x0 x1 y0) fun z2=>
 sh (x1*y0+0) fun z3=>
 sh (x0*y0+0) fun z4=>
 some {bO:=([M.U (M.q0 x0 y0),M.U (M.r0 x0 x1 y0 y1),M.U (M.e1 x0 x1 y0 y1),M.U (M.f1 x0 x1 y0 y1),M.f1 x0 x1 y0 y1≠0,[M.q0 x0 y0,M.r0 x0 x1 y0 y1,M.e1 x0 x1 y0 y1,M.f1 x0 x1 y0 y1,0,0,0,0]=[M.q0 x0 y0,M.r0 x0 x1 y0 y1,M.e1 x0 x1 y0 y1,M.f1 x0 x1 y0 y1,0,0,0,0],M.nl [M.q0 x0 y0,M.r0 x0 x1 y0 y1,M.e1 x0 x1 y0 y1,M.f1 x0 x1 y0 y1]=4,[M.q0 x0 y0,M.r0 x0 x1 y0 y1,M.e1 x0 x1 y0 y1,M.f1 x0 x1 y0 y1,0,0,0,0]=[M.q0 x0 y0,M.r0 x0 x1 y0 y1,M.e1 x0 x1 y0 y1,M.f1 x0 x1 y0 y1,0,0,0,0],M.U (M.ul z1),M.U (M.Fe x0 x1 y0 y1),M.K 0,M.ul z1=M.ul z1,M.Fe x0 x1 y0 y1=M.Fe x0 x1 y0 y1,(0 :Int)=0,M.U x1,M.U y1,M.U (M.k1 x0 x1 y0),x1=x1,y1=y1,M.k1 x0 x1 y0=M.k1 x0 x1 y0,M.U (M.ul z2),M.U 0,M.K 0,M.ul z2=M.ul z2,(0 :Int)=0,(0 :Int)=0,M.U x0,M.U y1,M.U (M.q1 x0 x1 y0),x0=x0,y1=y1,M.q1 x0 x1 y0=M.q1 x0 x1 y0,(y1 != 0)=true,M.U (M.ul z3),M.U (M.k0 x0 y0),M.K 0,M.ul z3=M.ul z3,M.k0 x0 y0=M.k0 x0 y0,(0 :Int)=0,M.U x1,M.U y0,M.U 0,x1=x1,y0=y0,(0 :Int)=0,M.U (M.ul z4),M.U 0,M.K 0,M.ul z4=M.ul z4,(0 :Int)=0,(0 :Int)=0,M.U x0,M.U y0,M.U 0,x0=x0,y0=y0,(0 :Int)=0,(y0 != 0)=true]:List Prop),val:=.ptr 100 true 0,new:=[.own [.bool true false,.aG 101 false 0 (M.ln z0) 8] 102,.own [.int false .u64 (M.w0 z0),.int false .u64 (M.w1 z0),.int false .u64 (M.w2 z0),.int false .u64 0,.int false .u64 0,.int false .u64 0,.int false .u64 0,.int false .u64 0] 142],wr:=vG}:=by kernel_rfl
theorem HY (ca ct:Nat) (x0 x1 y0 y1:Int) (xs ys:List SV) :
 iJ false 0 4 (.aG 64 true 0 2 ca) (.aG 65 true 0 2 ct) (ww x0 (ww x1 xs)) (ww y0 (ww y1 ys)) =
 sh (M.n4 0 (M.q0 x0 y1) (M.q1 x0 x1 y1) (M.k1 x0 x1 y1)%M.aX) fun z0=>
 sh (x1*y1+0) fun z1=>
 sh (x0*y1+0) fun z2=>
 some {bO:=([M.U 0,M.U (M.q0 x0 y1),M.U (M.q1 x0 x1 y1),M.U (M.k1 x0 x1 y1),M.k1 x0 x1 y1≠0,[0,M.q0 x0 y1,M.q1 x0 x1 y1,M.k1 x0 x1 y1,0,0,0,0]=[0,M.q0 x0 y1,M.q1 x0 x1 y1,M.k1 x0 x1 y1,0,0,0,0],M.nl [0,M.q0 x0 y1,M.q1 x0 x1 y1,M.k1 x0 x1 y1]=4,[0,M.q0 x0 y1,M.q1 x0 x1 y1,M.k1 x0 x1 y1,0,0,0,0]=[0,M.q0 x0 y1,M.q1 x0 x1 y1,M.k1 x0 x1 y1,0,0,0,0],M.U (M.ul z1),M.U (M.k0 x0 y1),M.K 0,M.ul z1=M.ul z1,M.k0 x0 y1=M.k0 x0 y1,(0 :Int)=0,M.U x1,M.U y1,M.U 0,x1=x1,y1=y1,(0 :Int)=0,M.U (M.ul z2),M.U 0,M.K 0,M.ul z2=M.ul z2,(0 :Int)=0,(0 :Int)=0,M.U x0,M.U y1,M.U 0,x0=x0,y1=y1,(0 :Int)=0,(y1 != 0)=true,(y0 != 0)=false]:List Prop),val:=.ptr 100 true 0,new:=[.own [.bool true false,.aG 101 false 0 (M.ln z0) 8] 102,.own [.int false .u64 (M.w0 z0),.int false .u64 (M.w1 z0),.int false .u64 (M.w2 z0),.int false .u64 0,.int false .u64 0,.int false .u64 0,.int false .u64 0,.int false .u64 0] 142],wr:=vG}:=by kernel_rfl
theorem VV (ca ct:Nat) (x0 x1 x2:Int) (xs ys:List SV) :
 iJ true 0 0 (.aG 64 true 0 3 ca) (.aG 65 true 0 0 ct) (ww x0 (ww x1 (ww x2 xs))) ys =
 some {val:=.ptr 100 true 0,new:=[.own [.bool true false,.raw (Value.slice none 0 0)] 102],wr:=vG}:=by kernel_rfl
theorem VU (ca ct:Nat) (x0 x1 x2 y0:Int) (xs ys:List SV) :
 iJ true 0 3 (.aG 64 true 0 3 ca) (.aG 65 true 0 1 ct) (ww x0 (ww x1 (ww x2 xs))) (ww y0 ys) =
 sh (x0*y0+0) fun z3=>
 sh (x1*y0+M.uh z3) fun z0=>
 sh (x2*y0+M.uh z0) fun z1=>
 sh (M.n3 (M.ul z3) (M.ul z0) (M.ul z1)%M.aX) fun z2=>
 some {bO:=([M.U (M.ul z3),M.U (M.ul z0),M.U (M.ul z1),M.ul z1≠0,[M.ul z3,M.ul z0,M.ul z1,M.uh z1,0,0,0,0]=[M.ul z3,M.ul z0,M.ul z1,0,0,0,0,0],M.nl [M.ul z3,M.ul z0,M.ul z1,M.uh z1]=3,[M.ul z3,M.ul z0,M.ul z1,M.uh z1,0,0,0,0]=[M.ul z3,M.ul z0,M.ul z1,M.uh z1,0,0,0,0],M.U x2,M.U y0,M.U (M.uh z0),x2=x2,y0=y0,M.uh z0=M.uh z0,M.U x1,M.U y0,M.U (M.uh z3),x1=x1,y0=y0,M.uh z3=M.uh z3,M.U x0,M.U y0,M.U 0,x0=x0,y0=y0,(0 :Int)=0,(y0==0)=false]:List Prop),val:=.ptr 100 true 0,new:=[.own [.bool true false,.aG 101 false 0 (M.ln z2) 8] 102,.own [.int false .u64 (M.w0 z2),.int false .u64 (M.w1 z2),.int false .u64 (M.w2 z2),.int false .u64 0,.int false .u64 0,.int false .u64 0,.int false .u64 0,.int false .u64 0] 142],wr:=vG}:=by kernel_rfl
theorem VT (ca ct:Nat) (x0 x1 x2 y0:Int) (xs ys:List SV) :
 iJ true 0 4 (.aG 64 true 0 3 ca) (.aG 65 true 0 1 ct) (ww x0 (ww x1 (ww x2 xs))) (ww y0 ys) =
 sh (x0*y0+0) fun z3=>
 sh (x1*y0+M.uh z3) fun z0=>
 sh (x2*y0+M.uh z0) fun z1=>
 sh (M.n4 (M.ul z3) (M.ul z0) (M.ul z1) (M.uh z1)%M.aX) fun z2=>
 some {bO:=([M.U (M.ul z3),M.U (M.ul z0),M.U (M.ul z1),M.U (M.uh z1),M.uh z1≠0,[M.ul z3,M.ul z0,M.ul z1,M.uh z1,0,0,0,0]=[M.ul z3,M.ul z0,M.ul z1,M.uh z1,0,0,0,0],M.nl [M.ul z3,M.ul z0,M.ul z1,M.uh z1]=4,[M.ul z3,M.ul z0,M.ul z1,M.uh z1,0,0,0,0]=[M.ul z3,M.ul z0,M.ul z1,M.uh z1,0,0,0,0],M.U x2,M.U y0,M.U (M.uh z0),x2=x2,y0=y0,M.uh z0=M.uh z0,M.U x1,M.U y0,M.U (M.uh z3),x1=x1,y0=y0,M.uh z3=M.uh z3,M.U x0,M.U y0,M.U 0,x0=x0,y0=y0,(0 :Int)=0,(y0==0)=false]:List Prop),val:=.ptr 100 true 0,new:=[.own [.bool true false,.aG 101 false 0 (M.ln z2) 8] 102,.own [.int false .u64 (M.w0 z2),.int false .u64 (M.w1 z2),.int false .u64 (M.w2 z2),.int false .u64 0,.int false .u64 0,.int false .u64 0,.int false .u64 0,.int false .u64 0] 142],wr:=vG}:=by kernel_rfl
theorem VS (ca ct:Nat) (x0 x1 x2 y0 y1:Int) (xs ys:List SV) :
 iJ true 0 4 (.aG 64 true 0 3 ca) (.aG 65 true 0 2 ct) (ww x0 (ww x1 (ww x2 xs))) (ww y0 (ww y1 ys)) =
 sh (M.r1 x0 x1 x2 y0 y1) fun z7=>
 sh (M.r2 x0 x1 x2 y0 y1) fun z8=>
 sh (M.n4 (M.q0 x0 y0) (M.r0 x0 x1 y0 y1) z7 z8%M.aX) fun z0=>
 sh (x2*y1+M.k2 x0 x1 x2 y0) fun z1=>
 sh (x1*y1+M.q2 x0 x1 x2 y0) fun z2=>
 sh (x0*y1+M.q1 x0 x1 y0) fun z3=>
 sh (x2*y0+0) fun z4=>
 sh (x1*y0+0) fun z5=>
 sh (x0*y0+0) fun z6=>
 some {bO:=([M.U (M.q0 x0 y0),M.U (M.r0 x0 x1 y0 y1),M.U z7,M.U z8,M.r2 x0 x1 x2 y0 y1≠0,[M.q0 x0 y0,M.r0 x0 x1 y0 y1,M.r1 x0 x1 x2 y0 y1,M.r2 x0 x1 x2 y0 y1,M.NJ x0 x1 x2 y0 y1,0,0,0,0]=[M.q0 x0 y0,M.r0 x0 x1 y0 y1,M.r1 x0 x1 x2 y0 y1,M.r2 x0 x1 x2 y0 y1,0,0,0,0,0],M.nl [M.q0 x0 y0,M.r0 x0 x1 y0 y1,M.r1 x0 x1 x2 y0 y1,M.r2 x0 x1 x2 y0 y1,M.NJ x0 x1 x2 y0 y1]=4,[M.q0 x0 y0,M.r0 x0 x1 y0 y1,M.r1 x0 x1 x2 y0 y1,M.r2 x0 x1 x2 y0 y1,M.NJ x0 x1 x2 y0 y1,0,0,0,0]=[M.q0 x0 y0,M.r0 x0 x1 y0 y1,M.r1 x0 x1 x2 y0 y1,M.r2 x0 x1 x2 y0 y1,M.NJ x0 x1 x2 y0 y1,0,0,0,0],M.U (M.ul z1),M.U (M.YN x0 x1 x2 y0 y1),M.K 0,M.ul z1=M.ul z1,M.YN x0 x1 x2 y0 y1=M.YN x0 x1 x2 y0 y1,(0 :Int)=0,M.U x2,M.U y1,M.U (M.k2 x0 x1 x2 y0),x2=x2,y1=y1,M.k2 x0 x1 x2 y0=M.k2 x0 x1 x2 y0,M.U (M.ul z2),M.U (M.Fe x0 x1 y0 y1),M.K 0,M.ul z2=M.ul z2,M.Fe x0 x1 y0 y1=M.Fe x0 x1 y0 y1,(0 :Int)=0,M.U x1,M.U y1,M.U (M.q2 x0 x1 x2 y0),x1=x1,y1=y1,M.q2 x0 x1 x2 y0=M.q2 x0 x1 x2 y0,M.U (M.ul z3),M.U 0,M.K 0,M.ul z3=M.ul z3,(0 :Int)=0,(0 :Int)=0,M.U x0,M.U y1,M.U (M.q1 x0 x1 y0),x0=x0,y1=y1,M.q1 x0 x1 y0=M.q1 x0 x1 y0,(y1 != 0)=true,M.U (M.ul z4),M.U (M.k1 x0 x1 y0),M.K 0,M.ul z4=M.ul z4,M.k1 x0 x1 y0=M.k1 x0 x1 y0,(0 :Int)=0,M.U x2,M.U y0,M.U 0,x2=x2,y0=y0,(0 :Int)=0,M.U (M.ul z5),M.U (M.k0 x0 y0),M.K 0,M.ul z5=M.ul z5,M.k0 x0 y0=M.k0 x0 y0,(0 :Int)=0,M.U x1,M.U y0,M.U 0,x1=x1,y0=y0,(0 :Int)=0,M.U (M.ul z6),M.U 0,M.K 0,M.ul z6=M.ul z6,(0 :Int)=0,(0 :Int)=0,M.U x0,M.U y0,M.U 0,x0=x0,y0=y0,(0 :Int)=0,(y0 != 0)=true]:List Prop),val:=.ptr 100 true 0,new:=[.own [.bool true false,.aG 101 false 0 (M.ln z0) 9] 102,.own [.int false .u64 (M.w0 z0),.int false .u64 (M.w1 z0),.int false .u64 (M.w2 z0),.int false .u64 0,.int false .u64 0,.int false .u64 0,.int false .u64 0,.int false .u64 0,.int false .u64 0] 142],wr:=vG}:=by kernel_rfl
theorem HX (ca ct:Nat) (x0 x1 x2 y0 y1:Int) (xs ys:List SV) :
 iJ false 0 4 (.aG 64 true 0 3 ca) (.aG 65 true 0 2 ct) (ww x0 (ww x1 (ww x2 xs))) (ww y0 (ww y1 ys)) =
 sh (M.n4 0 (M.q0 x0 y1) (M.q1 x0 x1 y1) (M.q2 x0 x1 x2 y1)%M.aX) fun z0=>
 sh (x2*y1+0) fun z1=>
 sh (x1*y1+0) fun z2=>
 sh (x0*y1+0) fun z3=>
 some {bO:=([M.U 0,M.U (M.q0 x0 y1),M.U (M.q1 x0 x1 y1),M.U (M.q2 x0 x1 x2 y1),M.q2 x0 x1 x2 y1≠0,[0,M.q0 x0 y1,M.q1 x0 x1 y1,M.q2 x0 x1 x2 y1,M.k2 x0 x1 x2 y1,0,0,0,0]=[0,M.q0 x0 y1,M.q1 x0 x1 y1,M.q2 x0 x1 x2 y1,0,0,0,0,0],M.nl [0,M.q0 x0 y1,M.q1 x0 x1 y1,M.q2 x0 x1 x2 y1,M.k2 x0 x1 x2 y1]=4,[0,M.q0 x0 y1,M.q1 x0 x1 y1,M.q2 x0 x1 x2 y1,M.k2 x0 x1 x2 y1,0,0,0,0]=[0,M.q0 x0 y1,M.q1 x0 x1 y1,M.q2 x0 x1 x2 y1,M.k2 x0 x1 x2 y1,0,0,0,0],M.U (M.ul z1),M.U (M.k1 x0 x1 y1),M.K 0,M.ul z1=M.ul z1,M.k1 x0 x1 y1=M.k1 x0 x1 y1,(0 :Int)=0,M.U x2,M.U y1,M.U 0,x2=x2,y1=y1,(0 :Int)=0,M.U (M.ul z2),M.U (M.k0 x0 y1),M.K 0,M.ul z2=M.ul z2,M.k0 x0 y1=M.k0 x0 y1,(0 :Int)=0,M.U x1,M.U y1,M.U 0,x1=x1,y1=y1,(0 :Int)=0,M.U (M.ul z3),M.U 0,M.K 0,M.ul z3=M.ul z3,(0 :Int)=0,(0 :Int)=0,M.U x0,M.U y1,M.U 0,x0=x0,y1=y1,(0 :Int)=0,(y1 != 0)=true,(y0 != 0)=false]:List Prop),val:=.ptr 100 true 0,new:=[.own [.bool true false,.aG 101 false 0 (M.ln z0) 9] 102,.own [.int false .u64 (M.w0 z0),.int false .u64 (M.w1 z0),.int false .u64 (M.w2 z0),.int false .u64 0,.int false .u64 0,.int false .u64 0,.int false .u64 0,.int false .u64 0,.int false .u64 0] 142],wr:=vG}:=by kernel_rfl
def rB (R:Int) (cap:Nat):List SB:=[.own [.bool true false,.aG 101 false 0 (M.ln R) cap] 102,.own (wc (M.w0 R::M.w1 R::M.w2 R::List.replicate (cap-3) 0)) 142]
def lP (X Y:SV) (ys:List SV):List (Nat × SB):=vG++[(61,.own [.bool true false,X] 102),(63,.own [.bool true false,Y] 102),(65,.own ys 142)]
namespace M
theorem nl3 (a b c:Int):(nl [a,b,c]=0/\a=0/\b=0/\c=0)\/(nl [a,b,c]=1/\a≠0/\b=0/\c=0)\/(nl [a,b,c]=2/\b≠0/\c=0)\/(nl [a,b,c]=3/\c≠0):=by
 by_cases hc:c=0
 .by_cases hb:b=0
  .by_cases ha:a=0
   .left;exact ⟨by simp only [nl,hc,hb,ha,if_true],ha,hb,hc⟩
   .right;left;exact ⟨by simp only [nl,hc,hb,if_true,if_neg ha],ha,hb,hc⟩
  .right;right;left;exact ⟨by simp only [nl,hc,if_true,if_neg hb],hb,hc⟩
 .right;right;right;exact ⟨by simp only [nl,if_neg hc],hc⟩
theorem NL (a b:Int):(nl [a,b]=0/\a=0/\b=0)\/(nl [a,b]=1/\a≠0/\b=0)\/(nl [a,b]=2/\b≠0):=by
 by_cases hb:b=0
 .by_cases ha:a=0
  .left;exact ⟨by simp only [nl,hb,ha,if_true],ha,hb⟩
  .right;left;exact ⟨by simp only [nl,hb,if_true,if_neg ha],ha,hb⟩
 .right;right;exact ⟨by simp only [nl,if_neg hb],hb⟩
theorem lV {p z c:Int} (NO:0<=p) (hp:p<=340282366920938463426481119284349108225) (hz:U z) (hc:U c):az p z c+18446744073709551616*ac p z c=p+z+c/\U (az p z c)/\U (ac p z c):=by
 have:=hz.1;have:=hz.2;have:=hc.1;have:=hc.2
 unfold az ac
 rw [bN]
 unfold U ul uh
 omega
end M
theorem sA {f:FuncId} {n m ca cb:Nat} {b:Bool} {xs ys:List SV} {e:bK} (h:aE Tryz.prog Γv f iR (fun l=>look l (rE (.aG 64 true 0 n ca) (.aG 65 true 0 m cb) xs ys)) 100 100 e):aE Tryz.prog Γv f iR (fun l=>look l (rE (.aG 64 false 0 n ca) (.aG 65 b 0 m cb) xs ys)) 100 100 e:=
 aE.reL (L:=rE (.aG 64 true 0 n ca) (.aG 65 true 0 m cb) xs ys) (L':=rE (.aG 64 false 0 n ca) (.aG 65 b 0 m cb) xs ys) h ⟨rfl,⟨rfl,fun _=>rfl⟩,rfl,bW _,rfl,⟨rfl,fun _=>rfl⟩,rfl,bW _,rfl,bW _,rfl,bW _,rfl,bW _,rfl,bW _,trivial⟩ (fun _=>rfl)
theorem jB {Γ:Env} {f:FuncId} {n m ca cb:Nat} {b:Bool} {xs ys:List SV} {ob:List Prop} {N N':List SB} (h:aE Tryz.prog Γ f iR (fun l=>look l (rE (.aG 64 true 0 n ca) (.aG 65 true 0 m cb) xs ys)) 100 100 { bO:=ob,val:=.ptr 100 true 0,new:=N,wr:=vG }) (hg:Γv.aR=Γ.aR) (hn:vR N N') :
 aE Tryz.prog Γv f iR (fun l=>look l (rE (.aG 64 false 0 n ca) (.aG 65 b 0 m cb) xs ys)) 100 100 { val:=.ptr 100 true 0,new:=N',wr:=lP (.aG 64 false 0 n ca) (.aG 65 b 0 m cb) ys }:=
 sA ((((h.bC 61 _ rfl (by decide)).bC 63 _ rfl (by decide)).bC 65 _ rfl (by decide)).re hg (fun _=>rfl) hn ⟨rfl,⟨rfl,fun _=>rfl⟩,rfl,⟨rfl,fun _=>rfl⟩,rfl,⟨rfl,fun _=>rfl⟩,rfl,⟨rfl,fun _=>rfl⟩,rfl,⟨rfl,fun _=>rfl⟩,trivial⟩)
open M in
theorem IA (xs ys:List SV) {y0 y1 y2:Int} (eU:U y0) (gJ:U y1) (Di:y2=1):aE Tryz.prog Γv 63 iR (fun l=>look l (rE (.raw (.slice none 0 0)) (.aG 65 true 0 3 7) xs (ww y0 (ww y1 (ww y2 ys))))) 100 100
 { val:=.ptr 100 true 0,new:=rB ((0+n3 y0 y1 y2)%aX) 7,wr:=lP (.raw (.slice none 0 0)) (.aG 65 true 0 3 7) (ww y0 (ww y1 (ww y2 ys))) }:=by
 have hs:aF Tryz.prog (env (xO []) 22) 63 (aJ (env (xO []) 22) Tryz.f63 true [] 400):=aM (bL _ 22) (bS _ (tQ []) 22) mix Tryz.func63 (by kernel_rfl) true [] 400
 have hU:U y2:=by unfold U;omega
 have hz:y2≠0:=by omega
 rw [Int.zero_add]
 exact (((((hs.call (aTv xs y0 y1 y2 ys) (aB (by simp only [sh,bZ,eU,gJ,hU,and_true,true_and];exact hz))).bC 61 _ rfl (by decide)).bC 63 _ rfl (by decide)).bC 65 _ rfl (by decide)).re rfl (fun _=>rfl) ⟨⟨rfl,fun _=>rfl⟩,⟨rfl,fun _=>rfl⟩,trivial⟩ ⟨rfl,⟨rfl,fun _=>rfl⟩,rfl,⟨rfl,fun _=>rfl⟩,rfl,⟨rfl,fun _=>rfl⟩,rfl,⟨rfl,fun _=>rfl⟩,rfl,⟨rfl,fun _=>rfl⟩,trivial⟩)
open M in
theorem IE (ca:Nat) (xs ys:List SV) {y0 y1 y2:Int} (eU:U y0) (gJ:U y1) (Di:y2=1):aE Tryz.prog Γv 63 iR (fun l=>look l (rE (.aG 64 false 0 0 ca) (.aG 65 true 0 3 7) xs (ww y0 (ww y1 (ww y2 ys))))) 100 100
 { val:=.ptr 100 true 0,new:=rB ((0+n3 y0 y1 y2)%aX) 7,wr:=lP (.aG 64 false 0 0 ca) (.aG 65 true 0 3 7) (ww y0 (ww y1 (ww y2 ys))) }:=by
 have hs:∀ h,aF Tryz.prog (env (xO h) 22) 63 (aJ (env (xO h) 22) Tryz.f63 true [] 400):=fun h=>aM (bL _ 22) (bS _ (tQ h) 22) mix Tryz.func63 (by kernel_rfl) true [] 400
 have hU:U y2:=by unfold U;omega
 have hz:(y2≠0)=True:=eq_true (by omega)
 have hW:0+n3 y0 y1 y2=n3 y0 y1 y2:=Int.zero_add _
 rw [hW]
 exact jB ((hs _).call (aTz ca xs y0 y1 y2 ys) (aB (by simp only [sh,bZ,eU,gJ,hU,hz,and_true,true_and]))) rfl ⟨⟨rfl,fun _=>rfl⟩,⟨rfl,fun _=>rfl⟩,trivial⟩
open M in
theorem ID {ca:Nat} (kA:ca=6\/ca=7\/ca=8\/ca=9) (xs ys:List SV) {x0 y0 y1 y2:Int} (fU:U x0) (hN:x0<aX) (eU:U y0) (gJ:U y1) (Di:y2=1):aE Tryz.prog Γv 63 iR (fun l=>look l (rE (.aG 64 false 0 1 ca) (.aG 65 true 0 3 7) (ww x0 xs) (ww y0 (ww y1 (ww y2 ys))))) 100 100
 { val:=.ptr 100 true 0,new:=rB ((x0+n3 y0 y1 y2)%aX) 8,wr:=lP (.aG 64 false 0 1 ca) (.aG 65 true 0 3 7) (ww y0 (ww y1 (ww y2 ys))) }:=by
 have hs:∀ h,aF Tryz.prog (env (xO h) 22) 63 (aJ (env (xO h) 22) Tryz.f63 true [] 400):=fun h=>aM (bL _ 22) (bS _ (tQ h) 22) mix Tryz.func63 (by kernel_rfl) true [] 400
 have hU:U y2:=by unfold U;omega
 have:=fU.1;have:=fU.2;have:=eU.1;have:=eU.2;have:=gJ.1;have:=gJ.2
 have Zp:x0<1361129467683753853853498429727072845819:=hN
 skip
 have ec0:c0 y0 x0=(y0+x0)/18446744073709551616:=by unfold c0 uh;omega
 by_cases Ck:(uh (y1+c0 y0 x0+0)==0)=true
 .have h1:uh (y1+c0 y0 x0+0)=0:=by simpa using Ck
  have h1:y1+c0 y0 x0<18446744073709551616:=by unfold uh at h1;omega
  have u0:U (g0 y0 x0):=by exact dH _
  have u1:U (ul (y1+c0 y0 x0+0)):=by exact dH _
  have u2:U (y2):=by exact hU
  have hW:n3 (g0 y0 x0) (ul (y1+c0 y0 x0+0)) (y2)=x0+n3 y0 y1 y2:=by unfold n3 g0;unfold ul;omega
  have hz:(y2≠0)=True:=eq_true (by intro e;rw [e] at hW;have:=u0.2;have:=u1.2;unfold n3 at hW;omega)
  have hn:nl [g0 y0 x0,ul (y1+c0 y0 x0+0),y2,0]=3:=by rw [nl4];simp only [nl,if_neg (of_eq_true hz)]
  have kc0:K (c0 y0 x0):=by unfold K;omega
  have vc0:U (c0 y0 x0):=by unfold U;omega
  rw [<- hW]
  exact jB ((hs _).call (aTy kA x0 xs y0 y1 y2 ys) (aB (by simp only [sh,bZ,fU,eU,gJ,hU,u0,u1,u2,hz,hn,K0,kc0,vc0,Ck,and_true,true_and]))) rfl ⟨⟨rfl,fun _=>rfl⟩,⟨rfl,fun _=>rfl⟩,trivial⟩
 .have Ck:(uh (y1+c0 y0 x0+0)==0)=false:=by simpa using Ck
  have hm:(y2 != 18446744073709551615)=true:=by rw [Di];decide
  have h1:uh (y1+c0 y0 x0+0)≠0:=by simpa using Ck
  have h1:y1+c0 y0 x0=18446744073709551616:=by unfold uh at h1;omega
  have u0:U (g0 y0 x0):=by exact dH _
  have u1:U (ul (y1+c0 y0 x0+0)):=by exact dH _
  have u2:U (IntKind.u64.wrap (y2+1)):=by rw [bN];exact dH _
  have hW:n3 (g0 y0 x0) (ul (y1+c0 y0 x0+0)) (IntKind.u64.wrap (y2+1))=x0+n3 y0 y1 y2:=by unfold n3 g0;rw [bN];unfold ul;omega
  have hz:(IntKind.u64.wrap (y2+1)≠0)=True:=eq_true (by intro e;rw [e] at hW;have:=u0.2;have:=u1.2;unfold n3 at hW;omega)
  have hn:nl [g0 y0 x0,ul (y1+c0 y0 x0+0),IntKind.u64.wrap (y2+1),0]=3:=by rw [nl4];simp only [nl,if_neg (of_eq_true hz)]
  have kc0:K (c0 y0 x0):=by unfold K;omega
  have vc0:U (c0 y0 x0):=by unfold U;omega
  rw [<- hW]
  exact jB ((hs _).call (aOt kA x0 xs y0 y1 y2 ys) (aB (by simp only [sh,bZ,fU,eU,gJ,hU,u0,u1,u2,hz,hn,K0,kc0,vc0,Ck,hm,and_true,true_and]))) rfl ⟨⟨rfl,fun _=>rfl⟩,⟨rfl,fun _=>rfl⟩,trivial⟩
open M in
theorem IC {ca:Nat} (kA:ca=6\/ca=7\/ca=8\/ca=9) (xs ys:List SV) {x0 x1 y0 y1 y2:Int} (fU:U x0) (fO:U x1) (hN:(x0+18446744073709551616*x1)<aX) (eU:U y0) (gJ:U y1) (Di:y2=1):aE Tryz.prog Γv 63 iR (fun l=>look l (rE (.aG 64 false 0 2 ca) (.aG 65 true 0 3 7) (ww x0 (ww x1 xs)) (ww y0 (ww y1 (ww y2 ys))))) 100 100
 { val:=.ptr 100 true 0,new:=rB (((x0+18446744073709551616*x1)+n3 y0 y1 y2)%aX) 8,wr:=lP (.aG 64 false 0 2 ca) (.aG 65 true 0 3 7) (ww y0 (ww y1 (ww y2 ys))) }:=by
 have hs:∀ h,aF Tryz.prog (env (xO h) 22) 63 (aJ (env (xO h) 22) Tryz.f63 true [] 400):=fun h=>aM (bL _ 22) (bS _ (tQ h) 22) mix Tryz.func63 (by kernel_rfl) true [] 400
 have hU:U y2:=by unfold U;omega
 have:=fU.1;have:=fU.2;have:=fO.1;have:=fO.2;have:=eU.1;have:=eU.2;have:=gJ.1;have:=gJ.2
 have Zp:(x0+18446744073709551616*x1)<1361129467683753853853498429727072845819:=hN
 skip
 have ec0:c0 y0 x0=(y0+x0)/18446744073709551616:=by unfold c0 uh;omega
 have ec1:c1 y0 y1 x0 x1=(y1+x1+c0 y0 x0)/18446744073709551616:=by unfold c1 uh;omega
 have Ck:(uh (y2+c1 y0 y1 x0 x1+0)==0)=true:=by rw [Di];simp only [beq_iff_eq];unfold uh;omega
 have u0:U (g0 y0 x0):=by exact dH _
 have u1:U (g1 y0 y1 x0 x1):=by exact dH _
 have u2:U (ul (y2+c1 y0 y1 x0 x1+0)):=by exact dH _
 have hW:n3 (g0 y0 x0) (g1 y0 y1 x0 x1) (ul (y2+c1 y0 y1 x0 x1+0))=(x0+18446744073709551616*x1)+n3 y0 y1 y2:=by unfold n3 g0 g1;unfold ul;omega
 have hz:(ul (y2+c1 y0 y1 x0 x1+0)≠0)=True:=eq_true (by intro e;rw [e] at hW;have:=u0.2;have:=u1.2;unfold n3 at hW;omega)
 have hn:nl [g0 y0 x0,g1 y0 y1 x0 x1,ul (y2+c1 y0 y1 x0 x1+0),0]=3:=by rw [nl4];simp only [nl,if_neg (of_eq_true hz)]
 have kc0:K (c0 y0 x0):=by unfold K;omega
 have vc0:U (c0 y0 x0):=by unfold U;omega
 have kc1:K (c1 y0 y1 x0 x1):=by unfold K;omega
 have vc1:U (c1 y0 y1 x0 x1):=by unfold U;omega
 rw [<- hW]
 exact jB ((hs _).call (aTx kA x0 x1 xs y0 y1 y2 ys) (aB (by simp only [sh,bZ,fU,fO,eU,gJ,hU,u0,u1,u2,hz,hn,K0,kc0,kc1,vc0,vc1,Ck,and_true,true_and]))) rfl ⟨⟨rfl,fun _=>rfl⟩,⟨rfl,fun _=>rfl⟩,trivial⟩
open M in
theorem IB {ca:Nat} (kA:ca=6\/ca=7\/ca=8\/ca=9) (xs ys:List SV) {x0 x1 x2 y0 y1 y2:Int} (fU:U x0) (fO:U x1) (mJ:U x2) (hN:n3 x0 x1 x2<aX) (eU:U y0) (gJ:U y1) (Di:y2=1):aE Tryz.prog Γv 63 iR (fun l=>look l (rE (.aG 64 false 0 3 ca) (.aG 65 true 0 3 7) (ww x0 (ww x1 (ww x2 xs))) (ww y0 (ww y1 (ww y2 ys))))) 100 100
 { val:=.ptr 100 true 0,new:=rB ((n3 x0 x1 x2+n3 y0 y1 y2)%aX) 8,wr:=lP (.aG 64 false 0 3 ca) (.aG 65 true 0 3 7) (ww y0 (ww y1 (ww y2 ys))) }:=by
 have hs:∀ h,aF Tryz.prog (env (xO h) 22) 63 (aJ (env (xO h) 22) Tryz.f63 true [] 400):=fun h=>aM (bL _ 22) (bS _ (tQ h) 22) mix Tryz.func63 (by kernel_rfl) true [] 400
 have hU:U y2:=by unfold U;omega
 have:=fU.1;have:=fU.2;have:=fO.1;have:=fO.2;have:=mJ.1;have:=mJ.2;have:=eU.1;have:=eU.2;have:=gJ.1;have:=gJ.2
 have Zp:n3 x0 x1 x2<1361129467683753853853498429727072845819:=hN
 unfold n3 at Zp
 have ec0:c0 x0 y0=(x0+y0)/18446744073709551616:=by unfold c0 uh;omega
 have ec1:c1 x0 x1 y0 y1=(x1+y1+c0 x0 y0)/18446744073709551616:=by unfold c1 uh;omega
 have ec2:c2 x0 x1 x2 y0 y1 y2=(x2+y2+c1 x0 x1 y0 y1)/18446744073709551616:=by unfold c2 uh;omega
 have Ck:c2 x0 x1 x2 y0 y1 y2=0:=by omega
 have u0:U (g0 x0 y0):=by exact dH _
 have u1:U (g1 x0 x1 y0 y1):=by exact dH _
 have u2:U (g2 x0 x1 x2 y0 y1 y2):=by exact dH _
 have hW:n3 (g0 x0 y0) (g1 x0 x1 y0 y1) (g2 x0 x1 x2 y0 y1 y2)=n3 x0 x1 x2+n3 y0 y1 y2:=by unfold n3 g0 g1 g2;unfold ul;omega
 have hz:(g2 x0 x1 x2 y0 y1 y2≠0)=True:=eq_true (by intro e;rw [e] at hW;have:=u0.2;have:=u1.2;unfold n3 at hW;omega)
 have hn:nl [g0 x0 y0,g1 x0 x1 y0 y1,g2 x0 x1 x2 y0 y1 y2,0]=3:=by rw [nl4];simp only [nl,if_neg (of_eq_true hz)]
 have kc0:K (c0 x0 y0):=by unfold K;omega
 have vc0:U (c0 x0 y0):=by unfold U;omega
 have kc1:K (c1 x0 x1 y0 y1):=by unfold K;omega
 have vc1:U (c1 x0 x1 y0 y1):=by unfold U;omega
 rw [<- hW]
 exact jB ((hs _).call (aTw kA x0 x1 x2 xs y0 y1 y2 ys) (aB (by simp only [sh,bZ,fU,fO,mJ,eU,gJ,hU,u0,u1,u2,hz,hn,K0,kc0,kc1,vc0,vc1,Ck,and_true,true_and]))) rfl ⟨⟨rfl,fun _=>rfl⟩,⟨rfl,fun _=>rfl⟩,trivial⟩
def nB:List SB:=[.own [.bool true false,.raw (.slice none 0 0)] 102]
theorem nH (h:Bool) (iq ir:Nat):aF Tryz.prog (env (PU h iq ir) 22) 65 (aJ (env (PU h iq ir) 22) Tryz.f65 true [] 400):=aM (bL _ 22) (bS _ (XC h iq ir) 22) mix Tryz.func65 (by kernel_rfl) true [] 400
theorem Xg (ca ct:Nat) (xs ys:List SV):aE Tryz.prog Γv 65 iR (fun l=>look l (rE (.aG 64 false 0 0 ca) (.aG 65 false 0 0 ct) xs ys)) 100 100
 { val:=.ptr 100 true 0,new:=nB,wr:=lP (.aG 64 false 0 0 ca) (.aG 65 false 0 0 ct) ys }:=
 sA ((((((nH true 0 0).call (WJ ca ct  xs ys) (by simp)).bC 61 _ rfl (by decide)).bC 63 _ rfl (by decide)).bC 65 _ rfl (by decide)).re rfl (fun _=>rfl) ⟨⟨rfl,fun _=>rfl⟩,trivial⟩ ⟨rfl,⟨rfl,fun _=>rfl⟩,rfl,⟨rfl,fun _=>rfl⟩,rfl,⟨rfl,fun _=>rfl⟩,rfl,⟨rfl,fun _=>rfl⟩,rfl,⟨rfl,fun _=>rfl⟩,trivial⟩)
theorem Xf (ca ct:Nat) (y0:Int) (xs ys:List SV):aE Tryz.prog Γv 65 iR (fun l=>look l (rE (.aG 64 false 0 0 ca) (.aG 65 false 0 1 ct) xs (ww y0 ys))) 100 100
 { val:=.ptr 100 true 0,new:=nB,wr:=lP (.aG 64 false 0 0 ca) (.aG 65 false 0 1 ct) (ww y0 ys) }:=
 sA ((((((nH true 0 0).call (WI ca ct y0 xs ys) (by simp)).bC 61 _ rfl (by decide)).bC 63 _ rfl (by decide)).bC 65 _ rfl (by decide)).re rfl (fun _=>rfl) ⟨⟨rfl,fun _=>rfl⟩,trivial⟩ ⟨rfl,⟨rfl,fun _=>rfl⟩,rfl,⟨rfl,fun _=>rfl⟩,rfl,⟨rfl,fun _=>rfl⟩,rfl,⟨rfl,fun _=>rfl⟩,rfl,⟨rfl,fun _=>rfl⟩,trivial⟩)
theorem Xe (ca ct:Nat) (y0 y1:Int) (xs ys:List SV):aE Tryz.prog Γv 65 iR (fun l=>look l (rE (.aG 64 false 0 0 ca) (.aG 65 false 0 2 ct) xs (ww y0 (ww y1 ys)))) 100 100
 { val:=.ptr 100 true 0,new:=nB,wr:=lP (.aG 64 false 0 0 ca) (.aG 65 false 0 2 ct) (ww y0 (ww y1 ys)) }:=
 sA ((((((nH true 0 0).call (WH ca ct y0 y1 xs ys) (by simp)).bC 61 _ rfl (by decide)).bC 63 _ rfl (by decide)).bC 65 _ rfl (by decide)).re rfl (fun _=>rfl) ⟨⟨rfl,fun _=>rfl⟩,trivial⟩ ⟨rfl,⟨rfl,fun _=>rfl⟩,rfl,⟨rfl,fun _=>rfl⟩,rfl,⟨rfl,fun _=>rfl⟩,rfl,⟨rfl,fun _=>rfl⟩,rfl,⟨rfl,fun _=>rfl⟩,trivial⟩)
theorem Xd (ca ct:Nat) (x0:Int) (xs ys:List SV):aE Tryz.prog Γv 65 iR (fun l=>look l (rE (.aG 64 false 0 1 ca) (.aG 65 false 0 0 ct) (ww x0 xs) ys)) 100 100
 { val:=.ptr 100 true 0,new:=nB,wr:=lP (.aG 64 false 0 1 ca) (.aG 65 false 0 0 ct) ys }:=
 sA ((((((nH true 0 0).call (WG ca ct x0 xs ys) (by simp)).bC 61 _ rfl (by decide)).bC 63 _ rfl (by decide)).bC 65 _ rfl (by decide)).re rfl (fun _=>rfl) ⟨⟨rfl,fun _=>rfl⟩,trivial⟩ ⟨rfl,⟨rfl,fun _=>rfl⟩,rfl,⟨rfl,fun _=>rfl⟩,rfl,⟨rfl,fun _=>rfl⟩,rfl,⟨rfl,fun _=>rfl⟩,rfl,⟨rfl,fun _=>rfl⟩,trivial⟩)
theorem Xa (ca ct:Nat) (x0 x1:Int) (xs ys:List SV):aE Tryz.prog Γv 65 iR (fun l=>look l (rE (.aG 64 false 0 2 ca) (.aG 65 false 0 0 ct) (ww x0 (ww x1 xs)) ys)) 100 100
 { val:=.ptr 100 true 0,new:=nB,wr:=lP (.aG 64 false 0 2 ca) (.aG 65 false 0 0 ct) ys }:=
 sA ((((((nH true 0 0).call (WA ca ct x0 x1 xs ys) (by simp)).bC 61 _ rfl (by decide)).bC 63 _ rfl (by decide)).bC 65 _ rfl (by decide)).re rfl (fun _=>rfl) ⟨⟨rfl,fun _=>rfl⟩,trivial⟩ ⟨rfl,⟨rfl,fun _=>rfl⟩,rfl,⟨rfl,fun _=>rfl⟩,rfl,⟨rfl,fun _=>rfl⟩,rfl,⟨rfl,fun _=>rfl⟩,rfl,⟨rfl,fun _=>rfl⟩,trivial⟩)
theorem Wx (ca ct:Nat) (x0 x1 x2:Int) (xs ys:List SV):aE Tryz.prog Γv 65 iR (fun l=>look l (rE (.aG 64 false 0 3 ca) (.aG 65 false 0 0 ct) (ww x0 (ww x1 (ww x2 xs))) ys)) 100 100
 { val:=.ptr 100 true 0,new:=nB,wr:=lP (.aG 64 false 0 3 ca) (.aG 65 false 0 0 ct) ys }:=
 sA ((((((nH true 0 0).call (VV ca ct x0 x1 x2 xs ys) (by simp)).bC 61 _ rfl (by decide)).bC 63 _ rfl (by decide)).bC 65 _ rfl (by decide)).re rfl (fun _=>rfl) ⟨⟨rfl,fun _=>rfl⟩,trivial⟩ ⟨rfl,⟨rfl,fun _=>rfl⟩,rfl,⟨rfl,fun _=>rfl⟩,rfl,⟨rfl,fun _=>rfl⟩,rfl,⟨rfl,fun _=>rfl⟩,rfl,⟨rfl,fun _=>rfl⟩,trivial⟩)
open M in
set_option maxHeartbeats 1000000 in
theorem Xc (ca ct:Nat) (xs ys:List SV) {x0 y0:Int} (fU:U x0) (eU:U y0) (hzx:x0≠0) (Yr:y0≠0) (hN:x0<aX) (hT:y0<21267647932558653966460912964485513216):aE Tryz.prog Γv 65 iR (fun l=>look l (rE (.aG 64 false 0 1 ca) (.aG 65 false 0 1 ct) (ww x0 xs) (ww y0 ys))) 100 100
 { val:=.ptr 100 true 0,new:=rB ((x0*y0)%aX) 6,wr:=lP (.aG 64 false 0 1 ca) (.aG 65 false 0 1 ct) (ww y0 ys) }:=by
 have:=fU.1;have:=fU.2;have:=eU.1;have:=eU.2
 have Zp:x0<1361129467683753853853498429727072845819:=hN
 have zL:1<=x0:=by omega
 have zK:1<=y0:=by omega
 have nF:1<=x0*y0:=Int.le_trans (by decide) (Int.mul_le_mul zL zK (by decide) (by omega))
 have Ml:x0*y0<=1361129467683753853853498429727072845818*21267647932558653966460912964485513215:=Int.mul_le_mul (by omega) (by omega) (by omega) (by decide)
 have hE:x0*y0=x0*y0:=by grind
 have q0:=lU (x0*y0+0)
 have m0:=eA fU eU
 have Ia:U (uh (x0*y0+0)):=zB fU eU U0
 have ul0:U (ul (x0*y0+0)):=dH _
 have hb:(y0==0)=false:=by simpa using Yr
 have hS:ul (x0*y0+0)+18446744073709551616*uh (x0*y0+0)=x0*y0:=by
  rw [hE]
  skip
  generalize x0*y0=z0 at *
  omega
 have Mh:U (ul (x0*y0+0))/\U (uh (x0*y0+0)):=by refine ⟨?_,?_⟩ <;> first | exact U0 | assumption | exact dH _
 obtain ⟨yP,yO⟩:=Mh
 have:=yP.1;have:=yP.2;have:=yO.1;have:=yO.2
 by_cases ht:uh (x0*y0+0)=0
 .have hz:(ul (x0*y0+0)≠0)=True:=eq_true (by intro e;rw [e,ht] at hS;clear hE;generalize x0*y0=zz at hS nF Ml;omega)
  have hn:nl [ul (x0*y0+0),0]=1:=(fS [ul (x0*y0+0)]).trans (by simp only [nl,if_neg (of_eq_true hz)])
  rw [ht,Int.mul_zero,Int.add_zero] at hS
  rw [<- hS]
  exact jB ((nH true 1 0).call (WE ca ct x0 y0 xs ys) (aB (by simp only [sh,bZ,fU,eU,U0,K0,dH,Ia,hb,ht,hz,hn,and_true,true_and]))) rfl ⟨⟨rfl,fun _=>rfl⟩,⟨rfl,fun _=>rfl⟩,trivial⟩
 .have hz:(uh (x0*y0+0)≠0)=True:=eq_true ht
  have hn:nl [ul (x0*y0+0),uh (x0*y0+0)]=2:=by simp only [nl,if_neg ht]
  rw [<- hS]
  exact jB ((nH true 2 0).call (WD ca ct x0 y0 xs ys) (aB (by simp only [sh,bZ,fU,eU,U0,K0,dH,Ia,hb,hz,hn,and_true,true_and]))) rfl ⟨⟨rfl,fun _=>rfl⟩,⟨rfl,fun _=>rfl⟩,trivial⟩
open M in
set_option maxHeartbeats 1000000 in
theorem Xb (ca ct:Nat) (xs ys:List SV) {x0 y0 y1:Int} (fU:U x0) (eU:U y0) (gJ:U y1) (hzx:x0≠0) (Yr:y1≠0) (hN:x0<aX) (hT:(y0+18446744073709551616*y1)<21267647932558653966460912964485513216):aE Tryz.prog Γv 65 iR (fun l=>look l (rE (.aG 64 false 0 1 ca) (.aG 65 false 0 2 ct) (ww x0 xs) (ww y0 (ww y1 ys)))) 100 100
 { val:=.ptr 100 true 0,new:=rB ((x0*(y0+18446744073709551616*y1))%aX) 7,wr:=lP (.aG 64 false 0 1 ca) (.aG 65 false 0 2 ct) (ww y0 (ww y1 ys)) }:=by
 have:=fU.1;have:=fU.2;have:=eU.1;have:=eU.2;have:=gJ.1;have:=gJ.2
 have Zp:x0<1361129467683753853853498429727072845819:=hN
 have zL:1<=x0:=by omega
 have zK:18446744073709551616<=(y0+18446744073709551616*y1):=by omega
 have nF:18446744073709551616<=x0*(y0+18446744073709551616*y1):=Int.le_trans (by decide) (Int.mul_le_mul zL zK (by decide) (by omega))
 have Ml:x0*(y0+18446744073709551616*y1)<=1361129467683753853853498429727072845818*21267647932558653966460912964485513215:=Int.mul_le_mul (by omega) (by omega) (by omega) (by decide)
 have hE:x0*(y0+18446744073709551616*y1)=y0*x0+18446744073709551616*(y1*x0):=by grind
 have q0:=lU (y0*x0+0)
 have m0:=eA eU fU
 have Ia:U (uh (y0*x0+0)):=zB eU fU U0
 have ul0:U (ul (y0*x0+0)):=dH _
 have q1:=lU (y1*x0+uh (y0*x0+0))
 have m1:=eA gJ fU
 have NH:U (uh (y1*x0+uh (y0*x0+0))):=zB gJ fU Ia
 have ul1:U (ul (y1*x0+uh (y0*x0+0))):=dH _
 have hb:(x0==0)=false:=by simpa using hzx
 have hS:n3 (ul (y0*x0+0)) (ul (y1*x0+uh (y0*x0+0))) (uh (y1*x0+uh (y0*x0+0)))=x0*(y0+18446744073709551616*y1):=by
  rw [hE]
  unfold n3
  generalize y0*x0=z0 at *
  generalize y1*x0=z1 at *
  omega
 have Mh:U (ul (y0*x0+0))/\U (ul (y1*x0+uh (y0*x0+0)))/\U (uh (y1*x0+uh (y0*x0+0))):=by refine ⟨?_,?_,?_⟩ <;> first | exact U0 | assumption | exact dH _
 obtain ⟨yP,yO,Df⟩:=Mh
 have:=yP.1;have:=yP.2;have:=yO.1;have:=yO.2;have:=Df.1;have:=Df.2
 by_cases ht:uh (y1*x0+uh (y0*x0+0))=0
 .have hz:(ul (y1*x0+uh (y0*x0+0))≠0)=True:=eq_true (by intro e;rw [e,ht] at hS;clear hE;unfold n3 at hS;generalize x0*(y0+18446744073709551616*y1)=zz at hS nF Ml;omega)
  have hn:nl [ul (y0*x0+0),ul (y1*x0+uh (y0*x0+0)),0]=2:=(fS [ul (y0*x0+0),ul (y1*x0+uh (y0*x0+0))]).trans (by simp only [nl,if_neg (of_eq_true hz)])
  have hS:ul (y0*x0+0)+18446744073709551616*ul (y1*x0+uh (y0*x0+0))=x0*(y0+18446744073709551616*y1):=by rw [<- hS,ht];unfold n3;omega
  rw [<- hS]
  exact jB ((nH true 0 2).call (WC ca ct x0 y0 y1 xs ys) (aB (by simp only [sh,bZ,fU,eU,gJ,U0,K0,dH,Ia,NH,hb,ht,hz,hn,and_true,true_and]))) rfl ⟨⟨rfl,fun _=>rfl⟩,⟨rfl,fun _=>rfl⟩,trivial⟩
 .have hz:(uh (y1*x0+uh (y0*x0+0))≠0)=True:=eq_true ht
  have hn:nl [ul (y0*x0+0),ul (y1*x0+uh (y0*x0+0)),uh (y1*x0+uh (y0*x0+0))]=3:=by simp only [nl,if_neg ht]
  rw [<- hS]
  exact jB ((nH true 0 3).call (WB ca ct x0 y0 y1 xs ys) (aB (by simp only [sh,bZ,fU,eU,gJ,U0,K0,dH,Ia,NH,hb,hz,hn,and_true,true_and]))) rfl ⟨⟨rfl,fun _=>rfl⟩,⟨rfl,fun _=>rfl⟩,trivial⟩
open M in
set_option maxHeartbeats 1000000 in
theorem Wz (ca ct:Nat) (xs ys:List SV) {x0 x1 y0:Int} (fU:U x0) (fO:U x1) (eU:U y0) (hzx:x1≠0) (Yr:y0≠0) (hN:(x0+18446744073709551616*x1)<aX) (hT:y0<21267647932558653966460912964485513216):aE Tryz.prog Γv 65 iR (fun l=>look l (rE (.aG 64 false 0 2 ca) (.aG 65 false 0 1 ct) (ww x0 (ww x1 xs)) (ww y0 ys))) 100 100
 { val:=.ptr 100 true 0,new:=rB (((x0+18446744073709551616*x1)*y0)%aX) 7,wr:=lP (.aG 64 false 0 2 ca) (.aG 65 false 0 1 ct) (ww y0 ys) }:=by
 have:=fU.1;have:=fU.2;have:=fO.1;have:=fO.2;have:=eU.1;have:=eU.2
 have Zp:(x0+18446744073709551616*x1)<1361129467683753853853498429727072845819:=hN
 have zL:18446744073709551616<=(x0+18446744073709551616*x1):=by omega
 have zK:1<=y0:=by omega
 have nF:18446744073709551616<=(x0+18446744073709551616*x1)*y0:=Int.le_trans (by decide) (Int.mul_le_mul zL zK (by decide) (by omega))
 have Ml:(x0+18446744073709551616*x1)*y0<=1361129467683753853853498429727072845818*21267647932558653966460912964485513215:=Int.mul_le_mul (by omega) (by omega) (by omega) (by decide)
 have hE:(x0+18446744073709551616*x1)*y0=x0*y0+18446744073709551616*(x1*y0):=by grind
 have q0:=lU (x0*y0+0)
 have m0:=eA fU eU
 have Ia:U (uh (x0*y0+0)):=zB fU eU U0
 have ul0:U (ul (x0*y0+0)):=dH _
 have q1:=lU (x1*y0+uh (x0*y0+0))
 have m1:=eA fO eU
 have NH:U (uh (x1*y0+uh (x0*y0+0))):=zB fO eU Ia
 have ul1:U (ul (x1*y0+uh (x0*y0+0))):=dH _
 have hb:(y0==0)=false:=by simpa using Yr
 have hS:n3 (ul (x0*y0+0)) (ul (x1*y0+uh (x0*y0+0))) (uh (x1*y0+uh (x0*y0+0)))=(x0+18446744073709551616*x1)*y0:=by
  rw [hE]
  unfold n3
  generalize x0*y0=z0 at *
  generalize x1*y0=z1 at *
  omega
 have Mh:U (ul (x0*y0+0))/\U (ul (x1*y0+uh (x0*y0+0)))/\U (uh (x1*y0+uh (x0*y0+0))):=by refine ⟨?_,?_,?_⟩ <;> first | exact U0 | assumption | exact dH _
 obtain ⟨yP,yO,Df⟩:=Mh
 have:=yP.1;have:=yP.2;have:=yO.1;have:=yO.2;have:=Df.1;have:=Df.2
 by_cases ht:uh (x1*y0+uh (x0*y0+0))=0
 .have hz:(ul (x1*y0+uh (x0*y0+0))≠0)=True:=eq_true (by intro e;rw [e,ht] at hS;clear hE;unfold n3 at hS;generalize (x0+18446744073709551616*x1)*y0=zz at hS nF Ml;omega)
  have hn:nl [ul (x0*y0+0),ul (x1*y0+uh (x0*y0+0)),0]=2:=(fS [ul (x0*y0+0),ul (x1*y0+uh (x0*y0+0))]).trans (by simp only [nl,if_neg (of_eq_true hz)])
  have hS:ul (x0*y0+0)+18446744073709551616*ul (x1*y0+uh (x0*y0+0))=(x0+18446744073709551616*x1)*y0:=by rw [<- hS,ht];unfold n3;omega
  rw [<- hS]
  exact jB ((nH true 0 2).call (VZ ca ct x0 x1 y0 xs ys) (aB (by simp only [sh,bZ,fU,fO,eU,U0,K0,dH,Ia,NH,hb,ht,hz,hn,and_true,true_and]))) rfl ⟨⟨rfl,fun _=>rfl⟩,⟨rfl,fun _=>rfl⟩,trivial⟩
 .have hz:(uh (x1*y0+uh (x0*y0+0))≠0)=True:=eq_true ht
  have hn:nl [ul (x0*y0+0),ul (x1*y0+uh (x0*y0+0)),uh (x1*y0+uh (x0*y0+0))]=3:=by simp only [nl,if_neg ht]
  rw [<- hS]
  exact jB ((nH true 0 3).call (VY ca ct x0 x1 y0 xs ys) (aB (by simp only [sh,bZ,fU,fO,eU,U0,K0,dH,Ia,NH,hb,hz,hn,and_true,true_and]))) rfl ⟨⟨rfl,fun _=>rfl⟩,⟨rfl,fun _=>rfl⟩,trivial⟩
open M in
set_option maxHeartbeats 1000000 in
theorem Ww (ca ct:Nat) (xs ys:List SV) {x0 x1 x2 y0:Int} (fU:U x0) (fO:U x1) (mJ:U x2) (eU:U y0) (hzx:x2≠0) (Yr:y0≠0) (hN:n3 x0 x1 x2<aX) (hT:y0<21267647932558653966460912964485513216):aE Tryz.prog Γv 65 iR (fun l=>look l (rE (.aG 64 false 0 3 ca) (.aG 65 false 0 1 ct) (ww x0 (ww x1 (ww x2 xs))) (ww y0 ys))) 100 100
 { val:=.ptr 100 true 0,new:=rB ((n3 x0 x1 x2*y0)%aX) 8,wr:=lP (.aG 64 false 0 3 ca) (.aG 65 false 0 1 ct) (ww y0 ys) }:=by
 have:=fU.1;have:=fU.2;have:=fO.1;have:=fO.2;have:=mJ.1;have:=mJ.2;have:=eU.1;have:=eU.2
 have Zp:n3 x0 x1 x2<1361129467683753853853498429727072845819:=hN
 have zL:340282366920938463463374607431768211456<=n3 x0 x1 x2:=by unfold n3;omega
 have zK:1<=y0:=by omega
 have nF:340282366920938463463374607431768211456<=n3 x0 x1 x2*y0:=Int.le_trans (by decide) (Int.mul_le_mul zL zK (by decide) (by omega))
 have Ml:n3 x0 x1 x2*y0<=1361129467683753853853498429727072845818*21267647932558653966460912964485513215:=Int.mul_le_mul (by omega) (by omega) (by omega) (by decide)
 have hE:n3 x0 x1 x2*y0=x0*y0+18446744073709551616*(x1*y0)+340282366920938463463374607431768211456*(x2*y0):=by unfold n3;grind
 have q0:=lU (x0*y0+0)
 have m0:=eA fU eU
 have Ia:U (uh (x0*y0+0)):=zB fU eU U0
 have ul0:U (ul (x0*y0+0)):=dH _
 have q1:=lU (x1*y0+uh (x0*y0+0))
 have m1:=eA fO eU
 have NH:U (uh (x1*y0+uh (x0*y0+0))):=zB fO eU Ia
 have ul1:U (ul (x1*y0+uh (x0*y0+0))):=dH _
 have q2:=lU (x2*y0+uh (x1*y0+uh (x0*y0+0)))
 have m2:=eA mJ eU
 have uh2:U (uh (x2*y0+uh (x1*y0+uh (x0*y0+0)))):=zB mJ eU NH
 have ul2:U (ul (x2*y0+uh (x1*y0+uh (x0*y0+0)))):=dH _
 have hb:(y0==0)=false:=by simpa using Yr
 have hS:n4 (ul (x0*y0+0)) (ul (x1*y0+uh (x0*y0+0))) (ul (x2*y0+uh (x1*y0+uh (x0*y0+0)))) (uh (x2*y0+uh (x1*y0+uh (x0*y0+0))))=n3 x0 x1 x2*y0:=by
  rw [hE]
  unfold n4
  generalize x0*y0=z0 at *
  generalize x1*y0=z1 at *
  generalize x2*y0=z2 at *
  omega
 have Mh:U (ul (x0*y0+0))/\U (ul (x1*y0+uh (x0*y0+0)))/\U (ul (x2*y0+uh (x1*y0+uh (x0*y0+0))))/\U (uh (x2*y0+uh (x1*y0+uh (x0*y0+0)))):=by refine ⟨?_,?_,?_,?_⟩ <;> first | exact U0 | assumption | exact dH _
 obtain ⟨yP,yO,Df,Qq⟩:=Mh
 have:=yP.1;have:=yP.2;have:=yO.1;have:=yO.2;have:=Df.1;have:=Df.2;have:=Qq.1;have:=Qq.2
 by_cases ht:uh (x2*y0+uh (x1*y0+uh (x0*y0+0)))=0
 .have hz:(ul (x2*y0+uh (x1*y0+uh (x0*y0+0)))≠0)=True:=eq_true (by intro e;rw [e,ht] at hS;clear hE;unfold n4 at hS;generalize n3 x0 x1 x2*y0=zz at hS nF Ml;omega)
  have hn:nl [ul (x0*y0+0),ul (x1*y0+uh (x0*y0+0)),ul (x2*y0+uh (x1*y0+uh (x0*y0+0))),0]=3:=(fS [ul (x0*y0+0),ul (x1*y0+uh (x0*y0+0)),ul (x2*y0+uh (x1*y0+uh (x0*y0+0)))]).trans (by simp only [nl,if_neg (of_eq_true hz)])
  have hS:n3 (ul (x0*y0+0)) (ul (x1*y0+uh (x0*y0+0))) (ul (x2*y0+uh (x1*y0+uh (x0*y0+0))))=n3 x0 x1 x2*y0:=by rw [<- hS,ht];unfold n4 n3;omega
  rw [<- hS]
  exact jB ((nH true 0 3).call (VU ca ct x0 x1 x2 y0 xs ys) (aB (by simp only [sh,bZ,fU,fO,mJ,eU,U0,K0,dH,Ia,NH,uh2,hb,ht,hz,hn,and_true,true_and]))) rfl ⟨⟨rfl,fun _=>rfl⟩,⟨rfl,fun _=>rfl⟩,trivial⟩
 .have hz:(uh (x2*y0+uh (x1*y0+uh (x0*y0+0)))≠0)=True:=eq_true ht
  have hn:nl [ul (x0*y0+0),ul (x1*y0+uh (x0*y0+0)),ul (x2*y0+uh (x1*y0+uh (x0*y0+0))),uh (x2*y0+uh (x1*y0+uh (x0*y0+0)))]=4:=by simp only [nl,if_neg ht]
  rw [<- hS]
  exact jB ((nH true 0 4).call (VT ca ct x0 x1 x2 y0 xs ys) (aB (by simp only [sh,bZ,fU,fO,mJ,eU,U0,K0,dH,Ia,NH,uh2,hb,hz,hn,and_true,true_and]))) rfl ⟨⟨rfl,fun _=>rfl⟩,⟨rfl,fun _=>rfl⟩,trivial⟩
open M in
set_option maxHeartbeats 1000000 in
theorem Wy (ca ct:Nat) (xs ys:List SV) {x0 x1 y0 y1:Int} (fU:U x0) (fO:U x1) (eU:U y0) (gJ:U y1) (hzx:x1≠0) (Yr:y1≠0) (hN:(x0+18446744073709551616*x1)<aX) (hT:(y0+18446744073709551616*y1)<21267647932558653966460912964485513216):aE Tryz.prog Γv 65 iR (fun l=>look l (rE (.aG 64 false 0 2 ca) (.aG 65 false 0 2 ct) (ww x0 (ww x1 xs)) (ww y0 (ww y1 ys)))) 100 100
 { val:=.ptr 100 true 0,new:=rB (((x0+18446744073709551616*x1)*(y0+18446744073709551616*y1))%aX) 8,wr:=lP (.aG 64 false 0 2 ca) (.aG 65 false 0 2 ct) (ww y0 (ww y1 ys)) }:=by
 have:=fU.1;have:=fU.2;have:=fO.1;have:=fO.2;have:=eU.1;have:=eU.2;have:=gJ.1;have:=gJ.2
 have Zp:(x0+18446744073709551616*x1)<1361129467683753853853498429727072845819:=hN
 have zL:18446744073709551616<=(x0+18446744073709551616*x1):=by omega
 have zK:18446744073709551616<=(y0+18446744073709551616*y1):=by omega
 have nF:340282366920938463463374607431768211456<=(x0+18446744073709551616*x1)*(y0+18446744073709551616*y1):=Int.le_trans (by decide) (Int.mul_le_mul zL zK (by decide) (by omega))
 have Ml:(x0+18446744073709551616*x1)*(y0+18446744073709551616*y1)<=1361129467683753853853498429727072845818*21267647932558653966460912964485513215:=Int.mul_le_mul (by omega) (by omega) (by omega) (by decide)
 have hE:(x0+18446744073709551616*x1)*(y0+18446744073709551616*y1)=x0*y0+18446744073709551616*(x0*y1)+18446744073709551616*(x1*y0)+340282366920938463463374607431768211456*(x1*y1):=by grind
 cases AA:(y0 != 0) with
 | false=>
   have Zf:=eA fU gJ
   obtain ⟨qa0,Fo,vM⟩:q0 x0 y1+18446744073709551616*k0 x0 y1=x0*y1+0+0/\U (q0 x0 y1)/\U (k0 x0 y1):=lV Zf.1 Zf.2 U0 U0
   have Ze:=eA fO gJ
   obtain ⟨qa1,zA,xH⟩:q1 x0 x1 y1+18446744073709551616*k1 x0 x1 y1=x1*y1+0+k0 x0 y1/\U (q1 x0 x1 y1)/\U (k1 x0 x1 y1):=lV Ze.1 Ze.2 U0 vM
   have hb:(y0 != 0)=false:=by simpa using AA
   have y00:y0=0:=by simpa using hb
   have pB:(y1 != 0)=true:=by simpa using Yr
   rw [y00] at hE
   simp only [Int.mul_zero,Int.zero_add,Int.add_zero] at hE
   have hS:n4 0 (q0 x0 y1) (q1 x0 x1 y1) (k1 x0 x1 y1)=(x0+18446744073709551616*x1)*(y0+18446744073709551616*y1):=by
    rw [y00,Int.zero_add,hE]
    unfold n4
    generalize x0*y1=z0 at *
    generalize x1*y1=z1 at *
    omega
   have Mh:U (0)/\U (q0 x0 y1)/\U (q1 x0 x1 y1)/\U (k1 x0 x1 y1):=by refine ⟨?_,?_,?_,?_⟩ <;> first | exact U0 | assumption | exact dH _
   obtain ⟨yP,yO,Df,Qq⟩:=Mh
   have:=yP.1;have:=yP.2;have:=yO.1;have:=yO.2;have:=Df.1;have:=Df.2;have:=Qq.1;have:=Qq.2
   by_cases ht:k1 x0 x1 y1=0
   .have hz:(q1 x0 x1 y1≠0)=True:=eq_true (by intro e;rw [e,ht] at hS;clear hE;unfold n4 at hS;generalize (x0+18446744073709551616*x1)*(y0+18446744073709551616*y1)=zz at hS nF Ml;omega)
    have hn:nl [0,q0 x0 y1,q1 x0 x1 y1,0]=3:=(fS [0,q0 x0 y1,q1 x0 x1 y1]).trans (by simp only [nl,if_neg (of_eq_true hz)])
    have hS:n3 0 (q0 x0 y1) (q1 x0 x1 y1)=(x0+18446744073709551616*x1)*(y0+18446744073709551616*y1):=by rw [<- hS,ht];unfold n4 n3;omega
    rw [<- hS]
    exact jB ((nH false 0 3).call (HZ ca ct x0 x1 y0 y1 xs ys) (aB (by simp only [sh,bZ,fU,fO,eU,gJ,U0,K0,dH,Fo,vM,zA,xH,hb,pB,ht,hz,hn,and_true,true_and]))) rfl ⟨⟨rfl,fun _=>rfl⟩,⟨rfl,fun _=>rfl⟩,trivial⟩
   .have hz:(k1 x0 x1 y1≠0)=True:=eq_true ht
    have hn:nl [0,q0 x0 y1,q1 x0 x1 y1,k1 x0 x1 y1]=4:=by simp only [nl,if_neg ht]
    rw [<- hS]
    exact jB ((nH false 0 4).call (HY ca ct x0 x1 y0 y1 xs ys) (aB (by simp only [sh,bZ,fU,fO,eU,gJ,U0,K0,dH,Fo,vM,zA,xH,hb,pB,hz,hn,and_true,true_and]))) rfl ⟨⟨rfl,fun _=>rfl⟩,⟨rfl,fun _=>rfl⟩,trivial⟩
 | true=>
   have Zf:=eA fU eU
   obtain ⟨qa0,Fo,vM⟩:q0 x0 y0+18446744073709551616*k0 x0 y0=x0*y0+0+0/\U (q0 x0 y0)/\U (k0 x0 y0):=lV Zf.1 Zf.2 U0 U0
   have Ze:=eA fO eU
   obtain ⟨qa1,zA,xH⟩:q1 x0 x1 y0+18446744073709551616*k1 x0 x1 y0=x1*y0+0+k0 x0 y0/\U (q1 x0 x1 y0)/\U (k1 x0 x1 y0):=lV Ze.1 Ze.2 U0 vM
   have mb0:=eA fU gJ
   obtain ⟨qb0,OF,Uv⟩:r0 x0 x1 y0 y1+18446744073709551616*Fe x0 x1 y0 y1=x0*y1+q1 x0 x1 y0+0/\U (r0 x0 x1 y0 y1)/\U (Fe x0 x1 y0 y1):=lV mb0.1 mb0.2 zA U0
   have mb1:=eA fO gJ
   obtain ⟨qb1,OE,Zt⟩:e1 x0 x1 y0 y1+18446744073709551616*f1 x0 x1 y0 y1=x1*y1+k1 x0 x1 y0+Fe x0 x1 y0 y1/\U (e1 x0 x1 y0 y1)/\U (f1 x0 x1 y0 y1):=lV mb1.1 mb1.2 xH Uv
   have hb:(y0 != 0)=true:=AA
   have pB:(y1 != 0)=true:=by simpa using Yr
   have hS:n4 (q0 x0 y0) (r0 x0 x1 y0 y1) (e1 x0 x1 y0 y1) (f1 x0 x1 y0 y1)=(x0+18446744073709551616*x1)*(y0+18446744073709551616*y1):=by
    rw [hE]
    unfold n4
    generalize x0*y0=z0 at *
    generalize x0*y1=z1 at *
    generalize x1*y0=z2 at *
    generalize x1*y1=z3 at *
    omega
   have Mh:U (q0 x0 y0)/\U (r0 x0 x1 y0 y1)/\U (e1 x0 x1 y0 y1)/\U (f1 x0 x1 y0 y1):=by refine ⟨?_,?_,?_,?_⟩ <;> first | exact U0 | assumption | exact dH _
   obtain ⟨yP,yO,Df,Qq⟩:=Mh
   have:=yP.1;have:=yP.2;have:=yO.1;have:=yO.2;have:=Df.1;have:=Df.2;have:=Qq.1;have:=Qq.2
   by_cases ht:f1 x0 x1 y0 y1=0
   .have hz:(e1 x0 x1 y0 y1≠0)=True:=eq_true (by intro e;rw [e,ht] at hS;clear hE;unfold n4 at hS;generalize (x0+18446744073709551616*x1)*(y0+18446744073709551616*y1)=zz at hS nF Ml;omega)
    have hn:nl [q0 x0 y0,r0 x0 x1 y0 y1,e1 x0 x1 y0 y1,0]=3:=(fS [q0 x0 y0,r0 x0 x1 y0 y1,e1 x0 x1 y0 y1]).trans (by simp only [nl,if_neg (of_eq_true hz)])
    have hS:n3 (q0 x0 y0) (r0 x0 x1 y0 y1) (e1 x0 x1 y0 y1)=(x0+18446744073709551616*x1)*(y0+18446744073709551616*y1):=by rw [<- hS,ht];unfold n4 n3;omega
    rw [<- hS]
    exact jB ((nH true 0 3).call (VX ca ct x0 x1 y0 y1 xs ys) (aB (by simp only [sh,bZ,fU,fO,eU,gJ,U0,K0,dH,Fo,vM,zA,xH,OF,Uv,OE,Zt,hb,pB,ht,hz,hn,and_true,true_and]))) rfl ⟨⟨rfl,fun _=>rfl⟩,⟨rfl,fun _=>rfl⟩,trivial⟩
   .have hz:(f1 x0 x1 y0 y1≠0)=True:=eq_true ht
    have hn:nl [q0 x0 y0,r0 x0 x1 y0 y1,e1 x0 x1 y0 y1,f1 x0 x1 y0 y1]=4:=by simp only [nl,if_neg ht]
    rw [<- hS]
    exact jB ((nH true 0 4).call (VW ca ct x0 x1 y0 y1 xs ys) (aB (by simp only [sh,bZ,fU,fO,eU,gJ,U0,K0,dH,Fo,vM,zA,xH,OF,Uv,OE,Zt,hb,pB,hz,hn,and_true,true_and]))) rfl ⟨⟨rfl,fun _=>rfl⟩,⟨rfl,fun _=>rfl⟩,trivial⟩
open M in
set_option maxHeartbeats 1000000 in
theorem Wv (ca ct:Nat) (xs ys:List SV) {x0 x1 x2 y0 y1:Int} (fU:U x0) (fO:U x1) (mJ:U x2) (eU:U y0) (gJ:U y1) (hzx:x2≠0) (Yr:y1≠0) (hN:n3 x0 x1 x2<aX) (hT:(y0+18446744073709551616*y1)<21267647932558653966460912964485513216):aE Tryz.prog Γv 65 iR (fun l=>look l (rE (.aG 64 false 0 3 ca) (.aG 65 false 0 2 ct) (ww x0 (ww x1 (ww x2 xs))) (ww y0 (ww y1 ys)))) 100 100
 { val:=.ptr 100 true 0,new:=rB ((n3 x0 x1 x2*(y0+18446744073709551616*y1))%aX) 9,wr:=lP (.aG 64 false 0 3 ca) (.aG 65 false 0 2 ct) (ww y0 (ww y1 ys)) }:=by
 have:=fU.1;have:=fU.2;have:=fO.1;have:=fO.2;have:=mJ.1;have:=mJ.2;have:=eU.1;have:=eU.2;have:=gJ.1;have:=gJ.2
 have Zp:n3 x0 x1 x2<1361129467683753853853498429727072845819:=hN
 have zL:340282366920938463463374607431768211456<=n3 x0 x1 x2:=by unfold n3;omega
 have zK:18446744073709551616<=(y0+18446744073709551616*y1):=by omega
 have nF:6277101735386680763835789423207666416102355444464034512896<=n3 x0 x1 x2*(y0+18446744073709551616*y1):=Int.le_trans (by decide) (Int.mul_le_mul zL zK (by decide) (by omega))
 have Ml:n3 x0 x1 x2*(y0+18446744073709551616*y1)<=1361129467683753853853498429727072845818*21267647932558653966460912964485513215:=Int.mul_le_mul (by omega) (by omega) (by omega) (by decide)
 have hE:n3 x0 x1 x2*(y0+18446744073709551616*y1)=x0*y0+18446744073709551616*(x0*y1)+18446744073709551616*(x1*y0)+340282366920938463463374607431768211456*(x1*y1)+340282366920938463463374607431768211456*(x2*y0)+6277101735386680763835789423207666416102355444464034512896*(x2*y1):=by unfold n3;grind
 cases AA:(y0 != 0) with
 | false=>
   have Zf:=eA fU gJ
   obtain ⟨qa0,Fo,vM⟩:q0 x0 y1+18446744073709551616*k0 x0 y1=x0*y1+0+0/\U (q0 x0 y1)/\U (k0 x0 y1):=lV Zf.1 Zf.2 U0 U0
   have Ze:=eA fO gJ
   obtain ⟨qa1,zA,xH⟩:q1 x0 x1 y1+18446744073709551616*k1 x0 x1 y1=x1*y1+0+k0 x0 y1/\U (q1 x0 x1 y1)/\U (k1 x0 x1 y1):=lV Ze.1 Ze.2 U0 vM
   have ma2:=eA mJ gJ
   obtain ⟨qa2,OG,OD⟩:q2 x0 x1 x2 y1+18446744073709551616*k2 x0 x1 x2 y1=x2*y1+0+k1 x0 x1 y1/\U (q2 x0 x1 x2 y1)/\U (k2 x0 x1 x2 y1):=lV ma2.1 ma2.2 U0 xH
   have hb:(y0 != 0)=false:=by simpa using AA
   have y00:y0=0:=by simpa using hb
   have pB:(y1 != 0)=true:=by simpa using Yr
   rw [y00] at hE
   simp only [Int.mul_zero,Int.zero_add,Int.add_zero] at hE
   have hS:n4 0 (q0 x0 y1) (q1 x0 x1 y1) (q2 x0 x1 x2 y1)+115792089237316195423570985008687907853269984665640564039457584007913129639936*(k2 x0 x1 x2 y1)=n3 x0 x1 x2*(y0+18446744073709551616*y1):=by
    rw [y00,Int.zero_add,hE]
    unfold n4
    generalize x0*y1=z0 at *
    generalize x1*y1=z1 at *
    generalize x2*y1=z2 at *
    omega
   have Mh:U (0)/\U (q0 x0 y1)/\U (q1 x0 x1 y1)/\U (q2 x0 x1 x2 y1)/\U (k2 x0 x1 x2 y1):=by refine ⟨?_,?_,?_,?_,?_⟩ <;> first | exact U0 | assumption | exact dH _
   obtain ⟨yP,yO,Df,Qq,uw4⟩:=Mh
   have:=yP.1;have:=yP.2;have:=yO.1;have:=yO.2;have:=Df.1;have:=Df.2;have:=Qq.1;have:=Qq.2;have:=uw4.1;have:=uw4.2
   have ht:k2 x0 x1 x2 y1=0:=by clear hE;unfold n4 at hS;generalize n3 x0 x1 x2*(y0+18446744073709551616*y1)=zz at hS nF Ml;omega
   have hz:(q2 x0 x1 x2 y1≠0)=True:=eq_true (by intro e;rw [e,ht] at hS;clear hE;unfold n4 at hS;generalize n3 x0 x1 x2*(y0+18446744073709551616*y1)=zz at hS nF Ml;omega)
   have hn:nl [0,q0 x0 y1,q1 x0 x1 y1,q2 x0 x1 x2 y1,0]=4:=(fS [0,q0 x0 y1,q1 x0 x1 y1,q2 x0 x1 x2 y1]).trans (by simp only [nl,if_neg (of_eq_true hz)])
   rw [ht,Int.mul_zero,Int.add_zero] at hS
   rw [<- hS]
   exact jB ((nH false 0 4).call (HX ca ct x0 x1 x2 y0 y1 xs ys) (aB (by simp only [sh,bZ,fU,fO,mJ,eU,gJ,U0,K0,dH,Fo,vM,zA,xH,OG,OD,hb,pB,ht,hz,hn,and_true,true_and]))) rfl ⟨⟨rfl,fun _=>rfl⟩,⟨rfl,fun _=>rfl⟩,trivial⟩
 | true=>
   have Zf:=eA fU eU
   obtain ⟨qa0,Fo,vM⟩:q0 x0 y0+18446744073709551616*k0 x0 y0=x0*y0+0+0/\U (q0 x0 y0)/\U (k0 x0 y0):=lV Zf.1 Zf.2 U0 U0
   have Ze:=eA fO eU
   obtain ⟨qa1,zA,xH⟩:q1 x0 x1 y0+18446744073709551616*k1 x0 x1 y0=x1*y0+0+k0 x0 y0/\U (q1 x0 x1 y0)/\U (k1 x0 x1 y0):=lV Ze.1 Ze.2 U0 vM
   have ma2:=eA mJ eU
   obtain ⟨qa2,OG,OD⟩:q2 x0 x1 x2 y0+18446744073709551616*k2 x0 x1 x2 y0=x2*y0+0+k1 x0 x1 y0/\U (q2 x0 x1 x2 y0)/\U (k2 x0 x1 x2 y0):=lV ma2.1 ma2.2 U0 xH
   have mb0:=eA fU gJ
   obtain ⟨qb0,OF,Uv⟩:r0 x0 x1 y0 y1+18446744073709551616*Fe x0 x1 y0 y1=x0*y1+q1 x0 x1 y0+0/\U (r0 x0 x1 y0 y1)/\U (Fe x0 x1 y0 y1):=lV mb0.1 mb0.2 zA U0
   have mb1:=eA fO gJ
   obtain ⟨qb1,OE,Zt⟩:r1 x0 x1 x2 y0 y1+18446744073709551616*YN x0 x1 x2 y0 y1=x1*y1+q2 x0 x1 x2 y0+Fe x0 x1 y0 y1/\U (r1 x0 x1 x2 y0 y1)/\U (YN x0 x1 x2 y0 y1):=lV mb1.1 mb1.2 OG Uv
   have mb2:=eA mJ gJ
   obtain ⟨qb2,aQa,aPz⟩:r2 x0 x1 x2 y0 y1+18446744073709551616*NJ x0 x1 x2 y0 y1=x2*y1+k2 x0 x1 x2 y0+YN x0 x1 x2 y0 y1/\U (r2 x0 x1 x2 y0 y1)/\U (NJ x0 x1 x2 y0 y1):=lV mb2.1 mb2.2 OD Zt
   have hb:(y0 != 0)=true:=AA
   have pB:(y1 != 0)=true:=by simpa using Yr
   have hS:n4 (q0 x0 y0) (r0 x0 x1 y0 y1) (r1 x0 x1 x2 y0 y1) (r2 x0 x1 x2 y0 y1)+115792089237316195423570985008687907853269984665640564039457584007913129639936*(NJ x0 x1 x2 y0 y1)=n3 x0 x1 x2*(y0+18446744073709551616*y1):=by
    rw [hE]
    unfold n4
    generalize x0*y0=z0 at *
    generalize x0*y1=z1 at *
    generalize x1*y0=z2 at *
    generalize x1*y1=z3 at *
    generalize x2*y0=z4 at *
    generalize x2*y1=z5 at *
    omega
   have Mh:U (q0 x0 y0)/\U (r0 x0 x1 y0 y1)/\U (r1 x0 x1 x2 y0 y1)/\U (r2 x0 x1 x2 y0 y1)/\U (NJ x0 x1 x2 y0 y1):=by refine ⟨?_,?_,?_,?_,?_⟩ <;> first | exact U0 | assumption | exact dH _
   obtain ⟨yP,yO,Df,Qq,uw4⟩:=Mh
   have:=yP.1;have:=yP.2;have:=yO.1;have:=yO.2;have:=Df.1;have:=Df.2;have:=Qq.1;have:=Qq.2;have:=uw4.1;have:=uw4.2
   have ht:NJ x0 x1 x2 y0 y1=0:=by clear hE;unfold n4 at hS;generalize n3 x0 x1 x2*(y0+18446744073709551616*y1)=zz at hS nF Ml;omega
   have hz:(r2 x0 x1 x2 y0 y1≠0)=True:=eq_true (by intro e;rw [e,ht] at hS;clear hE;unfold n4 at hS;generalize n3 x0 x1 x2*(y0+18446744073709551616*y1)=zz at hS nF Ml;omega)
   have hn:nl [q0 x0 y0,r0 x0 x1 y0 y1,r1 x0 x1 x2 y0 y1,r2 x0 x1 x2 y0 y1,0]=4:=(fS [q0 x0 y0,r0 x0 x1 y0 y1,r1 x0 x1 x2 y0 y1,r2 x0 x1 x2 y0 y1]).trans (by simp only [nl,if_neg (of_eq_true hz)])
   rw [ht,Int.mul_zero,Int.add_zero] at hS
   rw [<- hS]
   exact jB ((nH true 0 4).call (VS ca ct x0 x1 x2 y0 y1 xs ys) (aB (by simp only [sh,bZ,fU,fO,mJ,eU,gJ,U0,K0,dH,Fo,vM,zA,xH,OG,OD,OF,Uv,OE,Zt,aQa,aPz,hb,pB,ht,hz,hn,and_true,true_and]))) rfl ⟨⟨rfl,fun _=>rfl⟩,⟨rfl,fun _=>rfl⟩,trivial⟩
namespace M
theorem sh1 {b:Int} (h:Bt b):cZ .u64 (IntKind.u64.wrap b) 8=b*256:=by
 have:=h.1;have:=h.2
 have e:IntKind.u64.wrap b=b:=by rw [bN];unfold ul;omega
 rw [e]
 show IntKind.u64.wrap (b*256)=_
 rw [bN];unfold ul;omega
theorem or1 {acc b:Int} (h:Bt b) (h0:0<=acc) (h1:acc<256):jQ .u64 acc (b*256)=acc+b*256:=by
 have:=h.1;have:=h.2
 obtain ⟨a,rfl⟩:=pD h0
 obtain ⟨b,rfl⟩:=pD h.1
 have e:(b:Int)*256=((b*2^8:Nat):Int):=by rw [Int.natCast_mul];rfl
 have NA:(2:Nat)^8=256:=rfl
 rw [e,Zd,Zc (by omega) (by omega)]
 omega
theorem sh2 {b:Int} (h:Bt b):cZ .u64 (IntKind.u64.wrap b) 16=b*65536:=by
 have:=h.1;have:=h.2
 have e:IntKind.u64.wrap b=b:=by rw [bN];unfold ul;omega
 rw [e]
 show IntKind.u64.wrap (b*65536)=_
 rw [bN];unfold ul;omega
theorem aRm {acc b:Int} (h:Bt b) (h0:0<=acc) (h1:acc<65536):jQ .u64 acc (b*65536)=acc+b*65536:=by
 have:=h.1;have:=h.2
 obtain ⟨a,rfl⟩:=pD h0
 obtain ⟨b,rfl⟩:=pD h.1
 have e:(b:Int)*65536=((b*2^16:Nat):Int):=by rw [Int.natCast_mul];rfl
 have NA:(2:Nat)^16=65536:=rfl
 rw [e,Zd,Zc (by omega) (by omega)]
 omega
theorem sh3 {b:Int} (h:Bt b):cZ .u64 (IntKind.u64.wrap b) 24=b*16777216:=by
 have:=h.1;have:=h.2
 have e:IntKind.u64.wrap b=b:=by rw [bN];unfold ul;omega
 rw [e]
 show IntKind.u64.wrap (b*16777216)=_
 rw [bN];unfold ul;omega
theorem or3 {acc b:Int} (h:Bt b) (h0:0<=acc) (h1:acc<16777216):jQ .u64 acc (b*16777216)=acc+b*16777216:=by
 have:=h.1;have:=h.2
 obtain ⟨a,rfl⟩:=pD h0
 obtain ⟨b,rfl⟩:=pD h.1
 have e:(b:Int)*16777216=((b*2^24:Nat):Int):=by rw [Int.natCast_mul];rfl
 have NA:(2:Nat)^24=16777216:=rfl
 rw [e,Zd,Zc (by omega) (by omega)]
 omega
theorem sh4 {b:Int} (h:Bt b):cZ .u64 (IntKind.u64.wrap b) 32=b*4294967296:=by
 have:=h.1;have:=h.2
 have e:IntKind.u64.wrap b=b:=by rw [bN];unfold ul;omega
 rw [e]
 show IntKind.u64.wrap (b*4294967296)=_
 rw [bN];unfold ul;omega
theorem or4 {acc b:Int} (h:Bt b) (h0:0<=acc) (h1:acc<4294967296):jQ .u64 acc (b*4294967296)=acc+b*4294967296:=by
 have:=h.1;have:=h.2
 obtain ⟨a,rfl⟩:=pD h0
 obtain ⟨b,rfl⟩:=pD h.1
 have e:(b:Int)*4294967296=((b*2^32:Nat):Int):=by rw [Int.natCast_mul];rfl
 have NA:(2:Nat)^32=4294967296:=rfl
 rw [e,Zd,Zc (by omega) (by omega)]
 omega
theorem sh5 {b:Int} (h:Bt b):cZ .u64 (IntKind.u64.wrap b) 40=b*1099511627776:=by
 have:=h.1;have:=h.2
 have e:IntKind.u64.wrap b=b:=by rw [bN];unfold ul;omega
 rw [e]
 show IntKind.u64.wrap (b*1099511627776)=_
 rw [bN];unfold ul;omega
theorem or5 {acc b:Int} (h:Bt b) (h0:0<=acc) (h1:acc<1099511627776):jQ .u64 acc (b*1099511627776)=acc+b*1099511627776:=by
 have:=h.1;have:=h.2
 obtain ⟨a,rfl⟩:=pD h0
 obtain ⟨b,rfl⟩:=pD h.1
 have e:(b:Int)*1099511627776=((b*2^40:Nat):Int):=by rw [Int.natCast_mul];rfl
 have NA:(2:Nat)^40=1099511627776:=rfl
 rw [e,Zd,Zc (by omega) (by omega)]
 omega
theorem sh6 {b:Int} (h:Bt b):cZ .u64 (IntKind.u64.wrap b) 48=b*281474976710656:=by
 have:=h.1;have:=h.2
 have e:IntKind.u64.wrap b=b:=by rw [bN];unfold ul;omega
 rw [e]
 show IntKind.u64.wrap (b*281474976710656)=_
 rw [bN];unfold ul;omega
theorem or6 {acc b:Int} (h:Bt b) (h0:0<=acc) (h1:acc<281474976710656):jQ .u64 acc (b*281474976710656)=acc+b*281474976710656:=by
 have:=h.1;have:=h.2
 obtain ⟨a,rfl⟩:=pD h0
 obtain ⟨b,rfl⟩:=pD h.1
 have e:(b:Int)*281474976710656=((b*2^48:Nat):Int):=by rw [Int.natCast_mul];rfl
 have NA:(2:Nat)^48=281474976710656:=rfl
 rw [e,Zd,Zc (by omega) (by omega)]
 omega
theorem sh7 {b:Int} (h:Bt b):cZ .u64 (IntKind.u64.wrap b) 56=b*72057594037927936:=by
 have:=h.1;have:=h.2
 have e:IntKind.u64.wrap b=b:=by rw [bN];unfold ul;omega
 rw [e]
 show IntKind.u64.wrap (b*72057594037927936)=_
 rw [bN];unfold ul;omega
theorem or7 {acc b:Int} (h:Bt b) (h0:0<=acc) (h1:acc<72057594037927936):jQ .u64 acc (b*72057594037927936)=acc+b*72057594037927936:=by
 have:=h.1;have:=h.2
 obtain ⟨a,rfl⟩:=pD h0
 obtain ⟨b,rfl⟩:=pD h.1
 have e:(b:Int)*72057594037927936=((b*2^56:Nat):Int):=by rw [Int.natCast_mul];rfl
 have NA:(2:Nat)^56=72057594037927936:=rfl
 rw [e,Zd,Zc (by omega) (by omega)]
 omega
theorem V8 (b0 b1 b2 b3 b4 b5 b6 b7:Int):V [b0,b1,b2,b3,b4,b5,b6,b7]=b0+b1*256+b2*65536+b3*16777216+b4*4294967296+b5*1099511627776+b6*281474976710656+b7*72057594037927936:=by
 simp [V,vs]
 omega
theorem vU {b0 b1 b2 b3 b4 b5 b6 b7:Int} (h0:Bt b0) (h1:Bt b1) (h2:Bt b2) (h3:Bt b3) (h4:Bt b4) (h5:Bt b5) (h6:Bt b6) (h7:Bt b7):hX b0 b1 b2 b3 b4 b5 b6 b7=V [b0,b1,b2,b3,b4,b5,b6,b7]/\U (V [b0,b1,b2,b3,b4,b5,b6,b7]):=by
 have:=h0.1;have:=h0.2;have:=h1.1;have:=h1.2;have:=h2.1;have:=h2.2;have:=h3.1;have:=h3.2;have:=h4.1;have:=h4.2;have:=h5.1;have:=h5.2;have:=h6.1;have:=h6.2;have:=h7.1;have:=h7.2
 have e:IntKind.u64.wrap b0=b0:=by rw [bN];unfold ul;omega
 rw [V8]
 unfold hX
 rw [e,sh1 h1,sh2 h2,sh3 h3,sh4 h4,sh5 h5,sh6 h6,sh7 h7]
 rw [or1 h1 (by omega) (by omega),aRm h2 (by omega) (by omega),or3 h3 (by omega) (by omega),or4 h4 (by omega) (by omega),or5 h5 (by omega) (by omega),or6 h6 (by omega) (by omega),or7 h7 (by omega) (by omega)]
 exact ⟨rfl,by unfold U;omega⟩
theorem aDi {b:Int} (h:b=1):jQ .u64 0 (cZ .u64 (IntKind.u64.wrap b) 0)=1:=by subst h;decide
end M
open M in
theorem GY {b0  b1  b2  b3  b4  b5  b6  b7  b8  b9  cV  cU  cT  cY  cX  fW  iI:Int} (hb:bX [b0,b1,b2,b3,b4,b5,b6,b7,b8,b9,cV,cU,cT,cY,cX,fW,iI]) (h1:iI=1):aE Tryz.prog Γv 59 [.dD 61 0 17 0] (fun l=>look l [(61,.row 1 (bc [b0,b1,b2,b3,b4,b5,b6,b7,b8,b9,cV,cU,cT,cY,cX,fW,iI]) 5)]) 100 100
 { val:=.ptr 100 true 0,new:=[.own [.bool true false,.aG 101 true 0 3 7] 102,.own (wc [V [b0,b1,b2,b3,b4,b5,b6,b7],V [b8,b9,cV,cU,cT,cY,cX,fW],1,0,0,0,0]) 142],wr:=[(61,.row 1 (bc [b0,b1,b2,b3,b4,b5,b6,b7,b8,b9,cV,cU,cT,cY,cX,fW,iI]) 5)] }:=by
 have hs:aF Tryz.prog (env (Fy 0 3) 22) 59 (aJ (env (Fy 0 3) 22) Tryz.f59 true [] 400):=aM (bL _ 22) (bS _ (Hc 0 3) 22) mix Tryz.func59 (by kernel_rfl) true [] 400
 have e0:=(vU (hb _ (by simp)) (hb _ (by simp)) (hb _ (by simp)) (hb _ (by simp)) (hb _ (by simp)) (hb _ (by simp)) (hb _ (by simp)) (hb _ (by simp)):M.hX b0 b1 b2 b3 b4 b5 b6 b7=V [b0,b1,b2,b3,b4,b5,b6,b7]/\_).1
 have e1:=(vU (hb _ (by simp)) (hb _ (by simp)) (hb _ (by simp)) (hb _ (by simp)) (hb _ (by simp)) (hb _ (by simp)) (hb _ (by simp)) (hb _ (by simp)):M.hX b8 b9 cV cU cT cY cX fW=V [b8,b9,cV,cU,cT,cY,cX,fW]/\_).1
 have e2:=aDi h1
 refine ((hs.call (n17 b0 b1 b2 b3 b4 b5 b6 b7 b8 b9 cV cU cT cY cX fW iI) (aB ?_)).bC 61 _ rfl (by decide)).re rfl (fun _=>rfl) ⟨⟨rfl,fun _=>rfl⟩,⟨rfl,fun _=>by rw [e0,e1,e2];rfl⟩,trivial⟩ ⟨rfl,rfl,trivial⟩
 simp only [sh,bZ,e2,nl,and_true]
 simp
open M in
theorem Wh {b0  b1  b2  b3  b4  b5  b6  b7  b8  b9  cV  cU  cT  cY  cX  fW  iI  lL  lK  lJ  lI  lH  lG  lF  lE  lD  lC  lB  lA  kZ  kY  kX:Int} (hb:bX [b0,b1,b2,b3,b4,b5,b6,b7,b8,b9,cV,cU,cT,cY,cX,fW,iI,lL,lK,lJ,lI,lH,lG,lF,lE,lD,lC,lB,lA,kZ,kY,kX]):aE Tryz.prog Γv 59 [.aG 61 true 0 16 32] (fun l=>look l [(61,.fL (bc [b0,b1,b2,b3,b4,b5,b6,b7,b8,b9,cV,cU,cT,cY,cX,fW,iI,lL,lK,lJ,lI,lH,lG,lF,lE,lD,lC,lB,lA,kZ,kY,kX]))]) 100 100
 { val:=.ptr 100 true 0,new:=[.own [.bool true false,.aG 101 false 0 (nl [V [b0,b1,b2,b3,b4,b5,b6,b7],V [b8,b9,cV,cU,cT,cY,cX,fW]]) 6] 102,.own (wc [V [b0,b1,b2,b3,b4,b5,b6,b7],V [b8,b9,cV,cU,cT,cY,cX,fW],0,0,0,0]) 142] }:=by
 have hs:∀ iq,aF Tryz.prog (env (Fy iq 0) 22) 59 (aJ (env (Fy iq 0) 22) Tryz.f59 true [] 400):=fun iq=>aM (bL _ 22) (bS _ (Hc iq 0) 22) mix Tryz.func59 (by kernel_rfl) true [] 400
 have e0:=(vU (hb _ (by simp)) (hb _ (by simp)) (hb _ (by simp)) (hb _ (by simp)) (hb _ (by simp)) (hb _ (by simp)) (hb _ (by simp)) (hb _ (by simp)):M.hX b0 b1 b2 b3 b4 b5 b6 b7=V [b0,b1,b2,b3,b4,b5,b6,b7]/\_).1
 have e1:=(vU (hb _ (by simp)) (hb _ (by simp)) (hb _ (by simp)) (hb _ (by simp)) (hb _ (by simp)) (hb _ (by simp)) (hb _ (by simp)) (hb _ (by simp)):M.hX b8 b9 cV cU cT cY cX fW=V [b8,b9,cV,cU,cT,cY,cX,fW]/\_).1
 rcases NL (V [b0,b1,b2,b3,b4,b5,b6,b7]) (V [b8,b9,cV,cU,cT,cY,cX,fW]) with ⟨h,_⟩ | ⟨h,_⟩ | ⟨h,_⟩
 .refine ((hs 0).call (UF b0 b1 b2 b3 b4 b5 b6 b7 b8 b9 cV cU cT cY cX fW iI lL lK lJ lI lH lG lF lE lD lC lB lA kZ kY kX) (aB ?_)).re rfl (fun _=>rfl) ⟨⟨rfl,fun _=>by rw [h];rfl⟩,⟨rfl,fun _=>by rw [e0,e1];rfl⟩,trivial⟩ trivial
  simp only [sh,bZ,e0,e1,h,and_true]
 .refine ((hs 1).call (UE b0 b1 b2 b3 b4 b5 b6 b7 b8 b9 cV cU cT cY cX fW iI lL lK lJ lI lH lG lF lE lD lC lB lA kZ kY kX) (aB ?_)).re rfl (fun _=>rfl) ⟨⟨rfl,fun _=>by rw [h];rfl⟩,⟨rfl,fun _=>by rw [e0,e1];rfl⟩,trivial⟩ trivial
  simp only [sh,bZ,e0,e1,h,and_true]
 .refine ((hs 2).call (UD b0 b1 b2 b3 b4 b5 b6 b7 b8 b9 cV cU cT cY cX fW iI lL lK lJ lI lH lG lF lE lD lC lB lA kZ kY kX) (aB ?_)).re rfl (fun _=>rfl) ⟨⟨rfl,fun _=>by rw [h];rfl⟩,⟨rfl,fun _=>by rw [e0,e1];rfl⟩,trivial⟩ trivial
  simp only [sh,bZ,e0,e1,h,and_true]
open M in
theorem Pm {b0  b1  b2  b3  b4  b5  b6  b7  b8  b9  cV  cU  cT  cY  cX  fW  iI  lL  lK  lJ  lI  lH  lG  lF  lE  lD  lC  lB  lA  kZ  kY  kX:Int} (hb:bX [b0,b1,b2,b3,b4,b5,b6,b7,b8,b9,cV,cU,cT,cY,cX,fW,iI,lL,lK,lJ,lI,lH,lG,lF,lE,lD,lC,lB,lA,kZ,kY,kX]):aE Tryz.prog Γv 59 [.aG 61 true 16 16 16] (fun l=>look l [(61,.fL (bc [b0,b1,b2,b3,b4,b5,b6,b7,b8,b9,cV,cU,cT,cY,cX,fW,iI,lL,lK,lJ,lI,lH,lG,lF,lE,lD,lC,lB,lA,kZ,kY,kX]))]) 100 100
 { val:=.ptr 100 true 0,new:=[.own [.bool true false,.aG 101 false 0 (nl [V [iI,lL,lK,lJ,lI,lH,lG,lF],V [lE,lD,lC,lB,lA,kZ,kY,kX]]) 6] 102,.own (wc [V [iI,lL,lK,lJ,lI,lH,lG,lF],V [lE,lD,lC,lB,lA,kZ,kY,kX],0,0,0,0]) 142] }:=by
 have hs:∀ iq,aF Tryz.prog (env (Fy iq 0) 22) 59 (aJ (env (Fy iq 0) 22) Tryz.f59 true [] 400):=fun iq=>aM (bL _ 22) (bS _ (Hc iq 0) 22) mix Tryz.func59 (by kernel_rfl) true [] 400
 have e0:=(vU (hb _ (by simp)) (hb _ (by simp)) (hb _ (by simp)) (hb _ (by simp)) (hb _ (by simp)) (hb _ (by simp)) (hb _ (by simp)) (hb _ (by simp)):M.hX iI lL lK lJ lI lH lG lF=V [iI,lL,lK,lJ,lI,lH,lG,lF]/\_).1
 have e1:=(vU (hb _ (by simp)) (hb _ (by simp)) (hb _ (by simp)) (hb _ (by simp)) (hb _ (by simp)) (hb _ (by simp)) (hb _ (by simp)) (hb _ (by simp)):M.hX lE lD lC lB lA kZ kY kX=V [lE,lD,lC,lB,lA,kZ,kY,kX]/\_).1
 rcases NL (V [iI,lL,lK,lJ,lI,lH,lG,lF]) (V [lE,lD,lC,lB,lA,kZ,kY,kX]) with ⟨h,_⟩ | ⟨h,_⟩ | ⟨h,_⟩
 .refine ((hs 0).call (HB b0 b1 b2 b3 b4 b5 b6 b7 b8 b9 cV cU cT cY cX fW iI lL lK lJ lI lH lG lF lE lD lC lB lA kZ kY kX) (aB ?_)).re rfl (fun _=>rfl) ⟨⟨rfl,fun _=>by rw [h];rfl⟩,⟨rfl,fun _=>by rw [e0,e1];rfl⟩,trivial⟩ trivial
  simp only [sh,bZ,e0,e1,h,and_true]
 .refine ((hs 1).call (HA b0 b1 b2 b3 b4 b5 b6 b7 b8 b9 cV cU cT cY cX fW iI lL lK lJ lI lH lG lF lE lD lC lB lA kZ kY kX) (aB ?_)).re rfl (fun _=>rfl) ⟨⟨rfl,fun _=>by rw [h];rfl⟩,⟨rfl,fun _=>by rw [e0,e1];rfl⟩,trivial⟩ trivial
  simp only [sh,bZ,e0,e1,h,and_true]
 .refine ((hs 2).call (GZ b0 b1 b2 b3 b4 b5 b6 b7 b8 b9 cV cU cT cY cX fW iI lL lK lJ lI lH lG lF lE lD lC lB lA kZ kY kX) (aB ?_)).re rfl (fun _=>rfl) ⟨⟨rfl,fun _=>by rw [h];rfl⟩,⟨rfl,fun _=>by rw [e0,e1];rfl⟩,trivial⟩ trivial
  simp only [sh,bZ,e0,e1,h,and_true]
def aRk:Option SB->Option (List Int)
 | some (.own cs _)=>cR .u8 cs
 | some (.ints .u8 xs _)=>some xs
 | _=>none
open M in
def Nv (vs:List SV) (T:bB):Option Canon:=match vs with
 | [.dD l 0 17 0]=>match T l with
   | some (.row 1 cs 5)=>match cR .u8 cs with
     | some [b0,b1,b2,b3,b4,b5,b6,b7,b8,b9,cV,cU,cT,cY,cX,fW,iI]=>some { eN:=[.dD 61 0 17 0],T0:=[(61,.row 1 (bc [b0,b1,b2,b3,b4,b5,b6,b7,b8,b9,cV,cU,cT,cY,cX,fW,iI]) 5)],vl:=[(61,.lab l 0)],e0:={ val:=.ptr 100 true 0,new:=[.own [.bool true false,.aG 101 true 0 3 7] 102,.own (wc [V [b0,b1,b2,b3,b4,b5,b6,b7],V [b8,b9,cV,cU,cT,cY,cX,fW],1,0,0,0,0]) 142],wr:=[(61,.row 1 (bc [b0,b1,b2,b3,b4,b5,b6,b7,b8,b9,cV,cU,cT,cY,cX,fW,iI]) 5)] },conds:=[bX [b0,b1,b2,b3,b4,b5,b6,b7,b8,b9,cV,cU,cT,cY,cX,fW,iI],iI=1] }
     | _=>none
   | _=>none
 | [.aG l true oo 16 c]=>match aRk (T l) with
   | some [b0,b1,b2,b3,b4,b5,b6,b7,b8,b9,cV,cU,cT,cY,cX,fW,iI,lL,lK,lJ,lI,lH,lG,lF,lE,lD,lC,lB,lA,kZ,kY,kX]=>match Nat.beq oo 0&&Nat.beq c 32,Nat.beq oo 16&&Nat.beq c 16 with
     | true,_=>some { eN:=[.aG 61 true 0 16 32],T0:=[(61,.fL (bc [b0,b1,b2,b3,b4,b5,b6,b7,b8,b9,cV,cU,cT,cY,cX,fW,iI,lL,lK,lJ,lI,lH,lG,lF,lE,lD,lC,lB,lA,kZ,kY,kX]))],vl:=[(61,.lab l 0)],e0:={ val:=.ptr 100 true 0,new:=[.own [.bool true false,.aG 101 false 0 (nl [V [b0,b1,b2,b3,b4,b5,b6,b7],V [b8,b9,cV,cU,cT,cY,cX,fW]]) 6] 102,.own (wc [V [b0,b1,b2,b3,b4,b5,b6,b7],V [b8,b9,cV,cU,cT,cY,cX,fW],0,0,0,0]) 142] },conds:=[bX [b0,b1,b2,b3,b4,b5,b6,b7,b8,b9,cV,cU,cT,cY,cX,fW,iI,lL,lK,lJ,lI,lH,lG,lF,lE,lD,lC,lB,lA,kZ,kY,kX]] }
     | _,true=>some { eN:=[.aG 61 true 16 16 16],T0:=[(61,.fL (bc [b0,b1,b2,b3,b4,b5,b6,b7,b8,b9,cV,cU,cT,cY,cX,fW,iI,lL,lK,lJ,lI,lH,lG,lF,lE,lD,lC,lB,lA,kZ,kY,kX]))],vl:=[(61,.lab l 0)],e0:={ val:=.ptr 100 true 0,new:=[.own [.bool true false,.aG 101 false 0 (nl [V [iI,lL,lK,lJ,lI,lH,lG,lF],V [lE,lD,lC,lB,lA,kZ,kY,kX]]) 6] 102,.own (wc [V [iI,lL,lK,lJ,lI,lH,lG,lF],V [lE,lD,lC,lB,lA,kZ,kY,kX],0,0,0,0]) 142] },conds:=[bX [b0,b1,b2,b3,b4,b5,b6,b7,b8,b9,cV,cU,cT,cY,cX,fW,iI,lL,lK,lJ,lI,lH,lG,lF,lE,lD,lC,lB,lA,kZ,kY,kX]] }
     | _,_=>none
   | _=>none
 | _=>none
theorem Gf (Γ:Env) (hg:Γ.aR=aA):aF Tryz.prog Γ 59 (aL aA 100 Nv):=by
 refine aU hg fun vs T c hd hc=>?_
 unfold Nv at hd
 split at hd
 case h_3=>cases hd
 .split at hd
  case h_2=>cases hd
  split at hd
  case h_2=>cases hd
  cases hd
  exact (GY (hc _ (by simp)) (hc _ (by simp))).words (by rw [hg];rfl) (fun _=>rfl) (fun _ _ h=>h) (fun _=>rfl) rfl rfl
 .split at hd
  case h_2=>cases hd
  split at hd
  case h_3=>cases hd
  .cases hd
   exact (Wh (hc _ (by simp))).words (by rw [hg];rfl) (fun _=>rfl) (fun _ _ h=>h) (fun _=>rfl) rfl rfl
  .cases hd
   exact (Pm (hc _ (by simp))).words (by rw [hg];rfl) (fun _=>rfl) (fun _ _ h=>h) (fun _=>rfl) rfl rfl
open M in
def DZ (gR:Nat) (vs:List SV) (T:bB):Option Canon:=match vs with
 | [.agg [.ptr lp true 0],.ptr la true 0,.ptr lb true 0]=>match T la,T lb,T lp with
   | some (.own [.bool _ _,X] 102),some (.own [.bool _ _,.aG ly _ 0 3 7] 102),some (.own [.bool _ _,.aG lq _ 0 3 8] 102)=>match T ly with
     | some (.own ys 142)=>match cR .u64 ys with
       | some (y0::y1::y2::yr)=>match X with
         | .raw (.slice none 0 0)=>match Nat.beq gR 7 with
           | true=>some { eN:=iR,T0:=rE (.raw (.slice none 0 0)) (.aG 65 true 0 3 7) [.int true .i64 40] (ww y0 (ww y1 (ww y2 (wc yr)))),vl:=[(61,.lab la 0),(62,.lab lp 0),(63,.lab lb 0),(64,.lab 17 0),(65,.lab ly 0),(66,.lab lq 0)],e0:={ val:=.ptr 100 true 0,new:=rB ((0+n3 y0 y1 y2)%aX) 7,wr:=lP (.raw (.slice none 0 0)) (.aG 65 true 0 3 7) (ww y0 (ww y1 (ww y2 (wc yr)))) },conds:=[U y0,U y1,y2=1] }
           | false=>none
         | .aG lx _ 0 n ca=>match T lx with
           | some (.own xs 142)=>match cR .u64 xs,Nat.ble 6 ca&&Nat.ble ca 9 with
             | some (x0::x1::x2::xr),true=>match Nat.beq gR 7,Nat.beq gR 8 with
               | true,_=>some { eN:=iR,T0:=rE (.aG 64 false 0 n ca) (.aG 65 true 0 3 7) (ww x0 (ww x1 (ww x2 (wc xr)))) (ww y0 (ww y1 (ww y2 (wc yr)))),vl:=[(61,.lab la 0),(62,.lab lp 0),(63,.lab lb 0),(64,.lab lx 0),(65,.lab ly 0),(66,.lab lq 0)],e0:={ val:=.ptr 100 true 0,new:=rB ((n3 x0 x1 x2+n3 y0 y1 y2)%aX) 7,wr:=lP (.aG 64 false 0 n ca) (.aG 65 true 0 3 7) (ww y0 (ww y1 (ww y2 (wc yr)))) },conds:=[n=nl [x0,x1,x2],n=0,U y0,U y1,y2=1] }
               | _,true=>some { eN:=iR,T0:=rE (.aG 64 false 0 n ca) (.aG 65 true 0 3 7) (ww x0 (ww x1 (ww x2 (wc xr)))) (ww y0 (ww y1 (ww y2 (wc yr)))),vl:=[(61,.lab la 0),(62,.lab lp 0),(63,.lab lb 0),(64,.lab lx 0),(65,.lab ly 0),(66,.lab lq 0)],e0:={ val:=.ptr 100 true 0,new:=rB ((n3 x0 x1 x2+n3 y0 y1 y2)%aX) 8,wr:=lP (.aG 64 false 0 n ca) (.aG 65 true 0 3 7) (ww y0 (ww y1 (ww y2 (wc yr)))) },conds:=[n=nl [x0,x1,x2],n≠0,U x0,U x1,U x2,n3 x0 x1 x2<aX,U y0,U y1,y2=1] }
               | _,_=>none
             | _,_=>none
           | _=>none
         | _=>none
       | _=>none
     | _=>none
   | _,_,_=>none
 | _=>none
open M in
theorem MC {n ca:Nat} (kA:ca=6\/ca=7\/ca=8\/ca=9) (xs ys:List SV) {x0 x1 x2 y0 y1 y2:Int} (hn:n=nl [x0,x1,x2]) (Md:n≠0) (fU:U x0) (fO:U x1) (mJ:U x2) (hN:n3 x0 x1 x2<aX) (eU:U y0) (gJ:U y1) (Di:y2=1):aE Tryz.prog Γv 63 iR (fun l=>look l (rE (.aG 64 false 0 n ca) (.aG 65 true 0 3 7) (ww x0 (ww x1 (ww x2 xs))) (ww y0 (ww y1 (ww y2 ys))))) 100 100
 { val:=.ptr 100 true 0,new:=rB ((n3 x0 x1 x2+n3 y0 y1 y2)%aX) 8,wr:=lP (.aG 64 false 0 n ca) (.aG 65 true 0 3 7) (ww y0 (ww y1 (ww y2 ys))) }:=by
 rcases nl3 x0 x1 x2 with ⟨h,_⟩ | ⟨h,_,e1,e2⟩ | ⟨h,_,e2⟩ | ⟨h,_⟩
 .omega
 .rw [h] at hn;subst hn
  have e:n3 x0 x1 x2=x0:=by rw [e1,e2];unfold n3;omega
  rw [e] at hN |-
  exact ID kA (ww x1 (ww x2 xs)) ys fU hN eU gJ Di
 .rw [h] at hn;subst hn
  have e:n3 x0 x1 x2=x0+18446744073709551616*x1:=by rw [e2];unfold n3;omega
  rw [e] at hN |-
  exact IC kA (ww x2 xs) ys fU fO hN eU gJ Di
 .rw [h] at hn;subst hn
  exact IB kA xs ys fU fO mJ hN eU gJ Di
open M in
theorem aJc (gR:Nat) (Γ:Env) (hg:Γ.aR=aA):aF Tryz.prog Γ 63 (aL aA 100 (DZ gR)):=by
 refine aU hg fun vs T c hd hc=>?_
 unfold DZ at hd
 split at hd
 case h_2=>cases hd
 split at hd
 case h_2=>cases hd
 split at hd
 case h_2=>cases hd
 split at hd
 case h_2=>cases hd
 rename_i y0 y1 y2 yr _
 split at hd
 case h_3=>cases hd
 .split at hd
  case h_2=>cases hd
  cases hd
  exact (IA [.int true .i64 40] (wc yr) (hc _ (by simp)) (hc _ (by simp)) (hc _ (by simp))).words (by rw [hg];rfl) (fun _=>rfl) (fun _ _ h=>h) (fun _=>rfl) rfl rfl
 .split at hd
  case h_2=>cases hd
  split at hd
  case h_2=>cases hd
  rename_i n ca _ _ _ _ _ _ x0 x1 x2 xr _ kA
  simp only [iG] at kA
  have c1:=kJ kA.1
  have c2:=kJ kA.2
  split at hd
  case h_3=>cases hd
  .cases hd
   have hn:n=nl [x0,x1,x2]:=hc _ (by simp)
   have h0:n=0:=hc _ (by simp)
   rcases nl3 x0 x1 x2 with ⟨h,e0,e1,e2⟩ | ⟨h,_⟩ | ⟨h,_⟩ | ⟨h,_⟩
   .have e:n3 x0 x1 x2=0:=by rw [e0,e1,e2];rfl
    rw [e]
    subst h0
    exact (IE ca _ (wc yr) (hc _ (by simp)) (hc _ (by simp)) (hc _ (by simp))).words (by rw [hg];rfl) (fun _=>rfl) (fun _ _ h=>h) (fun _=>rfl) rfl rfl
   .omega
   .omega
   .omega
  .cases hd
   exact (MC (by omega) (wc xr) (wc yr) (hc _ (by simp)) (hc _ (by simp)) (hc _ (by simp)) (hc _ (by simp)) (hc _ (by simp)) (hc _ (by simp)) (hc _ (by simp)) (hc _ (by simp)) (hc _ (by simp))).words (by rw [hg];rfl) (fun _=>rfl) (fun _ _ h=>h) (fun _=>rfl) rfl rfl
open M in
def CK (fJ:Nat) (vs:List SV) (T:bB):Option Canon:=match vs with
 | [.agg [.ptr lp true 0],.ptr la true 0,.ptr lb true 0]=>match T la,T lb,T lp with
   | some (.own [.bool _ _,.aG lx _ 0 n ca] 102),some (.own [.bool _ _,.aG ly _ 0 m ct] 102),some (.own [.bool _ _,.aG lq _ 0 3 8] 102)=>match T lx,T ly with
     | some (.own xs 142),some (.own ys 142)=>match cR .u64 xs,cR .u64 ys with
       | some (x0::x1::x2::xr),some (y0::y1::yr)=>some { eN:=iR,T0:=rE (.aG 64 false 0 n ca) (.aG 65 false 0 m ct) (ww x0 (ww x1 (ww x2 (wc xr)))) (ww y0 (ww y1 (wc yr))),vl:=[(61,.lab la 0),(62,.lab lp 0),(63,.lab lb 0),(64,.lab lx 0),(65,.lab ly 0),(66,.lab lq 0)],e0:={ val:=.ptr 100 true 0,new:=(match fJ with | 0=>nB | c=>rB ((n3 x0 x1 x2*(y0+18446744073709551616*y1))%aX) c),wr:=lP (.aG 64 false 0 n ca) (.aG 65 false 0 m ct) (ww y0 (ww y1 (wc yr))) },conds:=[n=nl [x0,x1,x2],m=nl [y0,y1],fJ=(if n=0\/m=0 then 0 else n+m+4),U x0,U x1,U x2,n3 x0 x1 x2<aX,U y0,U y1,y0+18446744073709551616*y1<21267647932558653966460912964485513216] }
       | _,_=>none
     | _,_=>none
   | _,_,_=>none
 | _=>none
open M in
theorem aNk (fJ:Nat) (Γ:Env) (hg:Γ.aR=aA):aF Tryz.prog Γ 65 (aL aA 100 (CK fJ)):=by
 refine aU hg fun vs T c hd hc=>?_
 unfold CK at hd
 split at hd
 case h_2=>cases hd
 split at hd
 case h_2=>cases hd
 split at hd
 case h_2=>cases hd
 split at hd
 case h_2=>cases hd
 rename_i n ca _ _ _ _ m ct _ _ _ _ _ _ _ _ _ _ _ _ _ _ _ x0 x1 x2 xr y0 y1 yr _ _
 cases hd
 have hn:n=nl [x0,x1,x2]:=hc _ (by simp)
 have hm:m=nl [y0,y1]:=hc _ (by simp)
 have hp:fJ=(if n=0\/m=0 then 0 else n+m+4):=hc _ (by simp)
 have fU:U x0:=hc _ (by simp)
 have fO:U x1:=hc _ (by simp)
 have mJ:U x2:=hc _ (by simp)
 have hN:n3 x0 x1 x2<aX:=hc _ (by simp)
 have eU:U y0:=hc _ (by simp)
 have gJ:U y1:=hc _ (by simp)
 have hT:y0+18446744073709551616*y1<21267647932558653966460912964485513216:=hc _ (by simp)
 have fin:∀ {e:bK},aE Tryz.prog Γv 65 iR (fun l=>look l (rE (.aG 64 false 0 n ca) (.aG 65 false 0 m ct) (ww x0 (ww x1 (ww x2 (wc xr)))) (ww y0 (ww y1 (wc yr))))) 100 100 e->aE Tryz.prog Γ 65 iR (fun l=>look l (rE (.aG 64 false 0 n ca) (.aG 65 false 0 m ct) (ww x0 (ww x1 (ww x2 (wc xr)))) (ww y0 (ww y1 (wc yr))))) 100 100 e:=fun h=>h.words (by rw [hg];rfl) (fun _=>rfl) (fun _ _ h=>h) (fun _=>rfl) rfl rfl
 clear hc
 rcases nl3 x0 x1 x2 with ⟨h,_⟩ | ⟨h,z,e1,e2⟩ | ⟨h,z,e2⟩ | ⟨h,z⟩ <;> rw [h] at hn <;> subst hn <;> rcases NL y0 y1 with ⟨k,_⟩ | ⟨k,w,f1⟩ | ⟨k,w⟩ <;> rw [k] at hm <;> subst hm <;> simp at hp <;> subst hp
 .exact fin (Xg ca ct  (ww x0 (ww x1 (ww x2 (wc xr)))) (ww y0 (ww y1 (wc yr))))
 .exact fin (Xf ca ct y0 (ww x0 (ww x1 (ww x2 (wc xr)))) (ww y1 (wc yr)))
 .exact fin (Xe ca ct y0 y1 (ww x0 (ww x1 (ww x2 (wc xr)))) (wc yr))
 .exact fin (Xd ca ct x0 (ww x1 (ww x2 (wc xr))) (ww y0 (ww y1 (wc yr))))
 .have e:n3 x0 x1 x2=x0:=by rw [e1,e2];unfold n3;omega
  rw [e] at hN |-
  have f:y0+18446744073709551616*y1=y0:=by rw [f1];omega
  rw [f] at hT |-
  exact fin (Xc ca ct (ww x1 (ww x2 (wc xr))) (ww y1 (wc yr)) fU eU z w hN hT)
 .have e:n3 x0 x1 x2=x0:=by rw [e1,e2];unfold n3;omega
  rw [e] at hN |-
  exact fin (Xb ca ct (ww x1 (ww x2 (wc xr))) (wc yr) fU eU gJ z w hN hT)
 .exact fin (Xa ca ct x0 x1 (ww x2 (wc xr)) (ww y0 (ww y1 (wc yr))))
 .have e:n3 x0 x1 x2=x0+18446744073709551616*x1:=by rw [e2];unfold n3;omega
  rw [e] at hN |-
  have f:y0+18446744073709551616*y1=y0:=by rw [f1];omega
  rw [f] at hT |-
  exact fin (Wz ca ct (ww x2 (wc xr)) (ww y1 (wc yr)) fU fO eU z w hN hT)
 .have e:n3 x0 x1 x2=x0+18446744073709551616*x1:=by rw [e2];unfold n3;omega
  rw [e] at hN |-
  exact fin (Wy ca ct (ww x2 (wc xr)) (wc yr) fU fO eU gJ z w hN hT)
 .exact fin (Wx ca ct x0 x1 x2 (wc xr) (ww y0 (ww y1 (wc yr))))
 .have f:y0+18446744073709551616*y1=y0:=by rw [f1];omega
  rw [f] at hT |-
  exact fin (Ww ca ct (wc xr) (ww y1 (wc yr)) fU fO mJ eU z w hN hT)
 .exact fin (Wv ca ct (wc xr) (wc yr) fU fO mJ eU gJ z w hN hT)
noncomputable def exT (gR fJ:Nat):Nat->Option Sum:=dI (dI (dI Ut 59 (aL aA 100 Nv)) 63 (aL aA 100 (DZ gR))) 65 (aL aA 100 (CK fJ))
theorem aHj (gR fJ:Nat):∀ f S,exT gR fJ f=some S->∀ Γ:Env,Γ.aR=aA->aF Tryz.prog Γ f S:=bD (bD (bD oH 59 _ Gf) 63 _ (aJc gR)) 65 _ (aNk fJ)
def zT:List SV:=[.int true .u64 0,.int true .u64 0,.int true .u64 9223372036854775808]
theorem aVc (u0 u1 u2 u3 q0 h0 h1 h2 h3:Int) :
 (xD 100 (bI 100 (Fl zT (wc [u0,u1,u2,u3,0,0,0,0]) (wc [q0]))) [] (iX 4 8 1 1 1 9223372036854775808 18446744073709551615 (.int true .u64 0) 1) (iW (wc [h0,h1,h2,h3]) (wc [u0,u1,u2,u3,0,0,0,0]) (wc [q0])) 101 [61,63] iY (Af zT (wc [u0,u1,u2,u3,0,0,0,0]) (wc [q0]) 4 8 1 1)) =
 sh (0:Int) fun z0=>
 some (.go (.loop vV),Cz,[(3:Nat)=(3:Nat),(4:Nat)=(4:Nat),(11259375:Int)=h0,z0=h1,z0=h2,z0=h3,[q0]=[q0],[u0,u1,u2,u3,z0,z0,z0,z0]=[u0,u1,u2,u3,z0,z0,z0,z0]]):=by kernel_rfl
theorem aVb (eL eM:List SV) (u0 u1 u2 u3 v1 v2 v3 q0 h0 h1 h2 h3 g0 g1 g2 g3:Int) :
 fH zT eL eM 4 8 1 1 1 9223372036854775808 18446744073709551615 1 0 (.int true .u64 0) (.int false .u64 v3) (wc [u0,u1,u2,u3,0,0,0,0]) (wc [u0,v1,v2,v3,0,0,0,0]) (wc [q0]) (wc [q0]) (wc [h0,h1,h2,h3]) (wc [g0,g1,g2,g3]) [false,true,false,true] =
 sh (0:Int) fun z2=>
 sh (9223372036854775808:Int) fun z1=>
 sh (z2*M.dq z1 z2 u3+z2) fun z3=>
 sh (z2*M.dq z1 z2 u3+M.uh z3) fun z0=>
 sh (u1-M.ul z3-z2) fun z7=>
 sh (u2-M.ul z0-M.ub z7) fun z4=>
 sh (z1*M.dq z1 z2 u3+M.uh z0) fun z5=>
 sh (M.dq z1 z2 u3*z2) fun z6=>
 sh (u3-M.ul z5-M.ub z4) fun z8=>
 sh (M.dq z1 z2 u3) fun z9=>
 some (Cf.at Ex.normal,[],[(M.dq z1 z2 u3==z2)=true,(M.ub z8 != z2)=false,M.U u3,M.U (M.ul z5),M.K (M.ub z4),u3=u3,M.ul z5=M.ul z5,M.ub z4=M.ub z4,M.U u2,M.U (M.ul z0),M.K (M.ub z7),u2=u2,M.ul z0=M.ul z0,M.ub z7=M.ub z7,M.U u1,M.U (M.ul z3),M.K z2,u1=u1,M.ul z3=M.ul z3,z2=z2,(M.uh z5==z2)=true,M.U z1,M.U z9,M.U (M.uh z0),z1=z1,M.dq z1 z2 u3=M.dq z1 z2 u3,M.uh z0=M.uh z0,M.U z2,M.U z9,M.U (M.uh z3),z2=z2,M.dq z1 z2 u3=M.dq z1 z2 u3,M.uh z3=M.uh z3,M.U z2,M.U z9,M.U z2,z2=z2,M.dq z1 z2 u3=M.dq z1 z2 u3,z2=z2,M.gt (M.uh z6) (M.ul z6) (M.dr z1 z2 u3) u2=false,M.U (M.ul z6),M.U u2,M.uh z6=M.uh z6,M.ul z6=M.ul z6,M.dr z1 z2 u3=M.dr z1 z2 u3,u2=u2,M.U z9,M.U z2,M.dq z1 z2 u3=M.dq z1 z2 u3,z2=z2,M.U z2,M.U u3,z2<z1,z2=z2,u3=u3,(3:Nat)=(3:Nat),(4:Nat)=(4:Nat),M.ul z8=v3,M.ul z3=g0,M.ul z0=g1,M.ul z5=g2,M.uh z5=g3,[q0]=[q0],[u0,M.ul z7,M.ul z4,M.ul z8,z2,z2,z2,z2]=[u0,v1,v2,v3,z2,z2,z2,z2]]):=by kernel_rfl
theorem aVa (eL eM:List SV) (u0 u1 u2 u3 v0 v1 v2 v3 q0 q1 h0 h1 h2 h3 g0 g1 g2 g3:Int) :
 fH zT eL eM 4 8 1 1 1 9223372036854775808 18446744073709551615 0 (-1) (.int false .u64 u3) (.int false .u64 v2) (wc [u0,u1,u2,u3,0,0,0,0]) (wc [v0,v1,v2,v3,0,0,0,0]) (wc [q0]) (wc [q1]) (wc [h0,h1,h2,h3]) (wc [g0,g1,g2,g3]) [true,false,false] =
 sh (0:Int) fun z4=>
 sh (9223372036854775808:Int) fun z1=>
 sh (z4*M.dq z1 u3 u2+z4) fun z6=>
 sh (z4*M.dq z1 u3 u2+M.uh z6) fun z0=>
 sh (u0-M.ul z6-z4) fun z2=>
 sh (z1*M.dq z1 u3 u2+M.uh z0) fun z3=>
 sh (u1-M.ul z0-M.ub z2) fun z8=>
 sh (u2-M.ul z3-M.ub z8) fun z5=>
 sh (M.dq z1 u3 u2*z4) fun z7=>
 sh (M.dq z1 u3 u2) fun z9=>
 sh (u3-M.uh z3-M.ub z5) fun jP=>
 some (Cf.at Ex.normal,[],[(M.ub jP != z4)=false,M.U u3,M.U (M.uh z3),M.K (M.ub z5),u3=u3,M.uh z3=M.uh z3,M.ub z5=M.ub z5,M.U u2,M.U (M.ul z3),M.K (M.ub z8),u2=u2,M.ul z3=M.ul z3,M.ub z8=M.ub z8,M.U u1,M.U (M.ul z0),M.K (M.ub z2),u1=u1,M.ul z0=M.ul z0,M.ub z2=M.ub z2,M.U u0,M.U (M.ul z6),M.K z4,u0=u0,M.ul z6=M.ul z6,z4=z4,M.U z1,M.U z9,M.U (M.uh z0),z1=z1,M.dq z1 u3 u2=M.dq z1 u3 u2,M.uh z0=M.uh z0,M.U z4,M.U z9,M.U (M.uh z6),z4=z4,M.dq z1 u3 u2=M.dq z1 u3 u2,M.uh z6=M.uh z6,M.U z4,M.U z9,M.U z4,z4=z4,M.dq z1 u3 u2=M.dq z1 u3 u2,z4=z4,M.gt (M.uh z7) (M.ul z7) (M.dr z1 u3 u2) u1=false,M.U (M.ul z7),M.U u1,M.uh z7=M.uh z7,M.ul z7=M.ul z7,M.dr z1 u3 u2=M.dr z1 u3 u2,u1=u1,M.U z9,M.U z4,M.dq z1 u3 u2=M.dq z1 u3 u2,z4=z4,M.U u3,M.U u2,u3<z1,u3=u3,u2=u2,(u3 != z1)=true,(3:Nat)=(3:Nat),(4:Nat)=(4:Nat),M.ul z5=v2,M.ul z6=g0,M.ul z0=g1,M.ul z3=g2,M.uh z3=g3,[M.dq z1 u3 u2]=[q1],[M.ul z2,M.ul z8,M.ul z5,M.ul jP,z4,z4,z4,z4]=[v0,v1,v2,v3,z4,z4,z4,z4]]):=by kernel_rfl
theorem aUy (eL eM:List SV) (u0 u1 u2 u3 q0 h0 h1 h2 h3:Int) :
 fH zT eL eM 4 8 1 1 1 9223372036854775808 18446744073709551615 (-1) (-1) (.int false .u64 u2) (.int false .u64 u2) (wc [u0,u1,u2,u3,0,0,0,0]) (wc [u0,u1,u2,u3,0,0,0,0]) (wc [q0]) (wc [q0]) (wc [h0,h1,h2,h3]) (wc [h0,h1,h2,h3]) [] =
 sh (0:Int) fun z0=>
 some (Cf.at (Ex.exit 0),[],[(3:Nat)=(3:Nat),(4:Nat)=(4:Nat),u2=u2,h0=h0,h1=h1,h2=h2,h3=h3,[q0]=[q0],[u0,u1,u2,u3,z0,z0,z0,z0]=[u0,u1,u2,u3,z0,z0,z0,z0]]):=by kernel_rfl
theorem aUz (eL eM:List SV) (u0 u1 u2 u3 q0 h0 h1 h2 h3:Int) :
 Kb zT eL eM 4 8 1 1 1 9223372036854775808 18446744073709551615 (.int false .u64 u2) (wc [u0,u1,u2,u3,0,0,0,0]) (wc [q0]) (wc [h0,h1,h2,h3]) =
 sh (0:Int) fun z0=>
 some {val:=SV.eF [],wr:=[(61,SB.own [SV.int false IntKind.u64 q0] 142),(63,SB.own [SV.int false IntKind.u64 u0,SV.int false IntKind.u64 u1,SV.int false IntKind.u64 u2,SV.int false IntKind.u64 u3,SV.int false IntKind.u64 z0,SV.int false IntKind.u64 z0,SV.int false IntKind.u64 z0,SV.int false IntKind.u64 z0] 142)]}:=by kernel_rfl
open M in
theorem aHy (eL eM:List SV) (q0 h0 h1 h2 h3:Int) {u0 u1 u2 u3:Int} (a1:U u1) (a2:U u2) (a3:U u3) (hd:u3<9223372036854775808) :
 ∃ ps,fH zT eL eM 4 8 1 1 1 9223372036854775808 18446744073709551615 1 0 (.int true .u64 0) (.int false .u64 u3) (wc [u0,u1,u2,u3,0,0,0,0]) (wc [u0,u1,u2,u3,0,0,0,0]) (wc [q0]) (wc [q0]) (wc [h0,h1,h2,h3]) (wc [0,0,0,0]) [false,true,false,true]=some (.at .normal,[],ps)/\∀ q∈ps,q:=by
 have z2:=a1.1;have z3:=a1.2;have z4:=a2.1;have z5:=a2.2;have z6:=a3.1;have z7:=a3.2
 have e0:U 9223372036854775808:=⟨by decide,by decide⟩
 have hQ:dq 9223372036854775808 0 u3=0:=by unfold dq;omega
 have hR:dr 9223372036854775808 0 u3=u3:=by unfold dr;omega
 have hg:gt 0 0 u3 u2=false:=by unfold gt;exact nD (by omega)
 refine ⟨_,aVb eL eM u0 u1 u2 u3 _ _ _ q0 h0 h1 h2 h3 _ _ _ _,aB ?_⟩
 simp only [hQ,hR,bZ,Int.mul_zero,Int.zero_mul,Int.add_zero,Int.sub_zero,ul0,Ia,rG a1,rG a2,rG a3,sZ a1,sZ a2,sZ a3,hg,U0,K0,e0,a1,a2,a3,and_true,true_and]
 and_intros <;> first | rfl | decide
open M in
theorem aHx (eL eM:List SV) (q0:Int) {u0 u1 u2 u3:Int} (a0:U u0) (a1:U u1) (a2:U u2) (h3:0<=u3) (hd:u3<4) :
 ∃ ps,fH zT eL eM 4 8 1 1 1 9223372036854775808 18446744073709551615 0 (-1) (.int false .u64 u3) (.int false .u64 (u2%9223372036854775808)) (wc [u0,u1,u2,u3,0,0,0,0]) (wc [u0,u1,u2%9223372036854775808,0,0,0,0,0]) (wc [q0]) (wc [dq 9223372036854775808 u3 u2]) (wc [0,0,0,0]) (wc [0,0,u2/9223372036854775808*9223372036854775808,u3]) [true,false,false]=some (.at .normal,[],ps)/\∀ q∈ps,q:=by
 have z0:=a0.1;have z1:=a0.2;have z2:=a1.1;have z3:=a1.2;have z4:=a2.1;have z5:=a2.2
 have a3:U u3:=by unfold U;omega
 have e0:U 9223372036854775808:=⟨by decide,by decide⟩
 obtain ⟨Q,hQ⟩:∃ Q,Q=dq 9223372036854775808 u3 u2:=⟨_,rfl⟩
 have hQ':Q=2*u3+u2/9223372036854775808:=by rw [hQ];unfold dq;omega
 have hR:dr 9223372036854775808 u3 u2=u2%9223372036854775808:=by unfold dr;omega
 have aQ:U Q:=by unfold U;omega
 have hl:ul (9223372036854775808*Q)=u2/9223372036854775808*9223372036854775808:=by unfold ul;omega
 have hh:uh (9223372036854775808*Q)=u3:=by unfold uh;omega
 have aP:U (u2/9223372036854775808*9223372036854775808):=by unfold U;omega
 have hs:u2-u2/9223372036854775808*9223372036854775808=u2%9223372036854775808:=by omega
 have aS:U (u2%9223372036854775808):=by unfold U;omega
 have hg:gt 0 0 (u2%9223372036854775808) u1=false:=by unfold gt;exact nD (by omega)
 have h33:u3-u3=0:=by omega
 have e9:(u3 != 9223372036854775808)=true:=bne_iff_ne.2 (by omega)
 have cL:u3<9223372036854775808:=by omega
 refine ⟨_,aVa eL eM u0 u1 u2 u3 _ _ _ _ q0 _ 0 0 0 0 _ _ _ _,aB ?_⟩
 rw [<- hQ]
 simp only [hR,bZ,Int.mul_zero,Int.zero_mul,Int.zero_add,Int.add_zero,Int.sub_zero,ul0,Ia,hl,hh,hs,h33,rG a0,rG a1,rG aS,rG U0,sZ a0,sZ a1,sZ aS,hg,U0,K0,e0,a0,a1,a2,a3,aQ,aP,aS,e9,cL,and_true,true_and]
 first | done | (and_intros <;> first | rfl | decide)
open M in
set_option maxHeartbeats 2000000 in
theorem XS {u0 u1 u2 u3:Int} (y0:Int) (a0:U u0) (a1:U u1) (a2:U u2) (h3:0<=u3) (hd:u3<4) :
 aE Tryz.prog Γv 225 (zQ 4 8 1 1) (Fl zT (wc [u0,u1,u2,u3,0,0,0,0]) (wc [y0])) 100 100 { val:=.eF [],wr:=[(61,.own (wc [dq 9223372036854775808 u3 u2]) 142),(63,.own (wc [u0,u1,u2%9223372036854775808,0,0,0,0,0]) 142)] }:=by
 have a3:U u3:=by unfold U;omega
 refine iE kC kD Tryz.func225 (by kernel_rfl) rfl (kJ (by kernel_rfl)) rfl [] ?_
 intro YK Mx V0 Q hb H
 have aW:=kC
 have aY:=kD
 refine G.xD aW aY mix hb [] (aVc u0 u1 u2 u3 y0 11259375 0 0 0) (aB (by simp only [sh,bZ,and_true])) ?_
 refine G.loop (fun r s=>(r=2/\s=cG (iX 4 8 1 1 1 9223372036854775808 18446744073709551615 (.int true .u64 0) 1) (iW (wc [11259375,0,0,0]) (wc [u0,u1,u2,u3,0,0,0,0]) (wc [y0])) 101 [61,63] iY)
  \/ (r=1/\s=cG (iX 4 8 1 1 1 9223372036854775808 18446744073709551615 (.int false .u64 u3) 0) (iW (wc [0,0,0,0]) (wc [u0,u1,u2,u3,0,0,0,0]) (wc [y0])) 101 [61,63] iY)
  \/ (r=0/\s=cG (iX 4 8 1 1 1 9223372036854775808 18446744073709551615 (.int false .u64 (u2%9223372036854775808)) (-1)) (iW (wc [0,0,u2/9223372036854775808*9223372036854775808,u3]) (wc [u0,u1,u2%9223372036854775808,0,0,0,0,0]) (wc [dq 9223372036854775808 u3 u2])) 101 [61,63] iY)) (r0:=2) (.inl ⟨rfl,rfl⟩) ?_
 rintro r s (⟨rfl,rfl⟩ | ⟨rfl,rfl⟩ | ⟨rfl,rfl⟩)
 .obtain ⟨ps,e,hp⟩:=aHy (wc [u0,u1,u2,u3,0,0,0,0]) (wc [y0]) y0 11259375 0 0 0 (u0:=u0) a1 a2 a3 (by omega)
  exact G.kE aW aY mix hb _ e hp 1 (by omega) (.inr (.inl ⟨rfl,rfl⟩))
 .obtain ⟨ps,e,hp⟩:=aHx (wc [u0,u1,u2,u3,0,0,0,0]) (wc [y0]) y0 a0 a1 a2 h3 hd
  exact G.kE aW aY mix hb _ e hp 0 (by omega) (.inr (.inr ⟨rfl,rfl⟩))
 .exact G.xD aW aY mix hb [] (aUy _ _ u0 u1 _ _ _ _ _ _ _) (aB (by simp only [sh,bZ,and_true])) (G.leave (fun h=>by cases h)
   (G.fin aW aY mix [] H (aUz _ _ u0 u1 _ _ _ _ _ _ _) (by simp) rfl rfl rfl))
open M in
def DQ (vs:List SV) (T:bB):Option Canon:=match vs with
 | [.aG lq true 0 1 1,.ptr ls true 0,.aG lu true 0 4 8,.dD lv 0 3 0]=>match T lq,T ls,T lu,T lv with
   | some (.own qs 142),some (.own [.raw (.pointer none)] 282),some (.own us 142),some (.row 1 _ 142)=>match cR .u64 qs,cR .u64 us with
     | some [y0],some [u0,u1,u2,u3,_,_,_,_]=>some { eN:=zQ 4 8 1 1,T0:=[(61,.own (wc [y0]) 142),(62,.own [.raw (.pointer none)] 282),(63,.own (wc [u0,u1,u2,u3,0,0,0,0]) 142),(64,.row 1 zT 142)],vl:=[(61,.lab lq 0),(62,.lab ls 0),(63,.lab lu 0),(64,.lab lv 0)],e0:={ val:=.eF [],wr:=[(61,.own (wc [dq 9223372036854775808 u3 u2]) 142),(63,.own (wc [u0,u1,u2%9223372036854775808,0,0,0,0,0]) 142),(62,.own [.raw (.pointer none)] 282),(64,.row 1 zT 142)] },conds:=[U u0,U u1,U u2,0<=u3,u3<4] }
     | _,_=>none
   | _,_,_,_=>none
 | _=>none
theorem aPc (Γ:Env) (hg:Γ.aR=aA):aF Tryz.prog Γ 225 (aL aA 100 DQ):=by
 refine aU hg fun vs T c hd hc=>?_
 unfold DQ at hd
 split at hd
 case h_2=>cases hd
 split at hd
 case h_2=>cases hd
 split at hd
 case h_2=>cases hd
 cases hd
 exact (((XS _ (hc _ (by simp)) (hc _ (by simp)) (hc _ (by simp)) (hc _ (by simp)) (hc _ (by simp))).bC 62 _ rfl (by decide)).bC 64 _ rfl (by decide)).words (by rw [hg];rfl) (fun _=>rfl) (fun _ _ h=>h) (fun _=>rfl) rfl rfl
noncomputable def PV (h:List Bool):Nat->Option Sum:=zS Ut 151 h
theorem XD (h:List Bool):∀ f S,PV h f=some S->∀ Γ:Env,Γ.aR=aA->aF Tryz.prog Γ f S:=kT oH 151 h
def lQ:List SV:=[.ptr 61 true 0,.aG 62 true 0 16 16]
def mI:List SV:=List.replicate 16 (.int true .u8 0)
def NY (X:SV) (xs:List SV) (out:List SV):List (Nat × SB):=[(61,.fL [.bool true false,X]),(62,.own out 77),(63,.fL xs)]
noncomputable def Rp (h:List Bool) (X:SV) (xs:List SV):Option bK:=aJ (env (PV h) 22) Tryz.f109 true [] 400 lQ (fun l=>look l (NY X xs mI)) 100 100
namespace M
def sr:Nat->Int->Int
 | 0,a=>a
 | j+1,a=>bU .u64 (sr j a) 8
def eG (j:Nat) (a:Int):Int:=IntKind.u8.wrap (sr j a)
end M
namespace M
def ZE (a0 a1:Int):List Int:=[eG 7 a1,eG 6 a1,eG 5 a1,eG 4 a1,eG 3 a1,eG 2 a1,eG 1 a1,eG 0 a1,eG 7 a0,eG 6 a0,eG 5 a0,eG 4 a0,eG 3 a0,eG 2 a0,eG 1 a0,eG 0 a0]
def fbZ (l:List Int) (k:Nat):List Prop:=(List.range k).reverse.map fun j=>(l.getD j 0==0)=true
def fbO (l:List Int) (k:Nat):List Prop:=((l.getD k 0==0)=false)::fbZ l k
def fbP (k n:Nat):List Bool:=match Nat.blt k n with
 | true=>List.replicate k true++[false]
 | false=>List.replicate n true
def fbQ (l:List Int) (k n:Nat):List Prop:=match Nat.blt k n with
 | true=>fbO l k
 | false=>fbZ l n
theorem FL (l:List Int) (n:Nat):∃ k,k<=n/\∀ q∈fbQ l k n,q:=by
 have zer:∀ m,(∀ j,j<m->(l.getD j 0==0)=true)->∀ q∈fbZ l m,q:=fun m h q hq=>by
  obtain ⟨j,hj,rfl⟩:=List.mem_map.1 hq
  exact h j (by simpa using hj)
 have key:∀ m,m<=n->(∃ k,k<=n/\∀ q∈fbQ l k n,q)\/∀ j,j<m->(l.getD j 0==0)=true:=by
  intro m
  induction m with
  | zero=>exact fun _=>.inr fun j h=>by omega
  | succ m ih=>
    intro hm
    rcases ih (by omega) with h | h
    .exact .inl h
    .cases hb:(l.getD m 0==0) with
     | false=>
       refine .inl ⟨m,by omega,?_⟩
       unfold fbQ
       rw [show Nat.blt m n=true by rw [Nat.blt_eq];omega]
       intro q hq
       rcases List.mem_cons.1 hq with rfl | hq
       .exact hb
       .exact zer m h q hq
     | true=>exact .inr fun j hj=>if e:j=m then by rw [e];exact hb else h j (by omega)
 rcases key n (dF _) with h | h
 .exact h
 .refine ⟨n,dF _,?_⟩
  unfold fbQ
  rw [show Nat.blt n n=false by cases hb:Nat.blt n n with
   | false=>rfl
   | true=>rw [Nat.blt_eq] at hb;omega]
  exact zer n h
end M
theorem WR (c:Nat) (xs:List SV) :
 Rp [] (.aG 63 true 0 0 c) xs =
 some {val:=.aG 62 true 0 16 16,wr:=[(62,.own mI 77)]}:=by kernel_rfl
theorem aUl (xs:List SV) :
 Rp [] (.raw (.slice none 0 0)) xs =
 some {val:=.aG 62 true 0 16 16,wr:=[(62,.own mI 77)]}:=by kernel_rfl
def fbW (n:Nat) (l:List Int):List SV:=mI.take (16-n)++bc (l.drop (16-n))
theorem aUn (c:Nat) (a0:Int) (xs:List SV) (k:Nat) (hk:k<=8):Rp (M.fbP k 8) (.aG 63 true 0 1 c) (ww a0 xs)=some { bO:=M.fbQ ((M.ZE a0 0).drop 8) k 8,val:=.aG 62 true 0 16 16,wr:=[(62,.own (fbW 8 (M.ZE a0 0)) 77)] }:=by
 rcases (by omega:k=0\/k=1\/k=2\/k=3\/k=4\/k=5\/k=6\/k=7\/k=8) with rfl | rfl | rfl | rfl | rfl | rfl | rfl | rfl | rfl <;> kernel_rfl
theorem aUm (c:Nat) (a0 a1:Int) (xs:List SV) (k:Nat) (hk:k<=16):Rp (M.fbP k 16) (.aG 63 true 0 2 c) (ww a0 (ww a1 xs))=some { bO:=M.fbQ (M.ZE a0 a1) k 16,val:=.aG 62 true 0 16 16,wr:=[(62,.own (fbW 16 (M.ZE a0 a1)) 77)] }:=by
 rcases (by omega:k=0\/k=1\/k=2\/k=3\/k=4\/k=5\/k=6\/k=7\/k=8\/k=9\/k=10\/k=11\/k=12\/k=13\/k=14\/k=15\/k=16) with rfl | rfl | rfl | rfl | rfl | rfl | rfl | rfl | rfl | rfl | rfl | rfl | rfl | rfl | rfl | rfl | rfl <;> kernel_rfl
namespace M
def nb (n:Int) (j:Nat):Int:=n/256^j%256
theorem ZN (a:Int):∀ j:Nat,sr j a=a/256^j
 | 0=>by simp [sr]
 | j+1=>by
   show Int.fdiv (sr j a) 256=_
   rw [Int.fdiv_eq_ediv_of_nonneg _ (by decide),ZN a j,Int.pow_succ]
   exact Int.ediv_ediv_of_nonneg (Int.le_of_lt (Int.pow_pos (by decide)))
theorem aAt (j:Nat) (a:Int):eG j a=a/256^j%256:=by
 unfold eG
 rw [IntKind.wrap_u8,ZN]
theorem aNh (a0 a1:Int) (j:Nat) (hj:j<8):nb (a0+18446744073709551616*a1) j=eG j a0:=by
 rw [aAt]
 unfold nb
 rcases (by omega:j=0\/j=1\/j=2\/j=3\/j=4\/j=5\/j=6\/j=7) with rfl | rfl | rfl | rfl | rfl | rfl | rfl | rfl <;> omega
theorem aNi {a0:Int} (h0:U a0) (a1:Int) (j:Nat) (hj:j<8):nb (a0+18446744073709551616*a1) (j+8)=eG j a1:=by
 have:=h0.1
 have:=h0.2
 rw [aAt]
 unfold nb
 rcases (by omega:j=0\/j=1\/j=2\/j=3\/j=4\/j=5\/j=6\/j=7) with rfl | rfl | rfl | rfl | rfl | rfl | rfl | rfl <;> omega
def nbs (n:Int):List Int:=[nb n 15,nb n 14,nb n 13,nb n 12,nb n 11,nb n 10,nb n 9,nb n 8,nb n 7,nb n 6,nb n 5,nb n 4,nb n 3,nb n 2,nb n 1,nb n 0]
theorem FA {a0:Int} (h0:U a0) (a1:Int):nbs (a0+18446744073709551616*a1)=ZE a0 a1:=by
 have h:=aNi h0 a1
 have l:=aNh a0 a1
 simp only [nbs,ZE,List.cons.injEq,and_true]
 exact ⟨h 7 (by decide),h 6 (by decide),h 5 (by decide),h 4 (by decide),h 3 (by decide),h 2 (by decide),h 1 (by decide),h 0 (by decide),l 7 (by decide),l 6 (by decide),l 5 (by decide),l 4 (by decide),l 3 (by decide),l 2 (by decide),l 1 (by decide),l 0 (by decide)⟩
end M
def ZD (n:Int):bK:={ val:=.aG 62 true 0 16 16,wr:=[(62,.own (bc (M.nbs n)) 77)] }
theorem PR (h:List Bool):aF Tryz.prog (env (PV h) 22) 109 (aJ (env (PV h) 22) Tryz.f109 true [] 400):=aM (bL _ 22) (bS _ (XD h) 22) mix Tryz.func109 (by kernel_rfl) true [] 400
theorem aJw:M.nbs 0=List.replicate 16 0:=by decide
theorem IG (xs:List SV):aE Tryz.prog Γv 109 lQ (fun l=>look l (NY (.raw (.slice none 0 0)) xs mI)) 100 100 (ZD 0):=
 ((PR []).call (aUl xs) (by simp)).re rfl (fun _=>rfl) trivial ⟨rfl,⟨rfl,fun _=>by rw [aJw];rfl⟩,trivial⟩
theorem IJ (c:Nat) (xs:List SV):aE Tryz.prog Γv 109 lQ (fun l=>look l (NY (.aG 63 true 0 0 c) xs mI)) 100 100 (ZD 0):=
 ((PR []).call (WR c xs) (by simp)).re rfl (fun _=>rfl) trivial ⟨rfl,⟨rfl,fun _=>by rw [aJw];rfl⟩,trivial⟩
open M in
theorem II (c:Nat) {a0:Int} (h0:U a0) (xs:List SV):aE Tryz.prog Γv 109 lQ (fun l=>look l (NY (.aG 63 true 0 1 c) (ww a0 xs) mI)) 100 100 (ZD a0):=by
 obtain ⟨k,hk,ho⟩:=FL ((ZE a0 0).drop 8) 8
 have e:=FA h0 0
 rw [Int.mul_zero,Int.add_zero] at e
 exact ((PR _).call (aUn c a0 xs k hk) ho).re rfl (fun _=>rfl) trivial ⟨rfl,⟨rfl,fun V=>by rw [e];rfl⟩,trivial⟩
open M in
theorem IH (c:Nat) {a0 a1:Int} (h0:U a0) (_:U a1) (xs:List SV):aE Tryz.prog Γv 109 lQ (fun l=>look l (NY (.aG 63 true 0 2 c) (ww a0 (ww a1 xs)) mI)) 100 100 (ZD (a0+18446744073709551616*a1)):=by
 obtain ⟨k,hk,ho⟩:=FL (ZE a0 a1) 16
 have e:=FA h0 a1
 exact ((PR _).call (aUm c a0 a1 xs k hk) ho).re rfl (fun _=>rfl) trivial ⟨rfl,⟨rfl,fun V=>by rw [e];rfl⟩,trivial⟩
end Go.Proofs.YtnodfocobmghiaaGreatDoor.Sx
