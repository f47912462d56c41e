/- math/big: (*Int).Mod by 2^130 - 5, in place, as a summary; calls on the same blocks in other words. -/
import Derived.Test.YtnodfocobmghiaaGreatDoorQE
open Go
set_option maxRecDepth 100000
namespace Go.Proofs.YtnodfocobmghiaaGreatDoor.Sx
theorem Rq {B C:SB} (h:kY B C):kY C B:=by
 cases B with
 | own cs t=>
   cases C with
   | own ds t'=>exact ⟨h.1.symm,fun V=>(h.2 V).symm⟩
   | _=>simp [kY] at h
 | _=>simp only [kY] at h;subst h;exact cB _
theorem aF.reL {P:Program} {Γ:Env} {f:FuncId} {vs Jr:List SV} {L L':List (Nat × SB)} {lab F:Nat} {e:bK} (h:aF P Γ f vs (fun l=>look l L) lab F e) (hw:nZ L L') (hv:∀ V,aJ V Jr=aJ V vs):aF P Γ f Jr (fun l=>look l L') lab F e:=by
 intro w0 M V T2 w xs aR Hm Xf hf hF hx o a K Q hK
 obtain ⟨T3,hT3⟩:∃ T3:aX,T3=fun l=>match look l L with
  | some B=>some B
  | none=>T2 l:=⟨_,rfl⟩
 have src:∀ l B,T3 l=some B->∃ C,T2 l=some C/\kY C B:=by
  intro l B hl
  rw [hT3] at hl
  simp only at hl
  rcases pF (l:=l) hw with ⟨e1,e2⟩ | ⟨C,D,e1,e2,e3⟩
  .rw [e1] at hl;exact ⟨B,hl,cB B⟩
  .rw [e1] at hl;cases hl;exact ⟨D,aR l D e2,Rq e3⟩
 have back:∀ l B,T2 l=some B->∃ C,T3 l=some C/\kY C B:=by
  intro l B hl
  rw [hT3]
  rcases pF (l:=l) hw with ⟨e1,e2⟩ | ⟨C,D,e1,e2,e3⟩
  .simp only [e1];exact ⟨B,hl,cB B⟩
  .simp only [e1]
   have:=aR l D e2
   rw [hl] at this
   cases this
   exact ⟨C,rfl,e3⟩
 have move:∀ {T T':aX} {V:bA} {w:World},(∀ l B,T' l=some B->∃ C,T l=some C/\kY C B)->aD w0 M V T w->aD w0 M V T' w:=by
  intro T T' V w hs ht
  refine ⟨fun l B hl=>?_,fun l B l' B' n dI hl sL ho hb iL=>?_,fun l B n hl ho hb=>?_,ht.frame⟩
  .obtain ⟨C,hC,hs⟩:=hs l B hl
   exact (kI hs V w l).1 (ht.ok l C hC)
  .obtain ⟨C,hC,iK⟩:=hs l B hl
   obtain ⟨C',hC',xX⟩:=hs l' B' sL
   obtain ⟨_,b1,b2⟩:=kI iK V w l
   obtain ⟨_,b1',b2'⟩:=kI xX V w l'
   exact ht.iY l C l' C' n dI hC hC' (b2 ▸ ho) (b1 ▸ hb) (b1' ▸ iL)
  .obtain ⟨C,hC,hs⟩:=hs l B hl
   obtain ⟨_,b1,b2⟩:=kI hs V w l
   exact ht.perm l C n hC (b2 ▸ ho) (b1 ▸ hb)
 refine h w0 M V T3 w xs (fun l B hl=>?_) (move src Hm) Xf hf hF ((hv V).symm.trans hx) o a K Q fun V' x w' h1 h2 h3=>hK V' x w' h1 h2 (move (fun l B hl=>?_) h3)
 .have hl:look l L=some B:=hl
  rw [hT3];simp only;rw [hl]
 .unfold eT at hl |-
  cases hk:look l (e.eW lab) with
  | some C=>rw [hk] at hl;cases hl;exact ⟨_,rfl,cB _⟩
  | none=>rw [hk] at hl;exact back l B hl
noncomputable def aIq:Option bK:=aK (env (oR true 0 0) 22) Tryz.f98 true [] 400 qC (fun l=>look l [(61,.own [.bool true false,.raw (.slice none 0 0)] 102),(62,.own [.bool true false,.aH 66 true 0 3 8] 102),(66,.own Ea 142),(18,.eQ [.int true .i64 40])]) 100 100
theorem md0 (x:Int) :
 aIq =
 some {val:=SV.ptr 61 true 0,wr:=[(61,SB.own [SV.bool true false,SV.raw (Value.slice none (0:Nat) (0:Nat))] 102)]}:=by kernel_rfl
open M in
def FL (vs:List SV) (T:aX):Option Canon:=match vs with
 | [.ptr l1 true 0,.ptr l1' true 0,.ptr l2 true 0]=>match Nat.beq l1 l1',T l1,T l2 with
   | true,some (.own [.bool _ _,X] 102),some (.own [.bool _ _,.aH lp _ 0 3 8] 102)=>match X with
     | .raw (.slice none 0 0)=>some { eL:=qC,T0:=[(61,.own [.bool true false,.raw (.slice none 0 0)] 102),(62,.own [.bool true false,.aH 66 true 0 3 8] 102),(66,.own Ea 142),(18,.eQ [.int true .i64 40])],vl:=[(61,.lab l1 0),(62,.lab l2 0),(66,.lab lp 0)],e0:={ val:=.ptr 61 true 0,wr:=[(61,.own [.bool true false,.raw (.slice none 0 0)] 102),(62,.own [.bool true false,.aH 66 true 0 3 8] 102),(66,.own Ea 142)] } }
     | .aH lw true 0 n cap=>match T lw with
       | some (.own cs 142)=>match cU .u64 cs with
         | some [a0,a1,_,_,_,_]=>match Nat.beq cap 6,Nat.beq n 1,Nat.beq n 2 with
           | true,true,_=>some { eL:=qC,T0:=[(61,.own [.bool true false,.aH 63 true 0 1 6] 102),(62,.own [.bool true false,.aH 66 true 0 3 8] 102),(63,.own (wc [a0,0,0,0,0,0]) 142),(66,.own Ea 142),(18,.eQ [.int true .i64 40])],vl:=[(61,.lab l1 0),(62,.lab l2 0),(63,.lab lw 0),(66,.lab lp 0)],e0:={ val:=.ptr 61 true 0,wr:=[(61,.own [.bool true false,.aH 63 false 0 (ln (a0%bB)) 6] 102),(63,.own (wc [w0 (a0%bB),w1 (a0%bB),w2 (a0%bB),0,0,0]) 142),(62,.own [.bool true false,.aH 66 true 0 3 8] 102),(66,.own Ea 142)] },conds:=[U a0,a0≠0] }
           | true,_,true=>some { eL:=qC,T0:=[(61,.own [.bool true false,.aH 63 true 0 2 6] 102),(62,.own [.bool true false,.aH 66 true 0 3 8] 102),(63,.own (wc [a0,a1,0,0,0,0]) 142),(66,.own Ea 142),(18,.eQ [.int true .i64 40])],vl:=[(61,.lab l1 0),(62,.lab l2 0),(63,.lab lw 0),(66,.lab lp 0)],e0:={ val:=.ptr 61 true 0,wr:=[(61,.own [.bool true false,.aH 63 false 0 (ln ((a0+18446744073709551616*a1)%bB)) 6] 102),(63,.own (wc [w0 ((a0+18446744073709551616*a1)%bB),w1 ((a0+18446744073709551616*a1)%bB),w2 ((a0+18446744073709551616*a1)%bB),0,0,0]) 142),(62,.own [.bool true false,.aH 66 true 0 3 8] 102),(66,.own Ea 142)] },conds:=[U a0,U a1,a1≠0] }
           | _,_,_=>none
         | some [a0,a1,a2,_,_,_,_]=>match Nat.beq cap 7,Nat.beq n 2,Nat.beq n 3 with
           | true,true,_=>some { eL:=qC,T0:=[(61,.own [.bool true false,.aH 63 true 0 2 7] 102),(62,.own [.bool true false,.aH 66 true 0 3 8] 102),(63,.own (wc [a0,a1,0,0,0,0,0]) 142),(66,.own Ea 142),(18,.eQ [.int true .i64 40])],vl:=[(61,.lab l1 0),(62,.lab l2 0),(63,.lab lw 0),(66,.lab lp 0)],e0:={ val:=.ptr 61 true 0,wr:=[(61,.own [.bool true false,.aH 63 false 0 (ln ((a0+18446744073709551616*a1)%bB)) 7] 102),(63,.own (wc [w0 ((a0+18446744073709551616*a1)%bB),w1 ((a0+18446744073709551616*a1)%bB),w2 ((a0+18446744073709551616*a1)%bB),0,0,0,0]) 142),(62,.own [.bool true false,.aH 66 true 0 3 8] 102),(66,.own Ea 142)] },conds:=[U a0,U a1,a1≠0] }
           | true,_,true=>some { eL:=qC,T0:=[(61,.own [.bool true false,.aH 63 true 0 3 7] 102),(62,.own [.bool true false,.aH 66 true 0 3 8] 102),(63,.own (wc [a0,a1,a2,0,0,0,0]) 142),(66,.own Ea 142),(18,.eQ [.int true .i64 40])],vl:=[(61,.lab l1 0),(62,.lab l2 0),(63,.lab lw 0),(66,.lab lp 0)],e0:={ val:=.ptr 61 true 0,wr:=[(61,.own [.bool true false,.aH 63 false 0 (ln (n3 a0 a1 a2%bB)) 7] 102),(63,.own (wc [w0 (n3 a0 a1 a2%bB),w1 (n3 a0 a1 a2%bB),w2 (n3 a0 a1 a2%bB),0,0,0,0]) 142),(62,.own [.bool true false,.aH 66 true 0 3 8] 102),(66,.own Ea 142)] },conds:=[U a0,U a1,U a2,a2≠0] }
           | _,_,_=>none
         | some [a0,a1,a2,a3,_,_,_,_]=>match Nat.beq cap 8,Nat.beq n 3,Nat.beq n 4 with
           | true,true,_=>some { eL:=qC,T0:=[(61,.own [.bool true false,.aH 63 true 0 3 8] 102),(62,.own [.bool true false,.aH 66 true 0 3 8] 102),(63,.own (wc [a0,a1,a2,0,0,0,0,0]) 142),(66,.own Ea 142),(18,.eQ [.int true .i64 40])],vl:=[(61,.lab l1 0),(62,.lab l2 0),(63,.lab lw 0),(66,.lab lp 0)],e0:={ val:=.ptr 61 true 0,wr:=[(61,.own [.bool true false,.aH 63 false 0 (ln (n3 a0 a1 a2%bB)) 8] 102),(63,.own (wc [w0 (n3 a0 a1 a2%bB),w1 (n3 a0 a1 a2%bB),w2 (n3 a0 a1 a2%bB),0,0,0,0,0]) 142),(62,.own [.bool true false,.aH 66 true 0 3 8] 102),(66,.own Ea 142)] },conds:=[U a0,U a1,U a2,a2≠0] }
           | true,_,true=>some { eL:=qC,T0:=[(61,.own [.bool true false,.aH 63 true 0 4 8] 102),(62,.own [.bool true false,.aH 66 true 0 3 8] 102),(63,.own (wc [a0,a1,a2,a3,0,0,0,0]) 142),(66,.own Ea 142),(18,.eQ [.int true .i64 40])],vl:=[(61,.lab l1 0),(62,.lab l2 0),(63,.lab lw 0),(66,.lab lp 0)],e0:={ val:=.ptr 61 true 0,wr:=[(61,.own [.bool true false,.aH 63 false 0 (ln (n4 a0 a1 a2 a3%bB)) 8] 102),(63,.own (wc [w0 (n4 a0 a1 a2 a3%bB),w1 (n4 a0 a1 a2 a3%bB),w2 (n4 a0 a1 a2 a3%bB),0,0,0,0,0]) 142),(62,.own [.bool true false,.aH 66 true 0 3 8] 102),(66,.own Ea 142)] },conds:=[U a0,U a1,U a2,U a3,a3≠0] }
           | _,_,_=>none
         | some [a0,a1,a2,a3,_,_,_,_,_]=>match Nat.beq cap 9,Nat.beq n 4 with
           | true,true=>some { eL:=qC,T0:=[(61,.own [.bool true false,.aH 63 true 0 4 9] 102),(62,.own [.bool true false,.aH 66 true 0 3 8] 102),(63,.own (wc [a0,a1,a2,a3,0,0,0,0,0]) 142),(66,.own Ea 142),(18,.eQ [.int true .i64 40])],vl:=[(61,.lab l1 0),(62,.lab l2 0),(63,.lab lw 0),(66,.lab lp 0)],e0:={ val:=.ptr 61 true 0,wr:=[(61,.own [.bool true false,.aH 63 false 0 (ln (n4 a0 a1 a2 a3%bB)) 9] 102),(63,.own (wc [w0 (n4 a0 a1 a2 a3%bB),w1 (n4 a0 a1 a2 a3%bB),w2 (n4 a0 a1 a2 a3%bB),0,0,0,0,0,0]) 142),(62,.own [.bool true false,.aH 66 true 0 3 8] 102),(66,.own Ea 142)] },conds:=[U a0,U a1,U a2,U a3,a3≠0] }
           | _,_=>none
         | _=>none
       | _=>none
     | _=>none
   | _,_,_=>none
 | _=>none
open M in
theorem aQr (Γ:Env) (hg:Γ.aO=aB):aG Tryz.prog Γ 98 (aL aB 100 FL):=by
 refine aY hg fun vs T c hd hc=>?_
 unfold FL at hd
 split at hd
 case h_2=>cases hd
 split at hd
 case h_2=>cases hd
 split at hd
 case h_3=>cases hd
 .cases hd
  have hs:aG Tryz.prog (env (oR true 0 0) 22) 98 (aK (env (oR true 0 0) 22) Tryz.f98 true [] 400):=aN (bL _ 22) (bV _ (nH true 0 0) 22) mix Tryz.func98 (by kernel_rfl) true [] 400
  exact (((hs.call (md0 0) (by simp)).bD 62 _ rfl (by decide)).bD 66 _ rfl (by decide)).words (by rw [hg];rfl) (fun _=>rfl) (fun _ _ h=>h) (fun _=>rfl) rfl rfl
 split at hd
 case h_2=>cases hd
 split at hd
 case h_5=>cases hd
 .rename_i a0 a1 _ _ _ _ _
  split at hd
  case h_3=>cases hd
  .cases hd
   exact (((Sa (hc _ (by simp)) (hc _ (by simp))).bD 62 _ rfl (by decide)).bD 66 _ rfl (by decide)).words (by rw [hg];rfl) (fun _=>rfl) (fun _ _ h=>h) (fun _=>rfl) rfl rfl
  .cases hd
   exact (((Rz (hc _ (by simp)) (hc _ (by simp)) (hc _ (by simp))).bD 62 _ rfl (by decide)).bD 66 _ rfl (by decide)).words (by rw [hg];rfl) (fun _=>rfl) (fun _ _ h=>h) (fun _=>rfl) rfl rfl
 .rename_i a0 a1 a2 _ _ _ _ _
  split at hd
  case h_3=>cases hd
  .cases hd
   exact (((Ry (hc _ (by simp)) (hc _ (by simp)) (hc _ (by simp))).bD 62 _ rfl (by decide)).bD 66 _ rfl (by decide)).words (by rw [hg];rfl) (fun _=>rfl) (fun _ _ h=>h) (fun _=>rfl) rfl rfl
  .cases hd
   have h3:a2≠0:=hc _ (by simp)
   have u0:U a0:=hc _ (by simp)
   have u1:U a1:=hc _ (by simp)
   have u2:U a2:=hc _ (by simp)
   by_cases hp:n3 a0 a1 a2<bB
   .exact (((Rx u0 u1 u2 h3 hp).bD 62 _ rfl (by decide)).bD 66 _ rfl (by decide)).words (by rw [hg];rfl) (fun _=>rfl) (fun _ _ h=>h) (fun _=>rfl) rfl rfl
   .exact (((Gk (.inl rfl) u0 u1 u2 (by omega)).bD 62 _ rfl (by decide)).bD 66 _ rfl (by decide)).words (by rw [hg];rfl) (fun _=>rfl) (fun _ _ h=>h) (fun _=>rfl) rfl rfl
 .rename_i a0 a1 a2 a3 _ _ _ _ _
  split at hd
  case h_3=>cases hd
  .cases hd
   have h3:a2≠0:=hc _ (by simp)
   have u0:U a0:=hc _ (by simp)
   have u1:U a1:=hc _ (by simp)
   have u2:U a2:=hc _ (by simp)
   by_cases hp:n3 a0 a1 a2<bB
   .exact (((Rw u0 u1 u2 h3 hp).bD 62 _ rfl (by decide)).bD 66 _ rfl (by decide)).words (by rw [hg];rfl) (fun _=>rfl) (fun _ _ h=>h) (fun _=>rfl) rfl rfl
   .exact (((Gk (.inr rfl) u0 u1 u2 (by omega)).bD 62 _ rfl (by decide)).bD 66 _ rfl (by decide)).words (by rw [hg];rfl) (fun _=>rfl) (fun _ _ h=>h) (fun _=>rfl) rfl rfl
  .cases hd
   have h3:a3≠0:=hc _ (by simp)
   have u0:U a0:=hc _ (by simp)
   have u1:U a1:=hc _ (by simp)
   have u2:U a2:=hc _ (by simp)
   have u3:U a3:=hc _ (by simp)
   have hp:bB<=n4 a0 a1 a2 a3:=by
    have:=u0.1;have:=u1.1;have:=u2.1;have:=u3.1
    unfold bB n4;omega
   exact (((Gj (.inl rfl) u0 u1 u2 u3 hp).bD 62 _ rfl (by decide)).bD 66 _ rfl (by decide)).words (by rw [hg];rfl) (fun _=>rfl) (fun _ _ h=>h) (fun _=>rfl) rfl rfl
 .rename_i a0 a1 a2 a3 _ _ _ _ _ _
  split at hd
  case h_2=>cases hd
  .cases hd
   have h3:a3≠0:=hc _ (by simp)
   have u0:U a0:=hc _ (by simp)
   have u1:U a1:=hc _ (by simp)
   have u2:U a2:=hc _ (by simp)
   have u3:U a3:=hc _ (by simp)
   have hp:bB<=n4 a0 a1 a2 a3:=by
    have:=u0.1;have:=u1.1;have:=u2.1;have:=u3.1
    unfold bB n4;omega
   exact (((Gj (.inr rfl) u0 u1 u2 u3 hp).bD 62 _ rfl (by decide)).bD 66 _ rfl (by decide)).words (by rw [hg];rfl) (fun _=>rfl) (fun _ _ h=>h) (fun _=>rfl) rfl rfl
noncomputable def aFa:Nat->Option Sum:=dL Xi 98 (aL aB 100 FL)
theorem Wg:∀ f S,aFa f=some S->∀ Γ:Env,Γ.aO=aB->aG Tryz.prog Γ f S:=bE pB 98 _ aQr
noncomputable def Hp (iq ir:Nat):Nat->Option Sum:=dL Xi 145 (aL aB 100 (sX iq ir))
theorem Iv (iq ir:Nat):∀ f S,Hp iq ir f=some S->∀ Γ:Env,Γ.aO=aB->aG Tryz.prog Γ f S:=bE pB 145 _ (Cj iq ir)
def bc (xs:List Int):List SV:=xs.map (.int false .u8)
noncomputable def aIk (bs:List Int):Option bK:=aK (env (Hp 0 3) 22) Tryz.f59 true [] 400 [.dJ 61 0 17 0] (fun l=>look l [(61,.row 1 (bc bs) 5)]) 100 100
noncomputable def xB (iq:Nat) (o c:Nat) (bs:List Int):Option bK:=aK (env (Hp iq 0) 22) Tryz.f59 true [] 400 [.aH 61 true o 16 c] (fun l=>look l [(61,.eQ (bc bs))]) 100 100
namespace M
def iI (b0 b1 b2 b3 b4 b5 b6 b7:Int):Int:=jZ .u64 (jZ .u64 (jZ .u64 (jZ .u64 (jZ .u64 (jZ .u64 (jZ .u64 (IntKind.u64.wrap b0) (dD .u64 (IntKind.u64.wrap b1) 8)) (dD .u64 (IntKind.u64.wrap b2) 16)) (dD .u64 (IntKind.u64.wrap b3) 24)) (dD .u64 (IntKind.u64.wrap b4) 32)) (dD .u64 (IntKind.u64.wrap b5) 40)) (dD .u64 (IntKind.u64.wrap b6) 48)) (dD .u64 (IntKind.u64.wrap b7) 56)
end M
theorem n17 (b0 b1 b2 b3 b4 b5 b6 b7 b8 b9 cY cX cW dB dA gD iO:Int) :
 aIk [b0,b1,b2,b3,b4,b5,b6,b7,b8,b9,cY,cX,cW,dB,dA,gD,iO] =
 sh (IntKind.u64.wrap iO) fun z0=>
 some {bO:=([M.nl [M.iI b0 b1 b2 b3 b4 b5 b6 b7,M.iI b8 b9 cY cX cW dB dA gD,jZ .u64 0 (dD .u64 z0 0)]=3,[M.iI b0 b1 b2 b3 b4 b5 b6 b7,M.iI b8 b9 cY cX cW dB dA gD,jZ .u64 0 (dD .u64 z0 0),0,0,0,0]=[M.iI b0 b1 b2 b3 b4 b5 b6 b7,M.iI b8 b9 cY cX cW dB dA gD,jZ .u64 0 (dD .u64 z0 0),0,0,0,0]]:List Prop),val:=.ptr 100 true 0,new:=[.own [.bool true false,.aH 101 true 0 3 7] 102,.own [.int false .u64 (M.iI b0 b1 b2 b3 b4 b5 b6 b7),.int false .u64 (M.iI b8 b9 cY cX cW dB dA gD),.int false .u64 (jZ .u64 0 (dD .u64 z0 0)),.int false .u64 0,.int false .u64 0,.int false .u64 0,.int false .u64 0] 142]}:=by kernel_rfl
theorem YA (b0 b1 b2 b3 b4 b5 b6 b7 b8 b9 cY cX cW dB dA gD iO mA lZ lY lX lW lV lU lS lR lQ lP lO lN lM lL:Int) :
 xB 0 0 32 [b0,b1,b2,b3,b4,b5,b6,b7,b8,b9,cY,cX,cW,dB,dA,gD,iO,mA,lZ,lY,lX,lW,lV,lU,lS,lR,lQ,lP,lO,lN,lM,lL] =
 some {bO:=([M.nl [M.iI b0 b1 b2 b3 b4 b5 b6 b7,M.iI b8 b9 cY cX cW dB dA gD]=0,[M.iI b0 b1 b2 b3 b4 b5 b6 b7,M.iI b8 b9 cY cX cW dB dA gD,0,0,0,0]=[M.iI b0 b1 b2 b3 b4 b5 b6 b7,M.iI b8 b9 cY cX cW dB dA gD,0,0,0,0]]:List Prop),val:=.ptr 100 true 0,new:=[.own [.bool true false,.aH 101 true 0 0 6] 102,.own [.int false .u64 (M.iI b0 b1 b2 b3 b4 b5 b6 b7),.int false .u64 (M.iI b8 b9 cY cX cW dB dA gD),.int false .u64 0,.int false .u64 0,.int false .u64 0,.int false .u64 0] 142]}:=by kernel_rfl
theorem KG (b0 b1 b2 b3 b4 b5 b6 b7 b8 b9 cY cX cW dB dA gD iO mA lZ lY lX lW lV lU lS lR lQ lP lO lN lM lL:Int) :
 xB 0 16 16 [b0,b1,b2,b3,b4,b5,b6,b7,b8,b9,cY,cX,cW,dB,dA,gD,iO,mA,lZ,lY,lX,lW,lV,lU,lS,lR,lQ,lP,lO,lN,lM,lL] =
 some {bO:=([M.nl [M.iI iO mA lZ lY lX lW lV lU,M.iI lS lR lQ lP lO lN lM lL]=0,[M.iI iO mA lZ lY lX lW lV lU,M.iI lS lR lQ lP lO lN lM lL,0,0,0,0]=[M.iI iO mA lZ lY lX lW lV lU,M.iI lS lR lQ lP lO lN lM lL,0,0,0,0]]:List Prop),val:=.ptr 100 true 0,new:=[.own [.bool true false,.aH 101 true 0 0 6] 102,.own [.int false .u64 (M.iI iO mA lZ lY lX lW lV lU),.int false .u64 (M.iI lS lR lQ lP lO lN lM lL),.int false .u64 0,.int false .u64 0,.int false .u64 0,.int false .u64 0] 142]}:=by kernel_rfl
theorem XZ (b0 b1 b2 b3 b4 b5 b6 b7 b8 b9 cY cX cW dB dA gD iO mA lZ lY lX lW lV lU lS lR lQ lP lO lN lM lL:Int) :
 xB 1 0 32 [b0,b1,b2,b3,b4,b5,b6,b7,b8,b9,cY,cX,cW,dB,dA,gD,iO,mA,lZ,lY,lX,lW,lV,lU,lS,lR,lQ,lP,lO,lN,lM,lL] =
 some {bO:=([M.nl [M.iI b0 b1 b2 b3 b4 b5 b6 b7,M.iI b8 b9 cY cX cW dB dA gD]=1,[M.iI b0 b1 b2 b3 b4 b5 b6 b7,M.iI b8 b9 cY cX cW dB dA gD,0,0,0,0]=[M.iI b0 b1 b2 b3 b4 b5 b6 b7,M.iI b8 b9 cY cX cW dB dA gD,0,0,0,0]]:List Prop),val:=.ptr 100 true 0,new:=[.own [.bool true false,.aH 101 true 0 1 6] 102,.own [.int false .u64 (M.iI b0 b1 b2 b3 b4 b5 b6 b7),.int false .u64 (M.iI b8 b9 cY cX cW dB dA gD),.int false .u64 0,.int false .u64 0,.int false .u64 0,.int false .u64 0] 142]}:=by kernel_rfl
theorem KF (b0 b1 b2 b3 b4 b5 b6 b7 b8 b9 cY cX cW dB dA gD iO mA lZ lY lX lW lV lU lS lR lQ lP lO lN lM lL:Int) :
 xB 1 16 16 [b0,b1,b2,b3,b4,b5,b6,b7,b8,b9,cY,cX,cW,dB,dA,gD,iO,mA,lZ,lY,lX,lW,lV,lU,lS,lR,lQ,lP,lO,lN,lM,lL] =
 some {bO:=([M.nl [M.iI iO mA lZ lY lX lW lV lU,M.iI lS lR lQ lP lO lN lM lL]=1,[M.iI iO mA lZ lY lX lW lV lU,M.iI lS lR lQ lP lO lN lM lL,0,0,0,0]=[M.iI iO mA lZ lY lX lW lV lU,M.iI lS lR lQ lP lO lN lM lL,0,0,0,0]]:List Prop),val:=.ptr 100 true 0,new:=[.own [.bool true false,.aH 101 true 0 1 6] 102,.own [.int false .u64 (M.iI iO mA lZ lY lX lW lV lU),.int false .u64 (M.iI lS lR lQ lP lO lN lM lL),.int false .u64 0,.int false .u64 0,.int false .u64 0,.int false .u64 0] 142]}:=by kernel_rfl
theorem XY (b0 b1 b2 b3 b4 b5 b6 b7 b8 b9 cY cX cW dB dA gD iO mA lZ lY lX lW lV lU lS lR lQ lP lO lN lM lL:Int) :
 xB 2 0 32 [b0,b1,b2,b3,b4,b5,b6,b7,b8,b9,cY,cX,cW,dB,dA,gD,iO,mA,lZ,lY,lX,lW,lV,lU,lS,lR,lQ,lP,lO,lN,lM,lL] =
 some {bO:=([M.nl [M.iI b0 b1 b2 b3 b4 b5 b6 b7,M.iI b8 b9 cY cX cW dB dA gD]=2,[M.iI b0 b1 b2 b3 b4 b5 b6 b7,M.iI b8 b9 cY cX cW dB dA gD,0,0,0,0]=[M.iI b0 b1 b2 b3 b4 b5 b6 b7,M.iI b8 b9 cY cX cW dB dA gD,0,0,0,0]]:List Prop),val:=.ptr 100 true 0,new:=[.own [.bool true false,.aH 101 true 0 2 6] 102,.own [.int false .u64 (M.iI b0 b1 b2 b3 b4 b5 b6 b7),.int false .u64 (M.iI b8 b9 cY cX cW dB dA gD),.int false .u64 0,.int false .u64 0,.int false .u64 0,.int false .u64 0] 142]}:=by kernel_rfl
theorem KE (b0 b1 b2 b3 b4 b5 b6 b7 b8 b9 cY cX cW dB dA gD iO mA lZ lY lX lW lV lU lS lR lQ lP lO lN lM lL:Int) :
 xB 2 16 16 [b0,b1,b2,b3,b4,b5,b6,b7,b8,b9,cY,cX,cW,dB,dA,gD,iO,mA,lZ,lY,lX,lW,lV,lU,lS,lR,lQ,lP,lO,lN,lM,lL] =
 some {bO:=([M.nl [M.iI iO mA lZ lY lX lW lV lU,M.iI lS lR lQ lP lO lN lM lL]=2,[M.iI iO mA lZ lY lX lW lV lU,M.iI lS lR lQ lP lO lN lM lL,0,0,0,0]=[M.iI iO mA lZ lY lX lW lV lU,M.iI lS lR lQ lP lO lN lM lL,0,0,0,0]]:List Prop),val:=.ptr 100 true 0,new:=[.own [.bool true false,.aH 101 true 0 2 6] 102,.own [.int false .u64 (M.iI iO mA lZ lY lX lW lV lU),.int false .u64 (M.iI lS lR lQ lP lO lN lM lL),.int false .u64 0,.int false .u64 0,.int false .u64 0,.int false .u64 0] 142]}:=by kernel_rfl
noncomputable def zA (h:List Bool):Nat->Option Sum:=Bh (dL aFa 145 (aL aB 100 (sX 0 3))) 153 h
theorem uT (h:List Bool):∀ f S,zA h f=some S->∀ Γ:Env,Γ.aO=aB->aG Tryz.prog Γ f S:=lG (bE Wg 145 _ (Cj 0 3)) 153 h
def iX:List SV:=[.agg [.ptr 62 true 0],.ptr 61 true 0,.ptr 63 true 0]
def sD (X Y:SV) (xs ys:List SV):List (Nat × SB):=[(61,.own [.bool true false,X] 102),(62,.own [.bool true false,.aH 66 true 0 3 8] 102),(63,.own [.bool true false,Y] 102),(64,.eQ xs),(65,.own ys 142),(66,.own Ea 142),(17,.eQ [.int true .i64 40]),(18,.eQ [.int true .i64 40])]
noncomputable def Fy (h:List Bool) (X:SV) (xs ys:List SV):Option bK:=aK (env (zA h) 22) Tryz.f63 true [] 400 iX (fun l=>look l (sD X (.aH 65 true 0 3 7) xs ys)) 100 100
def ww (x:Int) (r:List SV):List SV:=.int false .u64 x::r
namespace M
def az (p z c:Int):Int:=ul (ul (p+z)+c+0)
def ac (p z c:Int):Int:=IntKind.u64.wrap (uh (ul (p+z)+c+0)+uh (p+z))
def q0 (x0 y:Int):Int:=az (x0*y) 0 0
def k0 (x0 y:Int):Int:=ac (x0*y) 0 0
def q1 (x0 x1 y:Int):Int:=az (x1*y) 0 (k0 x0 y)
def k1 (x0 x1 y:Int):Int:=ac (x1*y) 0 (k0 x0 y)
def q2 (x0 x1 x2 y:Int):Int:=az (x2*y) 0 (k1 x0 x1 y)
def k2 (x0 x1 x2 y:Int):Int:=ac (x2*y) 0 (k1 x0 x1 y)
def r0 (x0 x1 y0 y1:Int):Int:=az (x0*y1) (q1 x0 x1 y0) 0
def Gx (x0 x1 y0 y1:Int):Int:=ac (x0*y1) (q1 x0 x1 y0) 0
def r1 (x0 x1 x2 y0 y1:Int):Int:=az (x1*y1) (q2 x0 x1 x2 y0) (Gx x0 x1 y0 y1)
def s1' (x0 x1 x2 y0 y1:Int):Int:=ac (x1*y1) (q2 x0 x1 x2 y0) (Gx x0 x1 y0 y1)
def r2 (x0 x1 x2 y0 y1:Int):Int:=az (x2*y1) (k2 x0 x1 x2 y0) (s1' x0 x1 x2 y0 y1)
def QM (x0 x1 x2 y0 y1:Int):Int:=ac (x2*y1) (k2 x0 x1 x2 y0) (s1' x0 x1 x2 y0 y1)
def e1 (x0 x1 y0 y1:Int):Int:=az (x1*y1) (k1 x0 x1 y0) (Gx x0 x1 y0 y1)
def f1 (x0 x1 y0 y1:Int):Int:=ac (x1*y1) (k1 x0 x1 y0) (Gx x0 x1 y0 y1)
def g0 (x0 y0:Int):Int:=ul (x0+y0+0)
def c0 (x0 y0:Int):Int:=uh (x0+y0+0)
def g1 (x0 x1 y0 y1:Int):Int:=ul (x1+y1+c0 x0 y0)
def c1 (x0 x1 y0 y1:Int):Int:=uh (x1+y1+c0 x0 y0)
def g2 (x0 x1 x2 y0 y1 y2:Int):Int:=ul (x2+y2+c1 x0 x1 y0 y1)
def c2 (x0 x1 x2 y0 y1 y2:Int):Int:=uh (x2+y2+c1 x0 x1 y0 y1)
end M
def wP:List (Nat × SB):=[(62,.own [.bool true false,.aH 66 true 0 3 8] 102),(66,.own Ea 142)]
theorem aXx (ca:Nat) (xs:List SV) (y0 y1 y2:Int) (ys:List SV) :
 Fy [] (.aH 64 true 0 0 ca) xs (ww y0 (ww y1 (ww y2 ys))) =
 sh (M.n3 y0 y1 y2%M.bB) fun z0=>
 some {bO:=([M.U y0,M.U y1,M.U y2,y2≠0,[y0,y1,y2,0,0,0,0]=[y0,y1,y2,0,0,0,0]]:List Prop),val:=.ptr 100 true 0,new:=[.own [.bool true false,.aH 101 false 0 (M.ln z0) 7] 102,.own [.int false .u64 (M.w0 z0),.int false .u64 (M.w1 z0),.int false .u64 (M.w2 z0),.int false .u64 0,.int false .u64 0,.int false .u64 0,.int false .u64 0] 142],wr:=wP}:=by kernel_rfl
theorem aXw {ca:Nat} (kF:ca=6\/ca=7\/ca=8\/ca=9) (x0:Int) (xs:List SV) (y0 y1 y2:Int) (ys:List SV) :
 Fy [true] (.aH 64 true 0 1 ca) (ww x0 xs) (ww y0 (ww y1 (ww y2 ys))) =
 sh (y1+M.c0 y0 x0+0) fun z0=>
 sh (M.n3 (M.g0 y0 x0) (M.ul z0) y2%M.bB) fun z1=>
 some {bO:=([M.U (M.g0 y0 x0),M.U (M.ul z0),M.U y2,y2≠0,[M.g0 y0 x0,M.ul z0,y2,0,0,0,0,0]=[M.g0 y0 x0,M.ul z0,y2,0,0,0,0,0],M.nl [M.g0 y0 x0,M.ul z0,y2,0]=3,[M.g0 y0 x0,M.ul z0,y2,0,0,0,0,0]=[M.g0 y0 x0,M.ul z0,y2,0,0,0,0,0],(M.uh z0==0)=true,M.U y1,M.U (M.c0 y0 x0),M.K 0,y1=y1,M.c0 y0 x0=M.c0 y0 x0,(0 :Int)=0,M.U y0,M.U x0,M.K 0,y0=y0,x0=x0,(0 :Int)=0]:List Prop),val:=.ptr 100 true 0,new:=[.own [.bool true false,.aH 101 false 0 (M.ln z1) 8] 102,.own [.int false .u64 (M.w0 z1),.int false .u64 (M.w1 z1),.int false .u64 (M.w2 z1),.int false .u64 0,.int false .u64 0,.int false .u64 0,.int false .u64 0,.int false .u64 0] 142],wr:=wP}:=by rcases kF with rfl | rfl | rfl | rfl <;> kernel_rfl
theorem aRz {ca:Nat} (kF:ca=6\/ca=7\/ca=8\/ca=9) (x0:Int) (xs:List SV) (y0 y1 y2:Int) (ys:List SV) :
 Fy [false,true] (.aH 64 true 0 1 ca) (ww x0 xs) (ww y0 (ww y1 (ww y2 ys))) =
 sh (y1+M.c0 y0 x0+0) fun z1=>
 sh (IntKind.u64.wrap (y2+1)) fun z2=>
 sh (M.n3 (M.g0 y0 x0) (M.ul z1) z2%M.bB) fun z0=>
 some {bO:=([M.U (M.g0 y0 x0),M.U (M.ul z1),M.U z2,IntKind.u64.wrap (y2+1)≠0,[M.g0 y0 x0,M.ul z1,IntKind.u64.wrap (y2+1),0,0,0,0,0]=[M.g0 y0 x0,M.ul z1,IntKind.u64.wrap (y2+1),0,0,0,0,0],M.nl [M.g0 y0 x0,M.ul z1,IntKind.u64.wrap (y2+1),0]=3,[M.g0 y0 x0,M.ul z1,IntKind.u64.wrap (y2+1),0,0,0,0,0]=[M.g0 y0 x0,M.ul z1,IntKind.u64.wrap (y2+1),0,0,0,0,0],(y2 != 18446744073709551615)=true,(M.uh z1==0)=false,M.U y1,M.U (M.c0 y0 x0),M.K 0,y1=y1,M.c0 y0 x0=M.c0 y0 x0,(0 :Int)=0,M.U y0,M.U x0,M.K 0,y0=y0,x0=x0,(0 :Int)=0]:List Prop),val:=.ptr 100 true 0,new:=[.own [.bool true false,.aH 101 false 0 (M.ln z0) 8] 102,.own [.int false .u64 (M.w0 z0),.int false .u64 (M.w1 z0),.int false .u64 (M.w2 z0),.int false .u64 0,.int false .u64 0,.int false .u64 0,.int false .u64 0,.int false .u64 0] 142],wr:=wP}:=by rcases kF with rfl | rfl | rfl | rfl <;> kernel_rfl
theorem aXv {ca:Nat} (kF:ca=6\/ca=7\/ca=8\/ca=9) (x0 x1:Int) (xs:List SV) (y0 y1 y2:Int) (ys:List SV) :
 Fy [true] (.aH 64 true 0 2 ca) (ww x0 (ww x1 xs)) (ww y0 (ww y1 (ww y2 ys))) =
 sh (y2+M.c1 y0 y1 x0 x1+0) fun z0=>
 sh (M.n3 (M.g0 y0 x0) (M.g1 y0 y1 x0 x1) (M.ul z0)%M.bB) fun z1=>
 some {bO:=([M.U (M.g0 y0 x0),M.U (M.g1 y0 y1 x0 x1),M.U (M.ul z0),M.ul z0≠0,[M.g0 y0 x0,M.g1 y0 y1 x0 x1,M.ul z0,0,0,0,0,0]=[M.g0 y0 x0,M.g1 y0 y1 x0 x1,M.ul z0,0,0,0,0,0],M.nl [M.g0 y0 x0,M.g1 y0 y1 x0 x1,M.ul z0,0]=3,[M.g0 y0 x0,M.g1 y0 y1 x0 x1,M.ul z0,0,0,0,0,0]=[M.g0 y0 x0,M.g1 y0 y1 x0 x1,M.ul z0,0,0,0,0,0],(M.uh z0==0)=true,M.U y2,M.U (M.c1 y0 y1 x0 x1),M.K 0,y2=y2,M.c1 y0 y1 x0 x1=M.c1 y0 y1 x0 x1,(0 :Int)=0,M.U y1,M.U x1,M.K (M.c0 y0 x0),y1=y1,x1=x1,M.c0 y0 x0=M.c0 y0 x0,M.U y0,M.U x0,M.K 0,y0=y0,x0=x0,(0 :Int)=0]:List Prop),val:=.ptr 100 true 0,new:=[.own [.bool true false,.aH 101 false 0 (M.ln z1) 8] 102,.own [.int false .u64 (M.w0 z1),.int false .u64 (M.w1 z1),.int false .u64 (M.w2 z1),.int false .u64 0,.int false .u64 0,.int false .u64 0,.int false .u64 0,.int false .u64 0] 142],wr:=wP}:=by rcases kF with rfl | rfl | rfl | rfl <;> kernel_rfl
theorem aXu {ca:Nat} (kF:ca=6\/ca=7\/ca=8\/ca=9) (x0 x1 x2:Int) (xs:List SV) (y0 y1 y2:Int) (ys:List SV) :
 Fy [] (.aH 64 true 0 3 ca) (ww x0 (ww x1 (ww x2 xs))) (ww y0 (ww y1 (ww y2 ys))) =
 sh (M.g2 x0 x1 x2 y0 y1 y2) fun z1=>
 sh (M.n3 (M.g0 x0 y0) (M.g1 x0 x1 y0 y1) z1%M.bB) fun z0=>
 some {bO:=([M.U (M.g0 x0 y0),M.U (M.g1 x0 x1 y0 y1),M.U z1,M.g2 x0 x1 x2 y0 y1 y2≠0,[M.g0 x0 y0,M.g1 x0 x1 y0 y1,M.g2 x0 x1 x2 y0 y1 y2,M.c2 x0 x1 x2 y0 y1 y2,0,0,0,0]=[M.g0 x0 y0,M.g1 x0 x1 y0 y1,M.g2 x0 x1 x2 y0 y1 y2,0,0,0,0,0],M.nl [M.g0 x0 y0,M.g1 x0 x1 y0 y1,M.g2 x0 x1 x2 y0 y1 y2,M.c2 x0 x1 x2 y0 y1 y2]=3,[M.g0 x0 y0,M.g1 x0 x1 y0 y1,M.g2 x0 x1 x2 y0 y1 y2,M.c2 x0 x1 x2 y0 y1 y2,0,0,0,0]=[M.g0 x0 y0,M.g1 x0 x1 y0 y1,M.g2 x0 x1 x2 y0 y1 y2,M.c2 x0 x1 x2 y0 y1 y2,0,0,0,0],M.U x2,M.U y2,M.K (M.c1 x0 x1 y0 y1),x2=x2,y2=y2,M.c1 x0 x1 y0 y1=M.c1 x0 x1 y0 y1,M.U x1,M.U y1,M.K (M.c0 x0 y0),x1=x1,y1=y1,M.c0 x0 y0=M.c0 x0 y0,M.U x0,M.U y0,M.K 0,x0=x0,y0=y0,(0 :Int)=0]:List Prop),val:=.ptr 100 true 0,new:=[.own [.bool true false,.aH 101 false 0 (M.ln z0) 8] 102,.own [.int false .u64 (M.w0 z0),.int false .u64 (M.w1 z0),.int false .u64 (M.w2 z0),.int false .u64 0,.int false .u64 0,.int false .u64 0,.int false .u64 0,.int false .u64 0] 142],wr:=wP}:=by rcases kF with rfl | rfl | rfl | rfl <;> kernel_rfl
theorem aXt (xs:List SV) (y0 y1 y2:Int) (ys:List SV) :
 Fy [] (.raw (.slice none 0 0)) xs (ww y0 (ww y1 (ww y2 ys))) =
 sh (M.n3 y0 y1 y2%M.bB) fun z0=>
 some {bO:=([M.U y0,M.U y1,M.U y2,y2≠0,[y0,y1,y2,0,0,0,0]=[y0,y1,y2,0,0,0,0]]:List Prop),val:=.ptr 100 true 0,new:=[.own [.bool true false,.aH 101 false 0 (M.ln z0) 7] 102,.own [.int false .u64 (M.w0 z0),.int false .u64 (M.w1 z0),.int false .u64 (M.w2 z0),.int false .u64 0,.int false .u64 0,.int false .u64 0,.int false .u64 0] 142],wr:=wP}:=by kernel_rfl
noncomputable def TM (h:Bool) (iq ir:Nat):Nat->Option Sum:=Bh (Bh (dL aFa 145 (aL aB 100 (sX iq ir))) 205 [false]) 202 [h,true]
theorem aAv (h:Bool) (iq ir:Nat):∀ f S,TM h iq ir f=some S->∀ Γ:Env,Γ.aO=aB->aG Tryz.prog Γ f S:=lG (lG (bE Wg 145 _ (Cj iq ir)) 205 _) 202 _
noncomputable def iQ (h:Bool) (iq ir:Nat) (X Y:SV) (xs ys:List SV):Option bK:=aK (env (TM h iq ir) 22) Tryz.f65 true [] 400 iX (fun l=>look l (sD X Y xs ys)) 100 100
theorem aAd (ca ct:Nat) (xs ys:List SV) :
 iQ true 0 0 (.aH 64 true 0 0 ca) (.aH 65 true 0 0 ct) xs ys =
 some {val:=.ptr 100 true 0,new:=[.own [.bool true false,.raw (Value.slice none 0 0)] 102],wr:=wP}:=by kernel_rfl
theorem aAc (ca ct:Nat) (y0:Int) (xs ys:List SV) :
 iQ true 0 0 (.aH 64 true 0 0 ca) (.aH 65 true 0 1 ct) xs (ww y0 ys) =
 some {val:=.ptr 100 true 0,new:=[.own [.bool true false,.raw (Value.slice none 0 0)] 102],wr:=wP}:=by kernel_rfl
theorem aAb (ca ct:Nat) (y0 y1:Int) (xs ys:List SV) :
 iQ true 0 0 (.aH 64 true 0 0 ca) (.aH 65 true 0 2 ct) xs (ww y0 (ww y1 ys)) =
 some {val:=.ptr 100 true 0,new:=[.own [.bool true false,.raw (Value.slice none 0 0)] 102],wr:=wP}:=by kernel_rfl
theorem aAa (ca ct:Nat) (x0:Int) (xs ys:List SV) :
 iQ true 0 0 (.aH 64 true 0 1 ca) (.aH 65 true 0 0 ct) (ww x0 xs) ys =
 some {val:=.ptr 100 true 0,new:=[.own [.bool true false,.raw (Value.slice none 0 0)] 102],wr:=wP}:=by kernel_rfl
theorem ZZ (ca ct:Nat) (x0 y0:Int) (xs ys:List SV) :
 iQ true 1 0 (.aH 64 true 0 1 ca) (.aH 65 true 0 1 ct) (ww x0 xs) (ww y0 ys) =
 sh (x0*y0+0) fun z0=>
 sh (M.ul z0%M.bB) fun z1=>
 some {bO:=([M.U (M.ul z0),M.ul z0≠0,[M.ul z0,M.uh z0,0,0,0,0]=[M.ul z0,0,0,0,0,0],M.nl [M.ul z0,M.uh z0]=1,[M.ul z0,M.uh z0,0,0,0,0]=[M.ul z0,M.uh z0,0,0,0,0],M.U x0,M.U y0,M.U 0,x0=x0,y0=y0,(0 :Int)=0,(y0==0)=false]:List Prop),val:=.ptr 100 true 0,new:=[.own [.bool true false,.aH 101 false 0 (M.ln z1) 6] 102,.own [.int false .u64 (M.w0 z1),.int false .u64 (M.w1 z1),.int false .u64 (M.w2 z1),.int false .u64 0,.int false .u64 0,.int false .u64 0] 142],wr:=wP}:=by kernel_rfl
theorem ZY (ca ct:Nat) (x0 y0:Int) (xs ys:List SV) :
 iQ true 2 0 (.aH 64 true 0 1 ca) (.aH 65 true 0 1 ct) (ww x0 xs) (ww y0 ys) =
 sh (x0*y0+0) fun z1=>
 sh ((M.ul z1+18446744073709551616*M.uh z1)%M.bB) fun z0=>
 some {bO:=([M.U (M.ul z1),M.U (M.uh z1),M.uh z1≠0,[M.ul z1,M.uh z1,0,0,0,0]=[M.ul z1,M.uh z1,0,0,0,0],M.nl [M.ul z1,M.uh z1]=2,[M.ul z1,M.uh z1,0,0,0,0]=[M.ul z1,M.uh z1,0,0,0,0],M.U x0,M.U y0,M.U 0,x0=x0,y0=y0,(0 :Int)=0,(y0==0)=false]:List Prop),val:=.ptr 100 true 0,new:=[.own [.bool true false,.aH 101 false 0 (M.ln z0) 6] 102,.own [.int false .u64 (M.w0 z0),.int false .u64 (M.w1 z0),.int false .u64 (M.w2 z0),.int false .u64 0,.int false .u64 0,.int false .u64 0] 142],wr:=wP}:=by kernel_rfl
theorem ZX (ca ct:Nat) (x0 y0 y1:Int) (xs ys:List SV) :
 iQ true 0 2 (.aH 64 true 0 1 ca) (.aH 65 true 0 2 ct) (ww x0 xs) (ww y0 (ww y1 ys)) =
 sh (y0*x0+0) fun z2=>
 sh (y1*x0+M.uh z2) fun z0=>
 sh ((M.ul z2+18446744073709551616*M.ul z0)%M.bB) fun z1=>
 some {bO:=([M.U (M.ul z2),M.U (M.ul z0),M.ul z0≠0,[M.ul z2,M.ul z0,M.uh z0,0,0,0,0]=[M.ul z2,M.ul z0,0,0,0,0,0],M.nl [M.ul z2,M.ul z0,M.uh z0]=2,[M.ul z2,M.ul z0,M.uh z0,0,0,0,0]=[M.ul z2,M.ul z0,M.uh z0,0,0,0,0],M.U y1,M.U x0,M.U (M.uh z2),y1=y1,x0=x0,M.uh z2=M.uh z2,M.U y0,M.U x0,M.U 0,y0=y0,x0=x0,(0 :Int)=0,(x0==0)=false]:List Prop),val:=.ptr 100 true 0,new:=[.own [.bool true false,.aH 101 false 0 (M.ln z1) 7] 102,.own [.int false .u64 (M.w0 z1),.int false .u64 (M.w1 z1),.int false .u64 (M.w2 z1),.int false .u64 0,.int false .u64 0,.int false .u64 0,.int false .u64 0] 142],wr:=wP}:=by kernel_rfl
theorem ZW (ca ct:Nat) (x0 y0 y1:Int) (xs ys:List SV) :
 iQ true 0 3 (.aH 64 true 0 1 ca) (.aH 65 true 0 2 ct) (ww x0 xs) (ww y0 (ww y1 ys)) =
 sh (y0*x0+0) fun z2=>
 sh (y1*x0+M.uh z2) fun z0=>
 sh (M.n3 (M.ul z2) (M.ul z0) (M.uh z0)%M.bB) fun z1=>
 some {bO:=([M.U (M.ul z2),M.U (M.ul z0),M.U (M.uh z0),M.uh z0≠0,[M.ul z2,M.ul z0,M.uh z0,0,0,0,0]=[M.ul z2,M.ul z0,M.uh z0,0,0,0,0],M.nl [M.ul z2,M.ul z0,M.uh z0]=3,[M.ul z2,M.ul z0,M.uh z0,0,0,0,0]=[M.ul z2,M.ul z0,M.uh z0,0,0,0,0],M.U y1,M.U x0,M.U (M.uh z2),y1=y1,x0=x0,M.uh z2=M.uh z2,M.U y0,M.U x0,M.U 0,y0=y0,x0=x0,(0 :Int)=0,(x0==0)=false]:List Prop),val:=.ptr 100 true 0,new:=[.own [.bool true false,.aH 101 false 0 (M.ln z1) 7] 102,.own [.int false .u64 (M.w0 z1),.int false .u64 (M.w1 z1),.int false .u64 (M.w2 z1),.int false .u64 0,.int false .u64 0,.int false .u64 0,.int false .u64 0] 142],wr:=wP}:=by kernel_rfl
theorem ZV (ca ct:Nat) (x0 x1:Int) (xs ys:List SV) :
 iQ true 0 0 (.aH 64 true 0 2 ca) (.aH 65 true 0 0 ct) (ww x0 (ww x1 xs)) ys =
 some {val:=.ptr 100 true 0,new:=[.own [.bool true false,.raw (Value.slice none 0 0)] 102],wr:=wP}:=by kernel_rfl
theorem ZU (ca ct:Nat) (x0 x1 y0:Int) (xs ys:List SV) :
 iQ true 0 2 (.aH 64 true 0 2 ca) (.aH 65 true 0 1 ct) (ww x0 (ww x1 xs)) (ww y0 ys) =
 sh (x0*y0+0) fun z2=>
 sh (x1*y0+M.uh z2) fun z0=>
 sh ((M.ul z2+18446744073709551616*M.ul z0)%M.bB) fun z1=>
 some {bO:=([M.U (M.ul z2),M.U (M.ul z0),M.ul z0≠0,[M.ul z2,M.ul z0,M.uh z0,0,0,0,0]=[M.ul z2,M.ul z0,0,0,0,0,0],M.nl [M.ul z2,M.ul z0,M.uh z0]=2,[M.ul z2,M.ul z0,M.uh z0,0,0,0,0]=[M.ul z2,M.ul z0,M.uh z0,0,0,0,0],M.U x1,M.U y0,M.U (M.uh z2),x1=x1,y0=y0,M.uh z2=M.uh z2,M.U x0,M.U y0,M.U 0,x0=x0,y0=y0,(0 :Int)=0,(y0==0)=false]:List Prop),val:=.ptr 100 true 0,new:=[.own [.bool true false,.aH 101 false 0 (M.ln z1) 7] 102,.own [.int false .u64 (M.w0 z1),.int false .u64 (M.w1 z1),.int false .u64 (M.w2 z1),.int false .u64 0,.int false .u64 0,.int false .u64 0,.int false .u64 0] 142],wr:=wP}:=by kernel_rfl
theorem ZT (ca ct:Nat) (x0 x1 y0:Int) (xs ys:List SV) :
 iQ true 0 3 (.aH 64 true 0 2 ca) (.aH 65 true 0 1 ct) (ww x0 (ww x1 xs)) (ww y0 ys) =
 sh (x0*y0+0) fun z2=>
 sh (x1*y0+M.uh z2) fun z0=>
 sh (M.n3 (M.ul z2) (M.ul z0) (M.uh z0)%M.bB) fun z1=>
 some {bO:=([M.U (M.ul z2),M.U (M.ul z0),M.U (M.uh z0),M.uh z0≠0,[M.ul z2,M.ul z0,M.uh z0,0,0,0,0]=[M.ul z2,M.ul z0,M.uh z0,0,0,0,0],M.nl [M.ul z2,M.ul z0,M.uh z0]=3,[M.ul z2,M.ul z0,M.uh z0,0,0,0,0]=[M.ul z2,M.ul z0,M.uh z0,0,0,0,0],M.U x1,M.U y0,M.U (M.uh z2),x1=x1,y0=y0,M.uh z2=M.uh z2,M.U x0,M.U y0,M.U 0,x0=x0,y0=y0,(0 :Int)=0,(y0==0)=false]:List Prop),val:=.ptr 100 true 0,new:=[.own [.bool true false,.aH 101 false 0 (M.ln z1) 7] 102,.own [.int false .u64 (M.w0 z1),.int false .u64 (M.w1 z1),.int false .u64 (M.w2 z1),.int false .u64 0,.int false .u64 0,.int false .u64 0,.int false .u64 0] 142],wr:=wP}:=by kernel_rfl
theorem ZS (ca ct:Nat) (x0 x1 y0 y1:Int) (xs ys:List SV) :
 iQ true 0 3 (.aH 64 true 0 2 ca) (.aH 65 true 0 2 ct) (ww x0 (ww x1 xs)) (ww y0 (ww y1 ys)) =
 sh (M.n3 (M.q0 x0 y0) (M.r0 x0 x1 y0 y1) (M.e1 x0 x1 y0 y1)%M.bB) fun z0=>
 sh (x1*y1+M.k1 x0 x1 y0) fun z1=>
 sh (x0*y1+M.q1 x0 x1 y0) fun z2=>
 sh (x1*y0+0) fun z3=>
 sh (x0*y0+0) fun z4=>
 some {bO:=([M.U (M.q0 x0 y0),M.U (M.r0 x0 x1 y0 y1),M.U (M.e1 x0 x1 y0 y1),M.e1 x0 x1 y0 y1≠0,[M.q0 x0 y0,M.r0 x0 x1 y0 y1,M.e1 x0 x1 y0 y1,M.f1 x0 x1 y0 y1,0,0,0,0]=[M.q0 x0 y0,M.r0 x0 x1 y0 y1,M.e1 x0 x1 y0 y1,0,0,0,0,0],M.nl [M.q0 x0 y0,M.r0 x0 x1 y0 y1,M.e1 x0 x1 y0 y1,M.f1 x0 x1 y0 y1]=3,[M.q0 x0 y0,M.r0 x0 x1 y0 y1,M.e1 x0 x1 y0 y1,M.f1 x0 x1 y0 y1,0,0,0,0]=[M.q0 x0 y0,M.r0 x0 x1 y0 y1,M.e1 x0 x1 y0 y1,M.f1 x0 x1 y0 y1,0,0,0,0],M.U (M.ul z1),M.U (M.Gx x0 x1 y0 y1),M.K 0,M.ul z1=M.ul z1,M.Gx x0 x1 y0 y1=M.Gx x0 x1 y0 y1,(0 :Int)=0,M.U x1,M.U y1,M.U (M.k1 x0 x1 y0),x1=x1,y1=y1,M.k1 x0 x1 y0=M.k1 x0 x1 y0,M.U (M.ul z2),M.U 0,M.K 0,M.ul z2=M.ul z2,(0 :Int)=0,(0 :Int)=0,M.U x0,M.U y1,M.U (M.q1 x0 x1 y0),x0=x0,y1=y1,M.q1 x0 x1 y0=M.q1 x0 x1 y0,(y1 != 0)=true,M.U (M.ul z3),M.U (M.k0 x0 y0),M.K 0,M.ul z3=M.ul z3,M.k0 x0 y0=M.k0 x0 y0,(0 :Int)=0,M.U x1,M.U y0,M.U 0,x1=x1,y0=y0,(0 :Int)=0,M.U (M.ul z4),M.U 0,M.K 0,M.ul z4=M.ul z4,(0 :Int)=0,(0 :Int)=0,M.U x0,M.U y0,M.U 0,x0=x0,y0=y0,(0 :Int)=0,(y0 != 0)=true]:List Prop),val:=.ptr 100 true 0,new:=[.own [.bool true false,.aH 101 false 0 (M.ln z0) 8] 102,.own [.int false .u64 (M.w0 z0),.int false .u64 (M.w1 z0),.int false .u64 (M.w2 z0),.int false .u64 0,.int false .u64 0,.int false .u64 0,.int false .u64 0,.int false .u64 0] 142],wr:=wP}:=by kernel_rfl
theorem LF (ca ct:Nat) (x0 x1 y0 y1:Int) (xs ys:List SV) :
 iQ false 0 3 (.aH 64 true 0 2 ca) (.aH 65 true 0 2 ct) (ww x0 (ww x1 xs)) (ww y0 (ww y1 ys)) =
 sh (M.n3 0 (M.q0 x0 y1) (M.q1 x0 x1 y1)%M.bB) fun z0=>
 sh (x1*y1+0) fun z1=>
 sh (x0*y1+0) fun z2=>
 some {bO:=([M.U 0,M.U (M.q0 x0 y1),M.U (M.q1 x0 x1 y1),M.q1 x0 x1 y1≠0,[0,M.q0 x0 y1,M.q1 x0 x1 y1,M.k1 x0 x1 y1,0,0,0,0]=[0,M.q0 x0 y1,M.q1 x0 x1 y1,0,0,0,0,0],M.nl [0,M.q0 x0 y1,M.q1 x0 x1 y1,M.k1 x0 x1 y1]=3,[0,M.q0 x0 y1,M.q1 x0 x1 y1,M.k1 x0 x1 y1,0,0,0,0]=[0,M.q0 x0 y1,M.q1 x0 x1 y1,M.k1 x0 x1 y1,0,0,0,0],M.U (M.ul z1),M.U (M.k0 x0 y1),M.K 0,M.ul z1=M.ul z1,M.k0 x0 y1=M.k0 x0 y1,(0 :Int)=0,M.U x1,M.U y1,M.U 0,x1=x1,y1=y1,(0 :Int)=0,M.U (M.ul z2),M.U 0,M.K 0,M.ul z2=M.ul z2,(0 :Int)=0,(0 :Int)=0,M.U x0,M.U y1,M.U 0,x0=x0,y1=y1,(0 :Int)=0,(y1 != 0)=true,(y0 != 0)=false]:List Prop),val:=.ptr 100 true 0,new:=[.own [.bool true false,.aH 101 false 0 (M.ln z0) 8] 102,.own [.int false .u64 (M.w0 z0),.int false .u64 (M.w1 z0),.int false .u64 (M.w2 z0),.int false .u64 0,.int false .u64 0,.int false .u64 0,.int false .u64 0,.int false .u64 0] 142],wr:=wP}:=by kernel_rfl
theorem ZR (ca ct:Nat) (x0 x1 y0 y1:Int) (xs ys:List SV) :
 iQ true 0 4 (.aH 64 true 0 2 ca) (.aH 65 true 0 2 ct) (ww x0 (ww x1 xs)) (ww y0 (ww y1 ys)) =
 sh (M.n4 (M.q0 x0 y0) (M.r0 x0 x1 y0 y1) (M.e1 x0 x1 y0 y1) (M.f1 x0 x1 y0 y1)%M.bB) fun z0=>
 sh (x1*y1+M.k1 x0 x1 y0) fun z1=>
 sh (x0*y1+M.q1 x0 x1 y0) fun z2=>
 sh (x1*y0+0) fun z3=>
 sh (x0*y0+0) fun z4=>
 some {bO:=([M.U (M.q0 x0 y0),M.U (M.r0 x0 x1 y0 y1),M.U (M.e1 x0 x1 y0 y1),M.U (M.f1 x0 x1 y0 y1),M.f1 x0 x1 y0 y1≠0,[M.q0 x0 y0,M.r0 x0 x1 y0 y1,M.e1 x0 x1 y0 y1,M.f1 x0 x1 y0 y1,0,0,0,0]=[M.q0 x0 y0,M.r0 x0 x1 y0 y1,M.e1 x0 x1 y0 y1,M.f1 x0 x1 y0 y1,0,0,0,0],M.nl [M.q0 x0 y0,M.r0 x0 x1 y0 y1,M.e1 x0 x1 y0 y1,M.f1 x0 x1 y0 y1]=4,[M.q0 x0 y0,M.r0 x0 x1 y0 y1,M.e1 x0 x1 y0 y1,M.f1 x0 x1 y0 y1,0,0,0,0]=[M.q0 x0 y0,M.r0 x0 x1 y0 y1,M.e1 x0 x1 y0 y1,M.f1 x0 x1 y0 y1,0,0,0,0],M.U (M.ul z1),M.U (M.Gx x0 x1 y0 y1),M.K 0,M.ul z1=M.ul z1,M.Gx x0 x1 y0 y1=M.Gx x0 x1 y0 y1,(0 :Int)=0,M.U x1,M.U y1,M.U (M.k1 x0 x1 y0),x1=x1,y1=y1,M.k1 x0 x1 y0=M.k1 x0 x1 y0,M.U (M.ul z2),M.U 0,M.K 0,M.ul z2=M.ul z2,(0 :Int)=0,(0 :Int)=0,M.U x0,M.U y1,M.U (M.q1 x0 x1 y0),x0=x0,y1=y1,M.q1 x0 x1 y0=M.q1 x0 x1 y0,(y1 != 0)=true,M.U (M.ul z3),M.U (M.k0 x0 y0),M.K 0,M.ul z3=M.ul z3,M.k0 x0 y0=M.k0 x0 y0,(0 :Int)=0,M.U x1,M.U y0,M.U 0,x1=x1,y0=y0,(0 :Int)=0,M.U (M.ul z4),M.U 0,M.K 0,M.ul z4=M.ul z4,(0 :Int)=0,(0 :Int)=0,M.U x0,M.U y0,M.U 0,x0=x0,y0=y0,(0 :Int)=0,(y0 != 0)=true]:List Prop),val:=.ptr 100 true 0,new:=[.own [.bool true false,.aH 101 false 0 (M.ln z0) 8] 102,.own [.int false .u64 (M.w0 z0),.int false .u64 (M.w1 z0),.int false .u64 (M.w2 z0),.int false .u64 0,.int false .u64 0,.int false .u64 0,.int false .u64 0,.int false .u64 0] 142],wr:=wP}:=by kernel_rfl
theorem LD (ca ct:Nat) (x0 x1 y0 y1:Int) (xs ys:List SV) :
 iQ false 0 4 (.aH 64 true 0 2 ca) (.aH 65 true 0 2 ct) (ww x0 (ww x1 xs)) (ww y0 (ww y1 ys)) =
 sh (M.n4 0 (M.q0 x0 y1) (M.q1 x0 x1 y1) (M.k1 x0 x1 y1)%M.bB) fun z0=>
 sh (x1*y1+0) fun z1=>
 sh (x0*y1+0) fun z2=>
 some {bO:=([M.U 0,M.U (M.q0 x0 y1),M.U (M.q1 x0 x1 y1),M.U (M.k1 x0 x1 y1),M.k1 x0 x1 y1≠0,[0,M.q0 x0 y1,M.q1 x0 x1 y1,M.k1 x0 x1 y1,0,0,0,0]=[0,M.q0 x0 y1,M.q1 x0 x1 y1,M.k1 x0 x1 y1,0,0,0,0],M.nl [0,M.q0 x0 y1,M.q1 x0 x1 y1,M.k1 x0 x1 y1]=4,[0,M.q0 x0 y1,M.q1 x0 x1 y1,M.k1 x0 x1 y1,0,0,0,0]=[0,M.q0 x0 y1,M.q1 x0 x1 y1,M.k1 x0 x1 y1,0,0,0,0],M.U (M.ul z1),M.U (M.k0 x0 y1),M.K 0,M.ul z1=M.ul z1,M.k0 x0 y1=M.k0 x0 y1,(0 :Int)=0,M.U x1,M.U y1,M.U 0,x1=x1,y1=y1,(0 :Int)=0,M.U (M.ul z2),M.U 0,M.K 0,M.ul z2=M.ul z2,(0 :Int)=0,(0 :Int)=0,M.U x0,M.U y1,M.U 0,x0=x0,y1=y1,(0 :Int)=0,(y1 != 0)=true,(y0 != 0)=false]:List Prop),val:=.ptr 100 true 0,new:=[.own [.bool true false,.aH 101 false 0 (M.ln z0) 8] 102,.own [.int false .u64 (M.w0 z0),.int false .u64 (M.w1 z0),.int false .u64 (M.w2 z0),.int false .u64 0,.int false .u64 0,.int false .u64 0,.int false .u64 0,.int false .u64 0] 142],wr:=wP}:=by kernel_rfl
theorem ZQ (ca ct:Nat) (x0 x1 x2:Int) (xs ys:List SV) :
 iQ true 0 0 (.aH 64 true 0 3 ca) (.aH 65 true 0 0 ct) (ww x0 (ww x1 (ww x2 xs))) ys =
 some {val:=.ptr 100 true 0,new:=[.own [.bool true false,.raw (Value.slice none 0 0)] 102],wr:=wP}:=by kernel_rfl
theorem ZP (ca ct:Nat) (x0 x1 x2 y0:Int) (xs ys:List SV) :
 iQ true 0 3 (.aH 64 true 0 3 ca) (.aH 65 true 0 1 ct) (ww x0 (ww x1 (ww x2 xs))) (ww y0 ys) =
 sh (x0*y0+0) fun z3=>
 sh (x1*y0+M.uh z3) fun z0=>
 sh (x2*y0+M.uh z0) fun z1=>
 sh (M.n3 (M.ul z3) (M.ul z0) (M.ul z1)%M.bB) fun z2=>
 some {bO:=([M.U (M.ul z3),M.U (M.ul z0),M.U (M.ul z1),M.ul z1≠0,[M.ul z3,M.ul z0,M.ul z1,M.uh z1,0,0,0,0]=[M.ul z3,M.ul z0,M.ul z1,0,0,0,0,0],M.nl [M.ul z3,M.ul z0,M.ul z1,M.uh z1]=3,[M.ul z3,M.ul z0,M.ul z1,M.uh z1,0,0,0,0]=[M.ul z3,M.ul z0,M.ul z1,M.uh z1,0,0,0,0],M.U x2,M.U y0,M.U (M.uh z0),x2=x2,y0=y0,M.uh z0=M.uh z0,M.U x1,M.U y0,M.U (M.uh z3),x1=x1,y0=y0,M.uh z3=M.uh z3,M.U x0,M.U y0,M.U 0,x0=x0,y0=y0,(0 :Int)=0,(y0==0)=false]:List Prop),val:=.ptr 100 true 0,new:=[.own [.bool true false,.aH 101 false 0 (M.ln z2) 8] 102,.own [.int false .u64 (M.w0 z2),.int false .u64 (M.w1 z2),.int false .u64 (M.w2 z2),.int false .u64 0,.int false .u64 0,.int false .u64 0,.int false .u64 0,.int false .u64 0] 142],wr:=wP}:=by kernel_rfl
theorem ZO (ca ct:Nat) (x0 x1 x2 y0:Int) (xs ys:List SV) :
 iQ true 0 4 (.aH 64 true 0 3 ca) (.aH 65 true 0 1 ct) (ww x0 (ww x1 (ww x2 xs))) (ww y0 ys) =
 sh (x0*y0+0) fun z3=>
 sh (x1*y0+M.uh z3) fun z0=>
 sh (x2*y0+M.uh z0) fun z1=>
 sh (M.n4 (M.ul z3) (M.ul z0) (M.ul z1) (M.uh z1)%M.bB) fun z2=>
 some {bO:=([M.U (M.ul z3),M.U (M.ul z0),M.U (M.ul z1),M.U (M.uh z1),M.uh z1≠0,[M.ul z3,M.ul z0,M.ul z1,M.uh z1,0,0,0,0]=[M.ul z3,M.ul z0,M.ul z1,M.uh z1,0,0,0,0],M.nl [M.ul z3,M.ul z0,M.ul z1,M.uh z1]=4,[M.ul z3,M.ul z0,M.ul z1,M.uh z1,0,0,0,0]=[M.ul z3,M.ul z0,M.ul z1,M.uh z1,0,0,0,0],M.U x2,M.U y0,M.U (M.uh z0),x2=x2,y0=y0,M.uh z0=M.uh z0,M.U x1,M.U y0,M.U (M.uh z3),x1=x1,y0=y0,M.uh z3=M.uh z3,M.U x0,M.U y0,M.U 0,x0=x0,y0=y0,(0 :Int)=0,(y0==0)=false]:List Prop),val:=.ptr 100 true 0,new:=[.own [.bool true false,.aH 101 false 0 (M.ln z2) 8] 102,.own [.int false .u64 (M.w0 z2),.int false .u64 (M.w1 z2),.int false .u64 (M.w2 z2),.int false .u64 0,.int false .u64 0,.int false .u64 0,.int false .u64 0,.int false .u64 0] 142],wr:=wP}:=by kernel_rfl
theorem ZN (ca ct:Nat) (x0 x1 x2 y0 y1:Int) (xs ys:List SV) :
 iQ true 0 4 (.aH 64 true 0 3 ca) (.aH 65 true 0 2 ct) (ww x0 (ww x1 (ww x2 xs))) (ww y0 (ww y1 ys)) =
 sh (M.r1 x0 x1 x2 y0 y1) fun z7=>
 sh (M.r2 x0 x1 x2 y0 y1) fun z8=>
 sh (M.n4 (M.q0 x0 y0) (M.r0 x0 x1 y0 y1) z7 z8%M.bB) fun z0=>
 sh (x2*y1+M.k2 x0 x1 x2 y0) fun z1=>
 sh (x1*y1+M.q2 x0 x1 x2 y0) fun z2=>
 sh (x0*y1+M.q1 x0 x1 y0) fun z3=>
 sh (x2*y0+0) fun z4=>
 sh (x1*y0+0) fun z5=>
 sh (x0*y0+0) fun z6=>
 some {bO:=([M.U (M.q0 x0 y0),M.U (M.r0 x0 x1 y0 y1),M.U z7,M.U z8,M.r2 x0 x1 x2 y0 y1≠0,[M.q0 x0 y0,M.r0 x0 x1 y0 y1,M.r1 x0 x1 x2 y0 y1,M.r2 x0 x1 x2 y0 y1,M.QM x0 x1 x2 y0 y1,0,0,0,0]=[M.q0 x0 y0,M.r0 x0 x1 y0 y1,M.r1 x0 x1 x2 y0 y1,M.r2 x0 x1 x2 y0 y1,0,0,0,0,0],M.nl [M.q0 x0 y0,M.r0 x0 x1 y0 y1,M.r1 x0 x1 x2 y0 y1,M.r2 x0 x1 x2 y0 y1,M.QM x0 x1 x2 y0 y1]=4,[M.q0 x0 y0,M.r0 x0 x1 y0 y1,M.r1 x0 x1 x2 y0 y1,M.r2 x0 x1 x2 y0 y1,M.QM x0 x1 x2 y0 y1,0,0,0,0]=[M.q0 x0 y0,M.r0 x0 x1 y0 y1,M.r1 x0 x1 x2 y0 y1,M.r2 x0 x1 x2 y0 y1,M.QM x0 x1 x2 y0 y1,0,0,0,0],M.U (M.ul z1),M.U (M.s1' x0 x1 x2 y0 y1),M.K 0,M.ul z1=M.ul z1,M.s1' x0 x1 x2 y0 y1=M.s1' x0 x1 x2 y0 y1,(0 :Int)=0,M.U x2,M.U y1,M.U (M.k2 x0 x1 x2 y0),x2=x2,y1=y1,M.k2 x0 x1 x2 y0=M.k2 x0 x1 x2 y0,M.U (M.ul z2),M.U (M.Gx x0 x1 y0 y1),M.K 0,M.ul z2=M.ul z2,M.Gx x0 x1 y0 y1=M.Gx x0 x1 y0 y1,(0 :Int)=0,M.U x1,M.U y1,M.U (M.q2 x0 x1 x2 y0),x1=x1,y1=y1,M.q2 x0 x1 x2 y0=M.q2 x0 x1 x2 y0,M.U (M.ul z3),M.U 0,M.K 0,M.ul z3=M.ul z3,(0 :Int)=0,(0 :Int)=0,M.U x0,M.U y1,M.U (M.q1 x0 x1 y0),x0=x0,y1=y1,M.q1 x0 x1 y0=M.q1 x0 x1 y0,(y1 != 0)=true,M.U (M.ul z4),M.U (M.k1 x0 x1 y0),M.K 0,M.ul z4=M.ul z4,M.k1 x0 x1 y0=M.k1 x0 x1 y0,(0 :Int)=0,M.U x2,M.U y0,M.U 0,x2=x2,y0=y0,(0 :Int)=0,M.U (M.ul z5),M.U (M.k0 x0 y0),M.K 0,M.ul z5=M.ul z5,M.k0 x0 y0=M.k0 x0 y0,(0 :Int)=0,M.U x1,M.U y0,M.U 0,x1=x1,y0=y0,(0 :Int)=0,M.U (M.ul z6),M.U 0,M.K 0,M.ul z6=M.ul z6,(0 :Int)=0,(0 :Int)=0,M.U x0,M.U y0,M.U 0,x0=x0,y0=y0,(0 :Int)=0,(y0 != 0)=true]:List Prop),val:=.ptr 100 true 0,new:=[.own [.bool true false,.aH 101 false 0 (M.ln z0) 9] 102,.own [.int false .u64 (M.w0 z0),.int false .u64 (M.w1 z0),.int false .u64 (M.w2 z0),.int false .u64 0,.int false .u64 0,.int false .u64 0,.int false .u64 0,.int false .u64 0,.int false .u64 0] 142],wr:=wP}:=by kernel_rfl
theorem LC (ca ct:Nat) (x0 x1 x2 y0 y1:Int) (xs ys:List SV) :
 iQ false 0 4 (.aH 64 true 0 3 ca) (.aH 65 true 0 2 ct) (ww x0 (ww x1 (ww x2 xs))) (ww y0 (ww y1 ys)) =
 sh (M.n4 0 (M.q0 x0 y1) (M.q1 x0 x1 y1) (M.q2 x0 x1 x2 y1)%M.bB) fun z0=>
 sh (x2*y1+0) fun z1=>
 sh (x1*y1+0) fun z2=>
 sh (x0*y1+0) fun z3=>
 some {bO:=([M.U 0,M.U (M.q0 x0 y1),M.U (M.q1 x0 x1 y1),M.U (M.q2 x0 x1 x2 y1),M.q2 x0 x1 x2 y1≠0,[0,M.q0 x0 y1,M.q1 x0 x1 y1,M.q2 x0 x1 x2 y1,M.k2 x0 x1 x2 y1,0,0,0,0]=[0,M.q0 x0 y1,M.q1 x0 x1 y1,M.q2 x0 x1 x2 y1,0,0,0,0,0],M.nl [0,M.q0 x0 y1,M.q1 x0 x1 y1,M.q2 x0 x1 x2 y1,M.k2 x0 x1 x2 y1]=4,[0,M.q0 x0 y1,M.q1 x0 x1 y1,M.q2 x0 x1 x2 y1,M.k2 x0 x1 x2 y1,0,0,0,0]=[0,M.q0 x0 y1,M.q1 x0 x1 y1,M.q2 x0 x1 x2 y1,M.k2 x0 x1 x2 y1,0,0,0,0],M.U (M.ul z1),M.U (M.k1 x0 x1 y1),M.K 0,M.ul z1=M.ul z1,M.k1 x0 x1 y1=M.k1 x0 x1 y1,(0 :Int)=0,M.U x2,M.U y1,M.U 0,x2=x2,y1=y1,(0 :Int)=0,M.U (M.ul z2),M.U (M.k0 x0 y1),M.K 0,M.ul z2=M.ul z2,M.k0 x0 y1=M.k0 x0 y1,(0 :Int)=0,M.U x1,M.U y1,M.U 0,x1=x1,y1=y1,(0 :Int)=0,M.U (M.ul z3),M.U 0,M.K 0,M.ul z3=M.ul z3,(0 :Int)=0,(0 :Int)=0,M.U x0,M.U y1,M.U 0,x0=x0,y1=y1,(0 :Int)=0,(y1 != 0)=true,(y0 != 0)=false]:List Prop),val:=.ptr 100 true 0,new:=[.own [.bool true false,.aH 101 false 0 (M.ln z0) 9] 102,.own [.int false .u64 (M.w0 z0),.int false .u64 (M.w1 z0),.int false .u64 (M.w2 z0),.int false .u64 0,.int false .u64 0,.int false .u64 0,.int false .u64 0,.int false .u64 0,.int false .u64 0] 142],wr:=wP}:=by kernel_rfl
def rB (R:Int) (cap:Nat):List SB:=[.own [.bool true false,.aH 101 false 0 (M.ln R) cap] 102,.own (wc (M.w0 R::M.w1 R::M.w2 R::List.replicate (cap-3) 0)) 142]
def mD (X Y:SV) (ys:List SV):List (Nat × SB):=wP++[(61,.own [.bool true false,X] 102),(63,.own [.bool true false,Y] 102),(65,.own ys 142)]
namespace M
theorem nl3 (a b c:Int):(nl [a,b,c]=0/\a=0/\b=0/\c=0)\/(nl [a,b,c]=1/\a≠0/\b=0/\c=0)\/(nl [a,b,c]=2/\b≠0/\c=0)\/(nl [a,b,c]=3/\c≠0):=by
 by_cases hc:c=0
 .by_cases hb:b=0
  .by_cases ha:a=0
   .left;exact ⟨by simp only [nl,hc,hb,ha,if_true],ha,hb,hc⟩
   .right;left;exact ⟨by simp only [nl,hc,hb,if_true,if_neg ha],ha,hb,hc⟩
  .right;right;left;exact ⟨by simp only [nl,hc,if_true,if_neg hb],hb,hc⟩
 .right;right;right;exact ⟨by simp only [nl,if_neg hc],hc⟩
theorem QO (a b:Int):(nl [a,b]=0/\a=0/\b=0)\/(nl [a,b]=1/\a≠0/\b=0)\/(nl [a,b]=2/\b≠0):=by
 by_cases hb:b=0
 .by_cases ha:a=0
  .left;exact ⟨by simp only [nl,hb,ha,if_true],ha,hb⟩
  .right;left;exact ⟨by simp only [nl,hb,if_true,if_neg ha],ha,hb⟩
 .right;right;exact ⟨by simp only [nl,if_neg hb],hb⟩
theorem mI {p z c:Int} (QS:0<=p) (hp:p<=340282366920938463426481119284349108225) (hz:U z) (hc:U c):az p z c+18446744073709551616*ac p z c=p+z+c/\U (az p z c)/\U (ac p z c):=by
 have:=hz.1;have:=hz.2;have:=hc.1;have:=hc.2
 unfold az ac
 rw [bP]
 unfold U ul uh
 omega
end M
theorem tC {f:FuncId} {n m ca cb:Nat} {b:Bool} {xs ys:List SV} {e:bK} (h:aF Tryz.prog Γv f iX (fun l=>look l (sD (.aH 64 true 0 n ca) (.aH 65 true 0 m cb) xs ys)) 100 100 e):aF Tryz.prog Γv f iX (fun l=>look l (sD (.aH 64 false 0 n ca) (.aH 65 b 0 m cb) xs ys)) 100 100 e:=
 aF.reL (L:=sD (.aH 64 true 0 n ca) (.aH 65 true 0 m cb) xs ys) (L':=sD (.aH 64 false 0 n ca) (.aH 65 b 0 m cb) xs ys) h ⟨rfl,⟨rfl,fun _=>rfl⟩,rfl,cB _,rfl,⟨rfl,fun _=>rfl⟩,rfl,cB _,rfl,cB _,rfl,cB _,rfl,cB _,rfl,cB _,trivial⟩ (fun _=>rfl)
theorem jI {Γ:Env} {f:FuncId} {n m ca cb:Nat} {b:Bool} {xs ys:List SV} {ob:List Prop} {N N':List SB} (h:aF Tryz.prog Γ f iX (fun l=>look l (sD (.aH 64 true 0 n ca) (.aH 65 true 0 m cb) xs ys)) 100 100 { bO:=ob,val:=.ptr 100 true 0,new:=N,wr:=wP }) (hg:Γv.aO=Γ.aO) (hn:xA N N') :
 aF Tryz.prog Γv f iX (fun l=>look l (sD (.aH 64 false 0 n ca) (.aH 65 b 0 m cb) xs ys)) 100 100 { val:=.ptr 100 true 0,new:=N',wr:=mD (.aH 64 false 0 n ca) (.aH 65 b 0 m cb) ys }:=
 tC ((((h.bD 61 _ rfl (by decide)).bD 63 _ rfl (by decide)).bD 65 _ rfl (by decide)).re hg (fun _=>rfl) hn ⟨rfl,⟨rfl,fun _=>rfl⟩,rfl,⟨rfl,fun _=>rfl⟩,rfl,⟨rfl,fun _=>rfl⟩,rfl,⟨rfl,fun _=>rfl⟩,rfl,⟨rfl,fun _=>rfl⟩,trivial⟩)
open M in
theorem LG (xs ys:List SV) {y0 y1 y2:Int} (fB:U y0) (gW:U y1) (Fh:y2=1):aF Tryz.prog Γv 63 iX (fun l=>look l (sD (.raw (.slice none 0 0)) (.aH 65 true 0 3 7) xs (ww y0 (ww y1 (ww y2 ys))))) 100 100
 { val:=.ptr 100 true 0,new:=rB ((0+n3 y0 y1 y2)%bB) 7,wr:=mD (.raw (.slice none 0 0)) (.aH 65 true 0 3 7) (ww y0 (ww y1 (ww y2 ys))) }:=by
 have hs:aG Tryz.prog (env (zA []) 22) 63 (aK (env (zA []) 22) Tryz.f63 true [] 400):=aN (bL _ 22) (bV _ (uT []) 22) mix Tryz.func63 (by kernel_rfl) true [] 400
 have hU:U y2:=by unfold U;omega
 have hz:y2≠0:=by omega
 rw [Int.zero_add]
 exact (((((hs.call (aXt xs y0 y1 y2 ys) (aA (by simp only [sh,cA,fB,gW,hU,and_true,true_and];exact hz))).bD 61 _ rfl (by decide)).bD 63 _ rfl (by decide)).bD 65 _ rfl (by decide)).re rfl (fun _=>rfl) ⟨⟨rfl,fun _=>rfl⟩,⟨rfl,fun _=>rfl⟩,trivial⟩ ⟨rfl,⟨rfl,fun _=>rfl⟩,rfl,⟨rfl,fun _=>rfl⟩,rfl,⟨rfl,fun _=>rfl⟩,rfl,⟨rfl,fun _=>rfl⟩,rfl,⟨rfl,fun _=>rfl⟩,trivial⟩)
open M in
theorem LK (ca:Nat) (xs ys:List SV) {y0 y1 y2:Int} (fB:U y0) (gW:U y1) (Fh:y2=1):aF Tryz.prog Γv 63 iX (fun l=>look l (sD (.aH 64 false 0 0 ca) (.aH 65 true 0 3 7) xs (ww y0 (ww y1 (ww y2 ys))))) 100 100
 { val:=.ptr 100 true 0,new:=rB ((0+n3 y0 y1 y2)%bB) 7,wr:=mD (.aH 64 false 0 0 ca) (.aH 65 true 0 3 7) (ww y0 (ww y1 (ww y2 ys))) }:=by
 have hs:∀ h,aG Tryz.prog (env (zA h) 22) 63 (aK (env (zA h) 22) Tryz.f63 true [] 400):=fun h=>aN (bL _ 22) (bV _ (uT h) 22) mix Tryz.func63 (by kernel_rfl) true [] 400
 have hU:U y2:=by unfold U;omega
 have hz:(y2≠0)=True:=eq_true (by omega)
 have hW:0+n3 y0 y1 y2=n3 y0 y1 y2:=Int.zero_add _
 rw [hW]
 exact jI ((hs _).call (aXx ca xs y0 y1 y2 ys) (aA (by simp only [sh,cA,fB,gW,hU,hz,and_true,true_and]))) rfl ⟨⟨rfl,fun _=>rfl⟩,⟨rfl,fun _=>rfl⟩,trivial⟩
open M in
theorem LJ {ca:Nat} (kF:ca=6\/ca=7\/ca=8\/ca=9) (xs ys:List SV) {x0 y0 y1 y2:Int} (gB:U x0) (hN:x0<bB) (fB:U y0) (gW:U y1) (Fh:y2=1):aF Tryz.prog Γv 63 iX (fun l=>look l (sD (.aH 64 false 0 1 ca) (.aH 65 true 0 3 7) (ww x0 xs) (ww y0 (ww y1 (ww y2 ys))))) 100 100
 { val:=.ptr 100 true 0,new:=rB ((x0+n3 y0 y1 y2)%bB) 8,wr:=mD (.aH 64 false 0 1 ca) (.aH 65 true 0 3 7) (ww y0 (ww y1 (ww y2 ys))) }:=by
 have hs:∀ h,aG Tryz.prog (env (zA h) 22) 63 (aK (env (zA h) 22) Tryz.f63 true [] 400):=fun h=>aN (bL _ 22) (bV _ (uT h) 22) mix Tryz.func63 (by kernel_rfl) true [] 400
 have hU:U y2:=by unfold U;omega
 have:=gB.1;have:=gB.2;have:=fB.1;have:=fB.2;have:=gW.1;have:=gW.2
 have CF:x0<1361129467683753853853498429727072845819:=hN
 skip
 have ec0:c0 y0 x0=(y0+x0)/18446744073709551616:=by unfold c0 uh;omega
 by_cases Ee:(uh (y1+c0 y0 x0+0)==0)=true
 .have h1:uh (y1+c0 y0 x0+0)=0:=by simpa using Ee
  have h1:y1+c0 y0 x0<18446744073709551616:=by unfold uh at h1;omega
  have u0:U (g0 y0 x0):=by exact dO _
  have u1:U (ul (y1+c0 y0 x0+0)):=by exact dO _
  have u2:U (y2):=by exact hU
  have hW:n3 (g0 y0 x0) (ul (y1+c0 y0 x0+0)) (y2)=x0+n3 y0 y1 y2:=by unfold n3 g0;unfold ul;omega
  have hz:(y2≠0)=True:=eq_true (by intro e;rw [e] at hW;have:=u0.2;have:=u1.2;unfold n3 at hW;omega)
  have hn:nl [g0 y0 x0,ul (y1+c0 y0 x0+0),y2,0]=3:=by rw [nl4];simp only [nl,if_neg (of_eq_true hz)]
  have kc0:K (c0 y0 x0):=by unfold K;omega
  have vc0:U (c0 y0 x0):=by unfold U;omega
  rw [<- hW]
  exact jI ((hs _).call (aXw kF x0 xs y0 y1 y2 ys) (aA (by simp only [sh,cA,gB,fB,gW,hU,u0,u1,u2,hz,hn,K0,kc0,vc0,Ee,and_true,true_and]))) rfl ⟨⟨rfl,fun _=>rfl⟩,⟨rfl,fun _=>rfl⟩,trivial⟩
 .have Ee:(uh (y1+c0 y0 x0+0)==0)=false:=by simpa using Ee
  have hm:(y2 != 18446744073709551615)=true:=by rw [Fh];decide
  have h1:uh (y1+c0 y0 x0+0)≠0:=by simpa using Ee
  have h1:y1+c0 y0 x0=18446744073709551616:=by unfold uh at h1;omega
  have u0:U (g0 y0 x0):=by exact dO _
  have u1:U (ul (y1+c0 y0 x0+0)):=by exact dO _
  have u2:U (IntKind.u64.wrap (y2+1)):=by rw [bP];exact dO _
  have hW:n3 (g0 y0 x0) (ul (y1+c0 y0 x0+0)) (IntKind.u64.wrap (y2+1))=x0+n3 y0 y1 y2:=by unfold n3 g0;rw [bP];unfold ul;omega
  have hz:(IntKind.u64.wrap (y2+1)≠0)=True:=eq_true (by intro e;rw [e] at hW;have:=u0.2;have:=u1.2;unfold n3 at hW;omega)
  have hn:nl [g0 y0 x0,ul (y1+c0 y0 x0+0),IntKind.u64.wrap (y2+1),0]=3:=by rw [nl4];simp only [nl,if_neg (of_eq_true hz)]
  have kc0:K (c0 y0 x0):=by unfold K;omega
  have vc0:U (c0 y0 x0):=by unfold U;omega
  rw [<- hW]
  exact jI ((hs _).call (aRz kF x0 xs y0 y1 y2 ys) (aA (by simp only [sh,cA,gB,fB,gW,hU,u0,u1,u2,hz,hn,K0,kc0,vc0,Ee,hm,and_true,true_and]))) rfl ⟨⟨rfl,fun _=>rfl⟩,⟨rfl,fun _=>rfl⟩,trivial⟩
open M in
theorem LI {ca:Nat} (kF:ca=6\/ca=7\/ca=8\/ca=9) (xs ys:List SV) {x0 x1 y0 y1 y2:Int} (gB:U x0) (fW:U x1) (hN:(x0+18446744073709551616*x1)<bB) (fB:U y0) (gW:U y1) (Fh:y2=1):aF Tryz.prog Γv 63 iX (fun l=>look l (sD (.aH 64 false 0 2 ca) (.aH 65 true 0 3 7) (ww x0 (ww x1 xs)) (ww y0 (ww y1 (ww y2 ys))))) 100 100
 { val:=.ptr 100 true 0,new:=rB (((x0+18446744073709551616*x1)+n3 y0 y1 y2)%bB) 8,wr:=mD (.aH 64 false 0 2 ca) (.aH 65 true 0 3 7) (ww y0 (ww y1 (ww y2 ys))) }:=by
 have hs:∀ h,aG Tryz.prog (env (zA h) 22) 63 (aK (env (zA h) 22) Tryz.f63 true [] 400):=fun h=>aN (bL _ 22) (bV _ (uT h) 22) mix Tryz.func63 (by kernel_rfl) true [] 400
 have hU:U y2:=by unfold U;omega
 have:=gB.1;have:=gB.2;have:=fW.1;have:=fW.2;have:=fB.1;have:=fB.2;have:=gW.1;have:=gW.2
 have CF:(x0+18446744073709551616*x1)<1361129467683753853853498429727072845819:=hN
 skip
 have ec0:c0 y0 x0=(y0+x0)/18446744073709551616:=by unfold c0 uh;omega
 have ec1:c1 y0 y1 x0 x1=(y1+x1+c0 y0 x0)/18446744073709551616:=by unfold c1 uh;omega
 have Ee:(uh (y2+c1 y0 y1 x0 x1+0)==0)=true:=by rw [Fh];simp only [beq_iff_eq];unfold uh;omega
 have u0:U (g0 y0 x0):=by exact dO _
 have u1:U (g1 y0 y1 x0 x1):=by exact dO _
 have u2:U (ul (y2+c1 y0 y1 x0 x1+0)):=by exact dO _
 have hW:n3 (g0 y0 x0) (g1 y0 y1 x0 x1) (ul (y2+c1 y0 y1 x0 x1+0))=(x0+18446744073709551616*x1)+n3 y0 y1 y2:=by unfold n3 g0 g1;unfold ul;omega
 have hz:(ul (y2+c1 y0 y1 x0 x1+0)≠0)=True:=eq_true (by intro e;rw [e] at hW;have:=u0.2;have:=u1.2;unfold n3 at hW;omega)
 have hn:nl [g0 y0 x0,g1 y0 y1 x0 x1,ul (y2+c1 y0 y1 x0 x1+0),0]=3:=by rw [nl4];simp only [nl,if_neg (of_eq_true hz)]
 have kc0:K (c0 y0 x0):=by unfold K;omega
 have vc0:U (c0 y0 x0):=by unfold U;omega
 have kc1:K (c1 y0 y1 x0 x1):=by unfold K;omega
 have vc1:U (c1 y0 y1 x0 x1):=by unfold U;omega
 rw [<- hW]
 exact jI ((hs _).call (aXv kF x0 x1 xs y0 y1 y2 ys) (aA (by simp only [sh,cA,gB,fW,fB,gW,hU,u0,u1,u2,hz,hn,K0,kc0,kc1,vc0,vc1,Ee,and_true,true_and]))) rfl ⟨⟨rfl,fun _=>rfl⟩,⟨rfl,fun _=>rfl⟩,trivial⟩
open M in
theorem LH {ca:Nat} (kF:ca=6\/ca=7\/ca=8\/ca=9) (xs ys:List SV) {x0 x1 x2 y0 y1 y2:Int} (gB:U x0) (fW:U x1) (mW:U x2) (hN:n3 x0 x1 x2<bB) (fB:U y0) (gW:U y1) (Fh:y2=1):aF Tryz.prog Γv 63 iX (fun l=>look l (sD (.aH 64 false 0 3 ca) (.aH 65 true 0 3 7) (ww x0 (ww x1 (ww x2 xs))) (ww y0 (ww y1 (ww y2 ys))))) 100 100
 { val:=.ptr 100 true 0,new:=rB ((n3 x0 x1 x2+n3 y0 y1 y2)%bB) 8,wr:=mD (.aH 64 false 0 3 ca) (.aH 65 true 0 3 7) (ww y0 (ww y1 (ww y2 ys))) }:=by
 have hs:∀ h,aG Tryz.prog (env (zA h) 22) 63 (aK (env (zA h) 22) Tryz.f63 true [] 400):=fun h=>aN (bL _ 22) (bV _ (uT h) 22) mix Tryz.func63 (by kernel_rfl) true [] 400
 have hU:U y2:=by unfold U;omega
 have:=gB.1;have:=gB.2;have:=fW.1;have:=fW.2;have:=mW.1;have:=mW.2;have:=fB.1;have:=fB.2;have:=gW.1;have:=gW.2
 have CF:n3 x0 x1 x2<1361129467683753853853498429727072845819:=hN
 unfold n3 at CF
 have ec0:c0 x0 y0=(x0+y0)/18446744073709551616:=by unfold c0 uh;omega
 have ec1:c1 x0 x1 y0 y1=(x1+y1+c0 x0 y0)/18446744073709551616:=by unfold c1 uh;omega
 have ec2:c2 x0 x1 x2 y0 y1 y2=(x2+y2+c1 x0 x1 y0 y1)/18446744073709551616:=by unfold c2 uh;omega
 have Ee:c2 x0 x1 x2 y0 y1 y2=0:=by omega
 have u0:U (g0 x0 y0):=by exact dO _
 have u1:U (g1 x0 x1 y0 y1):=by exact dO _
 have u2:U (g2 x0 x1 x2 y0 y1 y2):=by exact dO _
 have hW:n3 (g0 x0 y0) (g1 x0 x1 y0 y1) (g2 x0 x1 x2 y0 y1 y2)=n3 x0 x1 x2+n3 y0 y1 y2:=by unfold n3 g0 g1 g2;unfold ul;omega
 have hz:(g2 x0 x1 x2 y0 y1 y2≠0)=True:=eq_true (by intro e;rw [e] at hW;have:=u0.2;have:=u1.2;unfold n3 at hW;omega)
 have hn:nl [g0 x0 y0,g1 x0 x1 y0 y1,g2 x0 x1 x2 y0 y1 y2,0]=3:=by rw [nl4];simp only [nl,if_neg (of_eq_true hz)]
 have kc0:K (c0 x0 y0):=by unfold K;omega
 have vc0:U (c0 x0 y0):=by unfold U;omega
 have kc1:K (c1 x0 x1 y0 y1):=by unfold K;omega
 have vc1:U (c1 x0 x1 y0 y1):=by unfold U;omega
 rw [<- hW]
 exact jI ((hs _).call (aXu kF x0 x1 x2 xs y0 y1 y2 ys) (aA (by simp only [sh,cA,gB,fW,mW,fB,gW,hU,u0,u1,u2,hz,hn,K0,kc0,kc1,vc0,vc1,Ee,and_true,true_and]))) rfl ⟨⟨rfl,fun _=>rfl⟩,⟨rfl,fun _=>rfl⟩,trivial⟩
def nB:List SB:=[.own [.bool true false,.raw (.slice none 0 0)] 102]
theorem nW (h:Bool) (iq ir:Nat):aG Tryz.prog (env (TM h iq ir) 22) 65 (aK (env (TM h iq ir) 22) Tryz.f65 true [] 400):=aN (bL _ 22) (bV _ (aAv h iq ir) 22) mix Tryz.func65 (by kernel_rfl) true [] 400
theorem Zt (ca ct:Nat) (xs ys:List SV):aF Tryz.prog Γv 65 iX (fun l=>look l (sD (.aH 64 false 0 0 ca) (.aH 65 false 0 0 ct) xs ys)) 100 100
 { val:=.ptr 100 true 0,new:=nB,wr:=mD (.aH 64 false 0 0 ca) (.aH 65 false 0 0 ct) ys }:=
 tC ((((((nW true 0 0).call (aAd ca ct  xs ys) (by simp)).bD 61 _ rfl (by decide)).bD 63 _ rfl (by decide)).bD 65 _ rfl (by decide)).re rfl (fun _=>rfl) ⟨⟨rfl,fun _=>rfl⟩,trivial⟩ ⟨rfl,⟨rfl,fun _=>rfl⟩,rfl,⟨rfl,fun _=>rfl⟩,rfl,⟨rfl,fun _=>rfl⟩,rfl,⟨rfl,fun _=>rfl⟩,rfl,⟨rfl,fun _=>rfl⟩,trivial⟩)
theorem Zs (ca ct:Nat) (y0:Int) (xs ys:List SV):aF Tryz.prog Γv 65 iX (fun l=>look l (sD (.aH 64 false 0 0 ca) (.aH 65 false 0 1 ct) xs (ww y0 ys))) 100 100
 { val:=.ptr 100 true 0,new:=nB,wr:=mD (.aH 64 false 0 0 ca) (.aH 65 false 0 1 ct) (ww y0 ys) }:=
 tC ((((((nW true 0 0).call (aAc ca ct y0 xs ys) (by simp)).bD 61 _ rfl (by decide)).bD 63 _ rfl (by decide)).bD 65 _ rfl (by decide)).re rfl (fun _=>rfl) ⟨⟨rfl,fun _=>rfl⟩,trivial⟩ ⟨rfl,⟨rfl,fun _=>rfl⟩,rfl,⟨rfl,fun _=>rfl⟩,rfl,⟨rfl,fun _=>rfl⟩,rfl,⟨rfl,fun _=>rfl⟩,rfl,⟨rfl,fun _=>rfl⟩,trivial⟩)
theorem Zr (ca ct:Nat) (y0 y1:Int) (xs ys:List SV):aF Tryz.prog Γv 65 iX (fun l=>look l (sD (.aH 64 false 0 0 ca) (.aH 65 false 0 2 ct) xs (ww y0 (ww y1 ys)))) 100 100
 { val:=.ptr 100 true 0,new:=nB,wr:=mD (.aH 64 false 0 0 ca) (.aH 65 false 0 2 ct) (ww y0 (ww y1 ys)) }:=
 tC ((((((nW true 0 0).call (aAb ca ct y0 y1 xs ys) (by simp)).bD 61 _ rfl (by decide)).bD 63 _ rfl (by decide)).bD 65 _ rfl (by decide)).re rfl (fun _=>rfl) ⟨⟨rfl,fun _=>rfl⟩,trivial⟩ ⟨rfl,⟨rfl,fun _=>rfl⟩,rfl,⟨rfl,fun _=>rfl⟩,rfl,⟨rfl,fun _=>rfl⟩,rfl,⟨rfl,fun _=>rfl⟩,rfl,⟨rfl,fun _=>rfl⟩,trivial⟩)
theorem Zq (ca ct:Nat) (x0:Int) (xs ys:List SV):aF Tryz.prog Γv 65 iX (fun l=>look l (sD (.aH 64 false 0 1 ca) (.aH 65 false 0 0 ct) (ww x0 xs) ys)) 100 100
 { val:=.ptr 100 true 0,new:=nB,wr:=mD (.aH 64 false 0 1 ca) (.aH 65 false 0 0 ct) ys }:=
 tC ((((((nW true 0 0).call (aAa ca ct x0 xs ys) (by simp)).bD 61 _ rfl (by decide)).bD 63 _ rfl (by decide)).bD 65 _ rfl (by decide)).re rfl (fun _=>rfl) ⟨⟨rfl,fun _=>rfl⟩,trivial⟩ ⟨rfl,⟨rfl,fun _=>rfl⟩,rfl,⟨rfl,fun _=>rfl⟩,rfl,⟨rfl,fun _=>rfl⟩,rfl,⟨rfl,fun _=>rfl⟩,rfl,⟨rfl,fun _=>rfl⟩,trivial⟩)
theorem Zn (ca ct:Nat) (x0 x1:Int) (xs ys:List SV):aF Tryz.prog Γv 65 iX (fun l=>look l (sD (.aH 64 false 0 2 ca) (.aH 65 false 0 0 ct) (ww x0 (ww x1 xs)) ys)) 100 100
 { val:=.ptr 100 true 0,new:=nB,wr:=mD (.aH 64 false 0 2 ca) (.aH 65 false 0 0 ct) ys }:=
 tC ((((((nW true 0 0).call (ZV ca ct x0 x1 xs ys) (by simp)).bD 61 _ rfl (by decide)).bD 63 _ rfl (by decide)).bD 65 _ rfl (by decide)).re rfl (fun _=>rfl) ⟨⟨rfl,fun _=>rfl⟩,trivial⟩ ⟨rfl,⟨rfl,fun _=>rfl⟩,rfl,⟨rfl,fun _=>rfl⟩,rfl,⟨rfl,fun _=>rfl⟩,rfl,⟨rfl,fun _=>rfl⟩,rfl,⟨rfl,fun _=>rfl⟩,trivial⟩)
theorem Zk (ca ct:Nat) (x0 x1 x2:Int) (xs ys:List SV):aF Tryz.prog Γv 65 iX (fun l=>look l (sD (.aH 64 false 0 3 ca) (.aH 65 false 0 0 ct) (ww x0 (ww x1 (ww x2 xs))) ys)) 100 100
 { val:=.ptr 100 true 0,new:=nB,wr:=mD (.aH 64 false 0 3 ca) (.aH 65 false 0 0 ct) ys }:=
 tC ((((((nW true 0 0).call (ZQ ca ct x0 x1 x2 xs ys) (by simp)).bD 61 _ rfl (by decide)).bD 63 _ rfl (by decide)).bD 65 _ rfl (by decide)).re rfl (fun _=>rfl) ⟨⟨rfl,fun _=>rfl⟩,trivial⟩ ⟨rfl,⟨rfl,fun _=>rfl⟩,rfl,⟨rfl,fun _=>rfl⟩,rfl,⟨rfl,fun _=>rfl⟩,rfl,⟨rfl,fun _=>rfl⟩,rfl,⟨rfl,fun _=>rfl⟩,trivial⟩)
open M in
set_option maxHeartbeats 1000000 in
theorem Zp (ca ct:Nat) (xs ys:List SV) {x0 y0:Int} (gB:U x0) (fB:U y0) (hzx:x0≠0) (BG:y0≠0) (hN:x0<bB) (hT:y0<21267647932558653966460912964485513216):aF Tryz.prog Γv 65 iX (fun l=>look l (sD (.aH 64 false 0 1 ca) (.aH 65 false 0 1 ct) (ww x0 xs) (ww y0 ys))) 100 100
 { val:=.ptr 100 true 0,new:=rB ((x0*y0)%bB) 6,wr:=mD (.aH 64 false 0 1 ca) (.aH 65 false 0 1 ct) (ww y0 ys) }:=by
 have:=gB.1;have:=gB.2;have:=fB.1;have:=fB.2
 have CF:x0<1361129467683753853853498429727072845819:=hN
 have Aw:1<=x0:=by omega
 have Av:1<=y0:=by omega
 have nU:1<=x0*y0:=Int.le_trans (by decide) (Int.mul_le_mul Aw Av (by decide) (by omega))
 have Om:x0*y0<=1361129467683753853853498429727072845818*21267647932558653966460912964485513215:=Int.mul_le_mul (by omega) (by omega) (by omega) (by decide)
 have hE:x0*y0=x0*y0:=by grind
 have q0:=mH (x0*y0+0)
 have m0:=eE gB fB
 have Js:U (uh (x0*y0+0)):=An gB fB U0
 have ul0:U (ul (x0*y0+0)):=dO _
 have hb:(y0==0)=false:=by simpa using BG
 have hS:ul (x0*y0+0)+18446744073709551616*uh (x0*y0+0)=x0*y0:=by
  rw [hE]
  skip
  generalize x0*y0=z0 at *
  omega
 have Og:U (ul (x0*y0+0))/\U (uh (x0*y0+0)):=by refine ⟨?_,?_⟩ <;> first | exact U0 | assumption | exact dO _
 obtain ⟨Aa,zZ⟩:=Og
 have:=Aa.1;have:=Aa.2;have:=zZ.1;have:=zZ.2
 by_cases ht:uh (x0*y0+0)=0
 .have hz:(ul (x0*y0+0)≠0)=True:=eq_true (by intro e;rw [e,ht] at hS;clear hE;generalize x0*y0=zz at hS nU Om;omega)
  have hn:nl [ul (x0*y0+0),0]=1:=(fZ [ul (x0*y0+0)]).trans (by simp only [nl,if_neg (of_eq_true hz)])
  rw [ht,Int.mul_zero,Int.add_zero] at hS
  rw [<- hS]
  exact jI ((nW true 1 0).call (ZZ ca ct x0 y0 xs ys) (aA (by simp only [sh,cA,gB,fB,U0,K0,dO,Js,hb,ht,hz,hn,and_true,true_and]))) rfl ⟨⟨rfl,fun _=>rfl⟩,⟨rfl,fun _=>rfl⟩,trivial⟩
 .have hz:(uh (x0*y0+0)≠0)=True:=eq_true ht
  have hn:nl [ul (x0*y0+0),uh (x0*y0+0)]=2:=by simp only [nl,if_neg ht]
  rw [<- hS]
  exact jI ((nW true 2 0).call (ZY ca ct x0 y0 xs ys) (aA (by simp only [sh,cA,gB,fB,U0,K0,dO,Js,hb,hz,hn,and_true,true_and]))) rfl ⟨⟨rfl,fun _=>rfl⟩,⟨rfl,fun _=>rfl⟩,trivial⟩
open M in
set_option maxHeartbeats 1000000 in
theorem Zo (ca ct:Nat) (xs ys:List SV) {x0 y0 y1:Int} (gB:U x0) (fB:U y0) (gW:U y1) (hzx:x0≠0) (BG:y1≠0) (hN:x0<bB) (hT:(y0+18446744073709551616*y1)<21267647932558653966460912964485513216):aF Tryz.prog Γv 65 iX (fun l=>look l (sD (.aH 64 false 0 1 ca) (.aH 65 false 0 2 ct) (ww x0 xs) (ww y0 (ww y1 ys)))) 100 100
 { val:=.ptr 100 true 0,new:=rB ((x0*(y0+18446744073709551616*y1))%bB) 7,wr:=mD (.aH 64 false 0 1 ca) (.aH 65 false 0 2 ct) (ww y0 (ww y1 ys)) }:=by
 have:=gB.1;have:=gB.2;have:=fB.1;have:=fB.2;have:=gW.1;have:=gW.2
 have CF:x0<1361129467683753853853498429727072845819:=hN
 have Aw:1<=x0:=by omega
 have Av:18446744073709551616<=(y0+18446744073709551616*y1):=by omega
 have nU:18446744073709551616<=x0*(y0+18446744073709551616*y1):=Int.le_trans (by decide) (Int.mul_le_mul Aw Av (by decide) (by omega))
 have Om:x0*(y0+18446744073709551616*y1)<=1361129467683753853853498429727072845818*21267647932558653966460912964485513215:=Int.mul_le_mul (by omega) (by omega) (by omega) (by decide)
 have hE:x0*(y0+18446744073709551616*y1)=y0*x0+18446744073709551616*(y1*x0):=by grind
 have q0:=mH (y0*x0+0)
 have m0:=eE fB gB
 have Js:U (uh (y0*x0+0)):=An fB gB U0
 have ul0:U (ul (y0*x0+0)):=dO _
 have q1:=mH (y1*x0+uh (y0*x0+0))
 have m1:=eE gW gB
 have QK:U (uh (y1*x0+uh (y0*x0+0))):=An gW gB Js
 have ul1:U (ul (y1*x0+uh (y0*x0+0))):=dO _
 have hb:(x0==0)=false:=by simpa using hzx
 have hS:n3 (ul (y0*x0+0)) (ul (y1*x0+uh (y0*x0+0))) (uh (y1*x0+uh (y0*x0+0)))=x0*(y0+18446744073709551616*y1):=by
  rw [hE]
  unfold n3
  generalize y0*x0=z0 at *
  generalize y1*x0=z1 at *
  omega
 have Og:U (ul (y0*x0+0))/\U (ul (y1*x0+uh (y0*x0+0)))/\U (uh (y1*x0+uh (y0*x0+0))):=by refine ⟨?_,?_,?_⟩ <;> first | exact U0 | assumption | exact dO _
 obtain ⟨Aa,zZ,Ff⟩:=Og
 have:=Aa.1;have:=Aa.2;have:=zZ.1;have:=zZ.2;have:=Ff.1;have:=Ff.2
 by_cases ht:uh (y1*x0+uh (y0*x0+0))=0
 .have hz:(ul (y1*x0+uh (y0*x0+0))≠0)=True:=eq_true (by intro e;rw [e,ht] at hS;clear hE;unfold n3 at hS;generalize x0*(y0+18446744073709551616*y1)=zz at hS nU Om;omega)
  have hn:nl [ul (y0*x0+0),ul (y1*x0+uh (y0*x0+0)),0]=2:=(fZ [ul (y0*x0+0),ul (y1*x0+uh (y0*x0+0))]).trans (by simp only [nl,if_neg (of_eq_true hz)])
  have hS:ul (y0*x0+0)+18446744073709551616*ul (y1*x0+uh (y0*x0+0))=x0*(y0+18446744073709551616*y1):=by rw [<- hS,ht];unfold n3;omega
  rw [<- hS]
  exact jI ((nW true 0 2).call (ZX ca ct x0 y0 y1 xs ys) (aA (by simp only [sh,cA,gB,fB,gW,U0,K0,dO,Js,QK,hb,ht,hz,hn,and_true,true_and]))) rfl ⟨⟨rfl,fun _=>rfl⟩,⟨rfl,fun _=>rfl⟩,trivial⟩
 .have hz:(uh (y1*x0+uh (y0*x0+0))≠0)=True:=eq_true ht
  have hn:nl [ul (y0*x0+0),ul (y1*x0+uh (y0*x0+0)),uh (y1*x0+uh (y0*x0+0))]=3:=by simp only [nl,if_neg ht]
  rw [<- hS]
  exact jI ((nW true 0 3).call (ZW ca ct x0 y0 y1 xs ys) (aA (by simp only [sh,cA,gB,fB,gW,U0,K0,dO,Js,QK,hb,hz,hn,and_true,true_and]))) rfl ⟨⟨rfl,fun _=>rfl⟩,⟨rfl,fun _=>rfl⟩,trivial⟩
open M in
set_option maxHeartbeats 1000000 in
theorem Zm (ca ct:Nat) (xs ys:List SV) {x0 x1 y0:Int} (gB:U x0) (fW:U x1) (fB:U y0) (hzx:x1≠0) (BG:y0≠0) (hN:(x0+18446744073709551616*x1)<bB) (hT:y0<21267647932558653966460912964485513216):aF Tryz.prog Γv 65 iX (fun l=>look l (sD (.aH 64 false 0 2 ca) (.aH 65 false 0 1 ct) (ww x0 (ww x1 xs)) (ww y0 ys))) 100 100
 { val:=.ptr 100 true 0,new:=rB (((x0+18446744073709551616*x1)*y0)%bB) 7,wr:=mD (.aH 64 false 0 2 ca) (.aH 65 false 0 1 ct) (ww y0 ys) }:=by
 have:=gB.1;have:=gB.2;have:=fW.1;have:=fW.2;have:=fB.1;have:=fB.2
 have CF:(x0+18446744073709551616*x1)<1361129467683753853853498429727072845819:=hN
 have Aw:18446744073709551616<=(x0+18446744073709551616*x1):=by omega
 have Av:1<=y0:=by omega
 have nU:18446744073709551616<=(x0+18446744073709551616*x1)*y0:=Int.le_trans (by decide) (Int.mul_le_mul Aw Av (by decide) (by omega))
 have Om:(x0+18446744073709551616*x1)*y0<=1361129467683753853853498429727072845818*21267647932558653966460912964485513215:=Int.mul_le_mul (by omega) (by omega) (by omega) (by decide)
 have hE:(x0+18446744073709551616*x1)*y0=x0*y0+18446744073709551616*(x1*y0):=by grind
 have q0:=mH (x0*y0+0)
 have m0:=eE gB fB
 have Js:U (uh (x0*y0+0)):=An gB fB U0
 have ul0:U (ul (x0*y0+0)):=dO _
 have q1:=mH (x1*y0+uh (x0*y0+0))
 have m1:=eE fW fB
 have QK:U (uh (x1*y0+uh (x0*y0+0))):=An fW fB Js
 have ul1:U (ul (x1*y0+uh (x0*y0+0))):=dO _
 have hb:(y0==0)=false:=by simpa using BG
 have hS:n3 (ul (x0*y0+0)) (ul (x1*y0+uh (x0*y0+0))) (uh (x1*y0+uh (x0*y0+0)))=(x0+18446744073709551616*x1)*y0:=by
  rw [hE]
  unfold n3
  generalize x0*y0=z0 at *
  generalize x1*y0=z1 at *
  omega
 have Og:U (ul (x0*y0+0))/\U (ul (x1*y0+uh (x0*y0+0)))/\U (uh (x1*y0+uh (x0*y0+0))):=by refine ⟨?_,?_,?_⟩ <;> first | exact U0 | assumption | exact dO _
 obtain ⟨Aa,zZ,Ff⟩:=Og
 have:=Aa.1;have:=Aa.2;have:=zZ.1;have:=zZ.2;have:=Ff.1;have:=Ff.2
 by_cases ht:uh (x1*y0+uh (x0*y0+0))=0
 .have hz:(ul (x1*y0+uh (x0*y0+0))≠0)=True:=eq_true (by intro e;rw [e,ht] at hS;clear hE;unfold n3 at hS;generalize (x0+18446744073709551616*x1)*y0=zz at hS nU Om;omega)
  have hn:nl [ul (x0*y0+0),ul (x1*y0+uh (x0*y0+0)),0]=2:=(fZ [ul (x0*y0+0),ul (x1*y0+uh (x0*y0+0))]).trans (by simp only [nl,if_neg (of_eq_true hz)])
  have hS:ul (x0*y0+0)+18446744073709551616*ul (x1*y0+uh (x0*y0+0))=(x0+18446744073709551616*x1)*y0:=by rw [<- hS,ht];unfold n3;omega
  rw [<- hS]
  exact jI ((nW true 0 2).call (ZU ca ct x0 x1 y0 xs ys) (aA (by simp only [sh,cA,gB,fW,fB,U0,K0,dO,Js,QK,hb,ht,hz,hn,and_true,true_and]))) rfl ⟨⟨rfl,fun _=>rfl⟩,⟨rfl,fun _=>rfl⟩,trivial⟩
 .have hz:(uh (x1*y0+uh (x0*y0+0))≠0)=True:=eq_true ht
  have hn:nl [ul (x0*y0+0),ul (x1*y0+uh (x0*y0+0)),uh (x1*y0+uh (x0*y0+0))]=3:=by simp only [nl,if_neg ht]
  rw [<- hS]
  exact jI ((nW true 0 3).call (ZT ca ct x0 x1 y0 xs ys) (aA (by simp only [sh,cA,gB,fW,fB,U0,K0,dO,Js,QK,hb,hz,hn,and_true,true_and]))) rfl ⟨⟨rfl,fun _=>rfl⟩,⟨rfl,fun _=>rfl⟩,trivial⟩
open M in
set_option maxHeartbeats 1000000 in
theorem Zj (ca ct:Nat) (xs ys:List SV) {x0 x1 x2 y0:Int} (gB:U x0) (fW:U x1) (mW:U x2) (fB:U y0) (hzx:x2≠0) (BG:y0≠0) (hN:n3 x0 x1 x2<bB) (hT:y0<21267647932558653966460912964485513216):aF Tryz.prog Γv 65 iX (fun l=>look l (sD (.aH 64 false 0 3 ca) (.aH 65 false 0 1 ct) (ww x0 (ww x1 (ww x2 xs))) (ww y0 ys))) 100 100
 { val:=.ptr 100 true 0,new:=rB ((n3 x0 x1 x2*y0)%bB) 8,wr:=mD (.aH 64 false 0 3 ca) (.aH 65 false 0 1 ct) (ww y0 ys) }:=by
 have:=gB.1;have:=gB.2;have:=fW.1;have:=fW.2;have:=mW.1;have:=mW.2;have:=fB.1;have:=fB.2
 have CF:n3 x0 x1 x2<1361129467683753853853498429727072845819:=hN
 have Aw:340282366920938463463374607431768211456<=n3 x0 x1 x2:=by unfold n3;omega
 have Av:1<=y0:=by omega
 have nU:340282366920938463463374607431768211456<=n3 x0 x1 x2*y0:=Int.le_trans (by decide) (Int.mul_le_mul Aw Av (by decide) (by omega))
 have Om:n3 x0 x1 x2*y0<=1361129467683753853853498429727072845818*21267647932558653966460912964485513215:=Int.mul_le_mul (by omega) (by omega) (by omega) (by decide)
 have hE:n3 x0 x1 x2*y0=x0*y0+18446744073709551616*(x1*y0)+340282366920938463463374607431768211456*(x2*y0):=by unfold n3;grind
 have q0:=mH (x0*y0+0)
 have m0:=eE gB fB
 have Js:U (uh (x0*y0+0)):=An gB fB U0
 have ul0:U (ul (x0*y0+0)):=dO _
 have q1:=mH (x1*y0+uh (x0*y0+0))
 have m1:=eE fW fB
 have QK:U (uh (x1*y0+uh (x0*y0+0))):=An fW fB Js
 have ul1:U (ul (x1*y0+uh (x0*y0+0))):=dO _
 have q2:=mH (x2*y0+uh (x1*y0+uh (x0*y0+0)))
 have m2:=eE mW fB
 have uh2:U (uh (x2*y0+uh (x1*y0+uh (x0*y0+0)))):=An mW fB QK
 have ul2:U (ul (x2*y0+uh (x1*y0+uh (x0*y0+0)))):=dO _
 have hb:(y0==0)=false:=by simpa using BG
 have hS:n4 (ul (x0*y0+0)) (ul (x1*y0+uh (x0*y0+0))) (ul (x2*y0+uh (x1*y0+uh (x0*y0+0)))) (uh (x2*y0+uh (x1*y0+uh (x0*y0+0))))=n3 x0 x1 x2*y0:=by
  rw [hE]
  unfold n4
  generalize x0*y0=z0 at *
  generalize x1*y0=z1 at *
  generalize x2*y0=z2 at *
  omega
 have Og:U (ul (x0*y0+0))/\U (ul (x1*y0+uh (x0*y0+0)))/\U (ul (x2*y0+uh (x1*y0+uh (x0*y0+0))))/\U (uh (x2*y0+uh (x1*y0+uh (x0*y0+0)))):=by refine ⟨?_,?_,?_,?_⟩ <;> first | exact U0 | assumption | exact dO _
 obtain ⟨Aa,zZ,Ff,Tb⟩:=Og
 have:=Aa.1;have:=Aa.2;have:=zZ.1;have:=zZ.2;have:=Ff.1;have:=Ff.2;have:=Tb.1;have:=Tb.2
 by_cases ht:uh (x2*y0+uh (x1*y0+uh (x0*y0+0)))=0
 .have hz:(ul (x2*y0+uh (x1*y0+uh (x0*y0+0)))≠0)=True:=eq_true (by intro e;rw [e,ht] at hS;clear hE;unfold n4 at hS;generalize n3 x0 x1 x2*y0=zz at hS nU Om;omega)
  have hn:nl [ul (x0*y0+0),ul (x1*y0+uh (x0*y0+0)),ul (x2*y0+uh (x1*y0+uh (x0*y0+0))),0]=3:=(fZ [ul (x0*y0+0),ul (x1*y0+uh (x0*y0+0)),ul (x2*y0+uh (x1*y0+uh (x0*y0+0)))]).trans (by simp only [nl,if_neg (of_eq_true hz)])
  have hS:n3 (ul (x0*y0+0)) (ul (x1*y0+uh (x0*y0+0))) (ul (x2*y0+uh (x1*y0+uh (x0*y0+0))))=n3 x0 x1 x2*y0:=by rw [<- hS,ht];unfold n4 n3;omega
  rw [<- hS]
  exact jI ((nW true 0 3).call (ZP ca ct x0 x1 x2 y0 xs ys) (aA (by simp only [sh,cA,gB,fW,mW,fB,U0,K0,dO,Js,QK,uh2,hb,ht,hz,hn,and_true,true_and]))) rfl ⟨⟨rfl,fun _=>rfl⟩,⟨rfl,fun _=>rfl⟩,trivial⟩
 .have hz:(uh (x2*y0+uh (x1*y0+uh (x0*y0+0)))≠0)=True:=eq_true ht
  have hn:nl [ul (x0*y0+0),ul (x1*y0+uh (x0*y0+0)),ul (x2*y0+uh (x1*y0+uh (x0*y0+0))),uh (x2*y0+uh (x1*y0+uh (x0*y0+0)))]=4:=by simp only [nl,if_neg ht]
  rw [<- hS]
  exact jI ((nW true 0 4).call (ZO ca ct x0 x1 x2 y0 xs ys) (aA (by simp only [sh,cA,gB,fW,mW,fB,U0,K0,dO,Js,QK,uh2,hb,hz,hn,and_true,true_and]))) rfl ⟨⟨rfl,fun _=>rfl⟩,⟨rfl,fun _=>rfl⟩,trivial⟩
open M in
set_option maxHeartbeats 1000000 in
theorem Zl (ca ct:Nat) (xs ys:List SV) {x0 x1 y0 y1:Int} (gB:U x0) (fW:U x1) (fB:U y0) (gW:U y1) (hzx:x1≠0) (BG:y1≠0) (hN:(x0+18446744073709551616*x1)<bB) (hT:(y0+18446744073709551616*y1)<21267647932558653966460912964485513216):aF Tryz.prog Γv 65 iX (fun l=>look l (sD (.aH 64 false 0 2 ca) (.aH 65 false 0 2 ct) (ww x0 (ww x1 xs)) (ww y0 (ww y1 ys)))) 100 100
 { val:=.ptr 100 true 0,new:=rB (((x0+18446744073709551616*x1)*(y0+18446744073709551616*y1))%bB) 8,wr:=mD (.aH 64 false 0 2 ca) (.aH 65 false 0 2 ct) (ww y0 (ww y1 ys)) }:=by
 have:=gB.1;have:=gB.2;have:=fW.1;have:=fW.2;have:=fB.1;have:=fB.2;have:=gW.1;have:=gW.2
 have CF:(x0+18446744073709551616*x1)<1361129467683753853853498429727072845819:=hN
 have Aw:18446744073709551616<=(x0+18446744073709551616*x1):=by omega
 have Av:18446744073709551616<=(y0+18446744073709551616*y1):=by omega
 have nU:340282366920938463463374607431768211456<=(x0+18446744073709551616*x1)*(y0+18446744073709551616*y1):=Int.le_trans (by decide) (Int.mul_le_mul Aw Av (by decide) (by omega))
 have Om:(x0+18446744073709551616*x1)*(y0+18446744073709551616*y1)<=1361129467683753853853498429727072845818*21267647932558653966460912964485513215:=Int.mul_le_mul (by omega) (by omega) (by omega) (by decide)
 have hE:(x0+18446744073709551616*x1)*(y0+18446744073709551616*y1)=x0*y0+18446744073709551616*(x0*y1)+18446744073709551616*(x1*y0)+340282366920938463463374607431768211456*(x1*y1):=by grind
 cases CT:(y0 != 0) with
 | false=>
   have BW:=eE gB gW
   obtain ⟨qa0,Hf,wU⟩:q0 x0 y1+18446744073709551616*k0 x0 y1=x0*y1+0+0/\U (q0 x0 y1)/\U (k0 x0 y1):=mI BW.1 BW.2 U0 U0
   have BV:=eE fW gW
   obtain ⟨qa1,Am,yR⟩:q1 x0 x1 y1+18446744073709551616*k1 x0 x1 y1=x1*y1+0+k0 x0 y1/\U (q1 x0 x1 y1)/\U (k1 x0 x1 y1):=mI BV.1 BV.2 U0 wU
   have hb:(y0 != 0)=false:=by simpa using CT
   have y00:y0=0:=by simpa using hb
   have pM:(y1 != 0)=true:=by simpa using BG
   rw [y00] at hE
   simp only [Int.mul_zero,Int.zero_add,Int.add_zero] at hE
   have hS:n4 0 (q0 x0 y1) (q1 x0 x1 y1) (k1 x0 x1 y1)=(x0+18446744073709551616*x1)*(y0+18446744073709551616*y1):=by
    rw [y00,Int.zero_add,hE]
    unfold n4
    generalize x0*y1=z0 at *
    generalize x1*y1=z1 at *
    omega
   have Og:U (0)/\U (q0 x0 y1)/\U (q1 x0 x1 y1)/\U (k1 x0 x1 y1):=by refine ⟨?_,?_,?_,?_⟩ <;> first | exact U0 | assumption | exact dO _
   obtain ⟨Aa,zZ,Ff,Tb⟩:=Og
   have:=Aa.1;have:=Aa.2;have:=zZ.1;have:=zZ.2;have:=Ff.1;have:=Ff.2;have:=Tb.1;have:=Tb.2
   by_cases ht:k1 x0 x1 y1=0
   .have hz:(q1 x0 x1 y1≠0)=True:=eq_true (by intro e;rw [e,ht] at hS;clear hE;unfold n4 at hS;generalize (x0+18446744073709551616*x1)*(y0+18446744073709551616*y1)=zz at hS nU Om;omega)
    have hn:nl [0,q0 x0 y1,q1 x0 x1 y1,0]=3:=(fZ [0,q0 x0 y1,q1 x0 x1 y1]).trans (by simp only [nl,if_neg (of_eq_true hz)])
    have hS:n3 0 (q0 x0 y1) (q1 x0 x1 y1)=(x0+18446744073709551616*x1)*(y0+18446744073709551616*y1):=by rw [<- hS,ht];unfold n4 n3;omega
    rw [<- hS]
    exact jI ((nW false 0 3).call (LF ca ct x0 x1 y0 y1 xs ys) (aA (by simp only [sh,cA,gB,fW,fB,gW,U0,K0,dO,Hf,wU,Am,yR,hb,pM,ht,hz,hn,and_true,true_and]))) rfl ⟨⟨rfl,fun _=>rfl⟩,⟨rfl,fun _=>rfl⟩,trivial⟩
   .have hz:(k1 x0 x1 y1≠0)=True:=eq_true ht
    have hn:nl [0,q0 x0 y1,q1 x0 x1 y1,k1 x0 x1 y1]=4:=by simp only [nl,if_neg ht]
    rw [<- hS]
    exact jI ((nW false 0 4).call (LD ca ct x0 x1 y0 y1 xs ys) (aA (by simp only [sh,cA,gB,fW,fB,gW,U0,K0,dO,Hf,wU,Am,yR,hb,pM,hz,hn,and_true,true_and]))) rfl ⟨⟨rfl,fun _=>rfl⟩,⟨rfl,fun _=>rfl⟩,trivial⟩
 | true=>
   have BW:=eE gB fB
   obtain ⟨qa0,Hf,wU⟩:q0 x0 y0+18446744073709551616*k0 x0 y0=x0*y0+0+0/\U (q0 x0 y0)/\U (k0 x0 y0):=mI BW.1 BW.2 U0 U0
   have BV:=eE fW fB
   obtain ⟨qa1,Am,yR⟩:q1 x0 x1 y0+18446744073709551616*k1 x0 x1 y0=x1*y0+0+k0 x0 y0/\U (q1 x0 x1 y0)/\U (k1 x0 x1 y0):=mI BV.1 BV.2 U0 wU
   have mb0:=eE gB gW
   obtain ⟨qb0,RQ,Xm⟩:r0 x0 x1 y0 y1+18446744073709551616*Gx x0 x1 y0 y1=x0*y1+q1 x0 x1 y0+0/\U (r0 x0 x1 y0 y1)/\U (Gx x0 x1 y0 y1):=mI mb0.1 mb0.2 Am U0
   have mb1:=eE fW gW
   obtain ⟨qb1,RP,CK⟩:e1 x0 x1 y0 y1+18446744073709551616*f1 x0 x1 y0 y1=x1*y1+k1 x0 x1 y0+Gx x0 x1 y0 y1/\U (e1 x0 x1 y0 y1)/\U (f1 x0 x1 y0 y1):=mI mb1.1 mb1.2 yR Xm
   have hb:(y0 != 0)=true:=CT
   have pM:(y1 != 0)=true:=by simpa using BG
   have hS:n4 (q0 x0 y0) (r0 x0 x1 y0 y1) (e1 x0 x1 y0 y1) (f1 x0 x1 y0 y1)=(x0+18446744073709551616*x1)*(y0+18446744073709551616*y1):=by
    rw [hE]
    unfold n4
    generalize x0*y0=z0 at *
    generalize x0*y1=z1 at *
    generalize x1*y0=z2 at *
    generalize x1*y1=z3 at *
    omega
   have Og:U (q0 x0 y0)/\U (r0 x0 x1 y0 y1)/\U (e1 x0 x1 y0 y1)/\U (f1 x0 x1 y0 y1):=by refine ⟨?_,?_,?_,?_⟩ <;> first | exact U0 | assumption | exact dO _
   obtain ⟨Aa,zZ,Ff,Tb⟩:=Og
   have:=Aa.1;have:=Aa.2;have:=zZ.1;have:=zZ.2;have:=Ff.1;have:=Ff.2;have:=Tb.1;have:=Tb.2
   by_cases ht:f1 x0 x1 y0 y1=0
   .have hz:(e1 x0 x1 y0 y1≠0)=True:=eq_true (by intro e;rw [e,ht] at hS;clear hE;unfold n4 at hS;generalize (x0+18446744073709551616*x1)*(y0+18446744073709551616*y1)=zz at hS nU Om;omega)
    have hn:nl [q0 x0 y0,r0 x0 x1 y0 y1,e1 x0 x1 y0 y1,0]=3:=(fZ [q0 x0 y0,r0 x0 x1 y0 y1,e1 x0 x1 y0 y1]).trans (by simp only [nl,if_neg (of_eq_true hz)])
    have hS:n3 (q0 x0 y0) (r0 x0 x1 y0 y1) (e1 x0 x1 y0 y1)=(x0+18446744073709551616*x1)*(y0+18446744073709551616*y1):=by rw [<- hS,ht];unfold n4 n3;omega
    rw [<- hS]
    exact jI ((nW true 0 3).call (ZS ca ct x0 x1 y0 y1 xs ys) (aA (by simp only [sh,cA,gB,fW,fB,gW,U0,K0,dO,Hf,wU,Am,yR,RQ,Xm,RP,CK,hb,pM,ht,hz,hn,and_true,true_and]))) rfl ⟨⟨rfl,fun _=>rfl⟩,⟨rfl,fun _=>rfl⟩,trivial⟩
   .have hz:(f1 x0 x1 y0 y1≠0)=True:=eq_true ht
    have hn:nl [q0 x0 y0,r0 x0 x1 y0 y1,e1 x0 x1 y0 y1,f1 x0 x1 y0 y1]=4:=by simp only [nl,if_neg ht]
    rw [<- hS]
    exact jI ((nW true 0 4).call (ZR ca ct x0 x1 y0 y1 xs ys) (aA (by simp only [sh,cA,gB,fW,fB,gW,U0,K0,dO,Hf,wU,Am,yR,RQ,Xm,RP,CK,hb,pM,hz,hn,and_true,true_and]))) rfl ⟨⟨rfl,fun _=>rfl⟩,⟨rfl,fun _=>rfl⟩,trivial⟩
open M in
set_option maxHeartbeats 1000000 in
theorem Zi (ca ct:Nat) (xs ys:List SV) {x0 x1 x2 y0 y1:Int} (gB:U x0) (fW:U x1) (mW:U x2) (fB:U y0) (gW:U y1) (hzx:x2≠0) (BG:y1≠0) (hN:n3 x0 x1 x2<bB) (hT:(y0+18446744073709551616*y1)<21267647932558653966460912964485513216):aF Tryz.prog Γv 65 iX (fun l=>look l (sD (.aH 64 false 0 3 ca) (.aH 65 false 0 2 ct) (ww x0 (ww x1 (ww x2 xs))) (ww y0 (ww y1 ys)))) 100 100
 { val:=.ptr 100 true 0,new:=rB ((n3 x0 x1 x2*(y0+18446744073709551616*y1))%bB) 9,wr:=mD (.aH 64 false 0 3 ca) (.aH 65 false 0 2 ct) (ww y0 (ww y1 ys)) }:=by
 have:=gB.1;have:=gB.2;have:=fW.1;have:=fW.2;have:=mW.1;have:=mW.2;have:=fB.1;have:=fB.2;have:=gW.1;have:=gW.2
 have CF:n3 x0 x1 x2<1361129467683753853853498429727072845819:=hN
 have Aw:340282366920938463463374607431768211456<=n3 x0 x1 x2:=by unfold n3;omega
 have Av:18446744073709551616<=(y0+18446744073709551616*y1):=by omega
 have nU:6277101735386680763835789423207666416102355444464034512896<=n3 x0 x1 x2*(y0+18446744073709551616*y1):=Int.le_trans (by decide) (Int.mul_le_mul Aw Av (by decide) (by omega))
 have Om:n3 x0 x1 x2*(y0+18446744073709551616*y1)<=1361129467683753853853498429727072845818*21267647932558653966460912964485513215:=Int.mul_le_mul (by omega) (by omega) (by omega) (by decide)
 have hE:n3 x0 x1 x2*(y0+18446744073709551616*y1)=x0*y0+18446744073709551616*(x0*y1)+18446744073709551616*(x1*y0)+340282366920938463463374607431768211456*(x1*y1)+340282366920938463463374607431768211456*(x2*y0)+6277101735386680763835789423207666416102355444464034512896*(x2*y1):=by unfold n3;grind
 cases CT:(y0 != 0) with
 | false=>
   have BW:=eE gB gW
   obtain ⟨qa0,Hf,wU⟩:q0 x0 y1+18446744073709551616*k0 x0 y1=x0*y1+0+0/\U (q0 x0 y1)/\U (k0 x0 y1):=mI BW.1 BW.2 U0 U0
   have BV:=eE fW gW
   obtain ⟨qa1,Am,yR⟩:q1 x0 x1 y1+18446744073709551616*k1 x0 x1 y1=x1*y1+0+k0 x0 y1/\U (q1 x0 x1 y1)/\U (k1 x0 x1 y1):=mI BV.1 BV.2 U0 wU
   have ma2:=eE mW gW
   obtain ⟨qa2,RR,RO⟩:q2 x0 x1 x2 y1+18446744073709551616*k2 x0 x1 x2 y1=x2*y1+0+k1 x0 x1 y1/\U (q2 x0 x1 x2 y1)/\U (k2 x0 x1 x2 y1):=mI ma2.1 ma2.2 U0 yR
   have hb:(y0 != 0)=false:=by simpa using CT
   have y00:y0=0:=by simpa using hb
   have pM:(y1 != 0)=true:=by simpa using BG
   rw [y00] at hE
   simp only [Int.mul_zero,Int.zero_add,Int.add_zero] at hE
   have hS:n4 0 (q0 x0 y1) (q1 x0 x1 y1) (q2 x0 x1 x2 y1)+115792089237316195423570985008687907853269984665640564039457584007913129639936*(k2 x0 x1 x2 y1)=n3 x0 x1 x2*(y0+18446744073709551616*y1):=by
    rw [y00,Int.zero_add,hE]
    unfold n4
    generalize x0*y1=z0 at *
    generalize x1*y1=z1 at *
    generalize x2*y1=z2 at *
    omega
   have Og:U (0)/\U (q0 x0 y1)/\U (q1 x0 x1 y1)/\U (q2 x0 x1 x2 y1)/\U (k2 x0 x1 x2 y1):=by refine ⟨?_,?_,?_,?_,?_⟩ <;> first | exact U0 | assumption | exact dO _
   obtain ⟨Aa,zZ,Ff,Tb,uw4⟩:=Og
   have:=Aa.1;have:=Aa.2;have:=zZ.1;have:=zZ.2;have:=Ff.1;have:=Ff.2;have:=Tb.1;have:=Tb.2;have:=uw4.1;have:=uw4.2
   have ht:k2 x0 x1 x2 y1=0:=by clear hE;unfold n4 at hS;generalize n3 x0 x1 x2*(y0+18446744073709551616*y1)=zz at hS nU Om;omega
   have hz:(q2 x0 x1 x2 y1≠0)=True:=eq_true (by intro e;rw [e,ht] at hS;clear hE;unfold n4 at hS;generalize n3 x0 x1 x2*(y0+18446744073709551616*y1)=zz at hS nU Om;omega)
   have hn:nl [0,q0 x0 y1,q1 x0 x1 y1,q2 x0 x1 x2 y1,0]=4:=(fZ [0,q0 x0 y1,q1 x0 x1 y1,q2 x0 x1 x2 y1]).trans (by simp only [nl,if_neg (of_eq_true hz)])
   rw [ht,Int.mul_zero,Int.add_zero] at hS
   rw [<- hS]
   exact jI ((nW false 0 4).call (LC ca ct x0 x1 x2 y0 y1 xs ys) (aA (by simp only [sh,cA,gB,fW,mW,fB,gW,U0,K0,dO,Hf,wU,Am,yR,RR,RO,hb,pM,ht,hz,hn,and_true,true_and]))) rfl ⟨⟨rfl,fun _=>rfl⟩,⟨rfl,fun _=>rfl⟩,trivial⟩
 | true=>
   have BW:=eE gB fB
   obtain ⟨qa0,Hf,wU⟩:q0 x0 y0+18446744073709551616*k0 x0 y0=x0*y0+0+0/\U (q0 x0 y0)/\U (k0 x0 y0):=mI BW.1 BW.2 U0 U0
   have BV:=eE fW fB
   obtain ⟨qa1,Am,yR⟩:q1 x0 x1 y0+18446744073709551616*k1 x0 x1 y0=x1*y0+0+k0 x0 y0/\U (q1 x0 x1 y0)/\U (k1 x0 x1 y0):=mI BV.1 BV.2 U0 wU
   have ma2:=eE mW fB
   obtain ⟨qa2,RR,RO⟩:q2 x0 x1 x2 y0+18446744073709551616*k2 x0 x1 x2 y0=x2*y0+0+k1 x0 x1 y0/\U (q2 x0 x1 x2 y0)/\U (k2 x0 x1 x2 y0):=mI ma2.1 ma2.2 U0 yR
   have mb0:=eE gB gW
   obtain ⟨qb0,RQ,Xm⟩:r0 x0 x1 y0 y1+18446744073709551616*Gx x0 x1 y0 y1=x0*y1+q1 x0 x1 y0+0/\U (r0 x0 x1 y0 y1)/\U (Gx x0 x1 y0 y1):=mI mb0.1 mb0.2 Am U0
   have mb1:=eE fW gW
   obtain ⟨qb1,RP,CK⟩:r1 x0 x1 x2 y0 y1+18446744073709551616*s1' x0 x1 x2 y0 y1=x1*y1+q2 x0 x1 x2 y0+Gx x0 x1 y0 y1/\U (r1 x0 x1 x2 y0 y1)/\U (s1' x0 x1 x2 y0 y1):=mI mb1.1 mb1.2 RR Xm
   have mb2:=eE mW gW
   obtain ⟨qb2,aTp,aTo⟩:r2 x0 x1 x2 y0 y1+18446744073709551616*QM x0 x1 x2 y0 y1=x2*y1+k2 x0 x1 x2 y0+s1' x0 x1 x2 y0 y1/\U (r2 x0 x1 x2 y0 y1)/\U (QM x0 x1 x2 y0 y1):=mI mb2.1 mb2.2 RO CK
   have hb:(y0 != 0)=true:=CT
   have pM:(y1 != 0)=true:=by simpa using BG
   have hS:n4 (q0 x0 y0) (r0 x0 x1 y0 y1) (r1 x0 x1 x2 y0 y1) (r2 x0 x1 x2 y0 y1)+115792089237316195423570985008687907853269984665640564039457584007913129639936*(QM x0 x1 x2 y0 y1)=n3 x0 x1 x2*(y0+18446744073709551616*y1):=by
    rw [hE]
    unfold n4
    generalize x0*y0=z0 at *
    generalize x0*y1=z1 at *
    generalize x1*y0=z2 at *
    generalize x1*y1=z3 at *
    generalize x2*y0=z4 at *
    generalize x2*y1=z5 at *
    omega
   have Og:U (q0 x0 y0)/\U (r0 x0 x1 y0 y1)/\U (r1 x0 x1 x2 y0 y1)/\U (r2 x0 x1 x2 y0 y1)/\U (QM x0 x1 x2 y0 y1):=by refine ⟨?_,?_,?_,?_,?_⟩ <;> first | exact U0 | assumption | exact dO _
   obtain ⟨Aa,zZ,Ff,Tb,uw4⟩:=Og
   have:=Aa.1;have:=Aa.2;have:=zZ.1;have:=zZ.2;have:=Ff.1;have:=Ff.2;have:=Tb.1;have:=Tb.2;have:=uw4.1;have:=uw4.2
   have ht:QM x0 x1 x2 y0 y1=0:=by clear hE;unfold n4 at hS;generalize n3 x0 x1 x2*(y0+18446744073709551616*y1)=zz at hS nU Om;omega
   have hz:(r2 x0 x1 x2 y0 y1≠0)=True:=eq_true (by intro e;rw [e,ht] at hS;clear hE;unfold n4 at hS;generalize n3 x0 x1 x2*(y0+18446744073709551616*y1)=zz at hS nU Om;omega)
   have hn:nl [q0 x0 y0,r0 x0 x1 y0 y1,r1 x0 x1 x2 y0 y1,r2 x0 x1 x2 y0 y1,0]=4:=(fZ [q0 x0 y0,r0 x0 x1 y0 y1,r1 x0 x1 x2 y0 y1,r2 x0 x1 x2 y0 y1]).trans (by simp only [nl,if_neg (of_eq_true hz)])
   rw [ht,Int.mul_zero,Int.add_zero] at hS
   rw [<- hS]
   exact jI ((nW true 0 4).call (ZN ca ct x0 x1 x2 y0 y1 xs ys) (aA (by simp only [sh,cA,gB,fW,mW,fB,gW,U0,K0,dO,Hf,wU,Am,yR,RR,RO,RQ,Xm,RP,CK,aTp,aTo,hb,pM,ht,hz,hn,and_true,true_and]))) rfl ⟨⟨rfl,fun _=>rfl⟩,⟨rfl,fun _=>rfl⟩,trivial⟩
namespace M
theorem sh1 {b:Int} (h:Bt b):dD .u64 (IntKind.u64.wrap b) 8=b*256:=by
 have:=h.1;have:=h.2
 have e:IntKind.u64.wrap b=b:=by rw [bP];unfold ul;omega
 rw [e]
 show IntKind.u64.wrap (b*256)=_
 rw [bP];unfold ul;omega
theorem or1 {acc b:Int} (h:Bt b) (h0:0<=acc) (h1:acc<256):jZ .u64 acc (b*256)=acc+b*256:=by
 have:=h.1;have:=h.2
 obtain ⟨a,rfl⟩:=pW h0
 obtain ⟨b,rfl⟩:=pW h.1
 have e:(b:Int)*256=((b*2^8:Nat):Int):=by rw [Int.natCast_mul];rfl
 have QF:(2:Nat)^8=256:=rfl
 rw [e,BU,BT (by omega) (by omega)]
 omega
theorem sh2 {b:Int} (h:Bt b):dD .u64 (IntKind.u64.wrap b) 16=b*65536:=by
 have:=h.1;have:=h.2
 have e:IntKind.u64.wrap b=b:=by rw [bP];unfold ul;omega
 rw [e]
 show IntKind.u64.wrap (b*65536)=_
 rw [bP];unfold ul;omega
theorem aVe {acc b:Int} (h:Bt b) (h0:0<=acc) (h1:acc<65536):jZ .u64 acc (b*65536)=acc+b*65536:=by
 have:=h.1;have:=h.2
 obtain ⟨a,rfl⟩:=pW h0
 obtain ⟨b,rfl⟩:=pW h.1
 have e:(b:Int)*65536=((b*2^16:Nat):Int):=by rw [Int.natCast_mul];rfl
 have QF:(2:Nat)^16=65536:=rfl
 rw [e,BU,BT (by omega) (by omega)]
 omega
theorem sh3 {b:Int} (h:Bt b):dD .u64 (IntKind.u64.wrap b) 24=b*16777216:=by
 have:=h.1;have:=h.2
 have e:IntKind.u64.wrap b=b:=by rw [bP];unfold ul;omega
 rw [e]
 show IntKind.u64.wrap (b*16777216)=_
 rw [bP];unfold ul;omega
theorem or3 {acc b:Int} (h:Bt b) (h0:0<=acc) (h1:acc<16777216):jZ .u64 acc (b*16777216)=acc+b*16777216:=by
 have:=h.1;have:=h.2
 obtain ⟨a,rfl⟩:=pW h0
 obtain ⟨b,rfl⟩:=pW h.1
 have e:(b:Int)*16777216=((b*2^24:Nat):Int):=by rw [Int.natCast_mul];rfl
 have QF:(2:Nat)^24=16777216:=rfl
 rw [e,BU,BT (by omega) (by omega)]
 omega
theorem sh4 {b:Int} (h:Bt b):dD .u64 (IntKind.u64.wrap b) 32=b*4294967296:=by
 have:=h.1;have:=h.2
 have e:IntKind.u64.wrap b=b:=by rw [bP];unfold ul;omega
 rw [e]
 show IntKind.u64.wrap (b*4294967296)=_
 rw [bP];unfold ul;omega
theorem or4 {acc b:Int} (h:Bt b) (h0:0<=acc) (h1:acc<4294967296):jZ .u64 acc (b*4294967296)=acc+b*4294967296:=by
 have:=h.1;have:=h.2
 obtain ⟨a,rfl⟩:=pW h0
 obtain ⟨b,rfl⟩:=pW h.1
 have e:(b:Int)*4294967296=((b*2^32:Nat):Int):=by rw [Int.natCast_mul];rfl
 have QF:(2:Nat)^32=4294967296:=rfl
 rw [e,BU,BT (by omega) (by omega)]
 omega
theorem sh5 {b:Int} (h:Bt b):dD .u64 (IntKind.u64.wrap b) 40=b*1099511627776:=by
 have:=h.1;have:=h.2
 have e:IntKind.u64.wrap b=b:=by rw [bP];unfold ul;omega
 rw [e]
 show IntKind.u64.wrap (b*1099511627776)=_
 rw [bP];unfold ul;omega
theorem or5 {acc b:Int} (h:Bt b) (h0:0<=acc) (h1:acc<1099511627776):jZ .u64 acc (b*1099511627776)=acc+b*1099511627776:=by
 have:=h.1;have:=h.2
 obtain ⟨a,rfl⟩:=pW h0
 obtain ⟨b,rfl⟩:=pW h.1
 have e:(b:Int)*1099511627776=((b*2^40:Nat):Int):=by rw [Int.natCast_mul];rfl
 have QF:(2:Nat)^40=1099511627776:=rfl
 rw [e,BU,BT (by omega) (by omega)]
 omega
theorem sh6 {b:Int} (h:Bt b):dD .u64 (IntKind.u64.wrap b) 48=b*281474976710656:=by
 have:=h.1;have:=h.2
 have e:IntKind.u64.wrap b=b:=by rw [bP];unfold ul;omega
 rw [e]
 show IntKind.u64.wrap (b*281474976710656)=_
 rw [bP];unfold ul;omega
theorem or6 {acc b:Int} (h:Bt b) (h0:0<=acc) (h1:acc<281474976710656):jZ .u64 acc (b*281474976710656)=acc+b*281474976710656:=by
 have:=h.1;have:=h.2
 obtain ⟨a,rfl⟩:=pW h0
 obtain ⟨b,rfl⟩:=pW h.1
 have e:(b:Int)*281474976710656=((b*2^48:Nat):Int):=by rw [Int.natCast_mul];rfl
 have QF:(2:Nat)^48=281474976710656:=rfl
 rw [e,BU,BT (by omega) (by omega)]
 omega
theorem sh7 {b:Int} (h:Bt b):dD .u64 (IntKind.u64.wrap b) 56=b*72057594037927936:=by
 have:=h.1;have:=h.2
 have e:IntKind.u64.wrap b=b:=by rw [bP];unfold ul;omega
 rw [e]
 show IntKind.u64.wrap (b*72057594037927936)=_
 rw [bP];unfold ul;omega
theorem or7 {acc b:Int} (h:Bt b) (h0:0<=acc) (h1:acc<72057594037927936):jZ .u64 acc (b*72057594037927936)=acc+b*72057594037927936:=by
 have:=h.1;have:=h.2
 obtain ⟨a,rfl⟩:=pW h0
 obtain ⟨b,rfl⟩:=pW h.1
 have e:(b:Int)*72057594037927936=((b*2^56:Nat):Int):=by rw [Int.natCast_mul];rfl
 have QF:(2:Nat)^56=72057594037927936:=rfl
 rw [e,BU,BT (by omega) (by omega)]
 omega
theorem V8 (b0 b1 b2 b3 b4 b5 b6 b7:Int):V [b0,b1,b2,b3,b4,b5,b6,b7]=b0+b1*256+b2*65536+b3*16777216+b4*4294967296+b5*1099511627776+b6*281474976710656+b7*72057594037927936:=by
 simp [V,vs]
 omega
theorem xD {b0 b1 b2 b3 b4 b5 b6 b7:Int} (h0:Bt b0) (h1:Bt b1) (h2:Bt b2) (h3:Bt b3) (h4:Bt b4) (h5:Bt b5) (h6:Bt b6) (h7:Bt b7):iI b0 b1 b2 b3 b4 b5 b6 b7=V [b0,b1,b2,b3,b4,b5,b6,b7]/\U (V [b0,b1,b2,b3,b4,b5,b6,b7]):=by
 have:=h0.1;have:=h0.2;have:=h1.1;have:=h1.2;have:=h2.1;have:=h2.2;have:=h3.1;have:=h3.2;have:=h4.1;have:=h4.2;have:=h5.1;have:=h5.2;have:=h6.1;have:=h6.2;have:=h7.1;have:=h7.2
 have e:IntKind.u64.wrap b0=b0:=by rw [bP];unfold ul;omega
 rw [V8]
 unfold iI
 rw [e,sh1 h1,sh2 h2,sh3 h3,sh4 h4,sh5 h5,sh6 h6,sh7 h7]
 rw [or1 h1 (by omega) (by omega),aVe h2 (by omega) (by omega),or3 h3 (by omega) (by omega),or4 h4 (by omega) (by omega),or5 h5 (by omega) (by omega),or6 h6 (by omega) (by omega),or7 h7 (by omega) (by omega)]
 exact ⟨rfl,by unfold U;omega⟩
theorem aGi {b:Int} (h:b=1):jZ .u64 0 (dD .u64 (IntKind.u64.wrap b) 0)=1:=by subst h;decide
end M
open M in
theorem KD {b0  b1  b2  b3  b4  b5  b6  b7  b8  b9  cY  cX  cW  dB  dA  gD  iO:Int} (hb:bX [b0,b1,b2,b3,b4,b5,b6,b7,b8,b9,cY,cX,cW,dB,dA,gD,iO]) (h1:iO=1):aF Tryz.prog Γv 59 [.dJ 61 0 17 0] (fun l=>look l [(61,.row 1 (bc [b0,b1,b2,b3,b4,b5,b6,b7,b8,b9,cY,cX,cW,dB,dA,gD,iO]) 5)]) 100 100
 { val:=.ptr 100 true 0,new:=[.own [.bool true false,.aH 101 true 0 3 7] 102,.own (wc [V [b0,b1,b2,b3,b4,b5,b6,b7],V [b8,b9,cY,cX,cW,dB,dA,gD],1,0,0,0,0]) 142],wr:=[(61,.row 1 (bc [b0,b1,b2,b3,b4,b5,b6,b7,b8,b9,cY,cX,cW,dB,dA,gD,iO]) 5)] }:=by
 have hs:aG Tryz.prog (env (Hp 0 3) 22) 59 (aK (env (Hp 0 3) 22) Tryz.f59 true [] 400):=aN (bL _ 22) (bV _ (Iv 0 3) 22) mix Tryz.func59 (by kernel_rfl) true [] 400
 have e0:=(xD (hb _ (by simp)) (hb _ (by simp)) (hb _ (by simp)) (hb _ (by simp)) (hb _ (by simp)) (hb _ (by simp)) (hb _ (by simp)) (hb _ (by simp)):M.iI b0 b1 b2 b3 b4 b5 b6 b7=V [b0,b1,b2,b3,b4,b5,b6,b7]/\_).1
 have e1:=(xD (hb _ (by simp)) (hb _ (by simp)) (hb _ (by simp)) (hb _ (by simp)) (hb _ (by simp)) (hb _ (by simp)) (hb _ (by simp)) (hb _ (by simp)):M.iI b8 b9 cY cX cW dB dA gD=V [b8,b9,cY,cX,cW,dB,dA,gD]/\_).1
 have e2:=aGi h1
 refine ((hs.call (n17 b0 b1 b2 b3 b4 b5 b6 b7 b8 b9 cY cX cW dB dA gD iO) (aA ?_)).bD 61 _ rfl (by decide)).re rfl (fun _=>rfl) ⟨⟨rfl,fun _=>rfl⟩,⟨rfl,fun _=>by rw [e0,e1,e2];rfl⟩,trivial⟩ ⟨rfl,rfl,trivial⟩
 simp only [sh,cA,e2,nl,and_true]
 simp
open M in
theorem Yv {b0  b1  b2  b3  b4  b5  b6  b7  b8  b9  cY  cX  cW  dB  dA  gD  iO  mA  lZ  lY  lX  lW  lV  lU  lS  lR  lQ  lP  lO  lN  lM  lL:Int} (hb:bX [b0,b1,b2,b3,b4,b5,b6,b7,b8,b9,cY,cX,cW,dB,dA,gD,iO,mA,lZ,lY,lX,lW,lV,lU,lS,lR,lQ,lP,lO,lN,lM,lL]):aF Tryz.prog Γv 59 [.aH 61 true 0 16 32] (fun l=>look l [(61,.eQ (bc [b0,b1,b2,b3,b4,b5,b6,b7,b8,b9,cY,cX,cW,dB,dA,gD,iO,mA,lZ,lY,lX,lW,lV,lU,lS,lR,lQ,lP,lO,lN,lM,lL]))]) 100 100
 { val:=.ptr 100 true 0,new:=[.own [.bool true false,.aH 101 false 0 (nl [V [b0,b1,b2,b3,b4,b5,b6,b7],V [b8,b9,cY,cX,cW,dB,dA,gD]]) 6] 102,.own (wc [V [b0,b1,b2,b3,b4,b5,b6,b7],V [b8,b9,cY,cX,cW,dB,dA,gD],0,0,0,0]) 142] }:=by
 have hs:∀ iq,aG Tryz.prog (env (Hp iq 0) 22) 59 (aK (env (Hp iq 0) 22) Tryz.f59 true [] 400):=fun iq=>aN (bL _ 22) (bV _ (Iv iq 0) 22) mix Tryz.func59 (by kernel_rfl) true [] 400
 have e0:=(xD (hb _ (by simp)) (hb _ (by simp)) (hb _ (by simp)) (hb _ (by simp)) (hb _ (by simp)) (hb _ (by simp)) (hb _ (by simp)) (hb _ (by simp)):M.iI b0 b1 b2 b3 b4 b5 b6 b7=V [b0,b1,b2,b3,b4,b5,b6,b7]/\_).1
 have e1:=(xD (hb _ (by simp)) (hb _ (by simp)) (hb _ (by simp)) (hb _ (by simp)) (hb _ (by simp)) (hb _ (by simp)) (hb _ (by simp)) (hb _ (by simp)):M.iI b8 b9 cY cX cW dB dA gD=V [b8,b9,cY,cX,cW,dB,dA,gD]/\_).1
 rcases QO (V [b0,b1,b2,b3,b4,b5,b6,b7]) (V [b8,b9,cY,cX,cW,dB,dA,gD]) with ⟨h,_⟩ | ⟨h,_⟩ | ⟨h,_⟩
 .refine ((hs 0).call (YA b0 b1 b2 b3 b4 b5 b6 b7 b8 b9 cY cX cW dB dA gD iO mA lZ lY lX lW lV lU lS lR lQ lP lO lN lM lL) (aA ?_)).re rfl (fun _=>rfl) ⟨⟨rfl,fun _=>by rw [h];rfl⟩,⟨rfl,fun _=>by rw [e0,e1];rfl⟩,trivial⟩ trivial
  simp only [sh,cA,e0,e1,h,and_true]
 .refine ((hs 1).call (XZ b0 b1 b2 b3 b4 b5 b6 b7 b8 b9 cY cX cW dB dA gD iO mA lZ lY lX lW lV lU lS lR lQ lP lO lN lM lL) (aA ?_)).re rfl (fun _=>rfl) ⟨⟨rfl,fun _=>by rw [h];rfl⟩,⟨rfl,fun _=>by rw [e0,e1];rfl⟩,trivial⟩ trivial
  simp only [sh,cA,e0,e1,h,and_true]
 .refine ((hs 2).call (XY b0 b1 b2 b3 b4 b5 b6 b7 b8 b9 cY cX cW dB dA gD iO mA lZ lY lX lW lV lU lS lR lQ lP lO lN lM lL) (aA ?_)).re rfl (fun _=>rfl) ⟨⟨rfl,fun _=>by rw [h];rfl⟩,⟨rfl,fun _=>by rw [e0,e1];rfl⟩,trivial⟩ trivial
  simp only [sh,cA,e0,e1,h,and_true]
open M in
theorem Rv {b0  b1  b2  b3  b4  b5  b6  b7  b8  b9  cY  cX  cW  dB  dA  gD  iO  mA  lZ  lY  lX  lW  lV  lU  lS  lR  lQ  lP  lO  lN  lM  lL:Int} (hb:bX [b0,b1,b2,b3,b4,b5,b6,b7,b8,b9,cY,cX,cW,dB,dA,gD,iO,mA,lZ,lY,lX,lW,lV,lU,lS,lR,lQ,lP,lO,lN,lM,lL]):aF Tryz.prog Γv 59 [.aH 61 true 16 16 16] (fun l=>look l [(61,.eQ (bc [b0,b1,b2,b3,b4,b5,b6,b7,b8,b9,cY,cX,cW,dB,dA,gD,iO,mA,lZ,lY,lX,lW,lV,lU,lS,lR,lQ,lP,lO,lN,lM,lL]))]) 100 100
 { val:=.ptr 100 true 0,new:=[.own [.bool true false,.aH 101 false 0 (nl [V [iO,mA,lZ,lY,lX,lW,lV,lU],V [lS,lR,lQ,lP,lO,lN,lM,lL]]) 6] 102,.own (wc [V [iO,mA,lZ,lY,lX,lW,lV,lU],V [lS,lR,lQ,lP,lO,lN,lM,lL],0,0,0,0]) 142] }:=by
 have hs:∀ iq,aG Tryz.prog (env (Hp iq 0) 22) 59 (aK (env (Hp iq 0) 22) Tryz.f59 true [] 400):=fun iq=>aN (bL _ 22) (bV _ (Iv iq 0) 22) mix Tryz.func59 (by kernel_rfl) true [] 400
 have e0:=(xD (hb _ (by simp)) (hb _ (by simp)) (hb _ (by simp)) (hb _ (by simp)) (hb _ (by simp)) (hb _ (by simp)) (hb _ (by simp)) (hb _ (by simp)):M.iI iO mA lZ lY lX lW lV lU=V [iO,mA,lZ,lY,lX,lW,lV,lU]/\_).1
 have e1:=(xD (hb _ (by simp)) (hb _ (by simp)) (hb _ (by simp)) (hb _ (by simp)) (hb _ (by simp)) (hb _ (by simp)) (hb _ (by simp)) (hb _ (by simp)):M.iI lS lR lQ lP lO lN lM lL=V [lS,lR,lQ,lP,lO,lN,lM,lL]/\_).1
 rcases QO (V [iO,mA,lZ,lY,lX,lW,lV,lU]) (V [lS,lR,lQ,lP,lO,lN,lM,lL]) with ⟨h,_⟩ | ⟨h,_⟩ | ⟨h,_⟩
 .refine ((hs 0).call (KG b0 b1 b2 b3 b4 b5 b6 b7 b8 b9 cY cX cW dB dA gD iO mA lZ lY lX lW lV lU lS lR lQ lP lO lN lM lL) (aA ?_)).re rfl (fun _=>rfl) ⟨⟨rfl,fun _=>by rw [h];rfl⟩,⟨rfl,fun _=>by rw [e0,e1];rfl⟩,trivial⟩ trivial
  simp only [sh,cA,e0,e1,h,and_true]
 .refine ((hs 1).call (KF b0 b1 b2 b3 b4 b5 b6 b7 b8 b9 cY cX cW dB dA gD iO mA lZ lY lX lW lV lU lS lR lQ lP lO lN lM lL) (aA ?_)).re rfl (fun _=>rfl) ⟨⟨rfl,fun _=>by rw [h];rfl⟩,⟨rfl,fun _=>by rw [e0,e1];rfl⟩,trivial⟩ trivial
  simp only [sh,cA,e0,e1,h,and_true]
 .refine ((hs 2).call (KE b0 b1 b2 b3 b4 b5 b6 b7 b8 b9 cY cX cW dB dA gD iO mA lZ lY lX lW lV lU lS lR lQ lP lO lN lM lL) (aA ?_)).re rfl (fun _=>rfl) ⟨⟨rfl,fun _=>by rw [h];rfl⟩,⟨rfl,fun _=>by rw [e0,e1];rfl⟩,trivial⟩ trivial
  simp only [sh,cA,e0,e1,h,and_true]
def aVc:Option SB->Option (List Int)
 | some (.own cs _)=>cU .u8 cs
 | some (.ints .u8 xs _)=>some xs
 | _=>none
open M in
def Qg (vs:List SV) (T:aX):Option Canon:=match vs with
 | [.dJ l 0 17 0]=>match T l with
   | some (.row 1 cs 5)=>match cU .u8 cs with
     | some [b0,b1,b2,b3,b4,b5,b6,b7,b8,b9,cY,cX,cW,dB,dA,gD,iO]=>some { eL:=[.dJ 61 0 17 0],T0:=[(61,.row 1 (bc [b0,b1,b2,b3,b4,b5,b6,b7,b8,b9,cY,cX,cW,dB,dA,gD,iO]) 5)],vl:=[(61,.lab l 0)],e0:={ val:=.ptr 100 true 0,new:=[.own [.bool true false,.aH 101 true 0 3 7] 102,.own (wc [V [b0,b1,b2,b3,b4,b5,b6,b7],V [b8,b9,cY,cX,cW,dB,dA,gD],1,0,0,0,0]) 142],wr:=[(61,.row 1 (bc [b0,b1,b2,b3,b4,b5,b6,b7,b8,b9,cY,cX,cW,dB,dA,gD,iO]) 5)] },conds:=[bX [b0,b1,b2,b3,b4,b5,b6,b7,b8,b9,cY,cX,cW,dB,dA,gD,iO],iO=1] }
     | _=>none
   | _=>none
 | [.aH l true oo 16 c]=>match aVc (T l) with
   | some [b0,b1,b2,b3,b4,b5,b6,b7,b8,b9,cY,cX,cW,dB,dA,gD,iO,mA,lZ,lY,lX,lW,lV,lU,lS,lR,lQ,lP,lO,lN,lM,lL]=>match Nat.beq oo 0&&Nat.beq c 32,Nat.beq oo 16&&Nat.beq c 16 with
     | true,_=>some { eL:=[.aH 61 true 0 16 32],T0:=[(61,.eQ (bc [b0,b1,b2,b3,b4,b5,b6,b7,b8,b9,cY,cX,cW,dB,dA,gD,iO,mA,lZ,lY,lX,lW,lV,lU,lS,lR,lQ,lP,lO,lN,lM,lL]))],vl:=[(61,.lab l 0)],e0:={ val:=.ptr 100 true 0,new:=[.own [.bool true false,.aH 101 false 0 (nl [V [b0,b1,b2,b3,b4,b5,b6,b7],V [b8,b9,cY,cX,cW,dB,dA,gD]]) 6] 102,.own (wc [V [b0,b1,b2,b3,b4,b5,b6,b7],V [b8,b9,cY,cX,cW,dB,dA,gD],0,0,0,0]) 142] },conds:=[bX [b0,b1,b2,b3,b4,b5,b6,b7,b8,b9,cY,cX,cW,dB,dA,gD,iO,mA,lZ,lY,lX,lW,lV,lU,lS,lR,lQ,lP,lO,lN,lM,lL]] }
     | _,true=>some { eL:=[.aH 61 true 16 16 16],T0:=[(61,.eQ (bc [b0,b1,b2,b3,b4,b5,b6,b7,b8,b9,cY,cX,cW,dB,dA,gD,iO,mA,lZ,lY,lX,lW,lV,lU,lS,lR,lQ,lP,lO,lN,lM,lL]))],vl:=[(61,.lab l 0)],e0:={ val:=.ptr 100 true 0,new:=[.own [.bool true false,.aH 101 false 0 (nl [V [iO,mA,lZ,lY,lX,lW,lV,lU],V [lS,lR,lQ,lP,lO,lN,lM,lL]]) 6] 102,.own (wc [V [iO,mA,lZ,lY,lX,lW,lV,lU],V [lS,lR,lQ,lP,lO,lN,lM,lL],0,0,0,0]) 142] },conds:=[bX [b0,b1,b2,b3,b4,b5,b6,b7,b8,b9,cY,cX,cW,dB,dA,gD,iO,mA,lZ,lY,lX,lW,lV,lU,lS,lR,lQ,lP,lO,lN,lM,lL]] }
     | _,_=>none
   | _=>none
 | _=>none
theorem Hw (Γ:Env) (hg:Γ.aO=aB):aG Tryz.prog Γ 59 (aL aB 100 Qg):=by
 refine aY hg fun vs T c hd hc=>?_
 unfold Qg at hd
 split at hd
 case h_3=>cases hd
 .split at hd
  case h_2=>cases hd
  split at hd
  case h_2=>cases hd
  cases hd
  exact (KD (hc _ (by simp)) (hc _ (by simp))).words (by rw [hg];rfl) (fun _=>rfl) (fun _ _ h=>h) (fun _=>rfl) rfl rfl
 .split at hd
  case h_2=>cases hd
  split at hd
  case h_3=>cases hd
  .cases hd
   exact (Yv (hc _ (by simp))).words (by rw [hg];rfl) (fun _=>rfl) (fun _ _ h=>h) (fun _=>rfl) rfl rfl
  .cases hd
   exact (Rv (hc _ (by simp))).words (by rw [hg];rfl) (fun _=>rfl) (fun _ _ h=>h) (fun _=>rfl) rfl rfl
open M in
def HC (hZ:Nat) (vs:List SV) (T:aX):Option Canon:=match vs with
 | [.agg [.ptr lp true 0],.ptr la true 0,.ptr lb true 0]=>match T la,T lb,T lp with
   | some (.own [.bool _ _,X] 102),some (.own [.bool _ _,.aH ly _ 0 3 7] 102),some (.own [.bool _ _,.aH lq _ 0 3 8] 102)=>match T ly with
     | some (.own ys 142)=>match cU .u64 ys with
       | some (y0::y1::y2::yr)=>match X with
         | .raw (.slice none 0 0)=>match Nat.beq hZ 7 with
           | true=>some { eL:=iX,T0:=sD (.raw (.slice none 0 0)) (.aH 65 true 0 3 7) [.int true .i64 40] (ww y0 (ww y1 (ww y2 (wc yr)))),vl:=[(61,.lab la 0),(62,.lab lp 0),(63,.lab lb 0),(64,.lab 17 0),(65,.lab ly 0),(66,.lab lq 0)],e0:={ val:=.ptr 100 true 0,new:=rB ((0+n3 y0 y1 y2)%bB) 7,wr:=mD (.raw (.slice none 0 0)) (.aH 65 true 0 3 7) (ww y0 (ww y1 (ww y2 (wc yr)))) },conds:=[U y0,U y1,y2=1] }
           | false=>none
         | .aH lx _ 0 n ca=>match T lx with
           | some (.own xs 142)=>match cU .u64 xs,Nat.ble 6 ca&&Nat.ble ca 9 with
             | some (x0::x1::x2::xr),true=>match Nat.beq hZ 7,Nat.beq hZ 8 with
               | true,_=>some { eL:=iX,T0:=sD (.aH 64 false 0 n ca) (.aH 65 true 0 3 7) (ww x0 (ww x1 (ww x2 (wc xr)))) (ww y0 (ww y1 (ww y2 (wc yr)))),vl:=[(61,.lab la 0),(62,.lab lp 0),(63,.lab lb 0),(64,.lab lx 0),(65,.lab ly 0),(66,.lab lq 0)],e0:={ val:=.ptr 100 true 0,new:=rB ((n3 x0 x1 x2+n3 y0 y1 y2)%bB) 7,wr:=mD (.aH 64 false 0 n ca) (.aH 65 true 0 3 7) (ww y0 (ww y1 (ww y2 (wc yr)))) },conds:=[n=nl [x0,x1,x2],n=0,U y0,U y1,y2=1] }
               | _,true=>some { eL:=iX,T0:=sD (.aH 64 false 0 n ca) (.aH 65 true 0 3 7) (ww x0 (ww x1 (ww x2 (wc xr)))) (ww y0 (ww y1 (ww y2 (wc yr)))),vl:=[(61,.lab la 0),(62,.lab lp 0),(63,.lab lb 0),(64,.lab lx 0),(65,.lab ly 0),(66,.lab lq 0)],e0:={ val:=.ptr 100 true 0,new:=rB ((n3 x0 x1 x2+n3 y0 y1 y2)%bB) 8,wr:=mD (.aH 64 false 0 n ca) (.aH 65 true 0 3 7) (ww y0 (ww y1 (ww y2 (wc yr)))) },conds:=[n=nl [x0,x1,x2],n≠0,U x0,U x1,U x2,n3 x0 x1 x2<bB,U y0,U y1,y2=1] }
               | _,_=>none
             | _,_=>none
           | _=>none
         | _=>none
       | _=>none
     | _=>none
   | _,_,_=>none
 | _=>none
open M in
theorem PI {n ca:Nat} (kF:ca=6\/ca=7\/ca=8\/ca=9) (xs ys:List SV) {x0 x1 x2 y0 y1 y2:Int} (hn:n=nl [x0,x1,x2]) (Ob:n≠0) (gB:U x0) (fW:U x1) (mW:U x2) (hN:n3 x0 x1 x2<bB) (fB:U y0) (gW:U y1) (Fh:y2=1):aF Tryz.prog Γv 63 iX (fun l=>look l (sD (.aH 64 false 0 n ca) (.aH 65 true 0 3 7) (ww x0 (ww x1 (ww x2 xs))) (ww y0 (ww y1 (ww y2 ys))))) 100 100
 { val:=.ptr 100 true 0,new:=rB ((n3 x0 x1 x2+n3 y0 y1 y2)%bB) 8,wr:=mD (.aH 64 false 0 n ca) (.aH 65 true 0 3 7) (ww y0 (ww y1 (ww y2 ys))) }:=by
 rcases nl3 x0 x1 x2 with ⟨h,_⟩ | ⟨h,_,e1,e2⟩ | ⟨h,_,e2⟩ | ⟨h,_⟩
 .omega
 .rw [h] at hn;subst hn
  have e:n3 x0 x1 x2=x0:=by rw [e1,e2];unfold n3;omega
  rw [e] at hN |-
  exact LJ kF (ww x1 (ww x2 xs)) ys gB hN fB gW Fh
 .rw [h] at hn;subst hn
  have e:n3 x0 x1 x2=x0+18446744073709551616*x1:=by rw [e2];unfold n3;omega
  rw [e] at hN |-
  exact LI kF (ww x2 xs) ys gB fW hN fB gW Fh
 .rw [h] at hn;subst hn
  exact LH kF xs ys gB fW mW hN fB gW Fh
open M in
theorem aMe (hZ:Nat) (Γ:Env) (hg:Γ.aO=aB):aG Tryz.prog Γ 63 (aL aB 100 (HC hZ)):=by
 refine aY hg fun vs T c hd hc=>?_
 unfold HC at hd
 split at hd
 case h_2=>cases hd
 split at hd
 case h_2=>cases hd
 split at hd
 case h_2=>cases hd
 split at hd
 case h_2=>cases hd
 rename_i y0 y1 y2 yr _
 split at hd
 case h_3=>cases hd
 .split at hd
  case h_2=>cases hd
  cases hd
  exact (LG [.int true .i64 40] (wc yr) (hc _ (by simp)) (hc _ (by simp)) (hc _ (by simp))).words (by rw [hg];rfl) (fun _=>rfl) (fun _ _ h=>h) (fun _=>rfl) rfl rfl
 .split at hd
  case h_2=>cases hd
  split at hd
  case h_2=>cases hd
  rename_i n ca _ _ _ _ _ _ x0 x1 x2 xr _ kF
  simp only [iN] at kF
  have c1:=jX kF.1
  have c2:=jX kF.2
  split at hd
  case h_3=>cases hd
  .cases hd
   have hn:n=nl [x0,x1,x2]:=hc _ (by simp)
   have h0:n=0:=hc _ (by simp)
   rcases nl3 x0 x1 x2 with ⟨h,e0,e1,e2⟩ | ⟨h,_⟩ | ⟨h,_⟩ | ⟨h,_⟩
   .have e:n3 x0 x1 x2=0:=by rw [e0,e1,e2];rfl
    rw [e]
    subst h0
    exact (LK ca _ (wc yr) (hc _ (by simp)) (hc _ (by simp)) (hc _ (by simp))).words (by rw [hg];rfl) (fun _=>rfl) (fun _ _ h=>h) (fun _=>rfl) rfl rfl
   .omega
   .omega
   .omega
  .cases hd
   exact (PI (by omega) (wc xr) (wc yr) (hc _ (by simp)) (hc _ (by simp)) (hc _ (by simp)) (hc _ (by simp)) (hc _ (by simp)) (hc _ (by simp)) (hc _ (by simp)) (hc _ (by simp)) (hc _ (by simp))).words (by rw [hg];rfl) (fun _=>rfl) (fun _ _ h=>h) (fun _=>rfl) rfl rfl
open M in
def FK (fN:Nat) (vs:List SV) (T:aX):Option Canon:=match vs with
 | [.agg [.ptr lp true 0],.ptr la true 0,.ptr lb true 0]=>match T la,T lb,T lp with
   | some (.own [.bool _ _,.aH lx _ 0 n ca] 102),some (.own [.bool _ _,.aH ly _ 0 m ct] 102),some (.own [.bool _ _,.aH lq _ 0 3 8] 102)=>match T lx,T ly with
     | some (.own xs 142),some (.own ys 142)=>match cU .u64 xs,cU .u64 ys with
       | some (x0::x1::x2::xr),some (y0::y1::yr)=>some { eL:=iX,T0:=sD (.aH 64 false 0 n ca) (.aH 65 false 0 m ct) (ww x0 (ww x1 (ww x2 (wc xr)))) (ww y0 (ww y1 (wc yr))),vl:=[(61,.lab la 0),(62,.lab lp 0),(63,.lab lb 0),(64,.lab lx 0),(65,.lab ly 0),(66,.lab lq 0)],e0:={ val:=.ptr 100 true 0,new:=(match fN with | 0=>nB | c=>rB ((n3 x0 x1 x2*(y0+18446744073709551616*y1))%bB) c),wr:=mD (.aH 64 false 0 n ca) (.aH 65 false 0 m ct) (ww y0 (ww y1 (wc yr))) },conds:=[n=nl [x0,x1,x2],m=nl [y0,y1],fN=(if n=0\/m=0 then 0 else n+m+4),U x0,U x1,U x2,n3 x0 x1 x2<bB,U y0,U y1,y0+18446744073709551616*y1<21267647932558653966460912964485513216] }
       | _,_=>none
     | _,_=>none
   | _,_,_=>none
 | _=>none
open M in
theorem aQp (fN:Nat) (Γ:Env) (hg:Γ.aO=aB):aG Tryz.prog Γ 65 (aL aB 100 (FK fN)):=by
 refine aY hg fun vs T c hd hc=>?_
 unfold FK at hd
 split at hd
 case h_2=>cases hd
 split at hd
 case h_2=>cases hd
 split at hd
 case h_2=>cases hd
 split at hd
 case h_2=>cases hd
 rename_i n ca _ _ _ _ m ct _ _ _ _ _ _ _ _ _ _ _ _ _ _ _ x0 x1 x2 xr y0 y1 yr _ _
 cases hd
 have hn:n=nl [x0,x1,x2]:=hc _ (by simp)
 have hm:m=nl [y0,y1]:=hc _ (by simp)
 have hp:fN=(if n=0\/m=0 then 0 else n+m+4):=hc _ (by simp)
 have gB:U x0:=hc _ (by simp)
 have fW:U x1:=hc _ (by simp)
 have mW:U x2:=hc _ (by simp)
 have hN:n3 x0 x1 x2<bB:=hc _ (by simp)
 have fB:U y0:=hc _ (by simp)
 have gW:U y1:=hc _ (by simp)
 have hT:y0+18446744073709551616*y1<21267647932558653966460912964485513216:=hc _ (by simp)
 have fin:∀ {e:bK},aF Tryz.prog Γv 65 iX (fun l=>look l (sD (.aH 64 false 0 n ca) (.aH 65 false 0 m ct) (ww x0 (ww x1 (ww x2 (wc xr)))) (ww y0 (ww y1 (wc yr))))) 100 100 e->aF Tryz.prog Γ 65 iX (fun l=>look l (sD (.aH 64 false 0 n ca) (.aH 65 false 0 m ct) (ww x0 (ww x1 (ww x2 (wc xr)))) (ww y0 (ww y1 (wc yr))))) 100 100 e:=fun h=>h.words (by rw [hg];rfl) (fun _=>rfl) (fun _ _ h=>h) (fun _=>rfl) rfl rfl
 clear hc
 rcases nl3 x0 x1 x2 with ⟨h,_⟩ | ⟨h,z,e1,e2⟩ | ⟨h,z,e2⟩ | ⟨h,z⟩ <;> rw [h] at hn <;> subst hn <;> rcases QO y0 y1 with ⟨k,_⟩ | ⟨k,w,f1⟩ | ⟨k,w⟩ <;> rw [k] at hm <;> subst hm <;> simp at hp <;> subst hp
 .exact fin (Zt ca ct  (ww x0 (ww x1 (ww x2 (wc xr)))) (ww y0 (ww y1 (wc yr))))
 .exact fin (Zs ca ct y0 (ww x0 (ww x1 (ww x2 (wc xr)))) (ww y1 (wc yr)))
 .exact fin (Zr ca ct y0 y1 (ww x0 (ww x1 (ww x2 (wc xr)))) (wc yr))
 .exact fin (Zq ca ct x0 (ww x1 (ww x2 (wc xr))) (ww y0 (ww y1 (wc yr))))
 .have e:n3 x0 x1 x2=x0:=by rw [e1,e2];unfold n3;omega
  rw [e] at hN |-
  have f:y0+18446744073709551616*y1=y0:=by rw [f1];omega
  rw [f] at hT |-
  exact fin (Zp ca ct (ww x1 (ww x2 (wc xr))) (ww y1 (wc yr)) gB fB z w hN hT)
 .have e:n3 x0 x1 x2=x0:=by rw [e1,e2];unfold n3;omega
  rw [e] at hN |-
  exact fin (Zo ca ct (ww x1 (ww x2 (wc xr))) (wc yr) gB fB gW z w hN hT)
 .exact fin (Zn ca ct x0 x1 (ww x2 (wc xr)) (ww y0 (ww y1 (wc yr))))
 .have e:n3 x0 x1 x2=x0+18446744073709551616*x1:=by rw [e2];unfold n3;omega
  rw [e] at hN |-
  have f:y0+18446744073709551616*y1=y0:=by rw [f1];omega
  rw [f] at hT |-
  exact fin (Zm ca ct (ww x2 (wc xr)) (ww y1 (wc yr)) gB fW fB z w hN hT)
 .have e:n3 x0 x1 x2=x0+18446744073709551616*x1:=by rw [e2];unfold n3;omega
  rw [e] at hN |-
  exact fin (Zl ca ct (ww x2 (wc xr)) (wc yr) gB fW fB gW z w hN hT)
 .exact fin (Zk ca ct x0 x1 x2 (wc xr) (ww y0 (ww y1 (wc yr))))
 .have f:y0+18446744073709551616*y1=y0:=by rw [f1];omega
  rw [f] at hT |-
  exact fin (Zj ca ct (wc xr) (ww y1 (wc yr)) gB fW mW fB z w hN hT)
 .exact fin (Zi ca ct (wc xr) (wc yr) gB fW mW fB gW z w hN hT)
noncomputable def exT (hZ fN:Nat):Nat->Option Sum:=dL (dL (dL Xi 59 (aL aB 100 Qg)) 63 (aL aB 100 (HC hZ))) 65 (aL aB 100 (FK fN))
theorem aKp (hZ fN:Nat):∀ f S,exT hZ fN f=some S->∀ Γ:Env,Γ.aO=aB->aG Tryz.prog Γ f S:=bE (bE (bE pB 59 _ Hw) 63 _ (aMe hZ)) 65 _ (aQp fN)
def Bi:List SV:=[.int true .u64 0,.int true .u64 0,.int true .u64 9223372036854775808]
theorem aZc (u0 u1 u2 u3 q0 h0 h1 h2 h3:Int) :
 (xV 100 (aZ 100 (Hd Bi (wc [u0,u1,u2,u3,0,0,0,0]) (wc [q0]))) [] (jD 4 8 1 1 1 9223372036854775808 18446744073709551615 (.int true .u64 0) 1) (jC (wc [h0,h1,h2,h3]) (wc [u0,u1,u2,u3,0,0,0,0]) (wc [q0])) 101 [61,63] jE (Bx Bi (wc [u0,u1,u2,u3,0,0,0,0]) (wc [q0]) 4 8 1 1)) =
 sh (0:Int) fun z0=>
 some (.go (.loop xE),Et,[(3:Nat)=(3:Nat),(4:Nat)=(4:Nat),(11259375:Int)=h0,z0=h1,z0=h2,z0=h3,[q0]=[q0],[u0,u1,u2,u3,z0,z0,z0,z0]=[u0,u1,u2,u3,z0,z0,z0,z0]]):=by kernel_rfl
theorem aZb (eP eR:List SV) (u0 u1 u2 u3 v1 v2 v3 q0 h0 h1 h2 h3 g0 g1 g2 g3:Int) :
 fL Bi eP eR 4 8 1 1 1 9223372036854775808 18446744073709551615 1 0 (.int true .u64 0) (.int false .u64 v3) (wc [u0,u1,u2,u3,0,0,0,0]) (wc [u0,v1,v2,v3,0,0,0,0]) (wc [q0]) (wc [q0]) (wc [h0,h1,h2,h3]) (wc [g0,g1,g2,g3]) [false,true,false,true] =
 sh (0:Int) fun z2=>
 sh (9223372036854775808:Int) fun z1=>
 sh (z2*M.dq z1 z2 u3+z2) fun z3=>
 sh (z2*M.dq z1 z2 u3+M.uh z3) fun z0=>
 sh (u1-M.ul z3-z2) fun z7=>
 sh (u2-M.ul z0-M.ub z7) fun z4=>
 sh (z1*M.dq z1 z2 u3+M.uh z0) fun z5=>
 sh (M.dq z1 z2 u3*z2) fun z6=>
 sh (u3-M.ul z5-M.ub z4) fun z8=>
 sh (M.dq z1 z2 u3) fun z9=>
 some (Cf.at Ex.normal,[],[(M.dq z1 z2 u3==z2)=true,(M.ub z8 != z2)=false,M.U u3,M.U (M.ul z5),M.K (M.ub z4),u3=u3,M.ul z5=M.ul z5,M.ub z4=M.ub z4,M.U u2,M.U (M.ul z0),M.K (M.ub z7),u2=u2,M.ul z0=M.ul z0,M.ub z7=M.ub z7,M.U u1,M.U (M.ul z3),M.K z2,u1=u1,M.ul z3=M.ul z3,z2=z2,(M.uh z5==z2)=true,M.U z1,M.U z9,M.U (M.uh z0),z1=z1,M.dq z1 z2 u3=M.dq z1 z2 u3,M.uh z0=M.uh z0,M.U z2,M.U z9,M.U (M.uh z3),z2=z2,M.dq z1 z2 u3=M.dq z1 z2 u3,M.uh z3=M.uh z3,M.U z2,M.U z9,M.U z2,z2=z2,M.dq z1 z2 u3=M.dq z1 z2 u3,z2=z2,M.gt (M.uh z6) (M.ul z6) (M.dr z1 z2 u3) u2=false,M.U (M.ul z6),M.U u2,M.uh z6=M.uh z6,M.ul z6=M.ul z6,M.dr z1 z2 u3=M.dr z1 z2 u3,u2=u2,M.U z9,M.U z2,M.dq z1 z2 u3=M.dq z1 z2 u3,z2=z2,M.U z2,M.U u3,z2<z1,z2=z2,u3=u3,(3:Nat)=(3:Nat),(4:Nat)=(4:Nat),M.ul z8=v3,M.ul z3=g0,M.ul z0=g1,M.ul z5=g2,M.uh z5=g3,[q0]=[q0],[u0,M.ul z7,M.ul z4,M.ul z8,z2,z2,z2,z2]=[u0,v1,v2,v3,z2,z2,z2,z2]]):=by kernel_rfl
theorem aZa (eP eR:List SV) (u0 u1 u2 u3 v0 v1 v2 v3 q0 q1 h0 h1 h2 h3 g0 g1 g2 g3:Int) :
 fL Bi eP eR 4 8 1 1 1 9223372036854775808 18446744073709551615 0 (-1) (.int false .u64 u3) (.int false .u64 v2) (wc [u0,u1,u2,u3,0,0,0,0]) (wc [v0,v1,v2,v3,0,0,0,0]) (wc [q0]) (wc [q1]) (wc [h0,h1,h2,h3]) (wc [g0,g1,g2,g3]) [true,false,false] =
 sh (0:Int) fun z4=>
 sh (9223372036854775808:Int) fun z1=>
 sh (z4*M.dq z1 u3 u2+z4) fun z6=>
 sh (z4*M.dq z1 u3 u2+M.uh z6) fun z0=>
 sh (u0-M.ul z6-z4) fun z2=>
 sh (z1*M.dq z1 u3 u2+M.uh z0) fun z3=>
 sh (u1-M.ul z0-M.ub z2) fun z8=>
 sh (u2-M.ul z3-M.ub z8) fun z5=>
 sh (M.dq z1 u3 u2*z4) fun z7=>
 sh (M.dq z1 u3 u2) fun z9=>
 sh (u3-M.uh z3-M.ub z5) fun jY=>
 some (Cf.at Ex.normal,[],[(M.ub jY != z4)=false,M.U u3,M.U (M.uh z3),M.K (M.ub z5),u3=u3,M.uh z3=M.uh z3,M.ub z5=M.ub z5,M.U u2,M.U (M.ul z3),M.K (M.ub z8),u2=u2,M.ul z3=M.ul z3,M.ub z8=M.ub z8,M.U u1,M.U (M.ul z0),M.K (M.ub z2),u1=u1,M.ul z0=M.ul z0,M.ub z2=M.ub z2,M.U u0,M.U (M.ul z6),M.K z4,u0=u0,M.ul z6=M.ul z6,z4=z4,M.U z1,M.U z9,M.U (M.uh z0),z1=z1,M.dq z1 u3 u2=M.dq z1 u3 u2,M.uh z0=M.uh z0,M.U z4,M.U z9,M.U (M.uh z6),z4=z4,M.dq z1 u3 u2=M.dq z1 u3 u2,M.uh z6=M.uh z6,M.U z4,M.U z9,M.U z4,z4=z4,M.dq z1 u3 u2=M.dq z1 u3 u2,z4=z4,M.gt (M.uh z7) (M.ul z7) (M.dr z1 u3 u2) u1=false,M.U (M.ul z7),M.U u1,M.uh z7=M.uh z7,M.ul z7=M.ul z7,M.dr z1 u3 u2=M.dr z1 u3 u2,u1=u1,M.U z9,M.U z4,M.dq z1 u3 u2=M.dq z1 u3 u2,z4=z4,M.U u3,M.U u2,u3<z1,u3=u3,u2=u2,(u3 != z1)=true,(3:Nat)=(3:Nat),(4:Nat)=(4:Nat),M.ul z5=v2,M.ul z6=g0,M.ul z0=g1,M.ul z3=g2,M.uh z3=g3,[M.dq z1 u3 u2]=[q1],[M.ul z2,M.ul z8,M.ul z5,M.ul jY,z4,z4,z4,z4]=[v0,v1,v2,v3,z4,z4,z4,z4]]):=by kernel_rfl
theorem aYy (eP eR:List SV) (u0 u1 u2 u3 q0 h0 h1 h2 h3:Int) :
 fL Bi eP eR 4 8 1 1 1 9223372036854775808 18446744073709551615 (-1) (-1) (.int false .u64 u2) (.int false .u64 u2) (wc [u0,u1,u2,u3,0,0,0,0]) (wc [u0,u1,u2,u3,0,0,0,0]) (wc [q0]) (wc [q0]) (wc [h0,h1,h2,h3]) (wc [h0,h1,h2,h3]) [] =
 sh (0:Int) fun z0=>
 some (Cf.at (Ex.exit 0),[],[(3:Nat)=(3:Nat),(4:Nat)=(4:Nat),u2=u2,h0=h0,h1=h1,h2=h2,h3=h3,[q0]=[q0],[u0,u1,u2,u3,z0,z0,z0,z0]=[u0,u1,u2,u3,z0,z0,z0,z0]]):=by kernel_rfl
theorem aYz (eP eR:List SV) (u0 u1 u2 u3 q0 h0 h1 h2 h3:Int) :
 Lp Bi eP eR 4 8 1 1 1 9223372036854775808 18446744073709551615 (.int false .u64 u2) (wc [u0,u1,u2,u3,0,0,0,0]) (wc [q0]) (wc [h0,h1,h2,h3]) =
 sh (0:Int) fun z0=>
 some {val:=SV.eD [],wr:=[(61,SB.own [SV.int false IntKind.u64 q0] 142),(63,SB.own [SV.int false IntKind.u64 u0,SV.int false IntKind.u64 u1,SV.int false IntKind.u64 u2,SV.int false IntKind.u64 u3,SV.int false IntKind.u64 z0,SV.int false IntKind.u64 z0,SV.int false IntKind.u64 z0,SV.int false IntKind.u64 z0] 142)]}:=by kernel_rfl
open M in
theorem aLa (eP eR:List SV) (q0 h0 h1 h2 h3:Int) {u0 u1 u2 u3:Int} (a1:U u1) (a2:U u2) (a3:U u3) (hd:u3<9223372036854775808) :
 ∃ ps,fL Bi eP eR 4 8 1 1 1 9223372036854775808 18446744073709551615 1 0 (.int true .u64 0) (.int false .u64 u3) (wc [u0,u1,u2,u3,0,0,0,0]) (wc [u0,u1,u2,u3,0,0,0,0]) (wc [q0]) (wc [q0]) (wc [h0,h1,h2,h3]) (wc [0,0,0,0]) [false,true,false,true]=some (.at .normal,[],ps)/\∀ q∈ps,q:=by
 have z2:=a1.1;have z3:=a1.2;have z4:=a2.1;have z5:=a2.2;have z6:=a3.1;have z7:=a3.2
 have e0:U 9223372036854775808:=⟨by decide,by decide⟩
 have hQ:dq 9223372036854775808 0 u3=0:=by unfold dq;omega
 have hR:dr 9223372036854775808 0 u3=u3:=by unfold dr;omega
 have hg:gt 0 0 u3 u2=false:=by unfold gt;exact kN (by omega)
 refine ⟨_,aZb eP eR u0 u1 u2 u3 _ _ _ q0 h0 h1 h2 h3 _ _ _ _,aA ?_⟩
 simp only [hQ,hR,cA,Int.mul_zero,Int.zero_mul,Int.add_zero,Int.sub_zero,ul0,Js,sF a1,sF a2,sF a3,tZ a1,tZ a2,tZ a3,hg,U0,K0,e0,a1,a2,a3,and_true,true_and]
 and_intros <;> first | rfl | decide
open M in
theorem aKz (eP eR:List SV) (q0:Int) {u0 u1 u2 u3:Int} (a0:U u0) (a1:U u1) (a2:U u2) (h3:0<=u3) (hd:u3<4) :
 ∃ ps,fL Bi eP eR 4 8 1 1 1 9223372036854775808 18446744073709551615 0 (-1) (.int false .u64 u3) (.int false .u64 (u2%9223372036854775808)) (wc [u0,u1,u2,u3,0,0,0,0]) (wc [u0,u1,u2%9223372036854775808,0,0,0,0,0]) (wc [q0]) (wc [dq 9223372036854775808 u3 u2]) (wc [0,0,0,0]) (wc [0,0,u2/9223372036854775808*9223372036854775808,u3]) [true,false,false]=some (.at .normal,[],ps)/\∀ q∈ps,q:=by
 have z0:=a0.1;have z1:=a0.2;have z2:=a1.1;have z3:=a1.2;have z4:=a2.1;have z5:=a2.2
 have a3:U u3:=by unfold U;omega
 have e0:U 9223372036854775808:=⟨by decide,by decide⟩
 obtain ⟨Q,hQ⟩:∃ Q,Q=dq 9223372036854775808 u3 u2:=⟨_,rfl⟩
 have hQ':Q=2*u3+u2/9223372036854775808:=by rw [hQ];unfold dq;omega
 have hR:dr 9223372036854775808 u3 u2=u2%9223372036854775808:=by unfold dr;omega
 have aQ:U Q:=by unfold U;omega
 have hl:ul (9223372036854775808*Q)=u2/9223372036854775808*9223372036854775808:=by unfold ul;omega
 have hh:uh (9223372036854775808*Q)=u3:=by unfold uh;omega
 have aP:U (u2/9223372036854775808*9223372036854775808):=by unfold U;omega
 have hs:u2-u2/9223372036854775808*9223372036854775808=u2%9223372036854775808:=by omega
 have aS:U (u2%9223372036854775808):=by unfold U;omega
 have hg:gt 0 0 (u2%9223372036854775808) u1=false:=by unfold gt;exact kN (by omega)
 have h33:u3-u3=0:=by omega
 have e9:(u3 != 9223372036854775808)=true:=bne_iff_ne.2 (by omega)
 have cM:u3<9223372036854775808:=by omega
 refine ⟨_,aZa eP eR u0 u1 u2 u3 _ _ _ _ q0 _ 0 0 0 0 _ _ _ _,aA ?_⟩
 rw [<- hQ]
 simp only [hR,cA,Int.mul_zero,Int.zero_mul,Int.zero_add,Int.add_zero,Int.sub_zero,ul0,Js,hl,hh,hs,h33,sF a0,sF a1,sF aS,sF U0,tZ a0,tZ a1,tZ aS,hg,U0,K0,e0,a0,a1,a2,a3,aQ,aP,aS,e9,cM,and_true,true_and]
 first | done | (and_intros <;> first | rfl | decide)
open M in
set_option maxHeartbeats 2000000 in
theorem aBk {u0 u1 u2 u3:Int} (y0:Int) (a0:U u0) (a1:U u1) (a2:U u2) (h3:0<=u3) (hd:u3<4) :
 aF Tryz.prog Γv 225 (Bd 4 8 1 1) (Hd Bi (wc [u0,u1,u2,u3,0,0,0,0]) (wc [y0])) 100 100 { val:=.eD [],wr:=[(61,.own (wc [dq 9223372036854775808 u3 u2]) 142),(63,.own (wc [u0,u1,u2%9223372036854775808,0,0,0,0,0]) 142)] }:=by
 have a3:U u3:=by unfold U;omega
 refine fS kP kQ Tryz.func225 (by kernel_rfl) rfl (jX (by kernel_rfl)) rfl [] ?_
 intro w0' Mx V0 Q hb H
 have aU:=kP
 have aV:=kQ
 refine G.xV aU aV mix hb [] (aZc u0 u1 u2 u3 y0 11259375 0 0 0) (aA (by simp only [sh,cA,and_true])) ?_
 refine G.loop (fun r s=>(r=2/\s=bQ (jD 4 8 1 1 1 9223372036854775808 18446744073709551615 (.int true .u64 0) 1) (jC (wc [11259375,0,0,0]) (wc [u0,u1,u2,u3,0,0,0,0]) (wc [y0])) 101 [61,63] jE)
  \/ (r=1/\s=bQ (jD 4 8 1 1 1 9223372036854775808 18446744073709551615 (.int false .u64 u3) 0) (jC (wc [0,0,0,0]) (wc [u0,u1,u2,u3,0,0,0,0]) (wc [y0])) 101 [61,63] jE)
  \/ (r=0/\s=bQ (jD 4 8 1 1 1 9223372036854775808 18446744073709551615 (.int false .u64 (u2%9223372036854775808)) (-1)) (jC (wc [0,0,u2/9223372036854775808*9223372036854775808,u3]) (wc [u0,u1,u2%9223372036854775808,0,0,0,0,0]) (wc [dq 9223372036854775808 u3 u2])) 101 [61,63] jE)) (r0:=2) (.inl ⟨rfl,rfl⟩) ?_
 rintro r s (⟨rfl,rfl⟩ | ⟨rfl,rfl⟩ | ⟨rfl,rfl⟩)
 .obtain ⟨ps,e,hp⟩:=aLa (wc [u0,u1,u2,u3,0,0,0,0]) (wc [y0]) y0 11259375 0 0 0 (u0:=u0) a1 a2 a3 (by omega)
  exact G.kR aU aV mix hb _ e hp 1 (by omega) (.inr (.inl ⟨rfl,rfl⟩))
 .obtain ⟨ps,e,hp⟩:=aKz (wc [u0,u1,u2,u3,0,0,0,0]) (wc [y0]) y0 a0 a1 a2 h3 hd
  exact G.kR aU aV mix hb _ e hp 0 (by omega) (.inr (.inr ⟨rfl,rfl⟩))
 .exact G.xV aU aV mix hb [] (aYy _ _ u0 u1 _ _ _ _ _ _ _) (aA (by simp only [sh,cA,and_true])) (G.leave (fun h=>by cases h)
   (G.fin aU aV mix [] H (aYz _ _ u0 u1 _ _ _ _ _ _ _) (by simp) rfl rfl rfl))
open M in
def GR (vs:List SV) (T:aX):Option Canon:=match vs with
 | [.aH lq true 0 1 1,.ptr ls true 0,.aH lu true 0 4 8,.dJ lv 0 3 0]=>match T lq,T ls,T lu,T lv with
   | some (.own qs 142),some (.own [.raw (.pointer none)] 282),some (.own us 142),some (.row 1 _ 142)=>match cU .u64 qs,cU .u64 us with
     | some [y0],some [u0,u1,u2,u3,_,_,_,_]=>some { eL:=Bd 4 8 1 1,T0:=[(61,.own (wc [y0]) 142),(62,.own [.raw (.pointer none)] 282),(63,.own (wc [u0,u1,u2,u3,0,0,0,0]) 142),(64,.row 1 Bi 142)],vl:=[(61,.lab lq 0),(62,.lab ls 0),(63,.lab lu 0),(64,.lab lv 0)],e0:={ val:=.eD [],wr:=[(61,.own (wc [dq 9223372036854775808 u3 u2]) 142),(63,.own (wc [u0,u1,u2%9223372036854775808,0,0,0,0,0]) 142),(62,.own [.raw (.pointer none)] 282),(64,.row 1 Bi 142)] },conds:=[U u0,U u1,U u2,0<=u3,u3<4] }
     | _,_=>none
   | _,_,_,_=>none
 | _=>none
theorem aSj (Γ:Env) (hg:Γ.aO=aB):aG Tryz.prog Γ 225 (aL aB 100 GR):=by
 refine aY hg fun vs T c hd hc=>?_
 unfold GR at hd
 split at hd
 case h_2=>cases hd
 split at hd
 case h_2=>cases hd
 split at hd
 case h_2=>cases hd
 cases hd
 exact (((aBk _ (hc _ (by simp)) (hc _ (by simp)) (hc _ (by simp)) (hc _ (by simp)) (hc _ (by simp))).bD 62 _ rfl (by decide)).bD 64 _ rfl (by decide)).words (by rw [hg];rfl) (fun _=>rfl) (fun _ _ h=>h) (fun _=>rfl) rfl rfl
noncomputable def TO (h:List Bool):Nat->Option Sum:=Bh Xi 151 h
theorem aAw (h:List Bool):∀ f S,TO h f=some S->∀ Γ:Env,Γ.aO=aB->aG Tryz.prog Γ f S:=lG pB 151 h
def mE:List SV:=[.ptr 61 true 0,.aH 62 true 0 16 16]
def nA:List SV:=List.replicate 16 (.int true .u8 0)
def RI (X:SV) (xs:List SV) (out:List SV):List (Nat × SB):=[(61,.eQ [.bool true false,X]),(62,.own out 77),(63,.eQ xs)]
noncomputable def Ua (h:List Bool) (X:SV) (xs:List SV):Option bK:=aK (env (TO h) 22) Tryz.f109 true [] 400 mE (fun l=>look l (RI X xs nA)) 100 100
namespace M
def sr:Nat->Int->Int
 | 0,a=>a
 | j+1,a=>bY .u64 (sr j a) 8
def eI (j:Nat) (a:Int):Int:=IntKind.u8.wrap (sr j a)
end M
namespace M
def bts (a0 a1:Int):List Int:=[eI 7 a1,eI 6 a1,eI 5 a1,eI 4 a1,eI 3 a1,eI 2 a1,eI 1 a1,eI 0 a1,eI 7 a0,eI 6 a0,eI 5 a0,eI 4 a0,eI 3 a0,eI 2 a0,eI 1 a0,eI 0 a0]
def fbZ (l:List Int) (k:Nat):List Prop:=(List.range k).reverse.map fun j=>(l.getD j 0==0)=true
def fbO (l:List Int) (k:Nat):List Prop:=((l.getD k 0==0)=false)::fbZ l k
def fbP (k n:Nat):List Bool:=match Nat.blt k n with
 | true=>List.replicate k true++[false]
 | false=>List.replicate n true
def fbQ (l:List Int) (k n:Nat):List Prop:=match Nat.blt k n with
 | true=>fbO l k
 | false=>fbZ l n
theorem IP (l:List Int) (n:Nat):∃ k,k<=n/\∀ q∈fbQ l k n,q:=by
 have zer:∀ m,(∀ j,j<m->(l.getD j 0==0)=true)->∀ q∈fbZ l m,q:=fun m h q hq=>by
  obtain ⟨j,hj,rfl⟩:=List.mem_map.1 hq
  exact h j (by simpa using hj)
 have key:∀ m,m<=n->(∃ k,k<=n/\∀ q∈fbQ l k n,q)\/∀ j,j<m->(l.getD j 0==0)=true:=by
  intro m
  induction m with
  | zero=>exact fun _=>.inr fun j h=>by omega
  | succ m ih=>
    intro hm
    rcases ih (by omega) with h | h
    .exact .inl h
    .cases hb:(l.getD m 0==0) with
     | false=>
       refine .inl ⟨m,by omega,?_⟩
       unfold fbQ
       rw [show Nat.blt m n=true by rw [Nat.blt_eq];omega]
       intro q hq
       rcases List.mem_cons.1 hq with rfl | hq
       .exact hb
       .exact zer m h q hq
     | true=>exact .inr fun j hj=>if e:j=m then by rw [e];exact hb else h j (by omega)
 rcases key n (cT _) with h | h
 .exact h
 .refine ⟨n,cT _,?_⟩
  unfold fbQ
  rw [show Nat.blt n n=false by cases hb:Nat.blt n n with
   | false=>rfl
   | true=>rw [Nat.blt_eq] at hb;omega]
  exact zer n h
end M
theorem aAk (c:Nat) (xs:List SV) :
 Ua [] (.aH 63 true 0 0 c) xs =
 some {val:=.aH 62 true 0 16 16,wr:=[(62,.own nA 77)]}:=by kernel_rfl
theorem aYq (xs:List SV) :
 Ua [] (.raw (.slice none 0 0)) xs =
 some {val:=.aH 62 true 0 16 16,wr:=[(62,.own nA 77)]}:=by kernel_rfl
def fbW (n:Nat) (l:List Int):List SV:=nA.take (16-n)++bc (l.drop (16-n))
theorem aYs (c:Nat) (a0:Int) (xs:List SV) (k:Nat) (hk:k<=8):Ua (M.fbP k 8) (.aH 63 true 0 1 c) (ww a0 xs)=some { bO:=M.fbQ ((M.bts a0 0).drop 8) k 8,val:=.aH 62 true 0 16 16,wr:=[(62,.own (fbW 8 (M.bts a0 0)) 77)] }:=by
 rcases (by omega:k=0\/k=1\/k=2\/k=3\/k=4\/k=5\/k=6\/k=7\/k=8) with rfl | rfl | rfl | rfl | rfl | rfl | rfl | rfl | rfl <;> kernel_rfl
theorem aYr (c:Nat) (a0 a1:Int) (xs:List SV) (k:Nat) (hk:k<=16):Ua (M.fbP k 16) (.aH 63 true 0 2 c) (ww a0 (ww a1 xs))=some { bO:=M.fbQ (M.bts a0 a1) k 16,val:=.aH 62 true 0 16 16,wr:=[(62,.own (fbW 16 (M.bts a0 a1)) 77)] }:=by
 rcases (by omega:k=0\/k=1\/k=2\/k=3\/k=4\/k=5\/k=6\/k=7\/k=8\/k=9\/k=10\/k=11\/k=12\/k=13\/k=14\/k=15\/k=16) with rfl | rfl | rfl | rfl | rfl | rfl | rfl | rfl | rfl | rfl | rfl | rfl | rfl | rfl | rfl | rfl | rfl <;> kernel_rfl
namespace M
def nb (n:Int) (j:Nat):Int:=n/256^j%256
theorem aCj (a:Int):∀ j:Nat,sr j a=a/256^j
 | 0=>by simp [sr]
 | j+1=>by
   show Int.fdiv (sr j a) 256=_
   rw [Int.fdiv_eq_ediv_of_nonneg _ (by decide),aCj a j,Int.pow_succ]
   exact Int.ediv_ediv_of_nonneg (Int.le_of_lt (Int.pow_pos (by decide)))
theorem aDq (j:Nat) (a:Int):eI j a=a/256^j%256:=by
 unfold eI
 rw [IntKind.wrap_u8,aCj]
theorem aQm (a0 a1:Int) (j:Nat) (hj:j<8):nb (a0+18446744073709551616*a1) j=eI j a0:=by
 rw [aDq]
 unfold nb
 rcases (by omega:j=0\/j=1\/j=2\/j=3\/j=4\/j=5\/j=6\/j=7) with rfl | rfl | rfl | rfl | rfl | rfl | rfl | rfl <;> omega
theorem aQn {a0:Int} (h0:U a0) (a1:Int) (j:Nat) (hj:j<8):nb (a0+18446744073709551616*a1) (j+8)=eI j a1:=by
 have:=h0.1
 have:=h0.2
 rw [aDq]
 unfold nb
 rcases (by omega:j=0\/j=1\/j=2\/j=3\/j=4\/j=5\/j=6\/j=7) with rfl | rfl | rfl | rfl | rfl | rfl | rfl | rfl <;> omega
def nbs (n:Int):List Int:=[nb n 15,nb n 14,nb n 13,nb n 12,nb n 11,nb n 10,nb n 9,nb n 8,nb n 7,nb n 6,nb n 5,nb n 4,nb n 3,nb n 2,nb n 1,nb n 0]
theorem IC {a0:Int} (h0:U a0) (a1:Int):nbs (a0+18446744073709551616*a1)=bts a0 a1:=by
 have h:=aQn h0 a1
 have l:=aQm a0 a1
 simp only [nbs,bts,List.cons.injEq,and_true]
 exact ⟨h 7 (by decide),h 6 (by decide),h 5 (by decide),h 4 (by decide),h 3 (by decide),h 2 (by decide),h 1 (by decide),h 0 (by decide),l 7 (by decide),l 6 (by decide),l 5 (by decide),l 4 (by decide),l 3 (by decide),l 2 (by decide),l 1 (by decide),l 0 (by decide)⟩
end M
def fbE (n:Int):bK:={ val:=.aH 62 true 0 16 16,wr:=[(62,.own (bc (M.nbs n)) 77)] }
theorem TJ (h:List Bool):aG Tryz.prog (env (TO h) 22) 109 (aK (env (TO h) 22) Tryz.f109 true [] 400):=aN (bL _ 22) (bV _ (aAw h) 22) mix Tryz.func109 (by kernel_rfl) true [] 400
theorem aMz:M.nbs 0=List.replicate 16 0:=by decide
theorem LM (xs:List SV):aF Tryz.prog Γv 109 mE (fun l=>look l (RI (.raw (.slice none 0 0)) xs nA)) 100 100 (fbE 0):=
 ((TJ []).call (aYq xs) (by simp)).re rfl (fun _=>rfl) trivial ⟨rfl,⟨rfl,fun _=>by rw [aMz];rfl⟩,trivial⟩
theorem LP (c:Nat) (xs:List SV):aF Tryz.prog Γv 109 mE (fun l=>look l (RI (.aH 63 true 0 0 c) xs nA)) 100 100 (fbE 0):=
 ((TJ []).call (aAk c xs) (by simp)).re rfl (fun _=>rfl) trivial ⟨rfl,⟨rfl,fun _=>by rw [aMz];rfl⟩,trivial⟩
open M in
theorem LO (c:Nat) {a0:Int} (h0:U a0) (xs:List SV):aF Tryz.prog Γv 109 mE (fun l=>look l (RI (.aH 63 true 0 1 c) (ww a0 xs) nA)) 100 100 (fbE a0):=by
 obtain ⟨k,hk,ho⟩:=IP ((bts a0 0).drop 8) 8
 have e:=IC h0 0
 rw [Int.mul_zero,Int.add_zero] at e
 exact ((TJ _).call (aYs c a0 xs k hk) ho).re rfl (fun _=>rfl) trivial ⟨rfl,⟨rfl,fun V=>by rw [e];rfl⟩,trivial⟩
open M in
theorem LN (c:Nat) {a0 a1:Int} (h0:U a0) (_:U a1) (xs:List SV):aF Tryz.prog Γv 109 mE (fun l=>look l (RI (.aH 63 true 0 2 c) (ww a0 (ww a1 xs)) nA)) 100 100 (fbE (a0+18446744073709551616*a1)):=by
 obtain ⟨k,hk,ho⟩:=IP (bts a0 a1) 16
 have e:=IC h0 a1
 exact ((TJ _).call (aYr c a0 a1 xs k hk) ho).re rfl (fun _=>rfl) trivial ⟨rfl,⟨rfl,fun V=>by rw [e];rfl⟩,trivial⟩
end Go.Proofs.YtnodfocobmghiaaGreatDoor.Sx
