/- A part of the proof of CipherOfNothing: RefQ to Big11. -/
import Derived.Test.YtaibhjpgbckbkaaGreatDoorPD
import Derived.KernelRfl
import Derived.Lib.Mul64
import Derived.Laws.Bits64b
open Go
set_option maxRecDepth 100000
namespace Go.Proofs.YtaibhjpgbckbkaaGreatDoor.Sx
namespace R
def plus (x y:Int):Int:=(IntKind.i64.wrap (x+y)).tmod 4294967296
def Ai (x u:Int):Int:=IntKind.i64.wrap ((IntKind.i64.wrap (x*u)).tmod 4294967296+IntKind.i64.wrap ((IntKind.i64.wrap (x*u)).tdiv 4294967296))
def qr (v:List Int) (a b c d:Nat):List Int:=
 let v:=v.set a (plus (v.getD a 0) (v.getD b 0))
 let v:=v.set d (Ai (gB .i64 (v.getD d 0) (v.getD a 0)) 65536)
 let v:=v.set c (plus (v.getD c 0) (v.getD d 0))
 let v:=v.set b (Ai (gB .i64 (v.getD b 0) (v.getD c 0)) 4096)
 let v:=v.set a (plus (v.getD a 0) (v.getD b 0))
 let v:=v.set d (Ai (gB .i64 (v.getD d 0) (v.getD a 0)) 256)
 let v:=v.set c (plus (v.getD c 0) (v.getD d 0))
 v.set b (Ai (gB .i64 (v.getD b 0) (v.getD c 0)) 128)
end R
theorem Cn (n:Nat):bX Tryz.prog (env fF n):=bJ fF (fun f S h Γ _=>lA f S h Γ) n
theorem Xk (v:List Int) :
 aR (env fF 3) Tryz.f142 true [] 400 [.agg (cQ .i64 16 v),.int true .i64 0,.int true .i64 4,.int true .i64 8,.int true .i64 12] (fun _=>none) 100 100 =
 some {val:=.agg ((R.qr (iH 16 v) 0 4 8 12).map (.int false .i64))}:=by kernel_rfl
theorem Xj (v:List Int) :
 aR (env fF 3) Tryz.f142 true [] 400 [.agg (cQ .i64 16 v),.int true .i64 1,.int true .i64 5,.int true .i64 9,.int true .i64 13] (fun _=>none) 100 100 =
 some {val:=.agg ((R.qr (iH 16 v) 1 5 9 13).map (.int false .i64))}:=by kernel_rfl
theorem Xi (v:List Int) :
 aR (env fF 3) Tryz.f142 true [] 400 [.agg (cQ .i64 16 v),.int true .i64 2,.int true .i64 6,.int true .i64 10,.int true .i64 14] (fun _=>none) 100 100 =
 some {val:=.agg ((R.qr (iH 16 v) 2 6 10 14).map (.int false .i64))}:=by kernel_rfl
theorem Xh (v:List Int) :
 aR (env fF 3) Tryz.f142 true [] 400 [.agg (cQ .i64 16 v),.int true .i64 3,.int true .i64 7,.int true .i64 11,.int true .i64 15] (fun _=>none) 100 100 =
 some {val:=.agg ((R.qr (iH 16 v) 3 7 11 15).map (.int false .i64))}:=by kernel_rfl
theorem Xg (v:List Int) :
 aR (env fF 3) Tryz.f142 true [] 400 [.agg (cQ .i64 16 v),.int true .i64 0,.int true .i64 5,.int true .i64 10,.int true .i64 15] (fun _=>none) 100 100 =
 some {val:=.agg ((R.qr (iH 16 v) 0 5 10 15).map (.int false .i64))}:=by kernel_rfl
theorem Xf (v:List Int) :
 aR (env fF 3) Tryz.f142 true [] 400 [.agg (cQ .i64 16 v),.int true .i64 1,.int true .i64 6,.int true .i64 11,.int true .i64 12] (fun _=>none) 100 100 =
 some {val:=.agg ((R.qr (iH 16 v) 1 6 11 12).map (.int false .i64))}:=by kernel_rfl
theorem Xe (v:List Int) :
 aR (env fF 3) Tryz.f142 true [] 400 [.agg (cQ .i64 16 v),.int true .i64 2,.int true .i64 7,.int true .i64 8,.int true .i64 13] (fun _=>none) 100 100 =
 some {val:=.agg ((R.qr (iH 16 v) 2 7 8 13).map (.int false .i64))}:=by kernel_rfl
theorem Xd (v:List Int) :
 aR (env fF 3) Tryz.f142 true [] 400 [.agg (cQ .i64 16 v),.int true .i64 3,.int true .i64 4,.int true .i64 9,.int true .i64 14] (fun _=>none) 100 100 =
 some {val:=.agg ((R.qr (iH 16 v) 3 4 9 14).map (.int false .i64))}:=by kernel_rfl
theorem fI (a b c d:Nat) (v:List Int) (hv:v.length=16)
 (h:aR (env fF 3) Tryz.f142 true [] 400 [.agg (cQ .i64 16 v),.int true .i64 a,.int true .i64 b,.int true .i64 c,.int true .i64 d] (fun _=>none) 100 100=some { val:=.agg ((R.qr (iH 16 v) a b c d).map (.int false .i64)) })
 (Γ:Env) (hg:Γ.aU=aB):aD Tryz.prog Γ 142 [.ai .i64 v,.int true .i64 a,.int true .i64 b,.int true .i64 c,.int true .i64 d] (fun l=>look l []) 100 100 { val:=.ai .i64 (R.qr v a b c d) }:=by
 have hs:aH Tryz.prog (env fF 3) 142 (aR (env fF 3) Tryz.f142 true [] 400):=
  aY (bH fF 3) (Cn 3) mix Tryz.func142 (by kernel_rfl) true [] 400
 rw [xT hv] at h
 refine (hs.call h (by simp)).words (by rw [hg];rfl) (fun V=>?_) (fun _ _ h=>by cases h) (fun V=>pO V _ _) rfl rfl
 simp only [aJ,cF V hv]
def Cy (vs:List SV) (_:bA):Option Canon:=match vs with
 | [v,.int true .i64 a,.int true .i64 _,.int true .i64 c,.int true .i64 _]=>match cY v with
   | some (.i64,xs)=>
     let ZT (a b c d:Nat):Canon:={ eR:=[.ai .i64 xs,.int true .i64 a,.int true .i64 b,.int true .i64 c,.int true .i64 d],T0:=[],vl:=[],e0:={ val:=.ai .i64 (R.qr xs a b c d) },conds:=[xs.length=16] }
     match wO a 0,wO a 1,wO a 2,wO a 3,wO (c-a) 8 with
     | true,_,_,_,true=>some (ZT 0 4 8 12)
     | true,_,_,_,false=>some (ZT 0 5 10 15)
     | _,true,_,_,true=>some (ZT 1 5 9 13)
     | _,true,_,_,false=>some (ZT 1 6 11 12)
     | _,_,true,_,true=>some (ZT 2 6 10 14)
     | _,_,true,_,false=>some (ZT 2 7 8 13)
     | _,_,_,true,true=>some (ZT 3 7 11 15)
     | _,_,_,true,false=>some (ZT 3 4 9 14)
     | _,_,_,_,_=>none
   | _=>none
 | _=>none
def Mm:Sum:=aK aB 100 Cy
theorem Ra (Γ:Env) (hg:Γ.aU=aB):aH Tryz.prog Γ 142 Mm:=by
 refine aT hg fun vs T c hd hc=>?_
 unfold Cy at hd
 split at hd
 case h_2=>cases hd
 split at hd
 case h_2=>cases hd
 split at hd
 all_goals first | (cases hd;done) | skip
 .cases hd;exact fI 0 4 8 12 _ (hc _ (by simp)) (Xk _) Γ hg
 .cases hd;exact fI 0 5 10 15 _ (hc _ (by simp)) (Xg _) Γ hg
 .cases hd;exact fI 1 5 9 13 _ (hc _ (by simp)) (Xj _) Γ hg
 .cases hd;exact fI 1 6 11 12 _ (hc _ (by simp)) (Xf _) Γ hg
 .cases hd;exact fI 2 6 10 14 _ (hc _ (by simp)) (Xi _) Γ hg
 .cases hd;exact fI 2 7 8 13 _ (hc _ (by simp)) (Xe _) Γ hg
 .cases hd;exact fI 3 7 11 15 _ (hc _ (by simp)) (Xh _) Γ hg
 .cases hd;exact fI 3 4 9 14 _ (hc _ (by simp)) (Xd _) Γ hg
def ZO (f:Nat):Option Sum:=match Nat.beq f 142 with
 | true=>some Mm
 | false=>fF f
theorem HG (f:Nat) (S:Sum) (h:ZO f=some S) (Γ:Env) (hg:Γ.aU=aB):aH Tryz.prog Γ f S:=by
 unfold ZO at h
 split at h
 .rename_i hb;have:=Nat.eq_of_beq_eq_true hb;subst this;cases h;exact Ra Γ hg
 .exact lA f S h Γ
namespace R
def word (l:List Int) (i:Nat):Int:=IntKind.i64.wrap (IntKind.i64.wrap (IntKind.i64.wrap (IntKind.i64.wrap (l.getD (4*i) 0)+IntKind.i64.wrap (256*IntKind.i64.wrap (l.getD (4*i+1) 0)))+IntKind.i64.wrap (65536*IntKind.i64.wrap (l.getD (4*i+2) 0)))+IntKind.i64.wrap (16777216*IntKind.i64.wrap (l.getD (4*i+3) 0)))
def Sv (key nonce:List Int) (c:Int):List Int:=(List.range 8).map (word key)++[IntKind.i64.wrap c]++(List.range 3).map (word nonce)
def init (key nonce:List Int) (c:Int):List Int:=[1634760805,857760878,2036477234,1797285236]++Sv key nonce c
def dr (v:List Int):List Int:=
 qr (qr (qr (qr (qr (qr (qr (qr v 0 4 8 12) 1 5 9 13) 2 6 10 14) 3 7 11 15) 0 5 10 15) 1 6 11 12) 2 7 8 13) 3 4 9 14
def xH (x:Int):Nat->Int
 | 0=>IntKind.u8.wrap (x.tmod 256)
 | n+1=>xH (IntKind.i64.wrap (x.tdiv 256)) n
def out (v w:List Int):List Int:=(List.range 64).map fun j=>xH ((IntKind.i64.wrap (v.getD (j/4) 0+w.getD (j/4) 0)).tmod 4294967296) (j%4)
def rounds:Nat->List Int->List Int
 | 0,v=>v
 | n+1,v=>dr (rounds n v)
end R
theorem IQ (key nonce:List Int) (c:Int) :
 aR (env ZO 4) Tryz.f141 true [] 400 [.agg (cQ .u8 32 key),.int false .u32 c,.agg (cQ .u8 12 nonce)] (fun _=>none) 100 100 =
 some {val:=.agg ([.int true .i64 1634760805,.int true .i64 857760878,.int true .i64 2036477234,.int true .i64 1797285236]++(R.Sv key nonce c).map (.int false .i64))}:=by kernel_rfl
theorem Xr (key nonce:List Int) (c:Int) (hk:key.length=32) (hn:nonce.length=12) (Γ:Env) (hg:Γ.aU=aB) :
 aD Tryz.prog Γ 141 [.ai .u8 key,.int false .u32 c,.ai .u8 nonce] (fun l=>look l []) 100 100 { val:=.ai .i64 (R.init key nonce c) }:=by
 have hs:aH Tryz.prog (env ZO 4) 141 (aR (env ZO 4) Tryz.f141 true [] 400):=
  aY (bH ZO 4) (bJ ZO HG 4) mix Tryz.func141 (by kernel_rfl) true [] 400
 refine (hs.call (IQ key nonce c) (by simp)).words (by rw [hg];rfl) (fun V=>?_) (fun _ _ h=>by cases h) (fun V=>?_) rfl rfl
 .simp only [aJ,cF V hk,cF V hn]
 .simp [den,aJ,lT,R.init]
def Un (vs:List SV) (_:bA):Option Canon:=match vs with
 | [ks,.int _ .u32 c,ns]=>match cY ks,cY ns with
   | some (.u8,k),some (.u8,n)=>some { eR:=[.ai .u8 k,.int false .u32 c,.ai .u8 n],T0:=[],vl:=[],e0:={ val:=.ai .i64 (R.init k n c) },conds:=[k.length=32,n.length=12] }
   | _,_=>none
 | _=>none
def aBd:Sum:=aK aB 100 Un
theorem zO (Γ:Env) (hg:Γ.aU=aB):aH Tryz.prog Γ 141 aBd:=by
 refine aT hg fun vs T c hd hc=>?_
 unfold Un at hd
 split at hd
 case h_2=>cases hd
 split at hd
 case h_2=>cases hd
 cases hd
 exact Xr _ _ _ (hc _ (by simp)) (hc _ (by simp)) Γ hg
def exL (f:Nat):Option Sum:=match Nat.beq f 141 with
 | true=>some aBd
 | false=>ZO f
theorem aIp (f:Nat) (S:Sum) (h:exL f=some S) (Γ:Env) (hg:Γ.aU=aB):aH Tryz.prog Γ f S:=by
 unfold exL at h
 split at h
 .rename_i hb;have:=Nat.eq_of_beq_eq_true hb;subst this;cases h;exact zO Γ hg
 .exact HG f S h Γ hg
noncomputable def ΓL:Env:=env exL 4
def Wa (key nonce:List Int) (c:Int):List SV:=[.ai .u8 key,.int false .u32 c,.ai .u8 nonce]
noncomputable def Pt:Code:=match (cA ΓL (fun _=>none) 100 Tryz.f114.ntmps [4] 0 400 (.go (codeOf Tryz.f114)) [] (gU (Wa [] [] 0) 100)) with
 | some ⟨.go (.loop L),_,_⟩=>L
 | _=>.skip
noncomputable def aLh:List Fr:=match (cA ΓL (fun _=>none) 100 Tryz.f114.ntmps [4] 0 400 (.go (codeOf Tryz.f114)) [] (gU (Wa [] [] 0) 100)) with
 | some ⟨_,K,_⟩=>K
 | _=>[]
def Oy (i:Int):List (Nat × SV):=[(6,.ptr 100 true 0),(7,.ptr 101 true 0),(8,.ptr 102 true 0),(9,.int false .i64 i)]
def Ox (w v:List Int):List (Nat × SB):=[(100,.own (List.replicate 64 (.int true .u8 0)) 125),(101,.ints .i64 w 185),(102,.ints .i64 v 185)]
theorem aVp (key nonce w v:List Int) (c i:Int) :
 (Ry 100 (aC 100 (fun _=>none)) [116,156,180] (Oy i) (Ox w v) 103 [] [] (cA ΓL (aC 100 (fun _=>none)) 100 Tryz.f114.ntmps [4] 0 400 (.go (codeOf Tryz.f114)) [] ((gU (Wa key nonce c) 100).hint []))) =
 sh (R.init key nonce c) fun z0=>
 some (.go (.loop Pt),aLh,[z0.length=16,z0.length=16,z0.length=16,key.length=32,nonce.length=12,key=key,c=c,nonce=nonce,nonce.length=12,key.length=32,0=i,R.init key nonce c=w/\185=185,R.init key nonce c=v/\185=185]):=by kernel_rfl
theorem aVo (w v v':List Int) (i i':Int) :
 Ry 100 (aC 100 (fun _=>none)) [100,101,102] (Oy i') (Ox w v') 103 [] [] (cA ΓL (aC 100 (fun _=>none)) 100 Tryz.f114.ntmps [4] 100 400 (.go Pt) [] ((aN (Oy i) (Ox w v) 103 [] []).hint [true])) =
 sh (R.qr v 0 4 8 12) fun z5=>
 sh (R.qr z5 1 5 9 13) fun z2=>
 sh (R.qr z2 2 6 10 14) fun z4=>
 sh (R.qr z4 3 7 11 15) fun z0=>
 sh (R.qr z0 0 5 10 15) fun z3=>
 sh (R.qr z3 1 6 11 12) fun z1=>
 sh (R.qr z1 2 7 8 13) fun z6=>
 some (Cf.at Ex.normal,[],[(R.qr z6 3 4 9 14).length=16/\z6.length=16,z6.length=16,R.qr z1 2 7 8 13=R.qr z1 2 7 8 13,z6.length=16,z6.length=16/\z1.length=16,z1.length=16,R.qr z3 1 6 11 12=R.qr z3 1 6 11 12,z1.length=16,z1.length=16/\z3.length=16,z3.length=16,R.qr z0 0 5 10 15=R.qr z0 0 5 10 15,z3.length=16,z3.length=16/\z0.length=16,z0.length=16,R.qr z4 3 7 11 15=R.qr z4 3 7 11 15,z0.length=16,z0.length=16/\z4.length=16,z4.length=16,R.qr z2 2 6 10 14=R.qr z2 2 6 10 14,z4.length=16,z4.length=16/\z2.length=16,z2.length=16,R.qr z5 1 5 9 13=R.qr z5 1 5 9 13,z2.length=16,z2.length=16/\z5.length=16,z5.length=16,R.qr v 0 4 8 12=R.qr v 0 4 8 12,z5.length=16,z5.length=16/\v.length=16,v.length=16,v=v,v.length=16,decide (i<10)=true,IntKind.i64.wrap (i+1)=i',w=w/\185=185,R.qr z6 3 4 9 14=v'/\185=185]):=by kernel_rfl
theorem aVn (w v:List Int) (i:Int) :
 Ry 100 (aC 100 (fun _=>none)) [100,101,102] (Oy i) (Ox w v) 103 [] [] (cA ΓL (aC 100 (fun _=>none)) 100 Tryz.f114.ntmps [4] 100 400 (.go Pt) [] ((aN (Oy i) (Ox w v) 103 [] []).hint [false])) =
 some (Cf.at (Ex.exit 0),[],[decide (i<10)=false,i=i,w=w/\185=185,v=v/\185=185]):=by kernel_rfl
theorem aVm (w v:List Int) (i:Int) :
 rZ ΓL (fun _=>none) 100 100 Tryz.f114 (cA ΓL (aC 100 (fun _=>none)) 100 Tryz.f114.ntmps [4] 100 4000 (.at (.exit 0)) aLh ((aN (Oy i) (Ox w v) 103 [] []).hint [])) =
 some {bV:=[16<=w.length,16<=v.length,15<=w.length,15<=v.length,14<=w.length,14<=v.length,13<=w.length,13<=v.length,12<=w.length,12<=v.length,11<=w.length,11<=v.length,10<=w.length,10<=v.length,9<=w.length,9<=v.length,8<=w.length,8<=v.length,7<=w.length,7<=v.length,6<=w.length,6<=v.length,5<=w.length,5<=v.length,4<=w.length,4<=v.length,3<=w.length,3<=v.length,2<=w.length,2<=v.length,1<=w.length,1<=v.length],val:=.agg ((R.out v w).map (.int false .u8))}:=by kernel_rfl
theorem R.Fv (v:List Int) (a b c d:Nat):(R.qr v a b c d).length=v.length:=by simp [R.qr]
theorem R.Zh (v:List Int):(R.dr v).length=v.length:=by simp [R.dr,R.Fv]
theorem R.sE (n:Nat) (v:List Int):(R.rounds n v).length=v.length:=by
 induction n with
 | zero=>rfl
 | succ n ih=>rw [R.rounds,R.Zh,ih]
theorem R.Nt (key nonce:List Int) (c:Int):(R.init key nonce c).length=16:=by simp [R.init,R.Sv]
def R.block (key nonce:List Int) (c:Int):List Int:=R.out (R.rounds 10 (R.init key nonce c)) (R.init key nonce c)
theorem UB (key nonce:List Int) (c:Int) (hk:key.length=32) (hn:nonce.length=12) :
 aD Tryz.prog ΓL 114 (Wa key nonce c) (fun _=>none) 100 100 { val:=.agg ((R.block key nonce c).map (.int false .u8)) }:=by
 have aM:cG Tryz.prog ΓL:=bH exL 4
 have aE:bX Tryz.prog ΓL:=bJ exL aIp 4
 have hl:=R.Nt key nonce c
 refine bU aM aE Tryz.func114 (by kernel_rfl) rfl (Nat.le_of_ble_eq_true (by kernel_rfl)) rfl [] ?_
 intro w0 M V0 Q hb H
 refine G.to aM aE mix hb [] (aVp key nonce (R.init key nonce c) (R.init key nonce c) c 0) (aA (by simp [aO,hl,hk,hn])) ?_
 refine G.loop (fun r s=>∃ i:Nat,i<=10/\r=10-i/\s=aN (Oy i) (Ox (R.init key nonce c) (R.rounds i (R.init key nonce c))) 103 [] []) (r0:=10) ⟨0,by omega,rfl,rfl⟩ ?_
 rintro r s ⟨i,hi,rfl,rfl⟩
 have tO:IntKind.i64.wrap ((i:Int)+1)=((i+1:Nat):Int):=by rw [IntWalk.i64_in _ (by omega)];omega
 by_cases cK:i<10
 .refine G.round aM aE mix hb [true] (aVo (R.init key nonce c) (R.rounds i (R.init key nonce c)) (R.rounds (i+1) (R.init key nonce c)) i ((i+1:Nat):Int)) (aA ?_) (10-(i+1)) (by omega) ⟨i+1,by omega,rfl,rfl⟩
  simp only [aO,R.Fv,R.sE,hl,tO,and_true,true_and]
  exact ⟨by simpa using (show (i:Int)<10 by omega),rfl⟩
 .have h10:i=10:=by omega
  subst h10
  refine G.to aM aE mix hb [false] (aVn _ _ _) (aA (by simp [aO])) (G.leave (by simp) ?_)
  refine G.fin aM aE mix [] H (aVm _ _ _) ?_ rfl rfl rfl
  simp only [R.sE,hl]
  exact aA (by simp [aO])
theorem IB (key nonce:List Int) (c:Int) (hk:key.length=32) (hn:nonce.length=12) (Γ:Env) (hg:Γ.aU=aB) :
 aD Tryz.prog Γ 114 (Wa key nonce c) (fun l=>look l []) 100 100 { val:=.ai .u8 (R.block key nonce c) }:=
 (UB key nonce c hk hn).words (by rw [hg];rfl) (fun _=>rfl) (fun _ _ h=>by cases h) (fun V=>pO V _ _) rfl rfl
def aAn (vs:List SV) (_:bA):Option Canon:=match vs with
 | [ks,.int _ .u32 c,ns]=>match cY ks,cY ns with
   | some (.u8,k),some (.u8,n)=>some { eR:=Wa k n c,T0:=[],vl:=[],e0:={ val:=.ai .u8 (R.block k n c) },conds:=[k.length=32,n.length=12] }
   | _,_=>none
 | _=>none
def rbS:Sum:=aK aB 100 aAn
theorem aOh (Γ:Env) (hg:Γ.aU=aB):aH Tryz.prog Γ 114 rbS:=by
 refine aT hg fun vs T c hd hc=>?_
 unfold aAn at hd
 split at hd
 case h_2=>cases hd
 split at hd
 case h_2=>cases hd
 cases hd
 exact IB _ _ _ (hc _ (by simp)) (hc _ (by simp)) Γ hg
def W (x:Int):Prop:=0<=x/\x<4294967296
theorem W.nat {x:Int} (h:W x):∃ a:Nat,x=a/\a<4294967296:=⟨x.toNat,by unfold W at h;omega,by unfold W at h;omega⟩
theorem RA (a b:Nat) (ha:a<4294967296) (hb:b<4294967296):gB .u32 a b=((a ^^^ b:Nat):Int):=by
 have h1:a ^^^ b<2^32:=Nat.xor_lt_two_pow (by simpa using ha) (by simpa using hb)
 unfold gB
 rw [show IntKind.u32.bits=32 from rfl,IntKind.wrap_u32]
 simp only [BitVec.toNat_xor,BitVec.toNat_ofInt]
 rw [show ((a:Int)%((2^32:Nat):Int)).toNat=a from by omega,show ((b:Int)%((2^32:Nat):Int)).toNat=b from by omega]
 omega
theorem RB (a b:Nat) (ha:a<4294967296) (hb:b<4294967296):gB .i64 a b=((a ^^^ b:Nat):Int):=by
 have h1:a ^^^ b<2^32:=Nat.xor_lt_two_pow (by simpa using ha) (by simpa using hb)
 unfold gB
 rw [show IntKind.i64.bits=64 from rfl,IntWalk.i64_in]
 .simp only [BitVec.toNat_xor,BitVec.toNat_ofInt]
  rw [show ((a:Int)%((2^64:Nat):Int)).toNat=a from by omega,show ((b:Int)%((2^64:Nat):Int)).toNat=b from by omega]
 .simp only [BitVec.toNat_xor,BitVec.toNat_ofInt]
  rw [show ((a:Int)%((2^64:Nat):Int)).toNat=a from by omega,show ((b:Int)%((2^64:Nat):Int)).toNat=b from by omega]
  omega
theorem Hv (a b:Nat) (ha:a<4294967296) (hb:b<4294967296):oG .u32 a b=((a ||| b:Nat):Int):=by
 have h1:a ||| b<2^32:=Nat.or_lt_two_pow (by simpa using ha) (by simpa using hb)
 unfold oG
 rw [show IntKind.u32.bits=32 from rfl,IntKind.wrap_u32]
 simp only [BitVec.toNat_or,BitVec.toNat_ofInt]
 rw [show ((a:Int)%((2^32:Nat):Int)).toNat=a from by omega,show ((b:Int)%((2^32:Nat):Int)).toNat=b from by omega]
 omega
theorem Sd {x y:Int} (hx:W x) (hy:W y):gB .u32 x y=gB .i64 x y/\W (gB .u32 x y):=by
 obtain ⟨a,rfl,ha⟩:=hx.nat
 obtain ⟨b,rfl,hb⟩:=hy.nat
 have h1:a ^^^ b<2^32:=Nat.xor_lt_two_pow (by simpa using ha) (by simpa using hb)
 rw [RA a b ha hb,RB a b ha hb]
 exact ⟨rfl,by unfold W;omega⟩
theorem Hu {x y:Int} (hx:W x) (hy:W y):IntKind.u32.wrap (x+y)=R.plus x y/\W (R.plus x y):=by
 unfold W at hx hy
 unfold R.plus W
 rw [IntWalk.i64_in _ (by omega),Int.tmod_eq_emod_of_nonneg (by omega),IntKind.wrap_u32]
 omega
theorem Hw (k a b:Nat) (hb:b<2^k):(2^k*a) ||| b=2^k*a+b:=(Nat.two_pow_add_eq_or_of_lt hb a).symm
theorem Sn {x:Int} (hx:W x) (k m:Nat) (hkm:k+m=32) (u:Int) (hu:u=((2^k:Nat):Int)) (hk:k<=16):B.AF x k=R.Ai x u/\W (R.Ai x u):=by
 obtain ⟨a,rfl,ha⟩:=hx.nat
 have hpk:2^k<=65536:=Nat.pow_le_pow_right (by omega) (show k<=16 from hk)
 have hpp:2^k*2^m=4294967296:=by rw [<- Nat.pow_add,hkm]
 have Zv:0<2^k:=Nat.pow_pos (by omega)
 have Oq:0<2^m:=Nat.pow_pos (by omega)
 have hau:a*2^k<281474976710656:=by
  have:a*2^k<=a*65536:=Nat.mul_le_mul_left _ hpk
  omega
 have e1:a*2^k/4294967296=a/2^m:=by
  rw [<- hpp,Nat.mul_comm a,Nat.mul_div_mul_left _ _ Zv]
 have e2:a*2^k%4294967296=2^k*(a%2^m):=by
  rw [<- hpp,Nat.mul_comm a,Nat.mul_mod_mul_left]
 have cK:a/2^m<2^k:=by
  rw [Nat.div_lt_iff_lt_mul Oq,hpp];exact ha
 have aYa:a%2^m<2^m:=Nat.mod_lt _ Oq
 have aE:2^k*(a%2^m)+a/2^m<4294967296:=by
  have:2^k*(a%2^m)+2^k<=2^k*2^m:=by
   rw [<- Nat.mul_succ];exact Nat.mul_le_mul_left _ aYa
  omega
 have hL:B.AF (a:Int) k=((2^k*(a%2^m)+a/2^m:Nat):Int):=by
  unfold B.AF dZ cE
  rw [show IntKind.u32.bits=32 from rfl,show ((k:Nat):Int).toNat=k from rfl,show ((32:Int)-(k:Int)).toNat=m from by omega,Nat.min_eq_left (by omega),Nat.min_eq_left (by omega),IntKind.wrap_u32]
  have h1:(a:Int)*2^k%4294967296=((a*2^k%4294967296:Nat):Int):=by rw [Int.natCast_emod,Int.natCast_mul,Int.natCast_pow];rfl
  have h2:(a:Int).fdiv (2^m)=((a/2^m:Nat):Int):=by
   rw [show ((2:Int)^m)=((2^m:Nat):Int) from by rw [Int.natCast_pow];rfl,Int.fdiv_eq_ediv_of_nonneg _ (by omega)];rfl
  rw [h1,h2,e2,Hv _ _ (by omega) (by omega),Hw k _ _ cK]
 have hR:R.Ai (a:Int) u=((2^k*(a%2^m)+a/2^m:Nat):Int):=by
  unfold R.Ai
  have h0:(a:Int)*u=((a*2^k:Nat):Int):=by rw [hu,Int.natCast_mul]
  rw [h0]
  generalize a*2^k=z at hau e1 e2 |-
  rw [<- e1,<- e2]
  rw [<- e1,<- e2] at aE
  rw [IntWalk.i64_in (z:Int) (by omega),Int.tmod_eq_emod_of_nonneg (by omega),Int.tdiv_eq_ediv_of_nonneg (by omega),IntWalk.i64_in ((z:Int)/4294967296) (by omega),IntWalk.i64_in _ (by omega)]
  omega
 exact ⟨hL.trans hR.symm,by rw [hR];unfold W;omega⟩
def Ws (v:List Int):Prop:=∀ x∈v,W x
theorem Ws.get {v:List Int} (h:Ws v) (i:Nat):W (v.getD i 0):=by
 rw [List.getD_eq_getElem?_getD]
 cases hv:v[i]? with
 | none=>exact ⟨by decide,by decide⟩
 | some x=>exact h x (List.mem_of_getElem? hv)
theorem Ws.set {v:List Int} (h:Ws v) (i:Nat) {x:Int} (hx:W x):Ws (v.set i x):=by
 intro y hy
 rcases List.mem_or_eq_of_mem_set hy with hy | hy
 .exact h y hy
 .subst hy;exact hx
theorem Kp {v:List Int} (h:Ws v) (a b c d:Nat):B.qr v a b c d=R.qr v a b c d/\Ws (R.qr v a b c d):=by
 unfold B.qr R.qr
 have s1:=Hu (h.get a) (h.get b)
 have g1:=h.set a s1.2
 rw [s1.1]
 generalize v.set a (R.plus (v.getD a 0) (v.getD b 0))=v1 at g1
 have x2:=Sd (g1.get d) (g1.get a)
 have s2:=Sn x2.2 16 16 rfl 65536 rfl (by omega)
 rw [x2.1] at s2
 simp only [x2.1]
 have g2:=g1.set d s2.2
 rw [show B.AF (gB .i64 (v1.getD d 0) (v1.getD a 0)) 16=_ from s2.1]
 generalize v1.set d (R.Ai (gB .i64 (v1.getD d 0) (v1.getD a 0)) 65536)=v2 at g2
 have s3:=Hu (g2.get c) (g2.get d)
 have g3:=g2.set c s3.2
 rw [s3.1]
 generalize v2.set c (R.plus (v2.getD c 0) (v2.getD d 0))=v3 at g3
 have x4:=Sd (g3.get b) (g3.get c)
 have s4:=Sn x4.2 12 20 rfl 4096 rfl (by omega)
 rw [x4.1] at s4
 simp only [x4.1]
 have g4:=g3.set b s4.2
 rw [show B.AF (gB .i64 (v3.getD b 0) (v3.getD c 0)) 12=_ from s4.1]
 generalize v3.set b (R.Ai (gB .i64 (v3.getD b 0) (v3.getD c 0)) 4096)=v4 at g4
 have s5:=Hu (g4.get a) (g4.get b)
 have g5:=g4.set a s5.2
 rw [s5.1]
 generalize v4.set a (R.plus (v4.getD a 0) (v4.getD b 0))=v5 at g5
 have x6:=Sd (g5.get d) (g5.get a)
 have s6:=Sn x6.2 8 24 rfl 256 rfl (by omega)
 rw [x6.1] at s6
 simp only [x6.1]
 have g6:=g5.set d s6.2
 rw [show B.AF (gB .i64 (v5.getD d 0) (v5.getD a 0)) 8=_ from s6.1]
 generalize v5.set d (R.Ai (gB .i64 (v5.getD d 0) (v5.getD a 0)) 256)=v6 at g6
 have s7:=Hu (g6.get c) (g6.get d)
 have g7:=g6.set c s7.2
 rw [s7.1]
 generalize v6.set c (R.plus (v6.getD c 0) (v6.getD d 0))=v7 at g7
 have x8:=Sd (g7.get b) (g7.get c)
 have s8:=Sn x8.2 7 25 rfl 128 rfl (by omega)
 rw [x8.1] at s8
 simp only [x8.1]
 have g8:=g7.set b s8.2
 rw [show B.AF (gB .i64 (v7.getD b 0) (v7.getD c 0)) 7=_ from s8.1]
 exact ⟨rfl,g8⟩
theorem bAk {v:List Int} (h:Ws v):B.dr v=R.dr v/\Ws (R.dr v):=by
 unfold B.dr R.dr
 have a1:=Kp h 0 4 8 12
 have a2:=Kp a1.2 1 5 9 13
 have a3:=Kp a2.2 2 6 10 14
 have a4:=Kp a3.2 3 7 11 15
 have a5:=Kp a4.2 0 5 10 15
 have a6:=Kp a5.2 1 6 11 12
 have a7:=Kp a6.2 2 7 8 13
 have a8:=Kp a7.2 3 4 9 14
 rw [a1.1,a2.1,a3.1,a4.1,a5.1,a6.1,a7.1,a8.1]
 exact ⟨rfl,a8.2⟩
theorem B.Xb (n:Nat):∀ v:List Int,B.rounds n (B.dr v)=B.dr (B.rounds n v):=by
 induction n with
 | zero=>intro v;rfl
 | succ n ih=>intro v;rw [B.rounds,ih,B.rounds,ih]
theorem HZ {v:List Int} (h:Ws v) (n:Nat):B.rounds n v=R.rounds n v/\Ws (R.rounds n v):=by
 induction n with
 | zero=>exact ⟨rfl,h⟩
 | succ n ih=>
   rw [B.rounds,B.Xb,ih.1,R.rounds]
   exact bAk ih.2
def Bt (x:Int):Prop:=0<=x/\x<256
def bG (v:List Int):Prop:=∀ x∈v,Bt x
theorem bG.get {v:List Int} (h:bG v) (i:Nat):Bt (v.getD i 0):=by
 rw [List.getD_eq_getElem?_getD]
 cases hv:v[i]? with
 | none=>exact ⟨by decide,by decide⟩
 | some x=>exact h x (List.mem_of_getElem? hv)
theorem Bt.nat {x:Int} (h:Bt x):∃ a:Nat,x=a/\a<256:=⟨x.toNat,by unfold Bt at h;omega,by unfold Bt at h;omega⟩
theorem Ir (a k:Nat) (hk:k<=32) (h:a*2^k<4294967296):dZ .u32 (a:Int) (k:Int)=((a*2^k:Nat):Int):=by
 unfold dZ
 rw [show IntKind.u32.bits=32 from rfl,Int.toNat_natCast,Nat.min_eq_left hk,IntKind.wrap_u32,show (a:Int)*2^k=((a*2^k:Nat):Int) from by rw [Int.natCast_mul,Int.natCast_pow];rfl]
 omega
theorem Hr {l:List Int} (h:bG l) (i:Nat):B.word l i=R.word l i/\W (R.word l i):=by
 unfold B.word R.word
 obtain ⟨a,ea,ha⟩:=(h.get (4*i)).nat
 obtain ⟨b,eb,hb⟩:=(h.get (4*i+1)).nat
 obtain ⟨c,ec,hc⟩:=(h.get (4*i+2)).nat
 obtain ⟨d,ed,hd⟩:=(h.get (4*i+3)).nat
 rw [ea,eb,ec,ed]
 have wr:∀ x:Nat,x<256->IntKind.u32.wrap (x:Int)=x:=fun x hx=>IntWalk.u32_in _ (by omega)
 have wi:∀ x:Int,0<=x/\x<4294967296->IntKind.i64.wrap x=x:=fun x hx=>IntWalk.i64_in _ (by omega)
 rw [wr a ha,wr b hb,wr c hc,wr d hd]
 rw [show dZ .u32 (b:Int) 8=_ from Ir b 8 (by omega) (by omega),show dZ .u32 (c:Int) 16=_ from Ir c 16 (by omega) (by omega),show dZ .u32 (d:Int) 24=_ from Ir d 24 (by omega) (by omega)]
 rw [Hv a (b*2^8) (by omega) (by omega),show a ||| b*2^8=2^8*b+a from by rw [Nat.or_comm,Nat.mul_comm];exact Hw 8 b a (by omega)]
 rw [Hv _ (c*2^16) (by omega) (by omega),show (2^8*b+a) ||| c*2^16=2^16*c+(2^8*b+a) from by rw [Nat.or_comm,Nat.mul_comm c];exact Hw 16 c _ (by omega)]
 rw [Hv _ (d*2^24) (by omega) (by omega),show (2^16*c+(2^8*b+a)) ||| d*2^24=2^24*d+(2^16*c+(2^8*b+a)) from by rw [Nat.or_comm,Nat.mul_comm d];exact Hw 24 d _ (by omega)]
 rw [wi (a:Int) (by omega),wi (b:Int) (by omega),wi (c:Int) (by omega),wi (d:Int) (by omega),wi (256*(b:Int)) (by omega),wi (65536*(c:Int)) (by omega),wi (16777216*(d:Int)) (by omega)]
 rw [wi ((a:Int)+256*b) (by omega),wi ((a:Int)+256*b+65536*c) (by omega),wi _ (by omega)]
 unfold W
 omega
theorem aHh {key nonce:List Int} {c:Int} (hk:bG key) (hn:bG nonce) (hc:W c):B.init key nonce c=R.init key nonce c/\Ws (R.init key nonce c):=by
 have ec:IntKind.i64.wrap c=c:=IntWalk.i64_in _ (by unfold W at hc;omega)
 have e1:(List.range 8).map (B.word key)=(List.range 8).map (R.word key):=List.map_congr_left fun i _=>(Hr hk i).1
 have e2:(List.range 3).map (B.word nonce)=(List.range 3).map (R.word nonce):=List.map_congr_left fun i _=>(Hr hn i).1
 unfold B.init R.init R.Sv
 rw [e1,e2,ec]
 refine ⟨by simp,fun x hx=>?_⟩
 simp only [List.mem_append,List.mem_map,List.mem_cons,List.not_mem_nil,or_false] at hx
 rcases hx with (rfl | rfl | rfl | rfl) | (⟨i,_,rfl⟩ | rfl) | ⟨i,_,rfl⟩
 .exact ⟨by decide,by decide⟩
 .exact ⟨by decide,by decide⟩
 .exact ⟨by decide,by decide⟩
 .exact ⟨by decide,by decide⟩
 .exact (Hr hk i).2
 .exact hc
 .exact (Hr hn i).2
theorem aOo {v w:List Int} (hv:Ws v) (hw:Ws w):B.out v w=R.out v w:=by
 unfold B.out R.out
 refine List.map_congr_left fun j _=>?_
 have h1:=hv.get (j/4)
 have h2:=hw.get (j/4)
 unfold W at h1 h2
 rw [IntWalk.i64_in (v.getD (j/4) 0+w.getD (j/4) 0) (by omega),Int.tmod_eq_emod_of_nonneg (by omega),IntKind.wrap_u32]
 have hx:0<=(v.getD (j/4) 0+w.getD (j/4) 0)%4294967296/\(v.getD (j/4) 0+w.getD (j/4) 0)%4294967296<4294967296:=by omega
 generalize (v.getD (j/4) 0+w.getD (j/4) 0)%4294967296=x at hx
 have qi:∀ y:Int,0<=y/\y<4294967296->IntKind.i64.wrap (y.tdiv 256)=y/256:=fun y hy=>by rw [Int.tdiv_eq_ediv_of_nonneg hy.1,IntWalk.i64_in _ (by omega)]
 have rm:∀ y:Int,0<=y->IntKind.u8.wrap (y.tmod 256)=y%256:=fun y hy=>by rw [Int.tmod_eq_emod_of_nonneg hy,IntWalk.u8_in _ (by omega)]
 have sh:∀ m:Nat,m<=32->cE .u32 x (m:Int)=x/2^m:=fun m hm=>by
  unfold cE
  rw [show IntKind.u32.bits=32 from rfl,Int.toNat_natCast,Nat.min_eq_left hm,Int.fdiv_eq_ediv_of_nonneg _ (by exact Int.le_of_lt (Int.pow_pos (by omega)))]
 rcases (by omega:j%4=0\/j%4=1\/j%4=2\/j%4=3) with h | h | h | h <;> rw [h]
 .rw [show IntKind.i64.wrap (8*((0:Nat):Int))=((0:Nat):Int) from by decide,sh 0 (by omega),IntKind.wrap_u8]
  simp only [R.xH,rm x hx.1,Int.pow_zero,Int.ediv_one]
 .rw [show IntKind.i64.wrap (8*((1:Nat):Int))=((8:Nat):Int) from by decide,sh 8 (by omega),IntKind.wrap_u8]
  simp only [R.xH,qi x hx]
  rw [rm _ (by omega)]
  rfl
 .rw [show IntKind.i64.wrap (8*((2:Nat):Int))=((16:Nat):Int) from by decide,sh 16 (by omega),IntKind.wrap_u8]
  simp only [R.xH,qi x hx]
  rw [qi _ (by omega),rm _ (by omega),show ((2:Int)^16)=65536 from rfl]
  omega
 .rw [show IntKind.i64.wrap (8*((3:Nat):Int))=((24:Nat):Int) from by decide,sh 24 (by omega),IntKind.wrap_u8]
  simp only [R.xH,qi x hx]
  rw [qi (x/256) (by omega),qi _ (by omega),rm _ (by omega),show ((2:Int)^24)=16777216 from rfl]
  omega
theorem MZ {key nonce:List Int} {c:Int} (hk:bG key) (hn:bG nonce) (hc:W c):B.block key nonce c=R.block key nonce c:=by
 obtain ⟨h1,h2⟩:=aHh hk hn hc
 obtain ⟨h3,h4⟩:=HZ h2 10
 unfold B.block R.block
 rw [h1,h3]
 exact aOo h4 h2
namespace M
theorem bCa {m:Int} (hm:0<=m) {xs:List Int} (h:Ds m xs):V xs<=m*256^xs.length:=by
 have:∀ n,vs (fun i=>xs.getD i 0) n<=m*256^n:=by
  intro n
  induction n with
  | zero=>simp [vs];exact hm
  | succ n ih=>
    rw [iQ,Int.pow_succ]
    have a:=h.get hm n
    have c:(0:Int)<256^n:=Int.pow_pos (by omega)
    have b:256^n*xs.getD n 0<=256^n*m:=Int.mul_le_mul_of_nonneg_left a.2 (Int.le_of_lt c)
    have d:0<=m*256^n:=Int.mul_nonneg hm (Int.le_of_lt c)
    have e:m*(256^n*256)=256*(m*256^n):=by rw [Int.mul_comm (256^n) 256,Int.mul_left_comm]
    have f:256^n*m=m*256^n:=Int.mul_comm _ _
    omega
 exact this xs.length
theorem GF (n:Int):∀ k:Nat,vs (fun i=>n/256^i%256) k=n%256^k:=by
 intro k
 induction k with
 | zero=>simp [vs,Int.emod_one]
 | succ k ih=>
   rw [iQ,ih,Int.pow_succ]
   have c:(0:Int)<256^k:=Int.pow_pos (by omega)
   have h1:=Int.emod_add_mul_ediv n (256^k)
   have h2:=Int.emod_nonneg n (show (256:Int)^k≠0 by omega)
   have h3:=Int.emod_lt_of_pos n c
   have h4:=Int.emod_add_mul_ediv (n/256^k) 256
   have h5:=Int.emod_nonneg (n/256^k) (show (256:Int)≠0 by omega)
   have h6:=Int.emod_lt_of_pos (n/256^k) (show (0:Int)<256 by omega)
   generalize n/256^k%256=s at *
   generalize n/256^k/256=q at *
   generalize n%256^k=r at *
   have e:n=(r+256^k*s)+256^k*256*q:=by
    rw [<- h1,<- h4,Int.mul_add,Int.mul_assoc];omega
   have l:r+256^k*s<256^k*256:=by
    have:256^k*s<=256^k*255:=Int.mul_le_mul_of_nonneg_left (by omega) (Int.le_of_lt c)
    omega
   have l0:0<=r+256^k*s:=by
    have:0<=256^k*s:=Int.mul_nonneg (Int.le_of_lt c) h5
    omega
   have:n%(256^k*256)=r+256^k*s:=by
    rw [e,Int.add_mul_emod_self_left,Int.emod_eq_of_lt l0 l]
   exact this.symm
theorem aTf {n:Int} (h0:0<=n) (h:n<256^17):V (num n)=n:=by
 unfold num
 rw [Lt,GF,Int.emod_eq_of_lt h0 h]
theorem Qr (n:Int):Ds 255 (num n):=by
 intro x hx
 simp only [num,List.mem_map] at hx
 obtain ⟨i,_,rfl⟩:=hx
 omega
theorem take_drop {Y:List Int} {n:Nat} (h:Y.length=n):(Y.drop 0).take n=Y:=by rw [List.drop_zero,<- h,List.take_length]
end M
theorem Iu {n:Nat} {Y:List Int} (hl:Y.length=n) (hn:n<=100) {m:Int} (hm:0<=m) (NT:m<=1099511627776) (hd:Ds m Y) (hc:(M.carried Y).length<=33):∀ q∈BM n Y,q:=by
 refine aA ?_
 unfold BM
 simp only [aO,M.take_drop hl,M.jX,hl,Nat.le_refl,and_true,true_and]
 exact ⟨hn,fun x hx=>by have:=hd x hx;omega,hc⟩
theorem Gi {Y:List Int} (hl:Y.length=17) {m:Int} (hm:0<=m) (NT:m<=1099511627776) (hd:Ds m Y):(M.carried Y).length<=33:=by
 have:=M.nI Y 16 hm hd (by
  have a:=M.bCa hm hd
  rw [hl] at a |-
  have:m*256^17<=1099511627776*256^17:=Int.mul_le_mul_of_nonneg_right NT (by decide)
  have:(1099511627776:Int)*256^17<256^(17+16):=by decide
  omega)
 rw [hl] at this
 exact this
theorem bG.Ds {b:List Int} (h:bG b):Ds 255 b:=fun x hx=>by have:=h x hx;unfold Bt at this;omega
theorem YM {b:List Int} (hb:bG b) (hl:b.length=17):M.QY b=b:=by
 rw [<- xT hl]
 unfold M.QY iH
 refine List.map_congr_left fun j hj=>?_
 have hj:j<17:=by simpa using hj
 have e:(List.map (fun j=>b.getD j 0) (List.range 17)).getD j 0=b.getD j 0:=by simp [List.getD_eq_getElem?_getD,hj]
 rw [e]
 have:=hb.get j
 unfold Bt at this
 exact IntWalk.i64_in _ (by omega)
theorem UT (b:List Int) (hb:bG b) (hl:b.length=17) (Γ:Env) (hg:Γ.aU=aB):aD Tryz.prog Γ 146 [.ai .u8 b] (fun l=>look l []) 100 100 { val:=.ai .i64 (M.num (M.V b%M.p)) }:=by
 have hs:aH Tryz.prog Γm 146 (aR Γm Tryz.f146 true [] 400):=aY Bq Br mix Tryz.func146 (by kernel_rfl) true [] 400
 have e:=YM hb hl
 have hr:=aHb b;try simp only [sh] at hr
 rw [e,M.take_drop hl] at hr
 refine (hs.call hr (Iu hl (by omega) (m:=255) (by omega) (by omega) hb.Ds (Gi hl (by omega) (by omega) hb.Ds))).words (by rw [hg];rfl) (fun V=>?_) (fun _ _ h=>by cases h) (fun _=>rfl) rfl rfl
 simp only [aJ,cF V hl]
theorem YP {a b:List Int} (ha:Ds 255 a) (hb:Ds 255 b) (cX:a.length=17) (dH:b.length=17):(M.Ky a b).length=17/\Ds 510 (M.Ky a b)/\M.V (M.Ky a b)=M.V a+M.V b:=by
 have hw:∀ j,IntKind.i64.wrap (a.getD j 0+b.getD j 0)=a.getD j 0+1*b.getD j 0:=fun j=>by
  have:=ha.get (by omega) j
  have:=hb.get (by omega) j
  rw [IntWalk.i64_in _ (by omega)];omega
 refine ⟨by simp [M.Ky],fun x hx=>?_,?_⟩
 .simp only [M.Ky,List.mem_map] at hx
  obtain ⟨j,_,rfl⟩:=hx
  rw [hw]
  have:=ha.get (by omega) j
  have:=hb.get (by omega) j
  omega
 .unfold M.Ky
  rw [M.Lt,M.iO (g:=fun j=>a.getD j 0+1*b.getD j 0) fun j _=>hw j,M.Hs,M.Ay a 17 (by omega),M.Ay b 17 (by omega)]
  omega
theorem UU (a b:List Int) (ha:Ds 255 a) (hb:Ds 255 b) (cX:a.length=17) (dH:b.length=17) (Γ:Env) (hg:Γ.aU=aB) :
 aD Tryz.prog Γ 145 [.ai .i64 a,.ai .i64 b] (fun l=>look l []) 100 100 { val:=.ai .i64 (M.num ((M.V a+M.V b)%M.p)) }:=by
 have hs:aH Tryz.prog Γm 145 (aR Γm Tryz.f145 true [] 400):=aY Bq Br mix Tryz.func145 (by kernel_rfl) true [] 400
 obtain ⟨h1,h2,h3⟩:=YP ha hb cX dH
 have hr:=aHc a b;try simp only [sh] at hr
 rw [M.take_drop h1,h3] at hr
 refine (hs.call hr (Iu h1 (by omega) (m:=510) (by omega) (by omega) h2 (Gi h1 (by omega) (by omega) h2))).words (by rw [hg];rfl) (fun V=>?_) (fun _ _ h=>by cases h) (fun _=>rfl) rfl rfl
 simp only [aJ,cF V cX,cF V dH]
namespace M
theorem aTe {d:List Int} {j:Nat} (hj:j<d.length) (x:Int):V (d.set j x)=V d+256^j*(x-d.getD j 0):=by
 have e1:=Ay (d.set j x) (j+(d.length-j)) (by simp;omega)
 have e2:=Ay d (j+(d.length-j)) (by omega)
 obtain ⟨m,hm⟩:∃ m,d.length-j=m+1:=⟨d.length-j-1,by omega⟩
 rw [hm] at e1 e2
 rw [<- e1,<- e2,pB (fun i=>(d.set j x).getD i 0) (m+1) j,pB (fun i=>d.getD i 0) (m+1) j,
  show vs (fun i=>(d.set j x).getD (j+i) 0) (m+1)=(d.set j x).getD (j+0) 0+256*vs (fun i=>(d.set j x).getD (j+(i+1)) 0) m from rfl,
  show vs (fun i=>d.getD (j+i) 0) (m+1)=d.getD (j+0) 0+256*vs (fun i=>d.getD (j+(i+1)) 0) m from rfl]
 have a1:vs (fun i=>(d.set j x).getD i 0) j=vs (fun i=>d.getD i 0) j:=iO fun i hi=>by
  rw [List.getD_eq_getElem?_getD,List.getElem?_set_ne (by omega),<- List.getD_eq_getElem?_getD]
 have a2:vs (fun i=>(d.set j x).getD (j+(i+1)) 0) m=vs (fun i=>d.getD (j+(i+1)) 0) m:=iO fun i _=>by
  rw [List.getD_eq_getElem?_getD,List.getElem?_set_ne (by omega),<- List.getD_eq_getElem?_getD]
 have a3:(d.set j x).getD (j+0) 0=x:=by simp [List.getD_eq_getElem?_getD,hj]
 rw [a1,a2,a3,Nat.add_zero]
 generalize vs (fun i=>d.getD (j+(i+1)) 0) m=y
 rw [Int.mul_add,Int.mul_add,Int.mul_sub]
 omega
theorem Fw {a b:List Int} (ha:Ds 255 a) (hb:Ds 255 b) {i:Nat} (hi:i<17) {m:Int} (hm:0<=m) (NT:m<=1099511627776) {d:List Int} (hl:d.length=33) (hd:Ds m d):∀ k:Nat,k<=17 ->
 (eN a b i k d).length=33/\(∀ j,(eN a b i k d).getD j 0<=d.getD j 0+(if i<=j/\j<i+k then 65025 else 0)/\0<=(eN a b i k d).getD j 0)/\V (eN a b i k d)=V d+256^i*(a.getD i 0*vs (fun k=>b.getD k 0) k)
 | 0,_=>⟨hl,fun j=>by
  have:=hd.get hm j
  simp only [eN]
  split <;> omega,by simp [eN,vs]⟩
 | k+1,hk=>by
   obtain ⟨h1,h2,h3⟩:=Fw ha hb hi hm NT hl hd k (by omega)
   have ba:=ha.get (by omega) i
   have bb:=hb.get (by omega) k
   have Zv:0<=a.getD i 0*b.getD k 0:=Int.mul_nonneg ba.1 bb.1
   have Oq:a.getD i 0*b.getD k 0<=65025:=by
    have:a.getD i 0*b.getD k 0<=255*255:=Int.mul_le_mul ba.2 bb.2 bb.1 (by omega)
    omega
   have hx:=h2 (i+k)
   have hdk:=hd.get hm (i+k)
   rw [if_neg (by omega)] at hx
   have hw:IntKind.i64.wrap ((eN a b i k d).getD (i+k) 0+IntKind.i64.wrap (a.getD i 0*b.getD k 0))=(eN a b i k d).getD (i+k) 0+a.getD i 0*b.getD k 0:=by
    rw [IntWalk.i64_in (a.getD i 0*b.getD k 0) (by omega),IntWalk.i64_in _ (by omega)]
   unfold eN
   rw [hw]
   refine ⟨by rw [List.length_set];exact h1,fun j=>?_,?_⟩
   .by_cases e:i+k=j
    .subst e
     have:((eN a b i k d).set (i+k) ((eN a b i k d).getD (i+k) 0+a.getD i 0*b.getD k 0)).getD (i+k) 0=(eN a b i k d).getD (i+k) 0+a.getD i 0*b.getD k 0:=by
      rw [List.getD_eq_getElem?_getD,List.getElem?_set_self (by omega)];rfl
     rw [this,if_pos (by omega)]
     omega
    .have:((eN a b i k d).set (i+k) ((eN a b i k d).getD (i+k) 0+a.getD i 0*b.getD k 0)).getD j 0=(eN a b i k d).getD j 0:=by
      rw [List.getD_eq_getElem?_getD,List.getElem?_set_ne e,<- List.getD_eq_getElem?_getD]
     rw [this]
     have:=h2 j
     split at this
     .rw [if_pos (by omega)];exact this
     .split <;> omega
   .rw [aTe (by omega),h3,iQ]
    have e1:(eN a b i k d).getD (i+k) 0+a.getD i 0*b.getD k 0-(eN a b i k d).getD (i+k) 0=a.getD i 0*b.getD k 0:=by omega
    rw [e1,Int.pow_add,Int.mul_add,Int.mul_add,Int.mul_assoc,Int.mul_left_comm (256^k)]
    omega
theorem Ul {a b:List Int} (ha:Ds 255 a) (hb:Ds 255 b) (dH:b.length=17):∀ i:Nat,i<=17 ->
 (mulL a b i).length=33/\Ds (65025*i) (mulL a b i)/\V (mulL a b i)=vs (fun i=>a.getD i 0) i*V b
 | 0,_=>by
   refine ⟨by simp [mulL],fun x hx=>?_,?_⟩
   .simp only [mulL,List.mem_replicate] at hx;omega
   .have:V (List.replicate 33 0)=0:=by decide
    show V (List.replicate 33 0)=vs _ 0*V b
    rw [this,vs,Int.zero_mul]
 | i+1,hi=>by
   obtain ⟨h1,h2,h3⟩:=Ul ha hb dH i (by omega)
   obtain ⟨g1,g2,g3⟩:=Fw ha hb (i:=i) (by omega) (m:=65025*i) (by omega) (by omega) h1 h2 17 (by omega)
   refine ⟨g1,fun x hx=>?_,?_⟩
   .obtain ⟨j,hj,rfl⟩:=List.getElem_of_mem hx
    have:=g2 j
    have hd:=h2.get (by omega) j
    have e:(eN a b i 17 (mulL a b i)).getD j 0=(eN a b i 17 (mulL a b i))[j]:=by rw [List.getD_eq_getElem?_getD];exact congrArg (·.getD 0) (List.getElem?_eq_getElem hj)
    show 0<=(eN a b i 17 (mulL a b i))[j]/\(eN a b i 17 (mulL a b i))[j]<=65025*((i+1:Nat):Int)
    rw [<- e]
    split at this <;> omega
   .show V (eN a b i 17 (mulL a b i))=_
    rw [g3,h3,Ay b 17 (by omega),iQ (fun i=>a.getD i 0) i,Int.add_mul,Int.mul_assoc]
end M
theorem UR (a b:List Int) (ha:Ds 255 a) (hb:Ds 255 b) (cX:a.length=17) (dH:b.length=17) (hv:M.V a*M.V b<256^33) (Γ:Env) (hg:Γ.aU=aB) :
 aD Tryz.prog Γ 144 [.ai .i64 a,.ai .i64 b] (fun l=>look l []) 100 100 { val:=.ai .i64 (M.num (M.V a*M.V b%M.p)) }:=by
 have hs:aH Tryz.prog Γm 144 (aR Γm Tryz.f144 true [] 400):=aY Bq Br mix Tryz.func144 (by kernel_rfl) true [] 400
 obtain ⟨h1,h2,h3⟩:=M.Ul ha hb dH 17 (by omega)
 rw [M.Ay a 17 (by omega)] at h3
 have hr:=aGt a b;try simp only [sh] at hr
 rw [M.take_drop h1,h3] at hr
 have hc:(M.carried (M.mulL a b 17)).length<=33:=by
  have:=M.nI (M.mulL a b 17) 0 (by omega) h2 (by rw [h1,h3];exact hv)
  rwa [h1] at this
 refine (hs.call hr (Iu h1 (by omega) (m:=65025*(17:Nat)) (by omega) (by omega) h2 hc)).words (by rw [hg];rfl) (fun V=>?_) (fun _ _ h=>by cases h) (fun _=>rfl) rfl rfl
 simp only [aJ,cF V cX,cF V dH]
theorem US (b:List Int) (hl:b.length=16) (Γ:Env) (hg:Γ.aU=aB):aD Tryz.prog Γ 143 [.ai .u8 b] (fun l=>look l []) 100 100 { val:=.ai .i64 (M.lB b++[0]) }:=by
 have hs:aH Tryz.prog Γm 143 (aR Γm Tryz.f143 true [] 400):=aY Bq Br mix Tryz.func143 (by kernel_rfl) true [] 400
 refine (hs.call (aHa b) (by simp)).words (by rw [hg];rfl) (fun V=>?_) (fun _ _ h=>by cases h) (fun V=>?_) rfl rfl
 .simp only [aJ,cF V hl]
 .have:=cJ (lT V .i64 (M.lB b)) (show aJ V [.int true .i64 0]=some [.int .i64 0] from rfl)
  simp only [den,this,Option.map_some,List.map_append,List.map_cons,List.map_nil]
theorem UQ (a s:List Int) (cX:a.length=17) (AN:s.length=16) (Γ:Env) (hg:Γ.aU=aB):aD Tryz.prog Γ 147 [.ai .i64 a,.ai .u8 s] (fun l=>look l []) 100 100 { val:=.ai .u8 (M.Dy a s) }:=by
 have hs:aH Tryz.prog Γm 147 (aR Γm Tryz.f147 true [] 400):=aY Bq Br mix Tryz.func147 (by kernel_rfl) true [] 400
 refine (hs.call (aGs a s) (by simp)).words (by rw [hg];rfl) (fun V=>?_) (fun _ _ h=>by cases h) (fun V=>pO V _ _) rfl rfl
 simp only [aJ,cF V cX,cF V AN]
def DZ (vs:List SV) (_:bA):Option Canon:=match vs with
 | [v]=>match cY v with
   | some (.u8,b)=>some { eR:=[.ai .u8 b],T0:=[],vl:=[],e0:={ val:=.ai .i64 (M.num (M.V b%M.p)) },conds:=[bG b,b.length=17] }
   | _=>none
 | _=>none
def DY (vs:List SV) (_:bA):Option Canon:=match vs with
 | [v]=>match cY v with
   | some (.u8,b)=>some { eR:=[.ai .u8 b],T0:=[],vl:=[],e0:={ val:=.ai .i64 (M.lB b++[0]) },conds:=[b.length=16] }
   | _=>none
 | _=>none
def EA (vs:List SV) (_:bA):Option Canon:=match vs with
 | [v,u]=>match cY v,cY u with
   | some (.i64,a),some (.i64,b)=>some { eR:=[.ai .i64 a,.ai .i64 b],T0:=[],vl:=[],e0:={ val:=.ai .i64 (M.num ((M.V a+M.V b)%M.p)) },conds:=[Ds 255 a,Ds 255 b,a.length=17,b.length=17] }
   | _,_=>none
 | _=>none
def DW (vs:List SV) (_:bA):Option Canon:=match vs with
 | [v,u]=>match cY v,cY u with
   | some (.i64,a),some (.i64,b)=>some { eR:=[.ai .i64 a,.ai .i64 b],T0:=[],vl:=[],e0:={ val:=.ai .i64 (M.num (M.V a*M.V b%M.p)) },conds:=[Ds 255 a,Ds 255 b,a.length=17,b.length=17,M.V a*M.V b<256^33] }
   | _,_=>none
 | _=>none
def DV (vs:List SV) (_:bA):Option Canon:=match vs with
 | [v,u]=>match cY v,cY u with
   | some (.i64,a),some (.u8,s)=>some { eR:=[.ai .i64 a,.ai .u8 s],T0:=[],vl:=[],e0:={ val:=.ai .u8 (M.Dy a s) },conds:=[a.length=17,s.length=16] }
   | _,_=>none
 | _=>none
theorem aPf (Γ:Env) (hg:Γ.aU=aB):aH Tryz.prog Γ 146 (aK aB 100 DZ):=by
 refine aT hg fun vs T c hd hc=>?_
 unfold DZ at hd
 split at hd
 case h_2=>cases hd
 split at hd
 case h_2=>cases hd
 cases hd
 exact UT _ (hc _ (by simp)) (hc _ (by simp)) Γ hg
theorem aPe (Γ:Env) (hg:Γ.aU=aB):aH Tryz.prog Γ 143 (aK aB 100 DY):=by
 refine aT hg fun vs T c hd hc=>?_
 unfold DY at hd
 split at hd
 case h_2=>cases hd
 split at hd
 case h_2=>cases hd
 cases hd
 exact US _ (hc _ (by simp)) Γ hg
theorem aPg (Γ:Env) (hg:Γ.aU=aB):aH Tryz.prog Γ 145 (aK aB 100 EA):=by
 refine aT hg fun vs T c hd hc=>?_
 unfold EA at hd
 split at hd
 case h_2=>cases hd
 split at hd
 case h_2=>cases hd
 cases hd
 exact UU _ _ (hc _ (by simp)) (hc _ (by simp)) (hc _ (by simp)) (hc _ (by simp)) Γ hg
theorem aPa (Γ:Env) (hg:Γ.aU=aB):aH Tryz.prog Γ 144 (aK aB 100 DW):=by
 refine aT hg fun vs T c hd hc=>?_
 unfold DW at hd
 split at hd
 case h_2=>cases hd
 split at hd
 case h_2=>cases hd
 cases hd
 exact UR _ _ (hc _ (by simp)) (hc _ (by simp)) (hc _ (by simp)) (hc _ (by simp)) (hc _ (by simp)) Γ hg
theorem aOz (Γ:Env) (hg:Γ.aU=aB):aH Tryz.prog Γ 147 (aK aB 100 DV):=by
 refine aT hg fun vs T c hd hc=>?_
 unfold DV at hd
 split at hd
 case h_2=>cases hd
 split at hd
 case h_2=>cases hd
 cases hd
 exact UQ _ _ (hc _ (by simp)) (hc _ (by simp)) Γ hg
def ex7 (f:Nat):Option Sum:=match Nat.beq f 146 with
 | true=>some (aK aB 100 DZ)
 | false=>match Nat.beq f 145 with
   | true=>some (aK aB 100 EA)
   | false=>match Nat.beq f 144 with
     | true=>some (aK aB 100 DW)
     | false=>match Nat.beq f 143 with
       | true=>some (aK aB 100 DY)
       | false=>match Nat.beq f 147 with
         | true=>some (aK aB 100 DV)
         | false=>fF f
theorem aIs (f:Nat) (S:Sum) (h:ex7 f=some S) (Γ:Env) (hg:Γ.aU=aB):aH Tryz.prog Γ f S:=by
 unfold ex7 at h
 split at h
 .rename_i hb;have:=Nat.eq_of_beq_eq_true hb;subst this;cases h;exact aPf Γ hg
 split at h
 .rename_i hb;have:=Nat.eq_of_beq_eq_true hb;subst this;cases h;exact aPg Γ hg
 split at h
 .rename_i hb;have:=Nat.eq_of_beq_eq_true hb;subst this;cases h;exact aPa Γ hg
 split at h
 .rename_i hb;have:=Nat.eq_of_beq_eq_true hb;subst this;cases h;exact aPe Γ hg
 split at h
 .rename_i hb;have:=Nat.eq_of_beq_eq_true hb;subst this;cases h;exact aOz Γ hg
 .exact lA f S h Γ
noncomputable def Γ7:Env:=env ex7 3
theorem GB:bX Tryz.prog Γ7:=bJ ex7 aIs 3
theorem GA:cG Tryz.prog Γ7:=bH ex7 3
def PW (key:List Int) (n:Nat):List SV:=[.agg (cQ .u8 32 key),.dX 61 n]
def NJ (xs:List Int):bA:=fun l=>look l [(61,.dK .u8 xs)]
noncomputable def aAa:Option jA:=cA Γ7 (aC 100 (NJ [])) 100 Tryz.f116.ntmps [11] 100 400 (.go (codeOf Tryz.f116)) [] (gU (PW [] 0) 100)
noncomputable def Pp:Code:=match aAa with
 | some ⟨.go (.loop L),_,_⟩=>L
 | _=>.skip
noncomputable def aKn:List Fr:=match aAa with
 | some ⟨_,K,_⟩=>K
 | _=>[]
def Ov (n:Nat) (i:Int):List (Nat × SV):=[(1,.dX 61 n),(4,.ptr 100 true 0),(6,.ptr 101 true 0),(8,.ptr 102 true 0),(9,.ptr 103 true 0),(10,.int false .i64 i)]
def Ou (sk cl ac:List Int):List (Nat × SB):=[(100,.own (List.replicate 16 (.int true .u8 0)) 105),(101,.ints .u8 sk 104),(102,.ints .i64 cl 190),(103,.ints .i64 ac 190)]
theorem aTs (key data sk cl ac:List Int) (n:Nat) (i:Int) :
 (gD 100 (aC 100 (NJ data)) [] (Ov n i) (Ou sk cl ac) 104 [] [] (cA Γ7 (aC 100 (NJ data)) 100 Tryz.f116.ntmps [11] 100 400 (.go (codeOf Tryz.f116)) [] ((gU (PW key n) 100).hint []))) =
 sh (0:Int) fun z0=>
 some (.go (.loop Pp),aKn,[(M.lB [key.getD 0 z0,key.getD 1 z0,key.getD 2 z0,key.getD 3 z0,key.getD 4 z0,key.getD 5 z0,key.getD 6 z0,key.getD 7 z0,key.getD 8 z0,key.getD 9 z0,key.getD 10 z0,key.getD 11 z0,key.getD 12 z0,key.getD 13 z0,key.getD 14 z0,key.getD 15 z0]++[z0]).length=(17:Nat),[key.getD 0 z0,key.getD 1 z0,key.getD 2 z0,key.getD 3 z0,key.getD 4 z0,key.getD 5 z0,key.getD 6 z0,key.getD 7 z0,key.getD 8 z0,key.getD 9 z0,key.getD 10 z0,key.getD 11 z0,key.getD 12 z0,key.getD 13 z0,key.getD 14 z0,key.getD 15 z0].length=(16:Nat),[key.getD 0 z0,key.getD 1 z0,key.getD 2 z0,key.getD 3 z0,key.getD 4 z0,key.getD 5 z0,key.getD 6 z0,key.getD 7 z0,key.getD 8 z0,key.getD 9 z0,key.getD 10 z0,key.getD 11 z0,key.getD 12 z0,key.getD 13 z0,key.getD 14 z0,key.getD 15 z0]=[key.getD 0 z0,key.getD 1 z0,key.getD 2 z0,key.getD 3 z0,key.getD 4 z0,key.getD 5 z0,key.getD 6 z0,key.getD 7 z0,key.getD 8 z0,key.getD 9 z0,key.getD 10 z0,key.getD 11 z0,key.getD 12 z0,key.getD 13 z0,key.getD 14 z0,key.getD 15 z0],n=n,z0=i,[key.getD 16 z0,key.getD 17 z0,key.getD 18 z0,key.getD 19 z0,key.getD 20 z0,key.getD 21 z0,key.getD 22 z0,key.getD 23 z0,key.getD 24 z0,key.getD 25 z0,key.getD 26 z0,key.getD 27 z0,key.getD 28 z0,key.getD 29 z0,key.getD 30 z0,key.getD 31 z0]=sk/\(104:Nat)=(104:TypeId),M.lB [key.getD 0 z0,key.getD 1 z0,key.getD 2 z0,key.getD 3 z0,key.getD 4 z0,key.getD 5 z0,key.getD 6 z0,key.getD 7 z0,key.getD 8 z0,key.getD 9 z0,key.getD 10 z0,key.getD 11 z0,key.getD 12 z0,key.getD 13 z0,key.getD 14 z0,key.getD 15 z0]++[z0]=cl/\(190:Nat)=(190:TypeId),[z0,z0,z0,z0,z0,z0,z0,z0,z0,z0,z0,z0,z0,z0,z0,z0,z0]=ac/\(190:Nat)=(190:TypeId)]):=by kernel_rfl
theorem aTp (data sk cl ac:List Int) (n:Nat) (i:Int) :
 gD 100 (aC 100 (NJ data)) [] (Ov n i) (Ou sk cl ac) 104 [] [] (cA Γ7 (aC 100 (NJ data)) 100 Tryz.f116.ntmps [11] 100 400 (.go Pp) [] ((aN (Ov n i) (Ou sk cl ac) 104 [] []).hint [false])) =
 sh (190:TypeId) fun z0=>
 some (Cf.at (Ex.exit 2),[],[decide (i<(↑n:Int))=false,n=n,i=i,sk=sk/\(104:TypeId)=(104:TypeId),cl=cl/\z0=z0,ac=ac/\z0=z0]):=by kernel_rfl
theorem aTr (data sk cl ac:List Int) (n:Nat) (i:Int) :
 rZ Γ7 (NJ data) 100 100 Tryz.f116 (cA Γ7 (aC 100 (NJ data)) 100 Tryz.f116.ntmps [11] 100 400 (.at (.exit 2)) aKn ((aN (Ov n i) (Ou sk cl ac) 104 [] []).hint [])) =
 sh (M.Dy ac sk) fun z0=>
 sh (16:Nat) fun z1=>
 some {bV:=[z0.length=z1,z0.length=z1,ac.length=(17:Nat),sk.length=z1,ac=ac,sk=sk,sk.length=z1,ac.length=(17:Nat)],val:=SV.ai IntKind.u8 z0}:=by kernel_rfl
namespace M
def bB (data:List Int) (i:Int) (m:Nat):List Int:=((List.range m).map fun j:Nat=>data.getD (IntKind.i64.wrap (i+(j:Int))).toNat 0)++1::List.replicate (16-m) 0
def YT (Y:List Int):List Int:=num (V Y%p)
def stW (Y ac:List Int):List Int:=num ((V ac+V (YT Y))%p)
def stZ (Y ac cl:List Int):List Int:=num (V (stW Y ac)*V cl%p)
end M
def PX (data:List Int) (n:Nat) (i:Int):Nat->List Prop
 | 0=>[]
 | k+1=>((IntKind.i64.wrap (i+(k:Int))).toNat<data.length)::(0<=IntKind.i64.wrap (i+(k:Int))/\IntKind.i64.wrap (i+(k:Int))<(n:Int))::(decide (IntKind.i64.wrap (i+(k:Int))<(n:Int))=true)::PX data n i k
def aBz (data sk cl ac Et:List Int) (n:Nat) (i i':Int) (m:Nat):List Prop:=
 sh (M.bB data i m) fun z0=>
 sh (M.stW z0 ac) fun z1=>
 [(M.stZ z0 ac cl).length=17/\ac.length=17,Ds 255 z1,Ds 255 cl,z1.length=17,cl.length=17,M.V z1*M.V cl<256^33,M.stW z0 ac=M.stW z0 ac,cl=cl,cl.length=17,Ds 255 ac,Ds 255 (M.YT z0),ac.length=17,(M.YT z0).length=17,ac=ac,M.YT z0=M.YT z0,bG z0,z0.length=17,M.bB data i m=M.bB data i m,ac.length=17]++((match m with | 16=>[] | m=>[decide (IntKind.i64.wrap (i+(m:Int))<(n:Int))=false])++(PX data n i m++[decide (i<(n:Int))=true,n=n,IntKind.i64.wrap (i+16)=i',sk=sk/\104=104,cl=cl/\190=190,M.stZ z0 ac cl=Et/\190=190]))
def aTt (m:Nat):List Bool:=true::(List.replicate m true++match m with
 | 16=>[]
 | _=>[false])
def Kh (m:Nat):Prop:=∀ (data sk cl ac Et:List Int) (n:Nat) (i i':Int),gD 100 (aC 100 (NJ data)) [] (Ov n i') (Ou sk cl Et) 104 [] [] (cA Γ7 (aC 100 (NJ data)) 100 Tryz.f116.ntmps [11] 100 400 (.go Pp) [] ((aN (Ov n i) (Ou sk cl ac) 104 [] []).hint (aTt m))) =
 some (.at .normal,[],aBz data sk cl ac Et n i i' m)
theorem aNk:Kh 1:=fun data sk cl ac Et n i i'=>by kernel_rfl
theorem aNj:Kh 2:=fun data sk cl ac Et n i i'=>by kernel_rfl
theorem aNi:Kh 3:=fun data sk cl ac Et n i i'=>by kernel_rfl
theorem aNh:Kh 4:=fun data sk cl ac Et n i i'=>by kernel_rfl
theorem aNg:Kh 5:=fun data sk cl ac Et n i i'=>by kernel_rfl
theorem aNf:Kh 6:=fun data sk cl ac Et n i i'=>by kernel_rfl
theorem aNe:Kh 7:=fun data sk cl ac Et n i i'=>by kernel_rfl
theorem aNd:Kh 8:=fun data sk cl ac Et n i i'=>by kernel_rfl
theorem aNc:Kh 9:=fun data sk cl ac Et n i i'=>by kernel_rfl
theorem aEc:Kh 10:=fun data sk cl ac Et n i i'=>by kernel_rfl
theorem aEb:Kh 11:=fun data sk cl ac Et n i i'=>by kernel_rfl
theorem aEa:Kh 12:=fun data sk cl ac Et n i i'=>by kernel_rfl
theorem aDz:Kh 13:=fun data sk cl ac Et n i i'=>by kernel_rfl
theorem aDy:Kh 14:=fun data sk cl ac Et n i i'=>by kernel_rfl
theorem aDx:Kh 15:=fun data sk cl ac Et n i i'=>by kernel_rfl
theorem aDw:Kh 16:=fun data sk cl ac Et n i i'=>by kernel_rfl
theorem aTq (m:Nat) (h1:1<=m) (h2:m<=16):Kh m:=by
 rcases (by omega:m=1\/m=2\/m=3\/m=4\/m=5\/m=6\/m=7\/m=8\/m=9\/m=10\/m=11\/m=12\/m=13\/m=14\/m=15\/m=16) with rfl | rfl | rfl | rfl | rfl | rfl | rfl | rfl | rfl | rfl | rfl | rfl | rfl | rfl | rfl | rfl
 .exact aNk
 .exact aNj
 .exact aNi
 .exact aNh
 .exact aNg
 .exact aNf
 .exact aNe
 .exact aNd
 .exact aNc
 .exact aEc
 .exact aEb
 .exact aEa
 .exact aDz
 .exact aDy
 .exact aDx
 .exact aDw
namespace M
def lo (key:List Int):List Int:=(List.range 16).map fun j=>key.getD j 0
def hi (key:List Int):List Int:=(List.range 16).map fun j=>key.getD (16+j) 0
def cl (key:List Int):List Int:=lB (lo key)++[0]
def acc (r:Int) (data:List Int):Nat->Int
 | 0=>0
 | j+1=>((acc r data j+V (bB data (16*(j:Int)) (min 16 (data.length-16*j))))*r)%p
def tag (key data:List Int):List Int:=Dy (num (acc (V (cl key)) data ((data.length+15)/16))) (hi key)
theorem Sp:0<p:=by decide
theorem aKh (r:Int) (data:List Int) (j:Nat):0<=acc r data j/\acc r data j<p:=by
 cases j with
 | zero=>exact ⟨Int.le_refl _,Sp⟩
 | succ j=>exact ⟨Int.emod_nonneg _ (by decide),Int.emod_lt_of_pos _ Sp⟩
theorem HM {n:Int} (h0:0<=n) (h:n<p):V (num n)=n:=aTf h0 (by
 have:p<256^17:=by decide
 omega)
theorem Ru (data:List Int) (i:Int) {m:Nat} (hm:m<=16):(bB data i m).length=17:=by simp [bB];omega
theorem Vb {data:List Int} (hd:bG data) (i:Int) (m:Nat):bG (bB data i m):=by
 intro x hx
 simp only [bB,List.mem_append,List.mem_map,List.mem_cons,List.mem_replicate] at hx
 rcases hx with ⟨j,_,rfl⟩ | rfl | ⟨_,rfl⟩
 .exact hd.get _
 .exact ⟨by decide,by decide⟩
 .exact ⟨by decide,by decide⟩
theorem Qp (x:Int):V (num (x%p))=x%p:=HM (Int.emod_nonneg _ (by decide)) (Int.emod_lt_of_pos _ Sp)
theorem GJ (Y:List Int) {a:Int} (h0:0<=a) (h:a<p):stW Y (num a)=num ((a+V Y)%p):=by
 unfold stW YT
 rw [Qp,HM h0 h,Int.add_emod_emod]
theorem aEf (Y c:List Int) {a:Int} (h0:0<=a) (h:a<p):stZ Y (num a) c=num (((a+V Y)*V c)%p):=by
 unfold stZ
 rw [GJ Y h0 h,Qp,Int.mul_emod,Int.emod_emod_of_dvd _ (Int.dvd_refl p),<- Int.mul_emod]
end M
theorem Ts {data:List Int} {i:Nat}:∀ m:Nat,i+m<=data.length->data.length<=1073741824->∀ q∈PX data data.length (i:Int) m,q
 | 0,_,_,q,hq=>by cases hq
 | m+1,h,hl,q,hq=>by
   have e:IntKind.i64.wrap ((i:Int)+(m:Int))=((i+m:Nat):Int):=by rw [IntWalk.i64_in _ (by omega)];omega
   simp only [PX,List.mem_cons,e] at hq
   rcases hq with rfl | rfl | rfl | hq
   .omega
   .omega
   .simp;omega
   .exact Ts m (by omega) hl q hq
theorem RK {data sk cl:List Int} (hd:bG data) (hl:data.length<=1073741824) (hc:Ds 255 cl) (sK:cl.length=17) (hcv:M.V cl<256^16) {j:Nat} (hj:16*j<data.length) {a:Int} (h0:0<=a) (ha:a<M.p) (m:Nat) (hm:m=min 16 (data.length-16*j)) :
 ∀ q∈aBz data sk cl (M.num a) (M.num (((a+M.V (M.bB data ((16*j:Nat):Int) m))*M.V cl)%M.p)) data.length ((16*j:Nat):Int) ((16*(j+1):Nat):Int) m,q:=by
 have aYc:m<=16:=by omega
 have hm1:1<=m:=by omega
 have hW:=M.GJ (M.bB data ((16*j:Nat):Int) m) h0 ha
 have hZ:=M.aEf (M.bB data ((16*j:Nat):Int) m) cl h0 ha
 have Gs:=M.Ru data ((16*j:Nat):Int) aYc
 have pT:=M.Vb hd ((16*j:Nat):Int) m
 have wA:=M.vK (by omega) hc
 have Ac:0<=(a+M.V (M.bB data ((16*j:Nat):Int) m))%M.p:=Int.emod_nonneg _ (by decide)
 have tL:(a+M.V (M.bB data ((16*j:Nat):Int) m))%M.p<M.p:=Int.emod_lt_of_pos _ M.Sp
 have aBj:M.V (M.stW (M.bB data ((16*j:Nat):Int) m) (M.num a))*M.V cl<256^33:=by
  rw [hW,M.Qp]
  have h1:(a+M.V (M.bB data ((16*j:Nat):Int) m))%M.p*M.V cl<=M.p*256^16:=Int.mul_le_mul (Int.le_of_lt tL) (Int.le_of_lt hcv) wA (by decide)
  have h2:M.p*256^16<256^33:=by decide
  omega
 have e16:IntKind.i64.wrap (((16*j:Nat):Int)+16)=((16*(j+1):Nat):Int):=by rw [IntWalk.i64_in _ (by omega)];omega
 intro q hq
 unfold aBz at hq
 rcases List.mem_append.1 hq with hq | hq
 .refine aA ?_ q hq
  simp only [aO,hZ,hW,M.jX,sK,Gs,and_true,true_and]
  rw [hW] at aBj
  exact ⟨M.Qr _,hc,aBj,M.Qr _,by unfold M.YT;exact M.Qr _,by unfold M.YT;exact M.jX _,pT⟩
 .rcases List.mem_append.1 hq with hq | hq
  .split at hq
   .cases hq
   .rename_i dP
    simp only [List.mem_singleton] at hq
    subst hq
    have cK:m<16:=by
     have:m≠16:=dP
     omega
    rw [IntWalk.i64_in _ (by omega)]
    simp;omega
  .rcases List.mem_append.1 hq with hq | hq
   .exact Ts m (by omega) hl q hq
   .refine aA ?_ q hq
    simp only [aO,hZ,e16,and_true]
    simp;omega
theorem aJy {b:List Int} (hb:bG b) (i:Nat):0<=M.tC b i/\M.tC b i<=255:=by
 have h:=hb.get i
 unfold Bt at h
 have hw:IntKind.i64.wrap (b.getD i 0)=b.getD i 0:=IntWalk.i64_in _ (by omega)
 unfold M.tC
 split
 .rw [hw,Int.tmod_eq_emod_of_nonneg h.1];omega
 .split
  .rw [hw];omega
  .rw [hw,Int.tmod_eq_emod_of_nonneg h.1,IntWalk.i64_in _ (by omega)];omega
 .rw [hw];omega
theorem aHe {key:List Int} (h:bG key):bG (M.lo key):=by
 intro x hx
 simp only [M.lo,List.mem_map] at hx
 obtain ⟨j,_,rfl⟩:=hx
 exact h.get j
theorem aTa {key:List Int} (h:bG key):Ds 255 (M.cl key)/\(M.cl key).length=17/\M.V (M.cl key)<256^16:=by
 have hc:∀ i,0<=M.tC (M.lo key) i/\M.tC (M.lo key) i<=255:=aJy (aHe h)
 refine ⟨fun x hx=>?_,by simp [M.cl,M.lB],?_⟩
 .simp only [M.cl,M.lB,List.mem_append,List.mem_map,List.mem_singleton] at hx
  rcases hx with ⟨j,_,rfl⟩ | rfl
  .exact hc j
  .omega
 .unfold M.cl
  rw [M.Cs]
  have:M.V [0]=0:=by decide
  rw [this]
  unfold M.lB
  rw [M.Lt]
  have:=M.Sg (f:=M.tC (M.lo key)) (n:=16) fun i _=>hc i
  omega
theorem IE:M.num 0=List.replicate 17 0:=by decide
set_option maxHeartbeats 2000000 in
theorem RJ (key data:List Int) (hk:bG key) (hd:bG data) (hl:data.length<=1073741824) :
 aD Tryz.prog Γ7 116 (PW key data.length) (NJ data) 100 100 { val:=.ai .u8 (M.tag key data) }:=by
 refine bU GA GB Tryz.func116 (by kernel_rfl) rfl (Nat.le_of_ble_eq_true (by kernel_rfl)) rfl [] ?_
 intro w0 Mx V0 Q hb H
 have aM:=GA
 have aE:=GB
 obtain ⟨c1,c2,c3⟩:=aTa hk
 have hhi:(M.hi key).length=16:=by simp [M.hi]
 refine G.gD aM aE mix hb [] (aTs key data (M.hi key) (M.cl key) (M.num 0) data.length 0) (aA ?_) ?_
 .simp only [aO,and_true,true_and]
  exact ⟨c2,rfl,rfl,rfl,IE.symm⟩
 refine G.loop (fun r s=>∃ j:Nat,j<=(data.length+15)/16/\r=(data.length+15)/16-j/\s=aN (Ov data.length ((16*j:Nat):Int)) (Ou (M.hi key) (M.cl key) (M.num (M.acc (M.V (M.cl key)) data j))) 104 [] []) (r0:=(data.length+15)/16) ⟨0,by omega,rfl,rfl⟩ ?_
 rintro r s ⟨j,hj,rfl,rfl⟩
 obtain ⟨a0,a1⟩:=M.aKh (M.V (M.cl key)) data j
 by_cases cK:16*j<data.length
 .refine G.eK aM aE mix hb _ (aTq (min 16 (data.length-16*j)) (by omega) (by omega) data (M.hi key) (M.cl key) (M.num (M.acc (M.V (M.cl key)) data j)) (M.num (M.acc (M.V (M.cl key)) data (j+1))) data.length ((16*j:Nat):Int) ((16*(j+1):Nat):Int)) ?_ ((data.length+15)/16-(j+1)) (by omega) ⟨j+1,by omega,rfl,rfl⟩
  exact RK hd hl c1 c2 c3 cK a0 a1 _ rfl
 .have hjj:j=(data.length+15)/16:=by omega
  have hx:∀ q∈[decide (((16*j:Nat):Int)<(data.length:Int))=false,data.length=data.length,((16*j:Nat):Int)=((16*j:Nat):Int),M.hi key=M.hi key/\104=104,M.cl key=M.cl key/\190=190,M.num (M.acc (M.V (M.cl key)) data j)=M.num (M.acc (M.V (M.cl key)) data j)/\190=190],q:=by
   refine aA ?_
   simp only [aO,and_true]
   exact decide_eq_false (by omega)
  refine G.gD aM aE mix hb [false] (aTp data (M.hi key) (M.cl key) (M.num (M.acc (M.V (M.cl key)) data j)) data.length ((16*j:Nat):Int)) hx (G.leave (fun h=>by cases h) ?_)
  refine G.fin aM aE mix [] H (aTr data (M.hi key) (M.cl key) (M.num (M.acc (M.V (M.cl key)) data j)) data.length ((16*j:Nat):Int)) (aA ?_) (by rw [hjj];rfl) rfl rfl
  simp only [aO,M.jX,hhi,and_true]
  simp [M.Dy]
def CL (vs:List SV) (T:bA):Option Canon:=match vs with
 | [ks,d]=>match cY ks,fG T .u8 d with
   | some (.u8,k),some (ob,xs)=>some { eR:=[.ai .u8 k,.dX 61 xs.length],T0:=[(61,.dK .u8 xs)],vl:=[(61,.arg 1)],e0:={ val:=.ai .u8 (M.tag k xs) },conds:=(k.length=32)::bG k::bG xs::(xs.length<=1073741824)::ob }
   | _,_=>none
 | _=>none
theorem aNl (Γ:Env) (hg:Γ.aU=aB):aH Tryz.prog Γ 116 (aK aB 100 CL):=by
 refine aT hg fun vs T c hd hc=>?_
 unfold CL at hd
 split at hd
 case h_2=>cases hd
 split at hd
 case h_2=>cases hd
 cases hd
 refine (RJ _ _ (hc _ (by simp)) (hc _ (by simp)) (hc _ (by simp))).words (by rw [hg];rfl) (fun V=>?_) (fun _ _ h=>h) (fun _=>rfl) rfl rfl
 simp only [PW,aJ,cF V (hc _ List.mem_cons_self)]
namespace M
def U (x:Int):Prop:=0<=x/\x<18446744073709551616
def uh (n:Int):Int:=n/18446744073709551616
def ul (n:Int):Int:=n%18446744073709551616
theorem dL (n:Int):U (ul n):=by unfold U ul;omega
theorem tX {n:Int} (h:U n):ul n=n:=by unfold U at h;unfold ul;omega
theorem eM {x y:Int} (hx:U x) (hy:U y):0<=x*y/\x*y<=340282366920938463426481119284349108225:=by
 refine ⟨Int.mul_nonneg hx.1 hy.1,?_⟩
 have h1:=hx.2
 have h2:=hy.2
 exact Int.le_trans (Int.mul_le_mul (show x<=18446744073709551615 by omega) (show y<=18446744073709551615 by omega) hy.1 (by decide)) (by decide)
theorem bP (n:Int):IntKind.u64.wrap n=ul n:=by rw [IntKind.wrap_u64];rfl
end M
theorem aPh (x y:Int) :
 aR (env fF 3) Tryz.f233 true [] 400 [.int false .u64 x,.int false .u64 y] (fun _=>none) 100 100 =
 sh (32:Int) fun z2=>
 sh (4294967295:Int) fun z1=>
 sh (IntKind.u64.wrap (IntKind.u64.wrap (cE IntKind.u64 x z2*cB IntKind.u64 y z1)+cE IntKind.u64 (IntKind.u64.wrap (cB IntKind.u64 x z1*cB IntKind.u64 y z1)) z2)) fun z0=>
 some {val:=SV.eD [SV.int false IntKind.u64 (IntKind.u64.wrap (IntKind.u64.wrap (IntKind.u64.wrap (cE IntKind.u64 x z2*cE IntKind.u64 y z2)+cE IntKind.u64 z0 z2)+cE IntKind.u64 (IntKind.u64.wrap (cB IntKind.u64 z0 z1+IntKind.u64.wrap (cB IntKind.u64 x z1*cE IntKind.u64 y z2))) z2)),SV.int false IntKind.u64 (IntKind.u64.wrap (x*y))]}:=by kernel_rfl
namespace M
theorem aDi (a:Nat) (ha:a<18446744073709551616):cB .u64 (a:Int) 4294967295=((a%4294967296:Nat):Int):=by
 have h:=bits_and_u64_nat a 4294967295 ha (by omega)
 have e:a &&& 4294967295=a%4294967296:=Nat.and_two_pow_sub_one_eq_mod a 32
 rw [e] at h
 exact h
theorem aUs (a:Nat):cE .u64 (a:Int) 32=((a/4294967296:Nat):Int):=by
 show Int.fdiv (a:Int) 4294967296=_
 rw [Int.fdiv_eq_ediv_of_nonneg _ (by decide)]
 omega
theorem aWo (a b:Nat):(a:Int)*(b:Int)=((a*b:Nat):Int):=(Int.natCast_mul a b).symm
theorem bBy (a b:Nat):(a:Int)+(b:Int)=((a+b:Nat):Int):=(Int.natCast_add a b).symm
theorem xW (a:Nat) (ha:a<18446744073709551616):IntKind.u64.wrap (a:Int)=(a:Int):=by rw [IntKind.wrap_u64];omega
set_option maxHeartbeats 1000000 in
theorem UW {x y:Int} (hx:U x) (hy:U y):(IntKind.u64.wrap
 (IntKind.u64.wrap
  (IntKind.u64.wrap (cE IntKind.u64 x (32:Int)*cE IntKind.u64 y (32:Int)) +
   cE IntKind.u64
    (IntKind.u64.wrap
     (IntKind.u64.wrap (cE IntKind.u64 x (32:Int)*cB IntKind.u64 y (4294967295:Int)) +
      cE IntKind.u64 (IntKind.u64.wrap (cB IntKind.u64 x (4294967295:Int)*cB IntKind.u64 y (4294967295:Int))) (32:Int)))
    (32:Int)) +
  cE IntKind.u64
   (IntKind.u64.wrap
    (cB IntKind.u64
     (IntKind.u64.wrap
      (IntKind.u64.wrap (cE IntKind.u64 x (32:Int)*cB IntKind.u64 y (4294967295:Int)) +
       cE IntKind.u64 (IntKind.u64.wrap (cB IntKind.u64 x (4294967295:Int)*cB IntKind.u64 y (4294967295:Int))) (32:Int)))
     (4294967295:Int) +
     IntKind.u64.wrap (cB IntKind.u64 x (4294967295:Int)*cE IntKind.u64 y (32:Int))))
   (32:Int)))=uh (x*y):=by
 obtain ⟨x,rfl⟩:=Int.eq_ofNat_of_zero_le hx.1
 obtain ⟨y,rfl⟩:=Int.eq_ofNat_of_zero_le hy.1
 have hx:x<18446744073709551616:=by have:=hx.2;omega
 have hy:y<18446744073709551616:=by have:=hy.2;omega
 obtain ⟨bd,bt,bw,hhi⟩:=Lib.mul64_hi x y hx hy
 have ba:=Lib.half_mul_le (a:=x/4294967296) (b:=y/4294967296) (by omega) (by omega)
 have bb:=Lib.half_mul_le (a:=x/4294967296) (b:=y%4294967296) (by omega) (by omega)
 have bc:=Lib.half_mul_le (a:=x%4294967296) (b:=y/4294967296) (by omega) (by omega)
 have ba':x/4294967296*(y/4294967296)<18446744073709551616:=by omega
 have bb':x/4294967296*(y%4294967296)<18446744073709551616:=by omega
 have bc':x%4294967296*(y/4294967296)<18446744073709551616:=by omega
 have bh1:x/4294967296*(y/4294967296)+(x/4294967296*(y%4294967296)+x%4294967296*(y%4294967296)/4294967296)/4294967296<18446744073709551616:=by omega
 have bh:x/4294967296*(y/4294967296)+(x/4294967296*(y%4294967296)+x%4294967296*(y%4294967296)/4294967296)/4294967296+((x/4294967296*(y%4294967296)+x%4294967296*(y%4294967296)/4294967296)%4294967296+x%4294967296*(y/4294967296))/4294967296<18446744073709551616:=by omega
 simp only [aDi x hx,aDi y hy,aUs,aWo,bBy,xW _ bd,xW _ bb',xW _ bt,aDi _ bt,xW _ bc',xW _ bw,xW _ ba',xW _ bh1,xW _ bh]
 rw [hhi]
 unfold uh
 omega
end M
def Pv (vs:List SV) (_:bA):Option Canon:=match vs with
 | [.int _ .u64 x,.int _ .u64 y]=>some { eR:=[.int false .u64 x,.int false .u64 y],T0:=[],vl:=[],e0:={ val:=.eD [.int false .u64 (M.uh (x*y)),.int false .u64 (M.ul (x*y))] },conds:=[M.U x,M.U y] }
 | _=>none
theorem aHd (Γ:Env) (hg:Γ.aU=aB):aH Tryz.prog Γ 233 (aK aB 100 Pv):=by
 refine aT hg fun vs T c hd hc=>?_
 unfold Pv at hd
 split at hd
 case h_2=>cases hd
 rename_i x _ y
 cases hd
 have hx:M.U x:=hc _ (by simp)
 have hy:M.U y:=hc _ (by simp)
 have hs:aH Tryz.prog (env fF 3) 233 (aR (env fF 3) Tryz.f233 true [] 400):=
  aY (bH fF 3) (Cn 3) mix Tryz.func233 (by kernel_rfl) true [] 400
 refine (hs.call (aPh _ _) (by simp)).words (by rw [hg];rfl) (fun _=>rfl) (fun _ _ h=>by cases h) (fun V=>?_) rfl rfl
 simp only [den,aJ,M.UW hx hy]
 simp only [M.bP]
def Wn (f:Nat):Option Sum:=match Nat.beq f 233 with
 | true=>some (aK aB 100 Pv)
 | false=>fF f
theorem Uu (f:Nat) (S:Sum) (h:Wn f=some S) (Γ:Env) (hg:Γ.aU=aB):aH Tryz.prog Γ f S:=by
 unfold Wn at h
 split at h
 .rename_i e;cases h;rw [Nat.eq_of_beq_eq_true e];exact aHd Γ hg
 .exact lA f S h Γ
noncomputable def Ki:Env:=env Wn 8
theorem To:bX Tryz.prog Ki:=bJ Wn Uu 8
theorem Tn:cG Tryz.prog Ki:=bH Wn 8
theorem bBz (x y c:Int) :
 aR Ki Tryz.f140 true [] 400 [.int false .u64 x,.int false .u64 y,.int false .u64 c] (fun _=>none) 100 100 =
 sh (18446744073709551616:Int) fun z0=>
 some {bV:=[(0:Int)<=x/\(0:Int)<=y/\(0:Int)<=c/\c<=(1:Int)],val:=SV.eD [SV.int false IntKind.u64 ((x+y+c)%z0),SV.int false IntKind.u64 ((x+y+c)/z0)]}:=by kernel_rfl
theorem aUy (x y c:Int) :
 aR Ki Tryz.f132 true [] 400 [.int false .u64 x,.int false .u64 y,.int false .u64 c] (fun _=>none) 100 100 =
 sh (18446744073709551616:Nat) fun z0=>
 sh (0:Int) fun z1=>
 some {bV:=[z1<=x/\z1<=y/\z1<=c/\c<=(1:Int)],val:=SV.eD [SV.int false IntKind.u64 (↑((x.toNat+z0-y.toNat-c.toNat)%z0):Int),SV.int false IntKind.u64 (if x<y+c then (1:Int) else z1)]}:=by kernel_rfl
def M.ub (n:Int):Int := -(n/18446744073709551616)
def M.K (c:Int):Prop:=0<=c/\c<=1
def addDec (vs:List SV) (_:bA):Option Canon:=match vs with
 | [.int _ .u64 x,.int _ .u64 y,.int _ .u64 c]=>some { eR:=[.int false .u64 x,.int false .u64 y,.int false .u64 c],T0:=[],vl:=[],e0:={ val:=.eD [.int false .u64 (M.ul (x+y+c)),.int false .u64 (M.uh (x+y+c))] },conds:=[M.U x,M.U y,M.K c] }
 | _=>none
def Pq (vs:List SV) (_:bA):Option Canon:=match vs with
 | [.int _ .u64 x,.int _ .u64 y,.int _ .u64 c]=>some { eR:=[.int false .u64 x,.int false .u64 y,.int false .u64 c],T0:=[],vl:=[],e0:={ val:=.eD [.int false .u64 (M.ul (x-y-c)),.int false .u64 (M.ub (x-y-c))] },conds:=[M.U x,M.U y,M.K c] }
 | _=>none
theorem aTd (Γ:Env) (hg:Γ.aU=aB):aH Tryz.prog Γ 140 (aK aB 100 addDec):=by
 refine aT hg fun vs T c hd hc=>?_
 unfold addDec at hd
 split at hd
 case h_2=>cases hd
 rename_i x _ y _ c
 cases hd
 have hx:M.U x:=hc _ (by simp)
 have hy:M.U y:=hc _ (by simp)
 have hk:M.K c:=hc _ (by simp)
 have hs:aH Tryz.prog Ki 140 (aR Ki Tryz.f140 true [] 400):=aY Tn To mix Tryz.func140 (by kernel_rfl) true [] 400
 exact (hs.call (bBz _ _ _) (aA (by simp only [aO,and_true];exact ⟨hx.1,hy.1,hk.1,hk.2⟩))).words (by rw [hg];rfl) (fun _=>rfl) (fun _ _ h=>by cases h) (fun V=>rfl) rfl rfl
theorem aOd (Γ:Env) (hg:Γ.aU=aB):aH Tryz.prog Γ 132 (aK aB 100 Pq):=by
 refine aT hg fun vs T c hd hc=>?_
 unfold Pq at hd
 split at hd
 case h_2=>cases hd
 rename_i x _ y _ c
 cases hd
 have hx:M.U x:=hc _ (by simp)
 have hy:M.U y:=hc _ (by simp)
 have hk:M.K c:=hc _ (by simp)
 have hs:aH Tryz.prog Ki 132 (aR Ki Tryz.f132 true [] 400):=aY Tn To mix Tryz.func132 (by kernel_rfl) true [] 400
 refine (hs.call (aUy _ _ _) (aA (by simp only [aO,and_true];exact ⟨hx.1,hy.1,hk.1,hk.2⟩))).words (by rw [hg];rfl) (fun _=>rfl) (fun _ _ h=>by cases h) (fun V=>?_) rfl rfl
 have h1:=hx.1
 have h2:=hx.2
 have h3:=hy.1
 have h4:=hy.2
 have h5:=hk.1
 have h6:=hk.2
 have e1:(((x.toNat+18446744073709551616-y.toNat-c.toNat)%18446744073709551616:Nat):Int)=M.ul (x-y-c):=by unfold M.ul;omega
 have e2:(if x<y+c then (1:Int) else 0)=M.ub (x-y-c):=by unfold M.ub;split <;> omega
 rw [e1,e2]
def Wm (f:Nat):Option Sum:=match Nat.beq f 140 with
 | true=>some (aK aB 100 addDec)
 | false=>match Nat.beq f 132 with
   | true=>some (aK aB 100 Pq)
   | false=>Wn f
theorem Ut (f:Nat) (S:Sum) (h:Wm f=some S) (Γ:Env) (hg:Γ.aU=aB):aH Tryz.prog Γ f S:=by
 unfold Wm at h
 split at h
 .rename_i e;cases h;rw [Nat.eq_of_beq_eq_true e];exact aTd Γ hg
 split at h
 .rename_i e;cases h;rw [Nat.eq_of_beq_eq_true e];exact aOd Γ hg
 .exact Uu f S h Γ hg
noncomputable def wB:Env:=env Wm 8
theorem Ip:bX Tryz.prog wB:=bJ Wm Ut 8
theorem Io:cG Tryz.prog wB:=bH Wm 8
theorem aTc (x y c:Int) :
 aR wB Tryz.f208 true [] 400 [.int false .u64 x,.int false .u64 y,.int false .u64 c] (fun _=>none) 100 100 =
 sh (0:Int) fun z1=>
 sh (M.ul (x*y)+c+z1) fun z0=>
 some {bV:=[M.U (M.ul (x*y)),M.U c,M.K z1,M.ul (x*y)=M.ul (x*y),c=c,z1=z1,M.U x,M.U y,x=x,y=y],val:=SV.eD [SV.int false IntKind.u64 (IntKind.u64.wrap (M.uh (x*y)+M.uh z0)),SV.int false IntKind.u64 (M.ul z0)]}:=by kernel_rfl
theorem aRj (x y:Int) :
 aR wB Tryz.f229 true [false,false] 400 [.int false .u64 x,.int false .u64 y,.int true .u64 18446744073709551615,.int true .u64 1] (fun _=>none) 100 100 =
 sh (18446744073709551615:Int) fun z4=>
 sh (1:Int) fun z7=>
 sh (z7*x) fun z2=>
 sh (0:Int) fun z5=>
 sh (M.ul z2+y+z5) fun z6=>
 sh (M.uh z2+x+M.uh z6) fun z1=>
 sh (z4*M.ul z1) fun z0=>
 sh (y-M.ul z0-z5) fun z3=>
 some {bV:=[decide (M.ul z3>=z4)=false,(M.ul (x-M.uh z0-M.ub z3) != z5)=false,M.U x,M.U (M.uh z0),M.K (M.ub z3),x=x,M.uh z0=M.uh z0,M.ub z3=M.ub z3,M.U y,M.U (M.ul z0),M.K z5,y=y,M.ul z0=M.ul z0,z5=z5,M.U z4,M.U (M.ul z1),z4=z4,M.ul z1=M.ul z1,M.U (M.uh z2),M.U x,M.K (M.uh z6),M.uh z2=M.uh z2,x=x,M.uh z6=M.uh z6,M.U (M.ul z2),M.U y,M.K z5,M.ul z2=M.ul z2,y=y,z5=z5,M.U z7,M.U x,z7=z7,x=x],val:=SV.eD [SV.int false IntKind.u64 (M.ul z1),SV.int false IntKind.u64 (cE IntKind.u64 (M.ul z3) z5)]}:=by kernel_rfl
theorem aRi (x y:Int) :
 aR wB Tryz.f229 true [false,true] 400 [.int false .u64 x,.int false .u64 y,.int true .u64 18446744073709551615,.int true .u64 1] (fun _=>none) 100 100 =
 sh (18446744073709551615:Int) fun z2=>
 sh (1:Int) fun z7=>
 sh (z7*x) fun z3=>
 sh (0:Int) fun z5=>
 sh (M.ul z3+y+z5) fun z6=>
 sh (M.uh z3+x+M.uh z6) fun z1=>
 sh (z2*M.ul z1) fun z0=>
 sh (y-M.ul z0-z5) fun z4=>
 some {bV:=[decide (M.ul z4>=z2)=true,(M.ul (x-M.uh z0-M.ub z4) != z5)=false,M.U x,M.U (M.uh z0),M.K (M.ub z4),x=x,M.uh z0=M.uh z0,M.ub z4=M.ub z4,M.U y,M.U (M.ul z0),M.K z5,y=y,M.ul z0=M.ul z0,z5=z5,M.U z2,M.U (M.ul z1),z2=z2,M.ul z1=M.ul z1,M.U (M.uh z3),M.U x,M.K (M.uh z6),M.uh z3=M.uh z3,x=x,M.uh z6=M.uh z6,M.U (M.ul z3),M.U y,M.K z5,M.ul z3=M.ul z3,y=y,z5=z5,M.U z7,M.U x,z7=z7,x=x],val:=SV.eD [SV.int false IntKind.u64 (IntKind.u64.wrap (M.ul z1+z7)),SV.int false IntKind.u64 (cE IntKind.u64 (IntKind.u64.wrap (M.ul z4-z2)) z5)]}:=by kernel_rfl
theorem aRh (x y:Int) :
 aR wB Tryz.f229 true [false,false] 400 [.int false .u64 x,.int false .u64 y,.int true .u64 9223372036854775808,.int true .u64 18446744073709551615] (fun _=>none) 100 100 =
 sh (9223372036854775808:Int) fun z4=>
 sh (18446744073709551615:Int) fun z5=>
 sh (z5*x) fun z1=>
 sh (0:Int) fun z6=>
 sh (M.ul z1+y+z6) fun z7=>
 sh (M.uh z1+x+M.uh z7) fun z2=>
 sh (z4*M.ul z2) fun z0=>
 sh (y-M.ul z0-z6) fun z3=>
 some {bV:=[decide (M.ul z3>=z4)=false,(M.ul (x-M.uh z0-M.ub z3) != z6)=false,M.U x,M.U (M.uh z0),M.K (M.ub z3),x=x,M.uh z0=M.uh z0,M.ub z3=M.ub z3,M.U y,M.U (M.ul z0),M.K z6,y=y,M.ul z0=M.ul z0,z6=z6,M.U z4,M.U (M.ul z2),z4=z4,M.ul z2=M.ul z2,M.U (M.uh z1),M.U x,M.K (M.uh z7),M.uh z1=M.uh z1,x=x,M.uh z7=M.uh z7,M.U (M.ul z1),M.U y,M.K z6,M.ul z1=M.ul z1,y=y,z6=z6,M.U z5,M.U x,z5=z5,x=x],val:=SV.eD [SV.int false IntKind.u64 (M.ul z2),SV.int false IntKind.u64 (cE IntKind.u64 (M.ul z3) z6)]}:=by kernel_rfl
theorem aRg (x y:Int) :
 aR wB Tryz.f229 true [false,true] 400 [.int false .u64 x,.int false .u64 y,.int true .u64 9223372036854775808,.int true .u64 18446744073709551615] (fun _=>none) 100 100 =
 sh (9223372036854775808:Int) fun z3=>
 sh (18446744073709551615:Int) fun z5=>
 sh (z5*x) fun z1=>
 sh (0:Int) fun z6=>
 sh (M.ul z1+y+z6) fun z7=>
 sh (M.uh z1+x+M.uh z7) fun z2=>
 sh (z3*M.ul z2) fun z0=>
 sh (y-M.ul z0-z6) fun z4=>
 some {bV:=[decide (M.ul z4>=z3)=true,(M.ul (x-M.uh z0-M.ub z4) != z6)=false,M.U x,M.U (M.uh z0),M.K (M.ub z4),x=x,M.uh z0=M.uh z0,M.ub z4=M.ub z4,M.U y,M.U (M.ul z0),M.K z6,y=y,M.ul z0=M.ul z0,z6=z6,M.U z3,M.U (M.ul z2),z3=z3,M.ul z2=M.ul z2,M.U (M.uh z1),M.U x,M.K (M.uh z7),M.uh z1=M.uh z1,x=x,M.uh z7=M.uh z7,M.U (M.ul z1),M.U y,M.K z6,M.ul z1=M.ul z1,y=y,z6=z6,M.U z5,M.U x,z5=z5,x=x],val:=SV.eD [SV.int false IntKind.u64 (IntKind.u64.wrap (M.ul z2+(1:Int))),SV.int false IntKind.u64 (cE IntKind.u64 (IntKind.u64.wrap (M.ul z4-z3)) z6)]}:=by kernel_rfl
def Qn (vs:List SV) (_:bA):Option Canon:=match vs with
 | [.int _ .u64 x,.int _ .u64 y,.int _ .u64 c]=>some { eR:=[.int false .u64 x,.int false .u64 y,.int false .u64 c],T0:=[],vl:=[],e0:={ val:=.eD [.int false .u64 (M.uh (x*y+c)),.int false .u64 (M.ul (x*y+c))] },conds:=[M.U x,M.U y,M.U c] }
 | _=>none
theorem aKd (Γ:Env) (hg:Γ.aU=aB):aH Tryz.prog Γ 208 (aK aB 100 Qn):=by
 refine aT hg fun vs T c hd hc=>?_
 unfold Qn at hd
 split at hd
 case h_2=>cases hd
 rename_i x _ y _ c
 cases hd
 have hx:M.U x:=hc _ (by simp)
 have hy:M.U y:=hc _ (by simp)
 have hk:M.U c:=hc _ (by simp)
 have hs:aH Tryz.prog wB 208 (aR wB Tryz.f208 true [] 400):=aY Io Ip mix Tryz.func208 (by kernel_rfl) true [] 400
 refine (hs.call (aTc _ _ _) (aA (by simp only [aO,and_true,true_and];exact ⟨M.dL _,hk,⟨by decide,by decide⟩,hx,hy⟩))).words (by rw [hg];rfl) (fun _=>rfl) (fun _ _ h=>by cases h) (fun V=>?_) rfl rfl
 have h0:=M.eM hx hy
 have h1:=hk.1
 have h2:=hk.2
 rw [M.bP]
 have e1:M.ul (M.uh (x*y)+M.uh (M.ul (x*y)+c+0))=M.uh (x*y+c):=by unfold M.ul M.uh;omega
 have e2:M.ul (M.ul (x*y)+c+0)=M.ul (x*y+c):=by unfold M.ul;omega
 rw [e1,e2]
def M.dq (d x y:Int):Int:=(x*18446744073709551616+y)/d
def M.dr (d x y:Int):Int:=(x*18446744073709551616+y)%d
def FG (vs:List SV) (_:bA):Option Canon:=match vs with
 | [.int _ .u64 x,.int _ .u64 y,.int true .u64 d,.int true .u64 m]=>match wO d 18446744073709551615&&wO m 1 with
   | true=>some { eR:=[.int false .u64 x,.int false .u64 y,.int true .u64 18446744073709551615,.int true .u64 1],T0:=[],vl:=[],e0:={ val:=.eD [.int false .u64 (M.dq 18446744073709551615 x y),.int false .u64 (M.dr 18446744073709551615 x y)] },conds:=[M.U x,M.U y,x<18446744073709551615] }
   | false=>match wO d 9223372036854775808&&wO m 18446744073709551615 with
     | true=>some { eR:=[.int false .u64 x,.int false .u64 y,.int true .u64 9223372036854775808,.int true .u64 18446744073709551615],T0:=[],vl:=[],e0:={ val:=.eD [.int false .u64 (M.dq 9223372036854775808 x y),.int false .u64 (M.dr 9223372036854775808 x y)] },conds:=[M.U x,M.U y,x<9223372036854775808] }
     | false=>none
 | _=>none
set_option maxHeartbeats 2000000 in
theorem MQ {x y:Int} (hx:M.U x) (hy:M.U y) (hd:x<18446744073709551615) (Γ:Env) (hg:Γ.aU=aB):aD Tryz.prog Γ 229 [.int false .u64 x,.int false .u64 y,.int true .u64 18446744073709551615,.int true .u64 1] (fun l=>look l []) 100 100 { val:=.eD [.int false .u64 (M.dq 18446744073709551615 x y),.int false .u64 (M.dr 18446744073709551615 x y)] }:=by
 have h1:=hx.1
 have h3:=hy.1
 have h4:=hy.2
 have q1:M.ul (M.uh (1*x)+x+M.uh (M.ul (1*x)+y+0))=x+(x+y)/18446744073709551616:=by unfold M.ul M.uh;omega
 have q2:M.uh (1*x)=0:=by unfold M.uh;omega
 have q3:M.uh (M.ul (1*x)+y+0)=(x+y)/18446744073709551616:=by unfold M.uh M.ul;omega
 obtain ⟨c,hc⟩:∃ c,c=(x+y)/18446744073709551616:=⟨_,rfl⟩
 rw [<- hc] at q1 q3
 have c0:c=0\/c=1:=by omega
 have q4:M.ul (18446744073709551615*(x+c))=if x+c=0 then 0 else 18446744073709551616-(x+c):=by unfold M.ul;split <;> omega
 have q5:M.uh (18446744073709551615*(x+c))=if x+c=0 then 0 else x+c-1:=by unfold M.uh;split <;> omega
 have hs:∀ hs,aH Tryz.prog wB 229 (aR wB Tryz.f229 true hs 400):=fun hs=>aY Io Ip mix Tryz.func229 (by kernel_rfl) true hs 400
 by_cases hh:x+y=18446744073709551615
 .refine ((hs _).call (aRi x y) (aA ?_)).words (by rw [hg];rfl) (fun _=>rfl) (fun _ _ h=>by cases h) (fun V=>?_) rfl rfl
  .simp only [q1]
   simp only [q4,q5]
   simp only [aO,q2,q3,and_true,true_and,decide_eq_true_eq,bne_eq_false_iff_eq]
   unfold M.U M.K M.ub M.ul
   and_intros <;> (try split) <;> omega
  .simp only [q1]
   simp only [q4]
   have e1:IntKind.u64.wrap (x+c+1)=M.dq 18446744073709551615 x y:=by rw [M.bP];unfold M.ul M.dq;omega
   have e2:∀ z,cE .u64 z 0=z:=fun z=>by show Int.fdiv z 1=z;simp
   rw [e1,e2,M.bP]
   congr 1
   unfold M.ul M.dr
   simp
   split <;> omega
 .refine ((hs _).call (aRj x y) (aA ?_)).words (by rw [hg];rfl) (fun _=>rfl) (fun _ _ h=>by cases h) (fun V=>?_) rfl rfl
  .simp only [q1]
   simp only [q4,q5]
   simp only [aO,q2,q3,and_true,true_and,decide_eq_false_iff_not,bne_eq_false_iff_eq]
   unfold M.U M.K M.ub M.ul
   and_intros <;> (try split) <;> omega
  .simp only [q1]
   simp only [q4]
   have e1:x+c=M.dq 18446744073709551615 x y:=by unfold M.dq;omega
   have e2:∀ z,cE .u64 z 0=z:=fun z=>by show Int.fdiv z 1=z;simp
   rw [e1,e2]
   congr 1
   rw [<- e1]
   unfold M.ul M.dr
   simp
   split <;> omega
set_option maxHeartbeats 2000000 in
theorem MP {x y:Int} (hx:M.U x) (hy:M.U y) (hd:x<9223372036854775808) (Γ:Env) (hg:Γ.aU=aB):aD Tryz.prog Γ 229 [.int false .u64 x,.int false .u64 y,.int true .u64 9223372036854775808,.int true .u64 18446744073709551615] (fun l=>look l []) 100 100 { val:=.eD [.int false .u64 (M.dq 9223372036854775808 x y),.int false .u64 (M.dr 9223372036854775808 x y)] }:=by
 have h1:=hx.1
 have h3:=hy.1
 have h4:=hy.2
 obtain ⟨t1,e1⟩:∃ t1,t1=M.uh (18446744073709551615*x):=⟨_,rfl⟩
 obtain ⟨c,e3⟩:∃ c,c=M.uh (M.ul (18446744073709551615*x)+y+0):=⟨_,rfl⟩
 have b1:t1=if x=0 then 0 else x-1:=by rw [e1];unfold M.uh;split <;> omega
 have b3:c=if x=0 then 0 else if y<x then 0 else 1:=by rw [e3];unfold M.uh M.ul;split <;> (try split) <;> omega
 obtain ⟨q,eq⟩:∃ q,q=M.ul (t1+x+c):=⟨_,rfl⟩
 have bq:q=if x=0 then 0 else if y<x then 2*x-1 else 2*x:=by rw [eq,b1,b3];unfold M.ul;split <;> (try split) <;> omega
 have hs:∀ hs,aH Tryz.prog wB 229 (aR wB Tryz.f229 true hs 400):=fun hs=>aY Io Ip mix Tryz.func229 (by kernel_rfl) true hs 400
 have sh:∀ z,cE .u64 z 0=z:=fun z=>by show Int.fdiv z 1=z;simp
 by_cases hh:M.dq 9223372036854775808 x y=q+1
 .refine ((hs _).call (aRg x y) (aA ?_)).words (by rw [hg];rfl) (fun _=>rfl) (fun _ _ h=>by cases h) (fun V=>?_) rfl rfl
  .simp only [<- e1,<- e3]
   simp only [<- eq]
   simp only [aO,and_true,true_and,decide_eq_true_eq,bne_eq_false_iff_eq]
   unfold M.dq at hh
   unfold M.U M.K M.ub M.ul M.uh
   split at bq
   .and_intros <;> omega
   split at bq
   .and_intros <;> omega
   .and_intros <;> omega
  .simp only [<- e1,<- e3]
   simp only [<- eq,sh]
   have g1:IntKind.u64.wrap (q+1)=M.dq 9223372036854775808 x y:=by
    rw [M.bP,hh]
    unfold M.ul
    split at bq <;> (try split at bq) <;> omega
   rw [g1,M.bP]
   have g2:M.ul (M.ul (y-M.ul (9223372036854775808*q)-0)-9223372036854775808)=M.dr 9223372036854775808 x y:=by
    unfold M.dq at hh
    unfold M.ul M.dr
    split at bq <;> (try split at bq) <;> omega
   rw [g2]
 .have hq:M.dq 9223372036854775808 x y=q:=by
   revert hh
   unfold M.dq
   split at bq <;> (try split at bq) <;> omega
  refine ((hs _).call (aRh x y) (aA ?_)).words (by rw [hg];rfl) (fun _=>rfl) (fun _ _ h=>by cases h) (fun V=>?_) rfl rfl
  .simp only [<- e1,<- e3]
   simp only [<- eq]
   simp only [aO,and_true,true_and,decide_eq_false_iff_not,bne_eq_false_iff_eq]
   unfold M.dq at hq
   unfold M.U M.K M.ub M.ul M.uh
   split at bq
   .and_intros <;> omega
   split at bq
   .and_intros <;> omega
   .and_intros <;> omega
  .simp only [<- e1,<- e3]
   simp only [<- eq,sh,hq]
   have g2:M.ul (y-M.ul (9223372036854775808*q)-0)=M.dr 9223372036854775808 x y:=by
    unfold M.dq at hq
    unfold M.ul M.dr
    split at bq <;> (try split at bq) <;> omega
   rw [g2]
theorem aRk (Γ:Env) (hg:Γ.aU=aB):aH Tryz.prog Γ 229 (aK aB 100 FG):=by
 refine aT hg fun vs T c hd hc=>?_
 unfold FG at hd
 split at hd
 case h_2=>cases hd
 rename_i x _ y d m
 split at hd
 .cases hd
  exact MQ (hc _ (by simp)) (hc _ (by simp)) (hc _ (by simp)) Γ hg
 split at hd
 .cases hd
  exact MP (hc _ (by simp)) (hc _ (by simp)) (hc _ (by simp)) Γ hg
 .cases hd
def exB (f:Nat):Option Sum:=match Nat.beq f 208 with
 | true=>some (aK aB 100 Qn)
 | false=>match Nat.beq f 229 with
   | true=>some (aK aB 100 FG)
   | false=>Wm f
theorem HI (f:Nat) (S:Sum) (h:exB f=some S) (Γ:Env) (hg:Γ.aU=aB):aH Tryz.prog Γ f S:=by
 unfold exB at h
 split at h
 .rename_i e;cases h;rw [Nat.eq_of_beq_eq_true e];exact aKd Γ hg
 split at h
 .rename_i e;cases h;rw [Nat.eq_of_beq_eq_true e];exact aRk Γ hg
 .exact Ut f S h Γ hg
noncomputable def Γb:Env:=env exB 8
theorem aDl:bX Tryz.prog Γb:=bJ exB HI 8
theorem aDk:cG Tryz.prog Γb:=bH exB 8
theorem aYv (a b c d:Int) :
 aR Γb Tryz.f230 true [true] 400 [.int false .u64 a,.int false .u64 b,.int false .u64 c,.int false .u64 d] (fun _=>none) 100 100 =
 some {bV:=[decide (a>c)=true],val:=SV.bool true true}:=by kernel_rfl
theorem aYu (a b c d:Int) :
 aR Γb Tryz.f230 true [false,true] 400 [.int false .u64 a,.int false .u64 b,.int false .u64 c,.int false .u64 d] (fun _=>none) 100 100 =
 some {bV:=[(a==c)=true,decide (a>c)=false],val:=SV.bool false (decide (b>d))}:=by kernel_rfl
theorem aYt (a b c d:Int) :
 aR Γb Tryz.f230 true [false,false] 400 [.int false .u64 a,.int false .u64 b,.int false .u64 c,.int false .u64 d] (fun _=>none) 100 100 =
 some {bV:=[(a==c)=false,decide (a>c)=false],val:=SV.bool true false}:=by kernel_rfl
def M.gt (a b c d:Int):Bool:=decide (c*18446744073709551616+d<a*18446744073709551616+b)
def EL (vs:List SV) (_:bA):Option Canon:=match vs with
 | [.int _ .u64 a,.int _ .u64 b,.int _ .u64 c,.int _ .u64 d]=>some { eR:=[.int false .u64 a,.int false .u64 b,.int false .u64 c,.int false .u64 d],T0:=[],vl:=[],e0:={ val:=.bool false (M.gt a b c d) },conds:=[M.U b,M.U d] }
 | _=>none
theorem aQv (Γ:Env) (hg:Γ.aU=aB):aH Tryz.prog Γ 230 (aK aB 100 EL):=by
 refine aT hg fun vs T c hd hc=>?_
 unfold EL at hd
 split at hd
 case h_2=>cases hd
 rename_i a _ b _ c _ d
 cases hd
 have hb:M.U b:=hc _ (by simp)
 have hd:M.U d:=hc _ (by simp)
 have b1:=hb.1
 have b2:=hb.2
 have d1:=hd.1
 have d2:=hd.2
 have hs:∀ hs,aH Tryz.prog Γb 230 (aR Γb Tryz.f230 true hs 400):=fun hs=>aY aDk aDl mix Tryz.func230 (by kernel_rfl) true hs 400
 by_cases h1:a>c
 .refine ((hs _).call (aYv a b c d) (aA ?_)).words (by rw [hg];rfl) (fun _=>rfl) (fun _ _ h=>by cases h) (fun V=>?_) rfl rfl
  .simp only [aO,and_true,decide_eq_true_eq,h1]
  .have:M.gt a b c d=true:=by unfold M.gt;exact decide_eq_true (by omega)
   rw [this];rfl
 by_cases h2:a=c
 .refine ((hs _).call (aYu a b c d) (aA ?_)).words (by rw [hg];rfl) (fun _=>rfl) (fun _ _ h=>by cases h) (fun V=>?_) rfl rfl
  .simp only [aO,and_true,beq_iff_eq,decide_eq_false_iff_not];exact ⟨h2,h1⟩
  .have:M.gt a b c d=decide (b>d):=by unfold M.gt;rw [decide_eq_decide];omega
   rw [this]
 .refine ((hs _).call (aYt a b c d) (aA ?_)).words (by rw [hg];rfl) (fun _=>rfl) (fun _ _ h=>by cases h) (fun V=>?_) rfl rfl
  .simp only [aO,and_true,beq_eq_false_iff_ne,decide_eq_false_iff_not];exact ⟨h2,h1⟩
  .have:M.gt a b c d=false:=by unfold M.gt;exact decide_eq_false (by omega)
   rw [this];rfl
def Vq (f:Nat):Option Sum:=match Nat.beq f 230 with
 | true=>some (aK aB 100 EL)
 | false=>exB f
theorem HF (f:Nat) (S:Sum) (h:Vq f=some S) (Γ:Env) (hg:Γ.aU=aB):aH Tryz.prog Γ f S:=by
 unfold Vq at h
 split at h
 .rename_i e;cases h;rw [Nat.eq_of_beq_eq_true e];exact aQv Γ hg
 .exact HI f S h Γ hg
noncomputable def Γv:Env:=env Vq 8
theorem kX:bX Tryz.prog Γv:=bJ Vq HF 8
theorem kW:cG Tryz.prog Γv:=bH Vq 8
def Av (nu cu nq cq:Nat):List SV:=[.aI 61 true 0 nq cq,.ptr 62 true 0,.aI 63 true 0 nu cu,.dO 64 0 3 0]
def Gu (v:List SV) (us qs:List SV):bA:=fun l=>look l [(61,.own qs 142),(62,.own [.raw (.pointer none)] 236),(63,.own us 142),(64,.row 1 v 142)]
def fB:List SV:=[.int true .u64 13835058055282163712,.int true .u64 18446744073709551614,.int true .u64 18446744073709551615]
def wc (xs:List Int):List SV:=xs.map (.int false .u64)
noncomputable def Bm (v us qs:List SV) (nu cu nq cq:Nat):Option jA:=cA Γv (aC 100 (Gu v us qs)) 100 Tryz.f203.ntmps [8] 100 400 (.go (codeOf Tryz.f203)) [] (gU (Av nu cu nq cq) 100)
noncomputable def xE:Code:=match Bm fB (wc [0,0,0,0]) (wc [0]) 4 4 1 1 with
 | some { cf:=.go (.loop c),.. }=>c
 | _=>.skip
noncomputable def Eg:List Fr:=match Bm fB (wc [0,0,0,0]) (wc [0]) 4 4 1 1 with
 | some r=>r.fr
 | _=>[]
def jE (nu cu nq cq m:Nat) (d rec:Int) (ujn:SV) (j:Int):List (Nat × SV):=[(0,.aI 61 true 0 nq cq),(2,.aI 63 true 0 nu cu),(3,.dO 64 0 3 0),(8,.int true .i64 3),(9,.int true .i64 m),(10,.dO 100 0 4 0),(11,.int true .u64 d),(12,.int true .u64 rec),(13,ujn),(14,.int true .i64 j)]
def jD (hs us qs:List SV):List (Nat × SB):=[(100,.row 1 hs 142),(61,.own qs 142),(63,.own us 142)]
def jF:List SV:=[.fn (.func 184) [.ptr 62 true 0,.int true .i64 0] []]
noncomputable def fQ (v eU eW:List SV) (nu cu nq cq m:Nat) (d rec:Int) (j j':Int) (ujn aTo:SV) (us us' qs qs' hs Gp:List SV) (h:List Bool):Option (Cf × List Fr × List Prop):=
 gD 100 (aC 100 (Gu v eU eW)) [] (jE nu cu nq cq m d rec aTo j') (jD Gp us' qs') 101 [61,63] jF (cA Γv (aC 100 (Gu v eU eW)) 100 Tryz.f203.ntmps [8] 100 400 (.go xE) [] ((aN (jE nu cu nq cq m d rec ujn j) (jD hs us qs) 101 [61,63] jF).hint h))
noncomputable def Lp (v eU eW:List SV) (nu cu nq cq m:Nat) (d rec:Int) (ujn:SV) (us qs hs:List SV):Option bR:=
 rZ Γv (Gu v eU eW) 100 100 Tryz.f203 (cA Γv (aC 100 (Gu v eU eW)) 100 Tryz.f203.ntmps [8] 100 400 (.at (.exit 0)) Eg ((aN (jE nu cu nq cq m d rec ujn (-1)) (jD hs us qs) 101 [61,63] jF).hint []))
structure AA where
 nu:Nat
 cu:Nat
 nq:Nat
 cq:Nat
 m:Nat
def DvP (hs:List Bool) (ob:Int->Int->Int->Int->Int->Int->Int->Int->Int->List Prop) (uo:Int->Int->Int->Int->List Int) (qo:Int->Int->Int) (c:AA) (j j':Int) (pre post qa qb:List Int):Prop:=
 ∀ (eU eW:List SV) (u0 u1 u2 u3 v0 v1 v2 v3 q0 q1 h0 h1 h2 h3 g0 g1 g2 g3:Int),
   fQ fB eU eW c.nu c.cu c.nq c.cq c.m 18446744073709551615 1 j j' (.int false .u64 u3) (.int false .u64 v2) (wc (pre++[u0,u1,u2,u3]++post)) (wc (pre++[v0,v1,v2,v3]++post)) (wc (qa++[q0]++qb)) (wc (qa++[q1]++qb)) (wc [h0,h1,h2,h3]) (wc [g0,g1,g2,g3]) hs =
    some (.at .normal,[],ob u0 u1 u2 u3 v2 g0 g1 g2 g3++[qa++[qo u2 u3]++qb=qa++[q1]++qb,pre++uo u0 u1 u2 u3++post=pre++[v0,v1,v2,v3]++post])
def aAw (u0 u1 u2 u3 v2 g0 g1 g2 g3:Int):List Prop:=
 sh (13835058055282163713:Int) fun z4=>
 sh (4611686018427387904:Int) fun z3=>
 sh (0:Int) fun z6=>
 sh (u0-z3-z6) fun cH=>
 sh (u1-z4-M.ub cH) fun z0=>
 sh (18446744073709551614:Int) fun z1=>
 sh (18446744073709551615:Int) fun z2=>
 sh (u2-z1-M.ub z0) fun z5=>
 sh (18446744073709551613:Int) fun z7=>
 sh (13835058055282163711:Int) fun z8=>
 sh (13835058055282163712:Int) fun z9=>
 [(M.ub (u3-z1-M.ub z5) != z6)=false,M.U u3,M.U z1,M.K (M.ub z5),u3=u3,z1=z1,M.ub z5=M.ub z5,M.U u2,M.U z1,M.K (M.ub z0),u2=u2,z1=z1,M.ub z0=M.ub z0,M.U u1,M.U z4,M.K (M.ub cH),u1=u1,z4=z4,M.ub cH=M.ub cH,M.U u0,M.U z3,M.K z6,u0=u0,z3=z3,z6=z6,M.U z2,M.U z2,M.U z7,z2=z2,z2=z2,z7=z7,M.U z1,M.U z2,M.U z8,z1=z1,z2=z2,z8=z8,M.U z9,M.U z2,M.U z6,z9=z9,z2=z2,z6=z6,(u3 != z2)=false,(3:Nat)=(3:Nat),(4:Nat)=(4:Nat),M.ul z5=v2,z3=g0,z4=g1,z1=g2,z1=g3]
def ZZ (u0 u1 u2 u3:Int):List Int:=[M.ul (u0-(4611686018427387904:Int)-(0:Int)),M.ul (u1-(13835058055282163713:Int)-M.ub (u0-(4611686018427387904:Int)-(0:Int))),M.ul (u2-(18446744073709551614:Int)-M.ub (u1-(13835058055282163713:Int)-M.ub (u0-(4611686018427387904:Int)-(0:Int)))),M.ul (u3-(18446744073709551614:Int)-M.ub (u2-(18446744073709551614:Int)-M.ub (u1-(13835058055282163713:Int)-M.ub (u0-(4611686018427387904:Int)-(0:Int)))))]
def aAr (u2 u3:Int):Int:=(18446744073709551615:Int)
abbrev yD:=DvP [false,false] aAw ZZ aAr
def DP (u0 u1 u2 u3 v2 g0 g1 g2 g3:Int):List Prop:=
 sh (18446744073709551614:Int) fun z4=>
 sh (18446744073709551615:Int) fun z1=>
 sh (13835058055282163712:Int) fun z8=>
 sh (0:Int) fun cH=>
 sh (z8*M.dq z1 u3 u2+cH) fun z2=>
 sh (z4*M.dq z1 u3 u2+M.uh z2) fun z0=>
 sh (z1*M.dq z1 u3 u2+M.uh z0) fun z5=>
 sh (u0-M.ul z2-cH) fun z6=>
 sh (u1-M.ul z0-M.ub z6) fun z9=>
 sh (u2-M.ul z5-M.ub z9) fun z3=>
 sh (M.dq z1 u3 u2*z4) fun z7=>
 sh (M.dq z1 u3 u2) fun cO=>
 [(M.ub (u3-M.uh z5-M.ub z3) != cH)=false,M.U u3,M.U (M.uh z5),M.K (M.ub z3),u3=u3,M.uh z5=M.uh z5,M.ub z3=M.ub z3,M.U u2,M.U (M.ul z5),M.K (M.ub z9),u2=u2,M.ul z5=M.ul z5,M.ub z9=M.ub z9,M.U u1,M.U (M.ul z0),M.K (M.ub z6),u1=u1,M.ul z0=M.ul z0,M.ub z6=M.ub z6,M.U u0,M.U (M.ul z2),M.K cH,u0=u0,M.ul z2=M.ul z2,cH=cH,M.U z1,M.U cO,M.U (M.uh z0),z1=z1,M.dq z1 u3 u2=M.dq z1 u3 u2,M.uh z0=M.uh z0,M.U z4,M.U cO,M.U (M.uh z2),z4=z4,M.dq z1 u3 u2=M.dq z1 u3 u2,M.uh z2=M.uh z2,M.U z8,M.U cO,M.U cH,z8=z8,M.dq z1 u3 u2=M.dq z1 u3 u2,cH=cH,M.gt (M.uh z7) (M.ul z7) (M.dr z1 u3 u2) u1=false,M.U (M.ul z7),M.U u1,M.uh z7=M.uh z7,M.ul z7=M.ul z7,M.dr z1 u3 u2=M.dr z1 u3 u2,u1=u1,M.U cO,M.U z4,M.dq z1 u3 u2=M.dq z1 u3 u2,z4=z4,M.U u3,M.U u2,u3<z1,u3=u3,u2=u2,(u3 != z1)=true,(3:Nat)=(3:Nat),(4:Nat)=(4:Nat),M.ul z3=v2,M.ul z2=g0,M.ul z0=g1,M.ul z5=g2,M.uh z5=g3]
def CK (u0 u1 u2 u3:Int):List Int:=
 sh (18446744073709551615:Int) fun z2=>
 sh ((13835058055282163712:Int)*M.dq z2 u3 u2+(0:Int)) fun z1=>
 sh ((18446744073709551614:Int)*M.dq z2 u3 u2+M.uh z1) fun z0=>
 sh (z2*M.dq z2 u3 u2+M.uh z0) fun z5=>
 sh (u0-M.ul z1-(0:Int)) fun z4=>
 sh (u1-M.ul z0-M.ub z4) fun z6=>
 sh (u2-M.ul z5-M.ub z6) fun z3=>
 [M.ul z4,M.ul z6,M.ul z3,M.ul (u3-M.uh z5-M.ub z3)]
def DE (u2 u3:Int):Int:=M.dq (18446744073709551615:Int) u3 u2
abbrev uA:=DvP [true,false,false] DP CK DE
def GQ (u0 u1 u2 u3 v2 g0 g1 g2 g3:Int):List Prop:=
 sh (18446744073709551614:Int) fun z5=>
 sh (18446744073709551615:Int) fun z3=>
 sh (M.dq z3 u3 u2-(1:Int)) fun z1=>
 sh (13835058055282163712:Int) fun z9=>
 sh (0:Int) fun cO=>
 sh (z9*IntKind.u64.wrap z1+cO) fun z2=>
 sh (z5*IntKind.u64.wrap z1+M.uh z2) fun z0=>
 sh (z3*IntKind.u64.wrap z1+M.uh z0) fun z4=>
 sh (u0-M.ul z2-cO) fun cH=>
 sh (u1-M.ul z0-M.ub cH) fun z6=>
 sh (M.dq z3 u3 u2*z5) fun z7=>
 sh (u2-M.ul z4-M.ub z6) fun z8=>
 sh (IntKind.u64.wrap z1) fun dJ=>
 [(M.ub (u3-M.uh z4-M.ub z8) != cO)=false,M.U u3,M.U (M.uh z4),M.K (M.ub z8),u3=u3,M.uh z4=M.uh z4,M.ub z8=M.ub z8,M.U u2,M.U (M.ul z4),M.K (M.ub z6),u2=u2,M.ul z4=M.ul z4,M.ub z6=M.ub z6,M.U u1,M.U (M.ul z0),M.K (M.ub cH),u1=u1,M.ul z0=M.ul z0,M.ub cH=M.ub cH,M.U u0,M.U (M.ul z2),M.K cO,u0=u0,M.ul z2=M.ul z2,cO=cO,M.U z3,M.U dJ,M.U (M.uh z0),z3=z3,IntKind.u64.wrap z1=IntKind.u64.wrap z1,M.uh z0=M.uh z0,M.U z5,M.U dJ,M.U (M.uh z2),z5=z5,IntKind.u64.wrap z1=IntKind.u64.wrap z1,M.uh z2=M.uh z2,M.U z9,M.U dJ,M.U cO,z9=z9,IntKind.u64.wrap z1=IntKind.u64.wrap z1,cO=cO,decide (IntKind.u64.wrap (M.dr z3 u3 u2+z3)<z3)=true,M.gt (M.uh z7) (M.ul z7) (M.dr z3 u3 u2) u1=true,M.U (M.ul z7),M.U u1,M.uh z7=M.uh z7,M.ul z7=M.ul z7,M.dr z3 u3 u2=M.dr z3 u3 u2,u1=u1,M.U (M.dq z3 u3 u2),M.U z5,M.dq z3 u3 u2=M.dq z3 u3 u2,z5=z5,M.U u3,M.U u2,u3<z3,u3=u3,u2=u2,(u3 != z3)=true,(3:Nat)=(3:Nat),(4:Nat)=(4:Nat),M.ul z8=v2,M.ul z2=g0,M.ul z0=g1,M.ul z4=g2,M.uh z4=g3]
def GH (u0 u1 u2 u3:Int):List Int:=
 sh (18446744073709551615:Int) fun z5=>
 sh (M.dq z5 u3 u2-(1:Int)) fun z3=>
 sh ((13835058055282163712:Int)*IntKind.u64.wrap z3+(0:Int)) fun z1=>
 sh ((18446744073709551614:Int)*IntKind.u64.wrap z3+M.uh z1) fun z0=>
 sh (z5*IntKind.u64.wrap z3+M.uh z0) fun z2=>
 sh (u0-M.ul z1-(0:Int)) fun z6=>
 sh (u1-M.ul z0-M.ub z6) fun z4=>
 sh (u2-M.ul z2-M.ub z4) fun z7=>
 [M.ul z6,M.ul z4,M.ul z7,M.ul (u3-M.uh z2-M.ub z7)]
def GN (u2 u3:Int):Int:=IntKind.u64.wrap (M.dq (18446744073709551615:Int) u3 u2-(1:Int))
abbrev qR:=DvP [true,true,true,false] GQ GH GN
def Uf (u0 u1 u2 u3 v2 g0 g1 g2 g3:Int):List Prop:=
 sh (18446744073709551614:Int) fun z4=>
 sh (18446744073709551615:Int) fun z1=>
 sh (M.dq z1 u3 u2-(1:Int)) fun z6=>
 sh (13835058055282163712:Int) fun z9=>
 sh (0:Int) fun dJ=>
 sh (z9*IntKind.u64.wrap z6+dJ) fun z2=>
 sh (z4*IntKind.u64.wrap z6+M.uh z2) fun z0=>
 sh (z1*IntKind.u64.wrap z6+M.uh z0) fun z3=>
 sh (u0-M.ul z2-dJ) fun cH=>
 sh (u1-M.ul z0-M.ub cH) fun z5=>
 sh (M.dq z1 u3 u2*z4) fun z7=>
 sh (u2-M.ul z3-M.ub z5) fun z8=>
 sh (M.dr z1 u3 u2+z1) fun cO=>
 sh (IntKind.u64.wrap z6) fun eG=>
 sh (M.uh z7-(1:Int)) fun fE=>
 sh (M.ul z7-z4) fun iI=>
 sh (IntKind.u64.wrap iI) fun eT=>
 [(M.ub (u3-M.uh z3-M.ub z8) != dJ)=false,M.U u3,M.U (M.uh z3),M.K (M.ub z8),u3=u3,M.uh z3=M.uh z3,M.ub z8=M.ub z8,M.U u2,M.U (M.ul z3),M.K (M.ub z5),u2=u2,M.ul z3=M.ul z3,M.ub z5=M.ub z5,M.U u1,M.U (M.ul z0),M.K (M.ub cH),u1=u1,M.ul z0=M.ul z0,M.ub cH=M.ub cH,M.U u0,M.U (M.ul z2),M.K dJ,u0=u0,M.ul z2=M.ul z2,dJ=dJ,M.U z1,M.U eG,M.U (M.uh z0),z1=z1,IntKind.u64.wrap z6=IntKind.u64.wrap z6,M.uh z0=M.uh z0,M.U z4,M.U eG,M.U (M.uh z2),z4=z4,IntKind.u64.wrap z6=IntKind.u64.wrap z6,M.uh z2=M.uh z2,M.U z9,M.U eG,M.U dJ,z9=z9,IntKind.u64.wrap z6=IntKind.u64.wrap z6,dJ=dJ,M.gt (IntKind.u64.wrap fE) eT (IntKind.u64.wrap cO) u1=false,M.U eT,M.U u1,IntKind.u64.wrap fE=IntKind.u64.wrap fE,IntKind.u64.wrap iI=IntKind.u64.wrap iI,IntKind.u64.wrap cO=IntKind.u64.wrap cO,u1=u1,decide (z4>M.ul z7)=true,decide (IntKind.u64.wrap cO<z1)=false,M.gt (M.uh z7) (M.ul z7) (M.dr z1 u3 u2) u1=true,M.U (M.ul z7),M.U u1,M.uh z7=M.uh z7,M.ul z7=M.ul z7,M.dr z1 u3 u2=M.dr z1 u3 u2,u1=u1,M.U (M.dq z1 u3 u2),M.U z4,M.dq z1 u3 u2=M.dq z1 u3 u2,z4=z4,M.U u3,M.U u2,u3<z1,u3=u3,u2=u2,(u3 != z1)=true,(3:Nat)=(3:Nat),(4:Nat)=(4:Nat),M.ul z8=v2,M.ul z2=g0,M.ul z0=g1,M.ul z3=g2,M.uh z3=g3]
def Tp (u0 u1 u2 u3:Int):List Int:=
 sh (18446744073709551615:Int) fun z5=>
 sh (M.dq z5 u3 u2-(1:Int)) fun z3=>
 sh ((13835058055282163712:Int)*IntKind.u64.wrap z3+(0:Int)) fun z1=>
 sh ((18446744073709551614:Int)*IntKind.u64.wrap z3+M.uh z1) fun z0=>
 sh (z5*IntKind.u64.wrap z3+M.uh z0) fun z2=>
 sh (u0-M.ul z1-(0:Int)) fun z6=>
 sh (u1-M.ul z0-M.ub z6) fun z4=>
 sh (u2-M.ul z2-M.ub z4) fun z7=>
 [M.ul z6,M.ul z4,M.ul z7,M.ul (u3-M.uh z2-M.ub z7)]
def Ty (u2 u3:Int):Int:=IntKind.u64.wrap (M.dq (18446744073709551615:Int) u3 u2-(1:Int))
abbrev nS:=DvP [true,true,false,true,false,false] Uf Tp Ty
def Ug (u0 u1 u2 u3 v2 g0 g1 g2 g3:Int):List Prop:=
 sh (18446744073709551614:Int) fun z4=>
 sh (18446744073709551615:Int) fun z1=>
 sh (M.dq z1 u3 u2-(1:Int)) fun z6=>
 sh (13835058055282163712:Int) fun z9=>
 sh (0:Int) fun dJ=>
 sh (z9*IntKind.u64.wrap z6+dJ) fun z2=>
 sh (z4*IntKind.u64.wrap z6+M.uh z2) fun z0=>
 sh (z1*IntKind.u64.wrap z6+M.uh z0) fun z3=>
 sh (u0-M.ul z2-dJ) fun cH=>
 sh (u1-M.ul z0-M.ub cH) fun z5=>
 sh (M.dq z1 u3 u2*z4) fun z7=>
 sh (u2-M.ul z3-M.ub z5) fun z8=>
 sh (M.dr z1 u3 u2+z1) fun cO=>
 sh (IntKind.u64.wrap z6) fun eG=>
 sh (M.ul z7-z4) fun fE=>
 sh (IntKind.u64.wrap fE) fun iI=>
 [(M.ub (u3-M.uh z3-M.ub z8) != dJ)=false,M.U u3,M.U (M.uh z3),M.K (M.ub z8),u3=u3,M.uh z3=M.uh z3,M.ub z8=M.ub z8,M.U u2,M.U (M.ul z3),M.K (M.ub z5),u2=u2,M.ul z3=M.ul z3,M.ub z5=M.ub z5,M.U u1,M.U (M.ul z0),M.K (M.ub cH),u1=u1,M.ul z0=M.ul z0,M.ub cH=M.ub cH,M.U u0,M.U (M.ul z2),M.K dJ,u0=u0,M.ul z2=M.ul z2,dJ=dJ,M.U z1,M.U eG,M.U (M.uh z0),z1=z1,IntKind.u64.wrap z6=IntKind.u64.wrap z6,M.uh z0=M.uh z0,M.U z4,M.U eG,M.U (M.uh z2),z4=z4,IntKind.u64.wrap z6=IntKind.u64.wrap z6,M.uh z2=M.uh z2,M.U z9,M.U eG,M.U dJ,z9=z9,IntKind.u64.wrap z6=IntKind.u64.wrap z6,dJ=dJ,M.gt (M.uh z7) iI (IntKind.u64.wrap cO) u1=false,M.U iI,M.U u1,M.uh z7=M.uh z7,IntKind.u64.wrap fE=IntKind.u64.wrap fE,IntKind.u64.wrap cO=IntKind.u64.wrap cO,u1=u1,decide (z4>M.ul z7)=false,decide (IntKind.u64.wrap cO<z1)=false,M.gt (M.uh z7) (M.ul z7) (M.dr z1 u3 u2) u1=true,M.U (M.ul z7),M.U u1,M.uh z7=M.uh z7,M.ul z7=M.ul z7,M.dr z1 u3 u2=M.dr z1 u3 u2,u1=u1,M.U (M.dq z1 u3 u2),M.U z4,M.dq z1 u3 u2=M.dq z1 u3 u2,z4=z4,M.U u3,M.U u2,u3<z1,u3=u3,u2=u2,(u3 != z1)=true,(3:Nat)=(3:Nat),(4:Nat)=(4:Nat),M.ul z8=v2,M.ul z2=g0,M.ul z0=g1,M.ul z3=g2,M.uh z3=g3]
def Tq (u0 u1 u2 u3:Int):List Int:=
 sh (18446744073709551615:Int) fun z5=>
 sh (M.dq z5 u3 u2-(1:Int)) fun z3=>
 sh ((13835058055282163712:Int)*IntKind.u64.wrap z3+(0:Int)) fun z1=>
 sh ((18446744073709551614:Int)*IntKind.u64.wrap z3+M.uh z1) fun z0=>
 sh (z5*IntKind.u64.wrap z3+M.uh z0) fun z2=>
 sh (u0-M.ul z1-(0:Int)) fun z6=>
 sh (u1-M.ul z0-M.ub z6) fun z4=>
 sh (u2-M.ul z2-M.ub z4) fun z7=>
 [M.ul z6,M.ul z4,M.ul z7,M.ul (u3-M.uh z2-M.ub z7)]
def Tz (u2 u3:Int):Int:=IntKind.u64.wrap (M.dq (18446744073709551615:Int) u3 u2-(1:Int))
abbrev nT:=DvP [true,true,false,false,false,false] Ug Tq Tz
def aAv (u0 u1 u2 u3 v2 g0 g1 g2 g3:Int):List Prop:=
 sh (18446744073709551614:Int) fun z4=>
 sh (18446744073709551615:Int) fun z2=>
 sh (13835058055282163712:Int) fun z3=>
 sh (0:Int) fun cO=>
 sh (z3*M.dq z2 u3 u2+cO) fun z7=>
 sh (z4*M.dq z2 u3 u2+M.uh z7) fun z0=>
 sh (u0-M.ul z7-cO) fun z1=>
 sh (z2*M.dq z2 u3 u2+M.uh z0) fun z6=>
 sh (u1-M.ul z0-M.ub z1) fun z8=>
 sh (u2-M.ul z6-M.ub z8) fun z5=>
 sh (M.ul z1+z3+cO) fun z9=>
 sh (M.dq z2 u3 u2*z4) fun cH=>
 sh (M.ul z8+z4+M.uh z9) fun dJ=>
 sh (M.dq z2 u3 u2) fun eG=>
 [M.U (M.ul z5),M.U z2,M.K (M.uh dJ),M.ul z5=M.ul z5,z2=z2,M.uh dJ=M.uh dJ,M.U (M.ul z8),M.U z4,M.K (M.uh z9),M.ul z8=M.ul z8,z4=z4,M.uh z9=M.uh z9,M.U (M.ul z1),M.U z3,M.K cO,M.ul z1=M.ul z1,z3=z3,cO=cO,(M.ub (u3-M.uh z6-M.ub z5) != cO)=true,M.U u3,M.U (M.uh z6),M.K (M.ub z5),u3=u3,M.uh z6=M.uh z6,M.ub z5=M.ub z5,M.U u2,M.U (M.ul z6),M.K (M.ub z8),u2=u2,M.ul z6=M.ul z6,M.ub z8=M.ub z8,M.U u1,M.U (M.ul z0),M.K (M.ub z1),u1=u1,M.ul z0=M.ul z0,M.ub z1=M.ub z1,M.U u0,M.U (M.ul z7),M.K cO,u0=u0,M.ul z7=M.ul z7,cO=cO,M.U z2,M.U eG,M.U (M.uh z0),z2=z2,M.dq z2 u3 u2=M.dq z2 u3 u2,M.uh z0=M.uh z0,M.U z4,M.U eG,M.U (M.uh z7),z4=z4,M.dq z2 u3 u2=M.dq z2 u3 u2,M.uh z7=M.uh z7,M.U z3,M.U eG,M.U cO,z3=z3,M.dq z2 u3 u2=M.dq z2 u3 u2,cO=cO,M.gt (M.uh cH) (M.ul cH) (M.dr z2 u3 u2) u1=false,M.U (M.ul cH),M.U u1,M.uh cH=M.uh cH,M.ul cH=M.ul cH,M.dr z2 u3 u2=M.dr z2 u3 u2,u1=u1,M.U eG,M.U z4,M.dq z2 u3 u2=M.dq z2 u3 u2,z4=z4,M.U u3,M.U u2,u3<z2,u3=u3,u2=u2,(u3 != z2)=true,(3:Nat)=(3:Nat),(4:Nat)=(4:Nat),M.ul (M.ul z5+z2+M.uh dJ)=v2,M.ul z7=g0,M.ul z0=g1,M.ul z6=g2,M.uh z6=g3]
def ZY (u0 u1 u2 u3:Int):List Int:=
 sh (13835058055282163712:Int) fun z9=>
 sh (18446744073709551615:Int) fun z3=>
 sh (z9*M.dq z3 u3 u2+(0:Int)) fun z0=>
 sh (18446744073709551614:Int) fun cH=>
 sh (cH*M.dq z3 u3 u2+M.uh z0) fun z1=>
 sh (z3*M.dq z3 u3 u2+M.uh z1) fun z8=>
 sh (u0-M.ul z0-(0:Int)) fun z7=>
 sh (u1-M.ul z1-M.ub z7) fun cO=>
 sh (u2-M.ul z8-M.ub cO) fun z5=>
 sh (M.ul z7+z9+(0:Int)) fun z6=>
 sh (M.ul cO+cH+M.uh z6) fun z4=>
 sh (M.ul z5+z3+M.uh z4) fun z2=>
 [M.ul z6,M.ul z4,M.ul z2,IntKind.u64.wrap (M.ul (u3-M.uh z8-M.ub z5)+M.uh z2)]
def aAq (u2 u3:Int):Int:=IntKind.u64.wrap (M.dq (18446744073709551615:Int) u3 u2-(1:Int))
abbrev yC:=DvP [true,false,true] aAv ZY aAq
def aLn (u1 u2 u3 v3 g0 g1 g2 g3:Int):List Prop:=
 sh (18446744073709551614:Int) fun z3=>
 sh (18446744073709551615:Int) fun z1=>
 sh (0:Int) fun z4=>
 sh (13835058055282163712:Int) fun z8=>
 sh (z8*M.dq z1 z4 u3+z4) fun z2=>
 sh (z3*M.dq z1 z4 u3+M.uh z2) fun z0=>
 sh (z1*M.dq z1 z4 u3+M.uh z0) fun z5=>
 sh (u1-M.ul z2-z4) fun z9=>
 sh (u2-M.ul z0-M.ub z9) fun z6=>
 sh (M.dq z1 z4 u3*z3) fun z7=>
 sh (M.dq z1 z4 u3) fun cH=>
 sh (u3-M.ul z5-M.ub z6) fun cO=>
 [(M.dq z1 z4 u3==z4)=true,(M.ub cO != z4)=false,M.U u3,M.U (M.ul z5),M.K (M.ub z6),u3=u3,M.ul z5=M.ul z5,M.ub z6=M.ub z6,M.U u2,M.U (M.ul z0),M.K (M.ub z9),u2=u2,M.ul z0=M.ul z0,M.ub z9=M.ub z9,M.U u1,M.U (M.ul z2),M.K z4,u1=u1,M.ul z2=M.ul z2,z4=z4,(M.uh z5==z4)=true,M.U z1,M.U cH,M.U (M.uh z0),z1=z1,M.dq z1 z4 u3=M.dq z1 z4 u3,M.uh z0=M.uh z0,M.U z3,M.U cH,M.U (M.uh z2),z3=z3,M.dq z1 z4 u3=M.dq z1 z4 u3,M.uh z2=M.uh z2,M.U z8,M.U cH,M.U z4,z8=z8,M.dq z1 z4 u3=M.dq z1 z4 u3,z4=z4,M.gt (M.uh z7) (M.ul z7) (M.dr z1 z4 u3) u2=false,M.U (M.ul z7),M.U u2,M.uh z7=M.uh z7,M.ul z7=M.ul z7,M.dr z1 z4 u3=M.dr z1 z4 u3,u2=u2,M.U cH,M.U z3,M.dq z1 z4 u3=M.dq z1 z4 u3,z3=z3,M.U z4,M.U u3,z4<z1,z4=z4,u3=u3,(3:Nat)=(3:Nat),(4:Nat)=(4:Nat),M.ul cO=v3,M.ul z2=g0,M.ul z0=g1,M.ul z5=g2,M.uh z5=g3]
def aKm (u1 u2 u3:Int):List Int:=
 sh (18446744073709551615:Int) fun z2=>
 sh (0:Int) fun z4=>
 sh ((13835058055282163712:Int)*M.dq z2 z4 u3+z4) fun z0=>
 sh ((18446744073709551614:Int)*M.dq z2 z4 u3+M.uh z0) fun z1=>
 sh (u1-M.ul z0-z4) fun z3=>
 sh (u2-M.ul z1-M.ub z3) fun z5=>
 [M.ul z3,M.ul z5,M.ul (u3-M.ul (z2*M.dq z2 z4 u3+M.uh z1)-M.ub z5)]
def DvT (c:AA) (j j':Int) (pre post qs:List Int):Prop:=
 ∀ (eU eW:List SV) (u1 u2 u3 v1 v2 v3 h0 h1 h2 h3 g0 g1 g2 g3:Int),
   fQ fB eU eW c.nu c.cu c.nq c.cq c.m 18446744073709551615 1 j j' (.int true .u64 0) (.int false .u64 v3) (wc (pre++[u1,u2,u3]++post)) (wc (pre++[v1,v2,v3]++post)) (wc qs) (wc qs) (wc [h0,h1,h2,h3]) (wc [g0,g1,g2,g3]) [false,true,false,true] =
    some (.at .normal,[],aLn u1 u2 u3 v3 g0 g1 g2 g3++[qs=qs,pre++aKm u1 u2 u3++post=pre++[v1,v2,v3]++post])
theorem aHn:yD ⟨4,7,1,1,1⟩ 0 (-1) [] [0,0,0] [] []:=fun eU eW u0 u1 u2 u3 v0 v1 v2 v3 q0 q1 h0 h1 h2 h3 g0 g1 g2 g3=>by kernel_rfl
theorem aHm:uA ⟨4,7,1,1,1⟩ 0 (-1) [] [0,0,0] [] []:=fun eU eW u0 u1 u2 u3 v0 v1 v2 v3 q0 q1 h0 h1 h2 h3 g0 g1 g2 g3=>by kernel_rfl
theorem WB:qR ⟨4,7,1,1,1⟩ 0 (-1) [] [0,0,0] [] []:=fun eU eW u0 u1 u2 u3 v0 v1 v2 v3 q0 q1 h0 h1 h2 h3 g0 g1 g2 g3=>by kernel_rfl
theorem IZ:nS ⟨4,7,1,1,1⟩ 0 (-1) [] [0,0,0] [] []:=fun eU eW u0 u1 u2 u3 v0 v1 v2 v3 q0 q1 h0 h1 h2 h3 g0 g1 g2 g3=>by kernel_rfl
theorem JA:nT ⟨4,7,1,1,1⟩ 0 (-1) [] [0,0,0] [] []:=fun eU eW u0 u1 u2 u3 v0 v1 v2 v3 q0 q1 h0 h1 h2 h3 g0 g1 g2 g3=>by kernel_rfl
theorem aHl:yC ⟨4,7,1,1,1⟩ 0 (-1) [] [0,0,0] [] []:=fun eU eW u0 u1 u2 u3 v0 v1 v2 v3 q0 q1 h0 h1 h2 h3 g0 g1 g2 g3=>by kernel_rfl
theorem aQb (u0 q0:Int):DvT ⟨4,7,1,1,1⟩ 1 0 [u0] [0,0,0] [q0]:=fun eU eW u1 u2 u3 v1 v2 v3 h0 h1 h2 h3 g0 g1 g2 g3=>by kernel_rfl
theorem aHk:yD ⟨4,8,1,1,1⟩ 0 (-1) [] [0,0,0,0] [] []:=fun eU eW u0 u1 u2 u3 v0 v1 v2 v3 q0 q1 h0 h1 h2 h3 g0 g1 g2 g3=>by kernel_rfl
theorem aHj:uA ⟨4,8,1,1,1⟩ 0 (-1) [] [0,0,0,0] [] []:=fun eU eW u0 u1 u2 u3 v0 v1 v2 v3 q0 q1 h0 h1 h2 h3 g0 g1 g2 g3=>by kernel_rfl
theorem WA:qR ⟨4,8,1,1,1⟩ 0 (-1) [] [0,0,0,0] [] []:=fun eU eW u0 u1 u2 u3 v0 v1 v2 v3 q0 q1 h0 h1 h2 h3 g0 g1 g2 g3=>by kernel_rfl
theorem IX:nS ⟨4,8,1,1,1⟩ 0 (-1) [] [0,0,0,0] [] []:=fun eU eW u0 u1 u2 u3 v0 v1 v2 v3 q0 q1 h0 h1 h2 h3 g0 g1 g2 g3=>by kernel_rfl
theorem IY:nT ⟨4,8,1,1,1⟩ 0 (-1) [] [0,0,0,0] [] []:=fun eU eW u0 u1 u2 u3 v0 v1 v2 v3 q0 q1 h0 h1 h2 h3 g0 g1 g2 g3=>by kernel_rfl
theorem aHi:yC ⟨4,8,1,1,1⟩ 0 (-1) [] [0,0,0,0] [] []:=fun eU eW u0 u1 u2 u3 v0 v1 v2 v3 q0 q1 h0 h1 h2 h3 g0 g1 g2 g3=>by kernel_rfl
theorem aQa (u0 q0:Int):DvT ⟨4,8,1,1,1⟩ 1 0 [u0] [0,0,0,0] [q0]:=fun eU eW u1 u2 u3 v1 v2 v3 h0 h1 h2 h3 g0 g1 g2 g3=>by kernel_rfl
theorem VZ (z0 y0:Int):yD ⟨5,8,2,6,2⟩ 1 0 [z0] [0,0,0] [y0] [0,0,0,0]:=fun eU eW u0 u1 u2 u3 v0 v1 v2 v3 q0 q1 h0 h1 h2 h3 g0 g1 g2 g3=>by kernel_rfl
theorem VY (z0 y0:Int):uA ⟨5,8,2,6,2⟩ 1 0 [z0] [0,0,0] [y0] [0,0,0,0]:=fun eU eW u0 u1 u2 u3 v0 v1 v2 v3 q0 q1 h0 h1 h2 h3 g0 g1 g2 g3=>by kernel_rfl
theorem IW (z0 y0:Int):qR ⟨5,8,2,6,2⟩ 1 0 [z0] [0,0,0] [y0] [0,0,0,0]:=fun eU eW u0 u1 u2 u3 v0 v1 v2 v3 q0 q1 h0 h1 h2 h3 g0 g1 g2 g3=>by kernel_rfl
theorem Xy (z0 y0:Int):nS ⟨5,8,2,6,2⟩ 1 0 [z0] [0,0,0] [y0] [0,0,0,0]:=fun eU eW u0 u1 u2 u3 v0 v1 v2 v3 q0 q1 h0 h1 h2 h3 g0 g1 g2 g3=>by kernel_rfl
theorem Xz (z0 y0:Int):nT ⟨5,8,2,6,2⟩ 1 0 [z0] [0,0,0] [y0] [0,0,0,0]:=fun eU eW u0 u1 u2 u3 v0 v1 v2 v3 q0 q1 h0 h1 h2 h3 g0 g1 g2 g3=>by kernel_rfl
theorem VX (z0 y0:Int):yC ⟨5,8,2,6,2⟩ 1 0 [z0] [0,0,0] [y0] [0,0,0,0]:=fun eU eW u0 u1 u2 u3 v0 v1 v2 v3 q0 q1 h0 h1 h2 h3 g0 g1 g2 g3=>by kernel_rfl
theorem VW (y1:Int):yD ⟨5,8,2,6,2⟩ 0 (-1) [] [0,0,0,0] [] [y1,0,0,0,0]:=fun eU eW u0 u1 u2 u3 v0 v1 v2 v3 q0 q1 h0 h1 h2 h3 g0 g1 g2 g3=>by kernel_rfl
theorem VV (y1:Int):uA ⟨5,8,2,6,2⟩ 0 (-1) [] [0,0,0,0] [] [y1,0,0,0,0]:=fun eU eW u0 u1 u2 u3 v0 v1 v2 v3 q0 q1 h0 h1 h2 h3 g0 g1 g2 g3=>by kernel_rfl
theorem IV (y1:Int):qR ⟨5,8,2,6,2⟩ 0 (-1) [] [0,0,0,0] [] [y1,0,0,0,0]:=fun eU eW u0 u1 u2 u3 v0 v1 v2 v3 q0 q1 h0 h1 h2 h3 g0 g1 g2 g3=>by kernel_rfl
theorem Xw (y1:Int):nS ⟨5,8,2,6,2⟩ 0 (-1) [] [0,0,0,0] [] [y1,0,0,0,0]:=fun eU eW u0 u1 u2 u3 v0 v1 v2 v3 q0 q1 h0 h1 h2 h3 g0 g1 g2 g3=>by kernel_rfl
theorem Xx (y1:Int):nT ⟨5,8,2,6,2⟩ 0 (-1) [] [0,0,0,0] [] [y1,0,0,0,0]:=fun eU eW u0 u1 u2 u3 v0 v1 v2 v3 q0 q1 h0 h1 h2 h3 g0 g1 g2 g3=>by kernel_rfl
theorem VU (y1:Int):yC ⟨5,8,2,6,2⟩ 0 (-1) [] [0,0,0,0] [] [y1,0,0,0,0]:=fun eU eW u0 u1 u2 u3 v0 v1 v2 v3 q0 q1 h0 h1 h2 h3 g0 g1 g2 g3=>by kernel_rfl
theorem aPz (z0 u0 q0 q1:Int):DvT ⟨5,8,2,6,2⟩ 2 1 [z0,u0] [0,0,0] [q0,q1,0,0,0,0]:=fun eU eW u1 u2 u3 v1 v2 v3 h0 h1 h2 h3 g0 g1 g2 g3=>by kernel_rfl
theorem VT (z0 y0:Int):yD ⟨5,9,2,6,2⟩ 1 0 [z0] [0,0,0,0] [y0] [0,0,0,0]:=fun eU eW u0 u1 u2 u3 v0 v1 v2 v3 q0 q1 h0 h1 h2 h3 g0 g1 g2 g3=>by kernel_rfl
theorem VS (z0 y0:Int):uA ⟨5,9,2,6,2⟩ 1 0 [z0] [0,0,0,0] [y0] [0,0,0,0]:=fun eU eW u0 u1 u2 u3 v0 v1 v2 v3 q0 q1 h0 h1 h2 h3 g0 g1 g2 g3=>by kernel_rfl
theorem IU (z0 y0:Int):qR ⟨5,9,2,6,2⟩ 1 0 [z0] [0,0,0,0] [y0] [0,0,0,0]:=fun eU eW u0 u1 u2 u3 v0 v1 v2 v3 q0 q1 h0 h1 h2 h3 g0 g1 g2 g3=>by kernel_rfl
theorem Xu (z0 y0:Int):nS ⟨5,9,2,6,2⟩ 1 0 [z0] [0,0,0,0] [y0] [0,0,0,0]:=fun eU eW u0 u1 u2 u3 v0 v1 v2 v3 q0 q1 h0 h1 h2 h3 g0 g1 g2 g3=>by kernel_rfl
theorem Xv (z0 y0:Int):nT ⟨5,9,2,6,2⟩ 1 0 [z0] [0,0,0,0] [y0] [0,0,0,0]:=fun eU eW u0 u1 u2 u3 v0 v1 v2 v3 q0 q1 h0 h1 h2 h3 g0 g1 g2 g3=>by kernel_rfl
theorem VR (z0 y0:Int):yC ⟨5,9,2,6,2⟩ 1 0 [z0] [0,0,0,0] [y0] [0,0,0,0]:=fun eU eW u0 u1 u2 u3 v0 v1 v2 v3 q0 q1 h0 h1 h2 h3 g0 g1 g2 g3=>by kernel_rfl
theorem VQ (y1:Int):yD ⟨5,9,2,6,2⟩ 0 (-1) [] [0,0,0,0,0] [] [y1,0,0,0,0]:=fun eU eW u0 u1 u2 u3 v0 v1 v2 v3 q0 q1 h0 h1 h2 h3 g0 g1 g2 g3=>by kernel_rfl
theorem VP (y1:Int):uA ⟨5,9,2,6,2⟩ 0 (-1) [] [0,0,0,0,0] [] [y1,0,0,0,0]:=fun eU eW u0 u1 u2 u3 v0 v1 v2 v3 q0 q1 h0 h1 h2 h3 g0 g1 g2 g3=>by kernel_rfl
theorem IT (y1:Int):qR ⟨5,9,2,6,2⟩ 0 (-1) [] [0,0,0,0,0] [] [y1,0,0,0,0]:=fun eU eW u0 u1 u2 u3 v0 v1 v2 v3 q0 q1 h0 h1 h2 h3 g0 g1 g2 g3=>by kernel_rfl
theorem Xs (y1:Int):nS ⟨5,9,2,6,2⟩ 0 (-1) [] [0,0,0,0,0] [] [y1,0,0,0,0]:=fun eU eW u0 u1 u2 u3 v0 v1 v2 v3 q0 q1 h0 h1 h2 h3 g0 g1 g2 g3=>by kernel_rfl
theorem Xt (y1:Int):nT ⟨5,9,2,6,2⟩ 0 (-1) [] [0,0,0,0,0] [] [y1,0,0,0,0]:=fun eU eW u0 u1 u2 u3 v0 v1 v2 v3 q0 q1 h0 h1 h2 h3 g0 g1 g2 g3=>by kernel_rfl
theorem VO (y1:Int):yC ⟨5,9,2,6,2⟩ 0 (-1) [] [0,0,0,0,0] [] [y1,0,0,0,0]:=fun eU eW u0 u1 u2 u3 v0 v1 v2 v3 q0 q1 h0 h1 h2 h3 g0 g1 g2 g3=>by kernel_rfl
theorem aPy (z0 u0 q0 q1:Int):DvT ⟨5,9,2,6,2⟩ 2 1 [z0,u0] [0,0,0,0] [q0,q1,0,0,0,0]:=fun eU eW u1 u2 u3 v1 v2 v3 h0 h1 h2 h3 g0 g1 g2 g3=>by kernel_rfl
namespace M
def n4 (a b c d:Int):Int:=a+18446744073709551616*(b+18446744073709551616*(c+18446744073709551616*d))
def D:Int:=6277101735386680763835789423207666416102355444464034512895-23058430092136939519+0
structure Dig (d0 d1 d2 q u0 u1 u2 u3:Int) (c0 c1 p0 p1 p2 p3 b0 b1 b2 b3 s0 s1 s2 s3:Int):Prop where
 Zv:M.ul (d0*q+0)=p0
 wA:M.uh (d0*q+0)=c0
 Oq:M.ul (d1*q+c0)=p1
 AR:M.uh (d1*q+c0)=c1
 AM:M.ul (d2*q+c1)=p2
 ZD:M.uh (d2*q+c1)=p3
 vZ:M.ul (u0-p0-0)=s0
 Dp:M.ub (u0-p0-0)=b0
 lV:M.ul (u1-p1-b0)=s1
 sL:M.ub (u1-p1-b0)=b1
 Zu:M.ul (u2-p2-b1)=s2
 rU:M.ub (u2-p2-b1)=b2
 ZC:M.ul (u3-p3-b2)=s3
 NZ:M.ub (u3-p3-b2)=b3
theorem xF (d0 d1 d2 q u0 u1 u2 u3:Int):∃ c0 c1 p0 p1 p2 p3 b0 b1 b2 b3 s0 s1 s2 s3,Dig d0 d1 d2 q u0 u1 u2 u3 c0 c1 p0 p1 p2 p3 b0 b1 b2 b3 s0 s1 s2 s3:=
 ⟨_,_,_,_,_,_,_,_,_,_,_,_,_,_,rfl,rfl,rfl,rfl,rfl,rfl,rfl,rfl,rfl,rfl,rfl,rfl,rfl,rfl⟩
theorem mV (n:Int):M.ul n+18446744073709551616*M.uh n=n:=by unfold ul uh;omega
theorem Sh (n:Int):M.ul n-18446744073709551616*M.ub n=n:=by unfold ul ub;omega
theorem Ah {d q c:Int} (hd:U d) (hq:U q) (hc:U c):U (uh (d*q+c)):=by
 have h:=eM hd hq
 have:=hc.1
 have:=hc.2
 unfold U uh
 omega
theorem PT {a b c:Int} (ha:U a) (hb:U b) (hc:K c):K (ub (a-b-c)):=by
 have:=ha.1;have:=ha.2;have:=hb.1;have:=hb.2;have:=hc.1;have:=hc.2
 unfold K ub
 omega
structure aMt (c0 c1 p0 p1 p2 p3 b0 b1 b2 b3 s0 s1 s2 s3:Int):Prop where
 c0:U c0
 c1:U c1
 p0:U p0
 p1:U p1
 p2:U p2
 p3:U p3
 b0:K b0
 b1:K b1
 b2:K b2
 b3:K b3
 s0:U s0
 s1:U s1
 s2:U s2
 s3:U s3
theorem U0:U 0:=⟨by decide,by decide⟩
theorem K0:K 0:=⟨by decide,by decide⟩
theorem Dig.u {d0 d1 d2 q u0 u1 u2 u3 c0 c1 p0 p1 p2 p3 b0 b1 b2 b3 s0 s1 s2 s3:Int} (h:Dig d0 d1 d2 q u0 u1 u2 u3 c0 c1 p0 p1 p2 p3 b0 b1 b2 b3 s0 s1 s2 s3)
 (e0:U d0) (e1:U d1) (e2:U d2) (hq:U q) (w0:U u0) (w1:U u1) (w2:U u2) (w3:U u3):aMt c0 c1 p0 p1 p2 p3 b0 b1 b2 b3 s0 s1 s2 s3:=by
 have k0:U c0:=by rw [<- h.wA];exact Ah e0 hq U0
 have k1:U c1:=by rw [<- h.AR];exact Ah e1 hq k0
 have r0:U p0:=by rw [<- h.Zv];exact dL _
 have r1:U p1:=by rw [<- h.Oq];exact dL _
 have r2:U p2:=by rw [<- h.AM];exact dL _
 have r3:U p3:=by rw [<- h.ZD];exact Ah e2 hq k1
 have x0:K b0:=by rw [<- h.Dp];exact PT w0 r0 K0
 have x1:K b1:=by rw [<- h.sL];exact PT w1 r1 x0
 have x2:K b2:=by rw [<- h.rU];exact PT w2 r2 x1
 have x3:K b3:=by rw [<- h.NZ];exact PT w3 r3 x2
 exact ⟨k0,k1,r0,r1,r2,r3,x0,x1,x2,x3,by rw [<- h.vZ];exact dL _,by rw [<- h.lV];exact dL _,by rw [<- h.Zu];exact dL _,by rw [<- h.ZC];exact dL _⟩
theorem Dig.sum {d0 d1 d2 q u0 u1 u2 u3 c0 c1 p0 p1 p2 p3 b0 b1 b2 b3 s0 s1 s2 s3:Int} (h:Dig d0 d1 d2 q u0 u1 u2 u3 c0 c1 p0 p1 p2 p3 b0 b1 b2 b3 s0 s1 s2 s3) :
 n4 s0 s1 s2 s3-18446744073709551616*(18446744073709551616*(18446744073709551616*(18446744073709551616*b3))) =
  n4 u0 u1 u2 u3-(d0*q+18446744073709551616*(d1*q+18446744073709551616*(d2*q))):=by
 have a0:=mV (d0*q+0)
 have a1:=mV (d1*q+c0)
 have a2:=mV (d2*q+c1)
 have z0:=Sh (u0-p0-0)
 have z1:=Sh (u1-p1-b0)
 have z2:=Sh (u2-p2-b1)
 have z3:=Sh (u3-p3-b2)
 rw [h.Zv,h.wA] at a0
 rw [h.Oq,h.AR] at a1
 rw [h.AM,h.ZD] at a2
 rw [h.vZ,h.Dp] at z0
 rw [h.lV,h.sL] at z1
 rw [h.Zu,h.rU] at z2
 rw [h.ZC,h.NZ] at z3
 generalize d0*q=x0 at *
 generalize d1*q=x1 at *
 generalize d2*q=x2 at *
 unfold n4
 omega
def DD:Int:=n4 13835058055282163712 18446744073709551614 18446744073709551615 0
def w0 (n:Int):Int:=n%18446744073709551616
def w1 (n:Int):Int:=n/18446744073709551616%18446744073709551616
def w2 (n:Int):Int:=n/340282366920938463463374607431768211456%18446744073709551616
theorem aKl {a b c d:Int} (ha:U a) (hb:U b) (hc:U c):w0 (n4 a b c d)=a/\w1 (n4 a b c d)=b/\w2 (n4 a b c d)=c:=by
 have:=ha.1;have:=ha.2;have:=hb.1;have:=hb.2;have:=hc.1;have:=hc.2
 unfold w0 w1 w2 n4
 omega
abbrev aMs (q u0 u1 u2 u3:Int):=Dig 13835058055282163712 18446744073709551614 18446744073709551615 q u0 u1 u2 u3
theorem Dig.fits {q u0 u1 u2 u3 c0 c1 p0 p1 p2 p3 b0 b1 b2 b3 s0 s1 s2 s3:Int} (h:aMs q u0 u1 u2 u3 c0 c1 p0 p1 p2 p3 b0 b1 b2 b3 s0 s1 s2 s3)
 (hu:aMt c0 c1 p0 p1 p2 p3 b0 b1 b2 b3 s0 s1 s2 s3) (hq:q=n4 u0 u1 u2 u3/DD) :
 b3=0/\s0=w0 (n4 u0 u1 u2 u3%DD)/\s1=w1 (n4 u0 u1 u2 u3%DD)/\s2=w2 (n4 u0 u1 u2 u3%DD)/\s3=0:=by
 have hs:=h.sum
 obtain ⟨n,hn⟩:∃ n,n=n4 u0 u1 u2 u3:=⟨_,rfl⟩
 rw [<- hn] at hs hq |-
 have e:n-(13835058055282163712*q+18446744073709551616*(18446744073709551614*q+18446744073709551616*(18446744073709551615*q)))=n%DD:=by
  rw [hq]
  unfold DD n4
  omega
 rw [e] at hs
 have r0:0<=n%DD:=Int.emod_nonneg _ (by decide)
 have r1:n%DD<DD:=Int.emod_lt_of_pos _ (by decide)
 obtain ⟨r,hr⟩:∃ r,r=n%DD:=⟨_,rfl⟩
 rw [<- hr] at hs r0 r1 |-
 have rb:r<6277101735386680763835789423207666416102355444464034512896:=by
  refine Int.lt_of_lt_of_le r1 (by decide)
 have x0:=hu.b3.1
 have x1:=hu.b3.2
 have y0:=hu.s0.1
 have y1:=hu.s0.2
 have y2:=hu.s1.1
 have y3:=hu.s1.2
 have y4:=hu.s2.1
 have y5:=hu.s2.2
 have y6:=hu.s3.1
 have y7:=hu.s3.2
 have hb:b3=0:=by unfold n4 at hs;omega
 have h3:s3=0:=by unfold n4 at hs;omega
 rw [hb] at hs
 have Gp:r=n4 s0 s1 s2 s3:=by omega
 have:=aKl (d:=s3) hu.s0 hu.s1 hu.s2
 rw [Gp]
 exact ⟨hb,this.1.symm,this.2.1.symm,this.2.2.symm,h3⟩
end M
open M in
theorem aOm {c:AA} {j j':Int} {pre post qa qb:List Int} (P:uA c j j' pre post qa qb) (eU eW:List SV) (q0 h0 h1 h2 h3:Int) {u0 u1 u2 u3:Int} (a0:U u0) (a1:U u1) (a2:U u2) (a3:U u3) (hc:u3+u2<18446744073709551615) :
 ∃ g0 g1 g2 g3 ps,fQ fB eU eW c.nu c.cu c.nq c.cq c.m 18446744073709551615 1 j j' (.int false .u64 u3) (.int false .u64 (w2 (n4 u0 u1 u2 u3%DD))) (wc (pre++[u0,u1,u2,u3]++post))
   (wc (pre++[w0 (n4 u0 u1 u2 u3%DD),w1 (n4 u0 u1 u2 u3%DD),w2 (n4 u0 u1 u2 u3%DD),0]++post)) (wc (qa++[q0]++qb)) (wc (qa++[n4 u0 u1 u2 u3/DD]++qb)) (wc [h0,h1,h2,h3]) (wc [g0,g1,g2,g3]) [true,false,false]=some (.at .normal,[],ps)/\∀ q∈ps,q:=by
 have z0:=a0.1;have z1:=a0.2;have z2:=a1.1;have z3:=a1.2;have z4:=a2.1;have z5:=a2.2;have z6:=a3.1;have z7:=a3.2
 have e0:U 13835058055282163712:=⟨by decide,by decide⟩
 have e1:U 18446744073709551614:=⟨by decide,by decide⟩
 have e2:U 18446744073709551615:=⟨by decide,by decide⟩
 have aq:U (u3):=by unfold U;omega
 obtain ⟨c0,c1,p0,p1,p2,p3,b0,b1,b2,b3,s0,s1,s2,s3,H⟩:=xF 13835058055282163712 18446744073709551614 18446744073709551615 (u3) u0 u1 u2 u3
 have hu:=H.u e0 e1 e2 aq a0 a1 a2 a3
 have hq:u3=n4 u0 u1 u2 u3/DD:=by unfold DD n4;omega
 obtain ⟨f3,k0,k1,k2,k3⟩:=H.fits hu hq
 have hQ:dq 18446744073709551615 u3 u2=u3:=by unfold dq;omega
 have hR:dr 18446744073709551615 u3 u2=u3+u2:=by unfold dr;omega
 refine ⟨p0,p1,p2,p3,_,P eU eW u0 u1 u2 u3 _ _ _ _ q0 _ h0 h1 h2 h3 _ _ _ _,aA ?_⟩
 simp only [sh,DP,CK,DE,List.cons_append,List.nil_append,hQ,hR,aO,H.Zv,H.wA,H.Oq,H.AR,H.AM,H.ZD,H.vZ,H.Dp,H.lV,H.sL,H.Zu,H.rU,H.ZC,H.NZ,f3,<- k0,<- k1,<- k2,k3,<- hq,hu.c0,hu.c1,hu.p0,hu.p1,hu.p2,hu.p3,hu.b0,hu.b1,hu.b2,U0,K0,e0,e1,e2,a0,a1,a2,a3,and_true,true_and,aq]
 exact ⟨rfl,by unfold gt uh ul;exact decide_eq_false (by omega),dL _,by omega,bne_iff_ne.2 (by omega)⟩
open M in
theorem aOl {c:AA} {j j':Int} {pre post qa qb:List Int} (P:uA c j j' pre post qa qb) (eU eW:List SV) (q0 h0 h1 h2 h3:Int) {u0 u1 u2 u3:Int} (a0:U u0) (a1:U u1) (a2:U u2) (a3:U u3) (hd:u3<18446744073709551615) (hc:18446744073709551615<=u3+u2) (hn:gt (uh ((u3+1)*18446744073709551614)) (ul ((u3+1)*18446744073709551614)) (u3+u2-18446744073709551615) u1=false) (hq:u3+1=n4 u0 u1 u2 u3/DD) :
 ∃ g0 g1 g2 g3 ps,fQ fB eU eW c.nu c.cu c.nq c.cq c.m 18446744073709551615 1 j j' (.int false .u64 u3) (.int false .u64 (w2 (n4 u0 u1 u2 u3%DD))) (wc (pre++[u0,u1,u2,u3]++post))
   (wc (pre++[w0 (n4 u0 u1 u2 u3%DD),w1 (n4 u0 u1 u2 u3%DD),w2 (n4 u0 u1 u2 u3%DD),0]++post)) (wc (qa++[q0]++qb)) (wc (qa++[n4 u0 u1 u2 u3/DD]++qb)) (wc [h0,h1,h2,h3]) (wc [g0,g1,g2,g3]) [true,false,false]=some (.at .normal,[],ps)/\∀ q∈ps,q:=by
 have z0:=a0.1;have z1:=a0.2;have z2:=a1.1;have z3:=a1.2;have z4:=a2.1;have z5:=a2.2;have z6:=a3.1;have z7:=a3.2
 have e0:U 13835058055282163712:=⟨by decide,by decide⟩
 have e1:U 18446744073709551614:=⟨by decide,by decide⟩
 have e2:U 18446744073709551615:=⟨by decide,by decide⟩
 have aq:U (u3+1):=by unfold U;omega
 obtain ⟨c0,c1,p0,p1,p2,p3,b0,b1,b2,b3,s0,s1,s2,s3,H⟩:=xF 13835058055282163712 18446744073709551614 18446744073709551615 (u3+1) u0 u1 u2 u3
 have hu:=H.u e0 e1 e2 aq a0 a1 a2 a3
 have hq:u3+1=n4 u0 u1 u2 u3/DD:=by exact hq
 obtain ⟨f3,k0,k1,k2,k3⟩:=H.fits hu hq
 have hQ:dq 18446744073709551615 u3 u2=u3+1:=by unfold dq;omega
 have hR:dr 18446744073709551615 u3 u2=u3+u2-18446744073709551615:=by unfold dr;omega
 refine ⟨p0,p1,p2,p3,_,P eU eW u0 u1 u2 u3 _ _ _ _ q0 _ h0 h1 h2 h3 _ _ _ _,aA ?_⟩
 simp only [sh,DP,CK,DE,List.cons_append,List.nil_append,hQ,hR,aO,H.Zv,H.wA,H.Oq,H.AR,H.AM,H.ZD,H.vZ,H.Dp,H.lV,H.sL,H.Zu,H.rU,H.ZC,H.NZ,f3,<- k0,<- k1,<- k2,k3,<- hq,hu.c0,hu.c1,hu.p0,hu.p1,hu.p2,hu.p3,hu.b0,hu.b1,hu.b2,U0,K0,e0,e1,e2,a0,a1,a2,a3,and_true,true_and,aq]
 exact ⟨rfl,hn,dL _,hd,bne_iff_ne.2 (by omega)⟩
open M in
theorem aGl {c:AA} {j j':Int} {pre post qa qb:List Int} (P:qR c j j' pre post qa qb) (eU eW:List SV) (q0 h0 h1 h2 h3:Int) {u0 u1 u2 u3:Int} (a0:U u0) (a1:U u1) (a2:U u2) (a3:U u3) (hd:u3<18446744073709551615) (hc:18446744073709551615<=u3+u2) (hn:gt (uh ((u3+1)*18446744073709551614)) (ul ((u3+1)*18446744073709551614)) (u3+u2-18446744073709551615) u1=true) (hv:18446744073709551616<=u3+u2) :
 ∃ g0 g1 g2 g3 ps,fQ fB eU eW c.nu c.cu c.nq c.cq c.m 18446744073709551615 1 j j' (.int false .u64 u3) (.int false .u64 (w2 (n4 u0 u1 u2 u3%DD))) (wc (pre++[u0,u1,u2,u3]++post))
   (wc (pre++[w0 (n4 u0 u1 u2 u3%DD),w1 (n4 u0 u1 u2 u3%DD),w2 (n4 u0 u1 u2 u3%DD),0]++post)) (wc (qa++[q0]++qb)) (wc (qa++[n4 u0 u1 u2 u3/DD]++qb)) (wc [h0,h1,h2,h3]) (wc [g0,g1,g2,g3]) [true,true,true,false]=some (.at .normal,[],ps)/\∀ q∈ps,q:=by
 have z0:=a0.1;have z1:=a0.2;have z2:=a1.1;have z3:=a1.2;have z4:=a2.1;have z5:=a2.2;have z6:=a3.1;have z7:=a3.2
 have e0:U 13835058055282163712:=⟨by decide,by decide⟩
 have e1:U 18446744073709551614:=⟨by decide,by decide⟩
 have e2:U 18446744073709551615:=⟨by decide,by decide⟩
 have aq:U (u3):=by unfold U;omega
 obtain ⟨c0,c1,p0,p1,p2,p3,b0,b1,b2,b3,s0,s1,s2,s3,H⟩:=xF 13835058055282163712 18446744073709551614 18446744073709551615 (u3) u0 u1 u2 u3
 have hu:=H.u e0 e1 e2 aq a0 a1 a2 a3
 have hW:IntKind.u64.wrap (u3+1-1)=u3:=by rw [bP];unfold ul;omega
 have hq:u3=n4 u0 u1 u2 u3/DD:=by have Oe:=hn;unfold gt uh ul at Oe;have:=of_decide_eq_true Oe;unfold DD n4;omega
 obtain ⟨f3,k0,k1,k2,k3⟩:=H.fits hu hq
 have hQ:dq 18446744073709551615 u3 u2=u3+1:=by unfold dq;omega
 have hR:dr 18446744073709551615 u3 u2=u3+u2-18446744073709551615:=by unfold dr;omega
 refine ⟨p0,p1,p2,p3,_,P eU eW u0 u1 u2 u3 _ _ _ _ q0 _ h0 h1 h2 h3 _ _ _ _,aA ?_⟩
 simp only [sh,GQ,GH,GN,List.cons_append,List.nil_append,hQ,hR,hW,aO,H.Zv,H.wA,H.Oq,H.AR,H.AM,H.ZD,H.vZ,H.Dp,H.lV,H.sL,H.Zu,H.rU,H.ZC,H.NZ,f3,<- k0,<- k1,<- k2,k3,<- hq,hu.c0,hu.c1,hu.p0,hu.p1,hu.p2,hu.p3,hu.b0,hu.b1,hu.b2,U0,K0,e0,e1,e2,a0,a1,a2,a3,and_true,true_and,aq]
 exact ⟨rfl,decide_eq_true (by rw [bP];unfold ul;omega),hn,dL _,⟨by omega,by omega⟩,hd,bne_iff_ne.2 (by omega)⟩
open M in
theorem UG {c:AA} {j j':Int} {pre post qa qb:List Int} (P:nS c j j' pre post qa qb) (eU eW:List SV) (q0 h0 h1 h2 h3:Int) {u0 u1 u2 u3:Int} (a0:U u0) (a1:U u1) (a2:U u2) (a3:U u3) (hd:u3<18446744073709551615) (hc:18446744073709551615<=u3+u2) (hn:gt (uh ((u3+1)*18446744073709551614)) (ul ((u3+1)*18446744073709551614)) (u3+u2-18446744073709551615) u1=true) (hv:u3+u2=18446744073709551615) (hb:ul ((u3+1)*18446744073709551614)<18446744073709551614) :
 ∃ g0 g1 g2 g3 ps,fQ fB eU eW c.nu c.cu c.nq c.cq c.m 18446744073709551615 1 j j' (.int false .u64 u3) (.int false .u64 (w2 (n4 u0 u1 u2 u3%DD))) (wc (pre++[u0,u1,u2,u3]++post))
   (wc (pre++[w0 (n4 u0 u1 u2 u3%DD),w1 (n4 u0 u1 u2 u3%DD),w2 (n4 u0 u1 u2 u3%DD),0]++post)) (wc (qa++[q0]++qb)) (wc (qa++[n4 u0 u1 u2 u3/DD]++qb)) (wc [h0,h1,h2,h3]) (wc [g0,g1,g2,g3]) [true,true,false,true,false,false]=some (.at .normal,[],ps)/\∀ q∈ps,q:=by
 have z0:=a0.1;have z1:=a0.2;have z2:=a1.1;have z3:=a1.2;have z4:=a2.1;have z5:=a2.2;have z6:=a3.1;have z7:=a3.2
 have e0:U 13835058055282163712:=⟨by decide,by decide⟩
 have e1:U 18446744073709551614:=⟨by decide,by decide⟩
 have e2:U 18446744073709551615:=⟨by decide,by decide⟩
 have aq:U (u3):=by unfold U;omega
 obtain ⟨c0,c1,p0,p1,p2,p3,b0,b1,b2,b3,s0,s1,s2,s3,H⟩:=xF 13835058055282163712 18446744073709551614 18446744073709551615 (u3) u0 u1 u2 u3
 have hu:=H.u e0 e1 e2 aq a0 a1 a2 a3
 have hW:IntKind.u64.wrap (u3+1-1)=u3:=by rw [bP];unfold ul;omega
 have hq:u3=n4 u0 u1 u2 u3/DD:=by have Oe:=hn;unfold gt uh ul at Oe;have:=of_decide_eq_true Oe;unfold DD n4;omega
 obtain ⟨f3,k0,k1,k2,k3⟩:=H.fits hu hq
 have hQ:dq 18446744073709551615 u3 u2=u3+1:=by unfold dq;omega
 have hR:dr 18446744073709551615 u3 u2=u3+u2-18446744073709551615:=by unfold dr;omega
 refine ⟨p0,p1,p2,p3,_,P eU eW u0 u1 u2 u3 _ _ _ _ q0 _ h0 h1 h2 h3 _ _ _ _,aA ?_⟩
 simp only [sh,Uf,Tp,Ty,List.cons_append,List.nil_append,hQ,hR,hW,aO,H.Zv,H.wA,H.Oq,H.AR,H.AM,H.ZD,H.vZ,H.Dp,H.lV,H.sL,H.Zu,H.rU,H.ZC,H.NZ,f3,<- k0,<- k1,<- k2,k3,<- hq,hu.c0,hu.c1,hu.p0,hu.p1,hu.p2,hu.p3,hu.b0,hu.b1,hu.b2,U0,K0,e0,e1,e2,a0,a1,a2,a3,and_true,true_and,aq]
 exact ⟨rfl,by
  have hx:(uh ((u3+1)*18446744073709551614)=u3/\ul ((u3+1)*18446744073709551614)=18446744073709551616-2*u3-2/\2*u3+2<=18446744073709551616)\/(uh ((u3+1)*18446744073709551614)=u3-1/\ul ((u3+1)*18446744073709551614)=36893488147419103232-2*u3-2/\18446744073709551616<2*u3+2):=by unfold uh ul;omega
  simp only [bP]
  rcases hx with ⟨x1,x2,x3⟩ | ⟨x1,x2,x3⟩
  .rw [x1,x2];rw [x2] at hb;unfold gt ul;exact decide_eq_false (by omega)
  .rw [x1,x2];rw [x2] at hb;unfold gt ul;exact decide_eq_false (by omega),by rw [bP];exact dL _,decide_eq_true hb,decide_eq_false (by rw [bP];unfold ul;omega),hn,dL _,⟨by omega,by omega⟩,hd,bne_iff_ne.2 (by omega)⟩
open M in
theorem UH {c:AA} {j j':Int} {pre post qa qb:List Int} (P:nT c j j' pre post qa qb) (eU eW:List SV) (q0 h0 h1 h2 h3:Int) {u0 u1 u2 u3:Int} (a0:U u0) (a1:U u1) (a2:U u2) (a3:U u3) (hd:u3<18446744073709551615) (hc:18446744073709551615<=u3+u2) (hn:gt (uh ((u3+1)*18446744073709551614)) (ul ((u3+1)*18446744073709551614)) (u3+u2-18446744073709551615) u1=true) (hv:u3+u2=18446744073709551615) (hb:¬ ul ((u3+1)*18446744073709551614)<18446744073709551614) :
 ∃ g0 g1 g2 g3 ps,fQ fB eU eW c.nu c.cu c.nq c.cq c.m 18446744073709551615 1 j j' (.int false .u64 u3) (.int false .u64 (w2 (n4 u0 u1 u2 u3%DD))) (wc (pre++[u0,u1,u2,u3]++post))
   (wc (pre++[w0 (n4 u0 u1 u2 u3%DD),w1 (n4 u0 u1 u2 u3%DD),w2 (n4 u0 u1 u2 u3%DD),0]++post)) (wc (qa++[q0]++qb)) (wc (qa++[n4 u0 u1 u2 u3/DD]++qb)) (wc [h0,h1,h2,h3]) (wc [g0,g1,g2,g3]) [true,true,false,false,false,false]=some (.at .normal,[],ps)/\∀ q∈ps,q:=by
 have z0:=a0.1;have z1:=a0.2;have z2:=a1.1;have z3:=a1.2;have z4:=a2.1;have z5:=a2.2;have z6:=a3.1;have z7:=a3.2
 have e0:U 13835058055282163712:=⟨by decide,by decide⟩
 have e1:U 18446744073709551614:=⟨by decide,by decide⟩
 have e2:U 18446744073709551615:=⟨by decide,by decide⟩
 have aq:U (u3):=by unfold U;omega
 obtain ⟨c0,c1,p0,p1,p2,p3,b0,b1,b2,b3,s0,s1,s2,s3,H⟩:=xF 13835058055282163712 18446744073709551614 18446744073709551615 (u3) u0 u1 u2 u3
 have hu:=H.u e0 e1 e2 aq a0 a1 a2 a3
 have hW:IntKind.u64.wrap (u3+1-1)=u3:=by rw [bP];unfold ul;omega
 have hq:u3=n4 u0 u1 u2 u3/DD:=by have Oe:=hn;unfold gt uh ul at Oe;have:=of_decide_eq_true Oe;unfold DD n4;omega
 obtain ⟨f3,k0,k1,k2,k3⟩:=H.fits hu hq
 have hQ:dq 18446744073709551615 u3 u2=u3+1:=by unfold dq;omega
 have hR:dr 18446744073709551615 u3 u2=u3+u2-18446744073709551615:=by unfold dr;omega
 refine ⟨p0,p1,p2,p3,_,P eU eW u0 u1 u2 u3 _ _ _ _ q0 _ h0 h1 h2 h3 _ _ _ _,aA ?_⟩
 simp only [sh,Ug,Tq,Tz,List.cons_append,List.nil_append,hQ,hR,hW,aO,H.Zv,H.wA,H.Oq,H.AR,H.AM,H.ZD,H.vZ,H.Dp,H.lV,H.sL,H.Zu,H.rU,H.ZC,H.NZ,f3,<- k0,<- k1,<- k2,k3,<- hq,hu.c0,hu.c1,hu.p0,hu.p1,hu.p2,hu.p3,hu.b0,hu.b1,hu.b2,U0,K0,e0,e1,e2,a0,a1,a2,a3,and_true,true_and,aq]
 exact ⟨rfl,by
  have hx:(uh ((u3+1)*18446744073709551614)=u3/\ul ((u3+1)*18446744073709551614)=18446744073709551616-2*u3-2/\2*u3+2<=18446744073709551616)\/(uh ((u3+1)*18446744073709551614)=u3-1/\ul ((u3+1)*18446744073709551614)=36893488147419103232-2*u3-2/\18446744073709551616<2*u3+2):=by unfold uh ul;omega
  simp only [bP]
  rcases hx with ⟨x1,x2,x3⟩ | ⟨x1,x2,x3⟩
  .rw [x1,x2];rw [x2] at hb;unfold gt ul;exact decide_eq_false (by omega)
  .rw [x1,x2];rw [x2] at hb;unfold gt ul;exact decide_eq_false (by omega),by rw [bP];exact dL _,decide_eq_false hb,decide_eq_false (by rw [bP];unfold ul;omega),hn,dL _,⟨by omega,by omega⟩,hd,bne_iff_ne.2 (by omega)⟩
open M in
theorem aOk {c:AA} {j j':Int} {pre post qa qb:List Int} (P:yC c j j' pre post qa qb) (eU eW:List SV) (q0 h0 h1 h2 h3:Int) {u0 u1 u2 u3:Int} (a0:U u0) (a1:U u1) (a2:U u2) (a3:U u3) (hd:u3<18446744073709551615) (hc:18446744073709551615<=u3+u2) (hn:gt (uh ((u3+1)*18446744073709551614)) (ul ((u3+1)*18446744073709551614)) (u3+u2-18446744073709551615) u1=false) (hq:u3=n4 u0 u1 u2 u3/DD) :
 ∃ g0 g1 g2 g3 ps,fQ fB eU eW c.nu c.cu c.nq c.cq c.m 18446744073709551615 1 j j' (.int false .u64 u3) (.int false .u64 (w2 (n4 u0 u1 u2 u3%DD))) (wc (pre++[u0,u1,u2,u3]++post))
   (wc (pre++[w0 (n4 u0 u1 u2 u3%DD),w1 (n4 u0 u1 u2 u3%DD),w2 (n4 u0 u1 u2 u3%DD),0]++post)) (wc (qa++[q0]++qb)) (wc (qa++[n4 u0 u1 u2 u3/DD]++qb)) (wc [h0,h1,h2,h3]) (wc [g0,g1,g2,g3]) [true,false,true]=some (.at .normal,[],ps)/\∀ q∈ps,q:=by
 have z0:=a0.1;have z1:=a0.2;have z2:=a1.1;have z3:=a1.2;have z4:=a2.1;have z5:=a2.2;have z6:=a3.1;have z7:=a3.2
 have e0:U 13835058055282163712:=⟨by decide,by decide⟩
 have e1:U 18446744073709551614:=⟨by decide,by decide⟩
 have e2:U 18446744073709551615:=⟨by decide,by decide⟩
 have aq:U (u3+1):=by unfold U;omega
 obtain ⟨c0,c1,p0,p1,p2,p3,b0,b1,b2,b3,s0,s1,s2,s3,H⟩:=xF 13835058055282163712 18446744073709551614 18446744073709551615 (u3+1) u0 u1 u2 u3
 have hu:=H.u e0 e1 e2 aq a0 a1 a2 a3
 have hW:IntKind.u64.wrap (u3+1-1)=u3:=by rw [bP];unfold ul;omega
 have hQ:dq 18446744073709551615 u3 u2=u3+1:=by unfold dq;omega
 have hR:dr 18446744073709551615 u3 u2=u3+u2-18446744073709551615:=by unfold dr;omega
 have hs:=H.sum
 obtain ⟨n,hn4⟩:∃ n,n=n4 u0 u1 u2 u3:=⟨_,rfl⟩
 rw [<- hn4] at hs hq |-
 obtain ⟨r,hr⟩:∃ r,r=n%DD:=⟨_,rfl⟩
 have e:n-(13835058055282163712*(u3+1)+18446744073709551616*(18446744073709551614*(u3+1)+18446744073709551616*(18446744073709551615*(u3+1))))=r-DD:=by
  rw [hr]
  unfold DD n4
  unfold DD n4 at hq
  omega
 rw [e] at hs
 have r0:0<=r:=by rw [hr];exact Int.emod_nonneg _ (by decide)
 have r1:r<DD:=by rw [hr];exact Int.emod_lt_of_pos _ (by decide)
 rw [<- hr]
 refine ⟨p0,p1,p2,p3,_,P eU eW u0 u1 u2 u3 _ _ _ _ q0 _ h0 h1 h2 h3 _ _ _ _,aA ?_⟩
 simp only [sh,aAv,ZY,aAq,List.cons_append,List.nil_append,hQ,hR,hW,aO,H.Zv,H.wA,H.Oq,H.AR,H.AM,H.ZD,H.vZ,H.Dp,H.lV,H.sL,H.Zu,H.rU,H.ZC,H.NZ,<- hq,hu.c0,hu.c1,hu.p0,hu.p1,hu.p2,hu.p3,hu.b0,hu.b1,hu.b2,hu.s0,hu.s1,hu.s2,U0,K0,e0,e1,e2,a0,a1,a2,a3,aq,and_true,true_and]
 obtain ⟨t0,ht0⟩:∃ t,t=ul (s0+13835058055282163712+0):=⟨_,rfl⟩
 obtain ⟨g0,Kf⟩:∃ t,t=uh (s0+13835058055282163712+0):=⟨_,rfl⟩
 rw [<- ht0,<- Kf]
 obtain ⟨t1,ht1⟩:∃ t,t=ul (s1+18446744073709551614+g0):=⟨_,rfl⟩
 obtain ⟨g1,hg1⟩:∃ t,t=uh (s1+18446744073709551614+g0):=⟨_,rfl⟩
 rw [<- ht1,<- hg1]
 obtain ⟨t2,ht2⟩:∃ t,t=ul (s2+18446744073709551615+g1):=⟨_,rfl⟩
 obtain ⟨g2,hg2⟩:∃ t,t=uh (s2+18446744073709551615+g1):=⟨_,rfl⟩
 rw [<- ht2,<- hg2,bP]
 obtain ⟨t3,ht3⟩:∃ t,t=ul (s3+g2):=⟨_,rfl⟩
 obtain ⟨g3,hg3⟩:∃ t,t=uh (s3+g2):=⟨_,rfl⟩
 rw [<- ht3]
 have m0:=mV (s0+13835058055282163712+0)
 have m1:=mV (s1+18446744073709551614+g0)
 have m2:=mV (s2+18446744073709551615+g1)
 have m3:=mV (s3+g2)
 rw [<- ht0,<- Kf] at m0
 rw [<- ht1,<- hg1] at m1
 rw [<- ht2,<- hg2] at m2
 rw [<- ht3,<- hg3] at m3
 have v0:U t0:=by rw [ht0];exact dL _
 have v1:U t1:=by rw [ht1];exact dL _
 have v2:U t2:=by rw [ht2];exact dL _
 have v3:U t3:=by rw [ht3];exact dL _
 have q1:=hu.s0.1;have q2:=hu.s0.2;have q3:=hu.s1.1;have q4:=hu.s1.2
 have q5:=hu.s2.1;have q6:=hu.s2.2;have q7:=hu.s3.1;have q8:=hu.s3.2
 have y0:=v0.1;have y1:=v0.2;have y2:=v1.1;have y3:=v1.2;have y4:=v2.1;have y5:=v2.2;have y6:=v3.1;have y7:=v3.2
 have l1:=hu.b3.1;have l2:=hu.b3.2
 have kg0:K g0:=by unfold K;omega
 have kg1:K g1:=by have:=kg0.1;have:=kg0.2;unfold K;omega
 have hDD:DD=6277101735386680763835789423207666416079297014371897573376:=by decide
 rw [hDD] at hs r1
 have hb:b3=1:=by unfold n4 at hs;omega
 have ht:r=n4 t0 t1 t2 t3:=by unfold n4 at hs |-;omega
 have h3:t3=0:=by unfold n4 at ht;omega
 have W:=aKl (d:=t3) v0 v1 v2
 rw [<- ht] at W
 rw [W.1,W.2.1,W.2.2,h3,hb]
 exact ⟨kg1,kg0,rfl,hn,dL _,hd,bne_iff_ne.2 (by omega),rfl,rfl⟩
open M in
theorem aOn {c:AA} {j j':Int} {pre post qa qb:List Int} (P:yD c j j' pre post qa qb) (eU eW:List SV) (q0 h0 h1 h2 h3:Int) {u0 u1 u2 u3:Int} (a0:U u0) (a1:U u1) (a2:U u2) (hc:u3=18446744073709551615) (hl:n4 u0 u1 u2 u3<18446744073709551616*DD) :
 ∃ g0 g1 g2 g3 ps,fQ fB eU eW c.nu c.cu c.nq c.cq c.m 18446744073709551615 1 j j' (.int false .u64 u3) (.int false .u64 (w2 (n4 u0 u1 u2 u3%DD))) (wc (pre++[u0,u1,u2,u3]++post))
   (wc (pre++[w0 (n4 u0 u1 u2 u3%DD),w1 (n4 u0 u1 u2 u3%DD),w2 (n4 u0 u1 u2 u3%DD),0]++post)) (wc (qa++[q0]++qb)) (wc (qa++[n4 u0 u1 u2 u3/DD]++qb)) (wc [h0,h1,h2,h3]) (wc [g0,g1,g2,g3]) [false,false]=some (.at .normal,[],ps)/\∀ q∈ps,q:=by
 have a3:U u3:=by unfold U;omega
 have z0:=a0.1;have z1:=a0.2;have z2:=a1.1;have z3:=a1.2;have z4:=a2.1;have z5:=a2.2;have z6:=a3.1;have z7:=a3.2
 have e0:U 13835058055282163712:=⟨by decide,by decide⟩
 have e1:U 18446744073709551614:=⟨by decide,by decide⟩
 have e2:U 18446744073709551615:=⟨by decide,by decide⟩
 have H:aMs 18446744073709551615 u0 u1 u2 u3 13835058055282163711 18446744073709551613 4611686018427387904 13835058055282163713 18446744073709551614 18446744073709551614 _ _ _ _ _ _ _ _:=⟨by decide,by decide,by decide,by decide,by decide,by decide,rfl,rfl,rfl,rfl,rfl,rfl,rfl,rfl⟩
 have hu:=H.u e0 e1 e2 e2 a0 a1 a2 a3
 have hq:18446744073709551615=n4 u0 u1 u2 u3/DD:=by unfold DD n4 at *;omega
 obtain ⟨f3,k0,k1,k2,k3⟩:=H.fits hu hq
 refine ⟨4611686018427387904,13835058055282163713,18446744073709551614,18446744073709551614,_,P eU eW u0 u1 u2 u3 _ _ _ _ q0 _ h0 h1 h2 h3 _ _ _ _,aA ?_⟩
 simp only [sh,aAw,ZZ,aAr,List.cons_append,List.nil_append,aO,f3,k0,k1,k2,k3,<- hq,hu.b0,hu.b1,hu.b2,U0,K0,e0,e1,e2,a0,a1,a2,a3,and_true,true_and]
 exact ⟨rfl,⟨by decide,by decide⟩,⟨by decide,by decide⟩,⟨by decide,by decide⟩,⟨by decide,by decide⟩,by rw [hc];decide⟩
structure aTh (c:AA) (j j':Int) (pre post qa qb:List Int):Prop where
 p0:yD c j j' pre post qa qb
 p1:uA c j j' pre post qa qb
 p2a:qR c j j' pre post qa qb
 aWb:nS c j j' pre post qa qb
 aWc:nT c j j' pre post qa qb
 p4:yC c j j' pre post qa qb
open M in
theorem oS {c:AA} {j j':Int} {pre post qa qb:List Int} (P:aTh c j j' pre post qa qb) (eU eW:List SV) (q0 h0 h1 h2 h3:Int) {u0 u1 u2 u3:Int} (a0:U u0) (a1:U u1) (a2:U u2) (a3:U u3) (hl:n4 u0 u1 u2 u3<18446744073709551616*DD) :
 ∃ hs g0 g1 g2 g3 ps,fQ fB eU eW c.nu c.cu c.nq c.cq c.m 18446744073709551615 1 j j' (.int false .u64 u3) (.int false .u64 (w2 (n4 u0 u1 u2 u3%DD))) (wc (pre++[u0,u1,u2,u3]++post))
   (wc (pre++[w0 (n4 u0 u1 u2 u3%DD),w1 (n4 u0 u1 u2 u3%DD),w2 (n4 u0 u1 u2 u3%DD),0]++post)) (wc (qa++[q0]++qb)) (wc (qa++[n4 u0 u1 u2 u3/DD]++qb)) (wc [h0,h1,h2,h3]) (wc [g0,g1,g2,g3]) hs=some (.at .normal,[],ps)/\∀ q∈ps,q:=by
 have z0:=a0.1;have z1:=a0.2;have z2:=a1.1;have z3:=a1.2;have z4:=a2.1;have z5:=a2.2;have z6:=a3.1;have z7:=a3.2
 by_cases hc:u3=18446744073709551615
 .exact ⟨_,aOn P.p0 eU eW q0 h0 h1 h2 h3 a0 a1 a2 hc hl⟩
 have hd:u3<18446744073709551615:=by omega
 by_cases Ot:u3+u2<18446744073709551615
 .exact ⟨_,aOm P.p1 eU eW q0 h0 h1 h2 h3 a0 a1 a2 a3 Ot⟩
 have BV:18446744073709551615<=u3+u2:=by omega
 cases hn:gt (uh ((u3+1)*18446744073709551614)) (ul ((u3+1)*18446744073709551614)) (u3+u2-18446744073709551615) u1 with
 | true=>
   by_cases hv:u3+u2=18446744073709551615
   .by_cases hb:ul ((u3+1)*18446744073709551614)<18446744073709551614
    .exact ⟨_,UG P.aWb eU eW q0 h0 h1 h2 h3 a0 a1 a2 a3 hd BV hn hv hb⟩
    .exact ⟨_,UH P.aWc eU eW q0 h0 h1 h2 h3 a0 a1 a2 a3 hd BV hn hv hb⟩
   .exact ⟨_,aGl P.p2a eU eW q0 h0 h1 h2 h3 a0 a1 a2 a3 hd BV hn (by omega)⟩
 | false=>
   by_cases hq:u3+1=n4 u0 u1 u2 u3/DD
   .exact ⟨_,aOl P.p1 eU eW q0 h0 h1 h2 h3 a0 a1 a2 a3 hd BV hn hq⟩
   .exact ⟨_,aOk P.p4 eU eW q0 h0 h1 h2 h3 a0 a1 a2 a3 hd BV hn (by revert hq;unfold DD n4;omega)⟩
namespace M
theorem sD {n:Int} (h:U n):ub n=0:=by unfold U at h;unfold ub;omega
theorem ul0:ul 0=0:=by decide
theorem Jr:uh 0=0:=by decide
end M
open M in
theorem Ik {c:AA} {j j':Int} {pre post qs:List Int} (P:DvT c j j' pre post qs) (eU eW:List SV) (h0 h1 h2 h3:Int) {u1 u2 u3:Int} (a1:U u1) (a2:U u2) (a3:U u3) (hd:u3<18446744073709551615) :
 ∃ ps,fQ fB eU eW c.nu c.cu c.nq c.cq c.m 18446744073709551615 1 j j' (.int true .u64 0) (.int false .u64 u3) (wc (pre++[u1,u2,u3]++post)) (wc (pre++[u1,u2,u3]++post)) (wc qs) (wc qs) (wc [h0,h1,h2,h3]) (wc [0,0,0,0]) [false,true,false,true]=some (.at .normal,[],ps)/\∀ q∈ps,q:=by
 have z2:=a1.1;have z3:=a1.2;have z4:=a2.1;have z5:=a2.2;have z6:=a3.1;have z7:=a3.2
 have e0:U 13835058055282163712:=⟨by decide,by decide⟩
 have e1:U 18446744073709551614:=⟨by decide,by decide⟩
 have e2:U 18446744073709551615:=⟨by decide,by decide⟩
 have hQ:dq 18446744073709551615 0 u3=0:=by unfold dq;omega
 have hR:dr 18446744073709551615 0 u3=u3:=by unfold dr;omega
 have hg:gt 0 0 u3 u2=false:=by unfold gt;exact decide_eq_false (by omega)
 refine ⟨_,P eU eW u1 u2 u3 _ _ _ h0 h1 h2 h3 _ _ _ _,aA ?_⟩
 simp only [sh,aLn,aKm,List.cons_append,List.nil_append,hQ,hR,aO,Int.mul_zero,Int.zero_mul,Int.add_zero,Int.sub_zero,ul0,Jr,sD a1,sD a2,sD a3,tX a1,tX a2,tX a3,hg,U0,K0,e0,e1,e2,a1,a2,a3,and_true,true_and]
 and_intros <;> first | rfl | decide
theorem aJq (u0 u1 u2 u3 q0 h0 h1 h2 h3:Int) :
 (gD 100 (aC 100 (Gu fB (wc [u0,u1,u2,u3,0,0,0]) (wc [q0]))) [] (jE 4 7 1 1 1 18446744073709551615 1 (.int true .u64 0) 1) (jD (wc [h0,h1,h2,h3]) (wc [u0,u1,u2,u3,0,0,0]) (wc [q0])) 101 [61,63] jF (Bm fB (wc [u0,u1,u2,u3,0,0,0]) (wc [q0]) 4 7 1 1)) =
 sh (0:Int) fun z0=>
 some (.go (.loop xE),Eg,[(3:Nat)=(3:Nat),(4:Nat)=(4:Nat),(11259375:Int)=h0,z0=h1,z0=h2,z0=h3,[q0]=[q0],[u0,u1,u2,u3,z0,z0,z0]=[u0,u1,u2,u3,z0,z0,z0]]):=by kernel_rfl
theorem aJo (x0 x1 x2 x3 y0 u0 u1 u2 u3 q0 h0 h1 h2 h3:Int) :
 fQ fB (wc [x0,x1,x2,x3,0,0,0]) (wc [y0]) 4 7 1 1 1 18446744073709551615 1 (-1) (-1) (.int false .u64 u2) (.int false .u64 u2) (wc [u0,u1,u2,u3,0,0,0]) (wc [u0,u1,u2,u3,0,0,0]) (wc [q0]) (wc [q0]) (wc [h0,h1,h2,h3]) (wc [h0,h1,h2,h3]) [] =
 sh (0:Int) fun z0=>
 some (Cf.at (Ex.exit 0),[],[(3:Nat)=(3:Nat),(4:Nat)=(4:Nat),u2=u2,h0=h0,h1=h1,h2=h2,h3=h3,[q0]=[q0],[u0,u1,u2,u3,z0,z0,z0]=[u0,u1,u2,u3,z0,z0,z0]]):=by kernel_rfl
theorem aJp (x0 x1 x2 x3 y0 u0 u1 u2 u3 q0 h0 h1 h2 h3:Int) :
 Lp fB (wc [x0,x1,x2,x3,0,0,0]) (wc [y0]) 4 7 1 1 1 18446744073709551615 1 (.int false .u64 u2) (wc [u0,u1,u2,u3,0,0,0]) (wc [q0]) (wc [h0,h1,h2,h3]) =
 some {val:=SV.eD [],wr:=[(61,SB.own [SV.int false IntKind.u64 q0] 142),(63,SB.own [SV.int false IntKind.u64 u0,SV.int false IntKind.u64 u1,SV.int false IntKind.u64 u2,SV.int false IntKind.u64 u3,SV.int false IntKind.u64 (0:Int),SV.int false IntKind.u64 (0:Int),SV.int false IntKind.u64 (0:Int)] 142)]}:=by kernel_rfl
theorem aJn (u0 u1 u2 u3 q0 h0 h1 h2 h3:Int) :
 (gD 100 (aC 100 (Gu fB (wc [u0,u1,u2,u3,0,0,0,0]) (wc [q0]))) [] (jE 4 8 1 1 1 18446744073709551615 1 (.int true .u64 0) 1) (jD (wc [h0,h1,h2,h3]) (wc [u0,u1,u2,u3,0,0,0,0]) (wc [q0])) 101 [61,63] jF (Bm fB (wc [u0,u1,u2,u3,0,0,0,0]) (wc [q0]) 4 8 1 1)) =
 sh (0:Int) fun z0=>
 some (.go (.loop xE),Eg,[(3:Nat)=(3:Nat),(4:Nat)=(4:Nat),(11259375:Int)=h0,z0=h1,z0=h2,z0=h3,[q0]=[q0],[u0,u1,u2,u3,z0,z0,z0,z0]=[u0,u1,u2,u3,z0,z0,z0,z0]]):=by kernel_rfl
theorem aJl (x0 x1 x2 x3 y0 u0 u1 u2 u3 q0 h0 h1 h2 h3:Int) :
 fQ fB (wc [x0,x1,x2,x3,0,0,0,0]) (wc [y0]) 4 8 1 1 1 18446744073709551615 1 (-1) (-1) (.int false .u64 u2) (.int false .u64 u2) (wc [u0,u1,u2,u3,0,0,0,0]) (wc [u0,u1,u2,u3,0,0,0,0]) (wc [q0]) (wc [q0]) (wc [h0,h1,h2,h3]) (wc [h0,h1,h2,h3]) [] =
 sh (0:Int) fun z0=>
 some (Cf.at (Ex.exit 0),[],[(3:Nat)=(3:Nat),(4:Nat)=(4:Nat),u2=u2,h0=h0,h1=h1,h2=h2,h3=h3,[q0]=[q0],[u0,u1,u2,u3,z0,z0,z0,z0]=[u0,u1,u2,u3,z0,z0,z0,z0]]):=by kernel_rfl
theorem aJm (x0 x1 x2 x3 y0 u0 u1 u2 u3 q0 h0 h1 h2 h3:Int) :
 Lp fB (wc [x0,x1,x2,x3,0,0,0,0]) (wc [y0]) 4 8 1 1 1 18446744073709551615 1 (.int false .u64 u2) (wc [u0,u1,u2,u3,0,0,0,0]) (wc [q0]) (wc [h0,h1,h2,h3]) =
 sh (0:Int) fun z0=>
 some {val:=SV.eD [],wr:=[(61,SB.own [SV.int false IntKind.u64 q0] 142),(63,SB.own [SV.int false IntKind.u64 u0,SV.int false IntKind.u64 u1,SV.int false IntKind.u64 u2,SV.int false IntKind.u64 u3,SV.int false IntKind.u64 z0,SV.int false IntKind.u64 z0,SV.int false IntKind.u64 z0,SV.int false IntKind.u64 z0] 142)]}:=by kernel_rfl
theorem aJk (u0 u1 u2 u3 u4 q0 q1 h0 h1 h2 h3:Int) :
 (gD 100 (aC 100 (Gu fB (wc [u0,u1,u2,u3,u4,0,0,0]) (wc [q0,q1,0,0,0,0]))) [] (jE 5 8 2 6 2 18446744073709551615 1 (.int true .u64 0) 2) (jD (wc [h0,h1,h2,h3]) (wc [u0,u1,u2,u3,u4,0,0,0]) (wc [q0,q1,0,0,0,0])) 101 [61,63] jF (Bm fB (wc [u0,u1,u2,u3,u4,0,0,0]) (wc [q0,q1,0,0,0,0]) 5 8 2 6)) =
 sh (0:Int) fun z0=>
 some (.go (.loop xE),Eg,[(3:Nat)=(3:Nat),(4:Nat)=(4:Nat),(11259375:Int)=h0,z0=h1,z0=h2,z0=h3,[q0,q1,z0,z0,z0,z0]=[q0,q1,z0,z0,z0,z0],[u0,u1,u2,u3,u4,z0,z0,z0]=[u0,u1,u2,u3,u4,z0,z0,z0]]):=by kernel_rfl
theorem aJi (x0 x1 x2 x3 x4 y0 y1 u0 u1 u2 u3 u4 q0 q1 h0 h1 h2 h3:Int) :
 fQ fB (wc [x0,x1,x2,x3,x4,0,0,0]) (wc [y0,y1,0,0,0,0]) 5 8 2 6 2 18446744073709551615 1 (-1) (-1) (.int false .u64 u2) (.int false .u64 u2) (wc [u0,u1,u2,u3,u4,0,0,0]) (wc [u0,u1,u2,u3,u4,0,0,0]) (wc [q0,q1,0,0,0,0]) (wc [q0,q1,0,0,0,0]) (wc [h0,h1,h2,h3]) (wc [h0,h1,h2,h3]) [] =
 sh (0:Int) fun z0=>
 some (Cf.at (Ex.exit 0),[],[(3:Nat)=(3:Nat),(4:Nat)=(4:Nat),u2=u2,h0=h0,h1=h1,h2=h2,h3=h3,[q0,q1,z0,z0,z0,z0]=[q0,q1,z0,z0,z0,z0],[u0,u1,u2,u3,u4,z0,z0,z0]=[u0,u1,u2,u3,u4,z0,z0,z0]]):=by kernel_rfl
theorem aJj (x0 x1 x2 x3 x4 y0 y1 u0 u1 u2 u3 u4 q0 q1 h0 h1 h2 h3:Int) :
 Lp fB (wc [x0,x1,x2,x3,x4,0,0,0]) (wc [y0,y1,0,0,0,0]) 5 8 2 6 2 18446744073709551615 1 (.int false .u64 u2) (wc [u0,u1,u2,u3,u4,0,0,0]) (wc [q0,q1,0,0,0,0]) (wc [h0,h1,h2,h3]) =
 sh (0:Int) fun z0=>
 some {val:=SV.eD [],wr:=[(61,SB.own [SV.int false IntKind.u64 q0,SV.int false IntKind.u64 q1,SV.int false IntKind.u64 z0,SV.int false IntKind.u64 z0,SV.int false IntKind.u64 z0,SV.int false IntKind.u64 z0] 142),(63,SB.own [SV.int false IntKind.u64 u0,SV.int false IntKind.u64 u1,SV.int false IntKind.u64 u2,SV.int false IntKind.u64 u3,SV.int false IntKind.u64 u4,SV.int false IntKind.u64 z0,SV.int false IntKind.u64 z0,SV.int false IntKind.u64 z0] 142)]}:=by kernel_rfl
theorem aJh (u0 u1 u2 u3 u4 q0 q1 h0 h1 h2 h3:Int) :
 (gD 100 (aC 100 (Gu fB (wc [u0,u1,u2,u3,u4,0,0,0,0]) (wc [q0,q1,0,0,0,0]))) [] (jE 5 9 2 6 2 18446744073709551615 1 (.int true .u64 0) 2) (jD (wc [h0,h1,h2,h3]) (wc [u0,u1,u2,u3,u4,0,0,0,0]) (wc [q0,q1,0,0,0,0])) 101 [61,63] jF (Bm fB (wc [u0,u1,u2,u3,u4,0,0,0,0]) (wc [q0,q1,0,0,0,0]) 5 9 2 6)) =
 sh (0:Int) fun z0=>
 some (.go (.loop xE),Eg,[(3:Nat)=(3:Nat),(4:Nat)=(4:Nat),(11259375:Int)=h0,z0=h1,z0=h2,z0=h3,[q0,q1,z0,z0,z0,z0]=[q0,q1,z0,z0,z0,z0],[u0,u1,u2,u3,u4,z0,z0,z0,z0]=[u0,u1,u2,u3,u4,z0,z0,z0,z0]]):=by kernel_rfl
theorem aJf (x0 x1 x2 x3 x4 y0 y1 u0 u1 u2 u3 u4 q0 q1 h0 h1 h2 h3:Int) :
 fQ fB (wc [x0,x1,x2,x3,x4,0,0,0,0]) (wc [y0,y1,0,0,0,0]) 5 9 2 6 2 18446744073709551615 1 (-1) (-1) (.int false .u64 u2) (.int false .u64 u2) (wc [u0,u1,u2,u3,u4,0,0,0,0]) (wc [u0,u1,u2,u3,u4,0,0,0,0]) (wc [q0,q1,0,0,0,0]) (wc [q0,q1,0,0,0,0]) (wc [h0,h1,h2,h3]) (wc [h0,h1,h2,h3]) [] =
 sh (0:Int) fun z0=>
 some (Cf.at (Ex.exit 0),[],[(3:Nat)=(3:Nat),(4:Nat)=(4:Nat),u2=u2,h0=h0,h1=h1,h2=h2,h3=h3,[q0,q1,z0,z0,z0,z0]=[q0,q1,z0,z0,z0,z0],[u0,u1,u2,u3,u4,z0,z0,z0,z0]=[u0,u1,u2,u3,u4,z0,z0,z0,z0]]):=by kernel_rfl
theorem aJg (x0 x1 x2 x3 x4 y0 y1 u0 u1 u2 u3 u4 q0 q1 h0 h1 h2 h3:Int) :
 Lp fB (wc [x0,x1,x2,x3,x4,0,0,0,0]) (wc [y0,y1,0,0,0,0]) 5 9 2 6 2 18446744073709551615 1 (.int false .u64 u2) (wc [u0,u1,u2,u3,u4,0,0,0,0]) (wc [q0,q1,0,0,0,0]) (wc [h0,h1,h2,h3]) =
 sh (0:Int) fun z0=>
 some {val:=SV.eD [],wr:=[(61,SB.own [SV.int false IntKind.u64 q0,SV.int false IntKind.u64 q1,SV.int false IntKind.u64 z0,SV.int false IntKind.u64 z0,SV.int false IntKind.u64 z0,SV.int false IntKind.u64 z0] 142),(63,SB.own [SV.int false IntKind.u64 u0,SV.int false IntKind.u64 u1,SV.int false IntKind.u64 u2,SV.int false IntKind.u64 u3,SV.int false IntKind.u64 u4,SV.int false IntKind.u64 z0,SV.int false IntKind.u64 z0,SV.int false IntKind.u64 z0,SV.int false IntKind.u64 z0] 142)]}:=by kernel_rfl
namespace M
def r5 (u0 u1 u2 u3 u4:Int):Int:=n4 u0 (w0 (n4 u1 u2 u3 u4%DD)) (w1 (n4 u1 u2 u3 u4%DD)) (w2 (n4 u1 u2 u3 u4%DD))
theorem aTj:DD<6277101735386680763835789423207666416102355444464034512896:=by decide
theorem Qs:0<DD:=by decide
theorem w_U (n:Int):U (w0 n)/\U (w1 n)/\U (w2 n):=by unfold U w0 w1 w2;omega
theorem Sr {a b c d:Int} (ha:U a) (hb:U b) (hc:U c) (hd:d<9223372036854775808):n4 a b c d<18446744073709551616*DD:=by
 have:=ha.2;have:=hb.2;have:=hc.2
 unfold n4 DD n4
 omega
theorem aWn {r:Int} (h0:0<=r) (h1:r<DD):n4 (w0 r) (w1 r) (w2 r) 0=r:=by
 have:=aTj
 unfold n4 w0 w1 w2
 omega
theorem aAp {u0 u1 u2 u3 u4:Int}:r5 u0 u1 u2 u3 u4=u0+18446744073709551616*(n4 u1 u2 u3 u4%DD):=by
 have h0:0<=n4 u1 u2 u3 u4%DD:=Int.emod_nonneg _ (by decide)
 have h1:n4 u1 u2 u3 u4%DD<DD:=Int.emod_lt_of_pos _ Qs
 have h:=aWn h0 h1
 unfold r5
 generalize n4 u1 u2 u3 u4%DD=r at *
 unfold n4 at *
 omega
theorem aAo {u0 u1 u2 u3 u4:Int} (ha:U u0):r5 u0 u1 u2 u3 u4<18446744073709551616*DD:=by
 rw [aAp]
 have h1:n4 u1 u2 u3 u4%DD<DD:=Int.emod_lt_of_pos _ Qs
 have:=ha.2
 omega
end M
open M in
set_option maxHeartbeats 2000000 in
theorem Zg {u0 u1 u2 u3:Int} (y0:Int) (a0:U u0) (a1:U u1) (a2:U u2) (a3:U u3) (hd:u3<9223372036854775808) :
 aD Tryz.prog Γv 203 (Av 4 7 1 1) (Gu fB (wc [u0,u1,u2,u3,0,0,0]) (wc [y0])) 100 100 { val:=.eD [],wr:=[(61,.own (wc [n4 u0 u1 u2 u3/DD]) 142),(63,.own (wc [w0 (n4 u0 u1 u2 u3%DD),w1 (n4 u0 u1 u2 u3%DD),w2 (n4 u0 u1 u2 u3%DD),0,0,0,0]) 142)] }:=by
 have hl:=Sr a0 a1 a2 hd
 refine bU kW kX Tryz.func203 (by kernel_rfl) rfl (Nat.le_of_ble_eq_true (by kernel_rfl)) rfl [] ?_
 intro YS Mx V0 Q hb H
 have aM:=kW
 have aE:=kX
 refine G.gD aM aE mix hb [] (aJq u0 u1 u2 u3 y0 11259375 0 0 0) (aA (by simp only [aO,and_true])) ?_
 have fin:∀ h0 h1 h2 h3,G Tryz.prog Γv YS Mx (aC 100 (Gu fB (wc [u0,u1,u2,u3,0,0,0]) (wc [y0]))) Tryz.f203.ntmps 100 V0 (.at (.exit 0)) Eg
  (aN (jE 4 7 1 1 1 18446744073709551615 1 (.int false .u64 (w2 (n4 u0 u1 u2 u3%DD))) (-1)) (jD (wc [h0,h1,h2,h3]) (wc [w0 (n4 u0 u1 u2 u3%DD),w1 (n4 u0 u1 u2 u3%DD),w2 (n4 u0 u1 u2 u3%DD),0,0,0,0]) (wc [n4 u0 u1 u2 u3/DD])) 101 [61,63] jF) Q:=fun h0 h1 h2 h3=>
  G.fin aM aE mix [] H (aJp u0 u1 u2 u3 y0 _ _ _ _ _ h0 h1 h2 h3) (by simp) rfl rfl rfl
 refine G.loop (fun r s=>(r=2/\s=aN (jE 4 7 1 1 1 18446744073709551615 1 (.int true .u64 0) 1) (jD (wc [11259375,0,0,0]) (wc [u0,u1,u2,u3,0,0,0]) (wc [y0])) 101 [61,63] jF)
  \/ (r=1/\s=aN (jE 4 7 1 1 1 18446744073709551615 1 (.int false .u64 u3) 0) (jD (wc [0,0,0,0]) (wc [u0,u1,u2,u3,0,0,0]) (wc [y0])) 101 [61,63] jF)
  \/ (r=0/\∃ h0 h1 h2 h3,s=aN (jE 4 7 1 1 1 18446744073709551615 1 (.int false .u64 (w2 (n4 u0 u1 u2 u3%DD))) (-1)) (jD (wc [h0,h1,h2,h3]) (wc [w0 (n4 u0 u1 u2 u3%DD),w1 (n4 u0 u1 u2 u3%DD),w2 (n4 u0 u1 u2 u3%DD),0,0,0,0]) (wc [n4 u0 u1 u2 u3/DD])) 101 [61,63] jF)) (r0:=2) (.inl ⟨rfl,rfl⟩) ?_
 rintro r s (⟨rfl,rfl⟩ | ⟨rfl,rfl⟩ | ⟨rfl,h0,h1,h2,h3,rfl⟩)
 .obtain ⟨ps,e,hp⟩:=Ik (aQb u0 y0) (wc [u0,u1,u2,u3,0,0,0]) (wc [y0]) 11259375 0 0 0 a1 a2 a3 (by omega)
  exact G.eK aM aE mix hb _ e hp 1 (by omega) (.inr (.inl ⟨rfl,rfl⟩))
 .obtain ⟨hs,g0,g1,g2,g3,ps,e,hp⟩:=oS ⟨aHn,aHm,WB,IZ,JA,aHl⟩ (wc [u0,u1,u2,u3,0,0,0]) (wc [y0]) y0 0 0 0 0 a0 a1 a2 a3 hl
  exact G.eK aM aE mix hb _ e hp 0 (by omega) (.inr (.inr ⟨rfl,g0,g1,g2,g3,rfl⟩))
 .exact G.gD aM aE mix hb [] (aJo u0 u1 u2 u3 y0 _ _ _ _ _ h0 h1 h2 h3) (aA (by simp only [aO,and_true])) (G.leave (fun h=>by cases h) (fin h0 h1 h2 h3))
open M in
set_option maxHeartbeats 2000000 in
theorem Zf {u0 u1 u2 u3:Int} (y0:Int) (a0:U u0) (a1:U u1) (a2:U u2) (a3:U u3) (hd:u3<9223372036854775808) :
 aD Tryz.prog Γv 203 (Av 4 8 1 1) (Gu fB (wc [u0,u1,u2,u3,0,0,0,0]) (wc [y0])) 100 100 { val:=.eD [],wr:=[(61,.own (wc [n4 u0 u1 u2 u3/DD]) 142),(63,.own (wc [w0 (n4 u0 u1 u2 u3%DD),w1 (n4 u0 u1 u2 u3%DD),w2 (n4 u0 u1 u2 u3%DD),0,0,0,0,0]) 142)] }:=by
 have hl:=Sr a0 a1 a2 hd
 refine bU kW kX Tryz.func203 (by kernel_rfl) rfl (Nat.le_of_ble_eq_true (by kernel_rfl)) rfl [] ?_
 intro YS Mx V0 Q hb H
 have aM:=kW
 have aE:=kX
 refine G.gD aM aE mix hb [] (aJn u0 u1 u2 u3 y0 11259375 0 0 0) (aA (by simp only [aO,and_true])) ?_
 have fin:∀ h0 h1 h2 h3,G Tryz.prog Γv YS Mx (aC 100 (Gu fB (wc [u0,u1,u2,u3,0,0,0,0]) (wc [y0]))) Tryz.f203.ntmps 100 V0 (.at (.exit 0)) Eg
  (aN (jE 4 8 1 1 1 18446744073709551615 1 (.int false .u64 (w2 (n4 u0 u1 u2 u3%DD))) (-1)) (jD (wc [h0,h1,h2,h3]) (wc [w0 (n4 u0 u1 u2 u3%DD),w1 (n4 u0 u1 u2 u3%DD),w2 (n4 u0 u1 u2 u3%DD),0,0,0,0,0]) (wc [n4 u0 u1 u2 u3/DD])) 101 [61,63] jF) Q:=fun h0 h1 h2 h3=>
  G.fin aM aE mix [] H (aJm u0 u1 u2 u3 y0 _ _ _ _ _ h0 h1 h2 h3) (by simp) rfl rfl rfl
 refine G.loop (fun r s=>(r=2/\s=aN (jE 4 8 1 1 1 18446744073709551615 1 (.int true .u64 0) 1) (jD (wc [11259375,0,0,0]) (wc [u0,u1,u2,u3,0,0,0,0]) (wc [y0])) 101 [61,63] jF)
  \/ (r=1/\s=aN (jE 4 8 1 1 1 18446744073709551615 1 (.int false .u64 u3) 0) (jD (wc [0,0,0,0]) (wc [u0,u1,u2,u3,0,0,0,0]) (wc [y0])) 101 [61,63] jF)
  \/ (r=0/\∃ h0 h1 h2 h3,s=aN (jE 4 8 1 1 1 18446744073709551615 1 (.int false .u64 (w2 (n4 u0 u1 u2 u3%DD))) (-1)) (jD (wc [h0,h1,h2,h3]) (wc [w0 (n4 u0 u1 u2 u3%DD),w1 (n4 u0 u1 u2 u3%DD),w2 (n4 u0 u1 u2 u3%DD),0,0,0,0,0]) (wc [n4 u0 u1 u2 u3/DD])) 101 [61,63] jF)) (r0:=2) (.inl ⟨rfl,rfl⟩) ?_
 rintro r s (⟨rfl,rfl⟩ | ⟨rfl,rfl⟩ | ⟨rfl,h0,h1,h2,h3,rfl⟩)
 .obtain ⟨ps,e,hp⟩:=Ik (aQa u0 y0) (wc [u0,u1,u2,u3,0,0,0,0]) (wc [y0]) 11259375 0 0 0 a1 a2 a3 (by omega)
  exact G.eK aM aE mix hb _ e hp 1 (by omega) (.inr (.inl ⟨rfl,rfl⟩))
 .obtain ⟨hs,g0,g1,g2,g3,ps,e,hp⟩:=oS ⟨aHk,aHj,WA,IX,IY,aHi⟩ (wc [u0,u1,u2,u3,0,0,0,0]) (wc [y0]) y0 0 0 0 0 a0 a1 a2 a3 hl
  exact G.eK aM aE mix hb _ e hp 0 (by omega) (.inr (.inr ⟨rfl,g0,g1,g2,g3,rfl⟩))
 .exact G.gD aM aE mix hb [] (aJl u0 u1 u2 u3 y0 _ _ _ _ _ h0 h1 h2 h3) (aA (by simp only [aO,and_true])) (G.leave (fun h=>by cases h) (fin h0 h1 h2 h3))
open M in
set_option maxHeartbeats 4000000 in
theorem Ze {u0 u1 u2 u3 u4:Int} (y0 y1:Int) (a0:U u0) (a1:U u1) (a2:U u2) (a3:U u3) (a4:U u4) (hd:u4<9223372036854775808) :
 aD Tryz.prog Γv 203 (Av 5 8 2 6) (Gu fB (wc [u0,u1,u2,u3,u4,0,0,0]) (wc [y0,y1,0,0,0,0])) 100 100 { val:=.eD [],wr:=[(61,.own (wc [r5 u0 u1 u2 u3 u4/DD,n4 u1 u2 u3 u4/DD,0,0,0,0]) 142),(63,.own (wc [w0 (r5 u0 u1 u2 u3 u4%DD),w1 (r5 u0 u1 u2 u3 u4%DD),w2 (r5 u0 u1 u2 u3 u4%DD),0,0,0,0,0]) 142)] }:=by
 have hl:=Sr a1 a2 a3 hd
 obtain ⟨b0,b1,b2⟩:=w_U (n4 u1 u2 u3 u4%DD)
 refine bU kW kX Tryz.func203 (by kernel_rfl) rfl (Nat.le_of_ble_eq_true (by kernel_rfl)) rfl [] ?_
 intro YS Mx V0 Q hb H
 have aM:=kW
 have aE:=kX
 refine G.gD aM aE mix hb [] (aJk u0 u1 u2 u3 u4 y0 y1 11259375 0 0 0) (aA (by simp only [aO,and_true])) ?_
 have fin:∀ h0 h1 h2 h3,G Tryz.prog Γv YS Mx (aC 100 (Gu fB (wc [u0,u1,u2,u3,u4,0,0,0]) (wc [y0,y1,0,0,0,0]))) Tryz.f203.ntmps 100 V0 (.at (.exit 0)) Eg
  (aN (jE 5 8 2 6 2 18446744073709551615 1 (.int false .u64 (w2 (r5 u0 u1 u2 u3 u4%DD))) (-1)) (jD (wc [h0,h1,h2,h3]) (wc [w0 (r5 u0 u1 u2 u3 u4%DD),w1 (r5 u0 u1 u2 u3 u4%DD),w2 (r5 u0 u1 u2 u3 u4%DD),0,0,0,0,0]) (wc [r5 u0 u1 u2 u3 u4/DD,n4 u1 u2 u3 u4/DD,0,0,0,0])) 101 [61,63] jF) Q:=fun h0 h1 h2 h3=>
  G.fin aM aE mix [] H (aJj u0 u1 u2 u3 u4 y0 y1 _ _ _ _ _ _ _ h0 h1 h2 h3) (by simp) rfl rfl rfl
 refine G.loop (fun r s=>(r=3/\s=aN (jE 5 8 2 6 2 18446744073709551615 1 (.int true .u64 0) 2) (jD (wc [11259375,0,0,0]) (wc [u0,u1,u2,u3,u4,0,0,0]) (wc [y0,y1,0,0,0,0])) 101 [61,63] jF)
  \/ (r=2/\s=aN (jE 5 8 2 6 2 18446744073709551615 1 (.int false .u64 u4) 1) (jD (wc [0,0,0,0]) (wc [u0,u1,u2,u3,u4,0,0,0]) (wc [y0,y1,0,0,0,0])) 101 [61,63] jF)
  \/ (r=1/\∃ h0 h1 h2 h3,s=aN (jE 5 8 2 6 2 18446744073709551615 1 (.int false .u64 (w2 (n4 u1 u2 u3 u4%DD))) 0) (jD (wc [h0,h1,h2,h3]) (wc [u0,w0 (n4 u1 u2 u3 u4%DD),w1 (n4 u1 u2 u3 u4%DD),w2 (n4 u1 u2 u3 u4%DD),0,0,0,0]) (wc [y0,n4 u1 u2 u3 u4/DD,0,0,0,0])) 101 [61,63] jF)
  \/ (r=0/\∃ h0 h1 h2 h3,s=aN (jE 5 8 2 6 2 18446744073709551615 1 (.int false .u64 (w2 (r5 u0 u1 u2 u3 u4%DD))) (-1)) (jD (wc [h0,h1,h2,h3]) (wc [w0 (r5 u0 u1 u2 u3 u4%DD),w1 (r5 u0 u1 u2 u3 u4%DD),w2 (r5 u0 u1 u2 u3 u4%DD),0,0,0,0,0]) (wc [r5 u0 u1 u2 u3 u4/DD,n4 u1 u2 u3 u4/DD,0,0,0,0])) 101 [61,63] jF)) (r0:=3) (.inl ⟨rfl,rfl⟩) ?_
 rintro r s (⟨rfl,rfl⟩ | ⟨rfl,rfl⟩ | ⟨rfl,h0,h1,h2,h3,rfl⟩ | ⟨rfl,h0,h1,h2,h3,rfl⟩)
 .obtain ⟨ps,e,hp⟩:=Ik (aPz u0 u1 y0 y1) (wc [u0,u1,u2,u3,u4,0,0,0]) (wc [y0,y1,0,0,0,0]) 11259375 0 0 0 a2 a3 a4 (by omega)
  exact G.eK aM aE mix hb _ e hp 2 (by omega) (.inr (.inl ⟨rfl,rfl⟩))
 .obtain ⟨hs,g0,g1,g2,g3,ps,e,hp⟩:=oS ⟨VZ u0 y0,VY u0 y0,IW u0 y0,Xy u0 y0,Xz u0 y0,VX u0 y0⟩ (wc [u0,u1,u2,u3,u4,0,0,0]) (wc [y0,y1,0,0,0,0]) y1 0 0 0 0 a1 a2 a3 a4 hl
  exact G.eK aM aE mix hb _ e hp 1 (by omega) (.inr (.inr (.inl ⟨rfl,g0,g1,g2,g3,rfl⟩)))
 .obtain ⟨hs,g0,g1,g2,g3,ps,e,hp⟩:=oS ⟨VW (n4 u1 u2 u3 u4/DD),VV (n4 u1 u2 u3 u4/DD),IV (n4 u1 u2 u3 u4/DD),Xw (n4 u1 u2 u3 u4/DD),Xx (n4 u1 u2 u3 u4/DD),VU (n4 u1 u2 u3 u4/DD)⟩ (wc [u0,u1,u2,u3,u4,0,0,0]) (wc [y0,y1,0,0,0,0]) y0 h0 h1 h2 h3 a0 b0 b1 b2 (aAo a0)
  exact G.eK aM aE mix hb _ e hp 0 (by omega) (.inr (.inr (.inr ⟨rfl,g0,g1,g2,g3,rfl⟩)))
 .exact G.gD aM aE mix hb [] (aJi u0 u1 u2 u3 u4 y0 y1 _ _ _ _ _ _ _ h0 h1 h2 h3) (aA (by simp only [aO,and_true])) (G.leave (fun h=>by cases h) (fin h0 h1 h2 h3))
open M in
set_option maxHeartbeats 4000000 in
theorem Zd {u0 u1 u2 u3 u4:Int} (y0 y1:Int) (a0:U u0) (a1:U u1) (a2:U u2) (a3:U u3) (a4:U u4) (hd:u4<9223372036854775808) :
 aD Tryz.prog Γv 203 (Av 5 9 2 6) (Gu fB (wc [u0,u1,u2,u3,u4,0,0,0,0]) (wc [y0,y1,0,0,0,0])) 100 100 { val:=.eD [],wr:=[(61,.own (wc [r5 u0 u1 u2 u3 u4/DD,n4 u1 u2 u3 u4/DD,0,0,0,0]) 142),(63,.own (wc [w0 (r5 u0 u1 u2 u3 u4%DD),w1 (r5 u0 u1 u2 u3 u4%DD),w2 (r5 u0 u1 u2 u3 u4%DD),0,0,0,0,0,0]) 142)] }:=by
 have hl:=Sr a1 a2 a3 hd
 obtain ⟨b0,b1,b2⟩:=w_U (n4 u1 u2 u3 u4%DD)
 refine bU kW kX Tryz.func203 (by kernel_rfl) rfl (Nat.le_of_ble_eq_true (by kernel_rfl)) rfl [] ?_
 intro YS Mx V0 Q hb H
 have aM:=kW
 have aE:=kX
 refine G.gD aM aE mix hb [] (aJh u0 u1 u2 u3 u4 y0 y1 11259375 0 0 0) (aA (by simp only [aO,and_true])) ?_
 have fin:∀ h0 h1 h2 h3,G Tryz.prog Γv YS Mx (aC 100 (Gu fB (wc [u0,u1,u2,u3,u4,0,0,0,0]) (wc [y0,y1,0,0,0,0]))) Tryz.f203.ntmps 100 V0 (.at (.exit 0)) Eg
  (aN (jE 5 9 2 6 2 18446744073709551615 1 (.int false .u64 (w2 (r5 u0 u1 u2 u3 u4%DD))) (-1)) (jD (wc [h0,h1,h2,h3]) (wc [w0 (r5 u0 u1 u2 u3 u4%DD),w1 (r5 u0 u1 u2 u3 u4%DD),w2 (r5 u0 u1 u2 u3 u4%DD),0,0,0,0,0,0]) (wc [r5 u0 u1 u2 u3 u4/DD,n4 u1 u2 u3 u4/DD,0,0,0,0])) 101 [61,63] jF) Q:=fun h0 h1 h2 h3=>
  G.fin aM aE mix [] H (aJg u0 u1 u2 u3 u4 y0 y1 _ _ _ _ _ _ _ h0 h1 h2 h3) (by simp) rfl rfl rfl
 refine G.loop (fun r s=>(r=3/\s=aN (jE 5 9 2 6 2 18446744073709551615 1 (.int true .u64 0) 2) (jD (wc [11259375,0,0,0]) (wc [u0,u1,u2,u3,u4,0,0,0,0]) (wc [y0,y1,0,0,0,0])) 101 [61,63] jF)
  \/ (r=2/\s=aN (jE 5 9 2 6 2 18446744073709551615 1 (.int false .u64 u4) 1) (jD (wc [0,0,0,0]) (wc [u0,u1,u2,u3,u4,0,0,0,0]) (wc [y0,y1,0,0,0,0])) 101 [61,63] jF)
  \/ (r=1/\∃ h0 h1 h2 h3,s=aN (jE 5 9 2 6 2 18446744073709551615 1 (.int false .u64 (w2 (n4 u1 u2 u3 u4%DD))) 0) (jD (wc [h0,h1,h2,h3]) (wc [u0,w0 (n4 u1 u2 u3 u4%DD),w1 (n4 u1 u2 u3 u4%DD),w2 (n4 u1 u2 u3 u4%DD),0,0,0,0,0]) (wc [y0,n4 u1 u2 u3 u4/DD,0,0,0,0])) 101 [61,63] jF)
  \/ (r=0/\∃ h0 h1 h2 h3,s=aN (jE 5 9 2 6 2 18446744073709551615 1 (.int false .u64 (w2 (r5 u0 u1 u2 u3 u4%DD))) (-1)) (jD (wc [h0,h1,h2,h3]) (wc [w0 (r5 u0 u1 u2 u3 u4%DD),w1 (r5 u0 u1 u2 u3 u4%DD),w2 (r5 u0 u1 u2 u3 u4%DD),0,0,0,0,0,0]) (wc [r5 u0 u1 u2 u3 u4/DD,n4 u1 u2 u3 u4/DD,0,0,0,0])) 101 [61,63] jF)) (r0:=3) (.inl ⟨rfl,rfl⟩) ?_
 rintro r s (⟨rfl,rfl⟩ | ⟨rfl,rfl⟩ | ⟨rfl,h0,h1,h2,h3,rfl⟩ | ⟨rfl,h0,h1,h2,h3,rfl⟩)
 .obtain ⟨ps,e,hp⟩:=Ik (aPy u0 u1 y0 y1) (wc [u0,u1,u2,u3,u4,0,0,0,0]) (wc [y0,y1,0,0,0,0]) 11259375 0 0 0 a2 a3 a4 (by omega)
  exact G.eK aM aE mix hb _ e hp 2 (by omega) (.inr (.inl ⟨rfl,rfl⟩))
 .obtain ⟨hs,g0,g1,g2,g3,ps,e,hp⟩:=oS ⟨VT u0 y0,VS u0 y0,IU u0 y0,Xu u0 y0,Xv u0 y0,VR u0 y0⟩ (wc [u0,u1,u2,u3,u4,0,0,0,0]) (wc [y0,y1,0,0,0,0]) y1 0 0 0 0 a1 a2 a3 a4 hl
  exact G.eK aM aE mix hb _ e hp 1 (by omega) (.inr (.inr (.inl ⟨rfl,g0,g1,g2,g3,rfl⟩)))
 .obtain ⟨hs,g0,g1,g2,g3,ps,e,hp⟩:=oS ⟨VQ (n4 u1 u2 u3 u4/DD),VP (n4 u1 u2 u3 u4/DD),IT (n4 u1 u2 u3 u4/DD),Xs (n4 u1 u2 u3 u4/DD),Xt (n4 u1 u2 u3 u4/DD),VO (n4 u1 u2 u3 u4/DD)⟩ (wc [u0,u1,u2,u3,u4,0,0,0,0]) (wc [y0,y1,0,0,0,0]) y0 h0 h1 h2 h3 a0 b0 b1 b2 (aAo a0)
  exact G.eK aM aE mix hb _ e hp 0 (by omega) (.inr (.inr (.inr ⟨rfl,g0,g1,g2,g3,rfl⟩)))
 .exact G.gD aM aE mix hb [] (aJf u0 u1 u2 u3 u4 y0 y1 _ _ _ _ _ _ _ h0 h1 h2 h3) (aA (by simp only [aO,and_true])) (G.leave (fun h=>by cases h) (fin h0 h1 h2 h3))
theorem aH.aU {P:Program} {Γ Γ':Env} {f:FuncId} {S:Sum} (h:aH P Γ f S) (hg:Γ'.aU=Γ.aU):aH P Γ' f S:=
 fun vs T lab F e he ho w0 M V T2 w xs bC hT AO=>h vs T lab F e he ho w0 M V T2 w xs bC hT (fun n l hl=>AO n l (by rw [hg];exact hl))
namespace M
def nl:List Int->Nat
 | []=>0
 | x::r=>match nl r with
   | 0=>if x=0 then 0 else 1
   | k+1=>k+2
end M
def nmT (ws:List SV):bA:=fun l=>look l [(63,.own ws 142)]
noncomputable def Ez (n cap:Nat) (ws:List SV) (h:List Bool):Option bR:=aR Γv Tryz.f131 true h 400 [.aI 63 true 0 n cap] (nmT ws) 100 100
namespace M
theorem DS:∀ l:List Int,nl l<=l.length
 | []=>Nat.le_refl _
 | x::r=>by
   have:=DS r
   simp only [nl,List.length_cons]
   split
   .split <;> omega
   .omega
end M
def nmH (n:Nat):Nat->List Bool
 | 0=>List.replicate n true
 | k+1=>List.replicate (n-(k+1)) true++[false]
def nmO (ws:List Int):Nat->List Prop
 | 0=>ws.map fun a=>(a==0)=true
 | k+1=>((ws.getD k 0==0)=false)::(ws.drop (k+1)).map fun a=>(a==0)=true
theorem GR:∀ ws:List Int,∀ q∈nmO ws (M.nl ws),q
 | [],q,h=>by cases h
 | x::r,q,h=>by
   have ih:=GR r
   unfold M.nl at h
   cases hn:M.nl r with
   | zero=>
     rw [hn] at h ih
     simp only at h
     by_cases hx:x=0
     .rw [if_pos hx] at h
      rcases List.mem_cons.1 h with rfl | h
      .simpa using hx
      .exact ih q h
     .rw [if_neg hx] at h
      rcases List.mem_cons.1 h with rfl | h
      .simpa using hx
      .exact ih q h
   | succ k=>
     rw [hn] at h ih
     exact ih q h
theorem nm1 {cap:Nat} (hc:cap=1\/cap=1) (zs:List SV) (a0:Int) (k:Nat) (hk:k<=1):Ez 1 cap (wc [a0]++zs) (nmH 1 k)=some { bV:=nmO [a0] k,val:=.aI 63 true 0 k cap }:=by
 rcases hc with rfl | rfl <;> rcases (by omega:k=0\/k=1) with rfl | rfl <;> kernel_rfl
theorem nm2 {cap:Nat} (hc:cap=6\/cap=6) (zs:List SV) (a0 a1:Int) (k:Nat) (hk:k<=2):Ez 2 cap (wc [a0,a1]++zs) (nmH 2 k)=some { bV:=nmO [a0,a1] k,val:=.aI 63 true 0 k cap }:=by
 rcases hc with rfl | rfl <;> rcases (by omega:k=0\/k=1\/k=2) with rfl | rfl | rfl <;> kernel_rfl
theorem nm3 {cap:Nat} (hc:cap=7\/cap=7) (zs:List SV) (a0 a1 a2:Int) (k:Nat) (hk:k<=3):Ez 3 cap (wc [a0,a1,a2]++zs) (nmH 3 k)=some { bV:=nmO [a0,a1,a2] k,val:=.aI 63 true 0 k cap }:=by
 rcases hc with rfl | rfl <;> rcases (by omega:k=0\/k=1\/k=2\/k=3) with rfl | rfl | rfl | rfl <;> kernel_rfl
theorem nm4 {cap:Nat} (hc:cap=7\/cap=8) (zs:List SV) (a0 a1 a2 a3:Int) (k:Nat) (hk:k<=4):Ez 4 cap (wc [a0,a1,a2,a3]++zs) (nmH 4 k)=some { bV:=nmO [a0,a1,a2,a3] k,val:=.aI 63 true 0 k cap }:=by
 rcases hc with rfl | rfl <;> rcases (by omega:k=0\/k=1\/k=2\/k=3\/k=4) with rfl | rfl | rfl | rfl | rfl <;> kernel_rfl
theorem nm5 {cap:Nat} (hc:cap=8\/cap=9) (zs:List SV) (a0 a1 a2 a3 a4:Int) (k:Nat) (hk:k<=5):Ez 5 cap (wc [a0,a1,a2,a3,a4]++zs) (nmH 5 k)=some { bV:=nmO [a0,a1,a2,a3,a4] k,val:=.aI 63 true 0 k cap }:=by
 rcases hc with rfl | rfl <;> rcases (by omega:k=0\/k=1\/k=2\/k=3\/k=4\/k=5) with rfl | rfl | rfl | rfl | rfl | rfl <;> kernel_rfl
theorem pF {n cap:Nat} {ws:List Int} {zs:List SV} (h:∀ k,k<=ws.length->Ez n cap (wc ws++zs) (nmH n k)=some { bV:=nmO ws k,val:=.aI 63 true 0 k cap }):aD Tryz.prog Γv 131 [.aI 63 true 0 n cap] (nmT (wc ws++zs)) 100 100 { val:=.aI 63 false 0 (M.nl ws) cap }:=
 ((aY kW kX mix Tryz.func131 (by kernel_rfl) true _ 400).call (h _ (M.DS ws)) (GR ws)).words rfl (fun _=>rfl) (fun _ _ h=>h) (fun _=>rfl) rfl rfl
def DR (vs:List SV) (T:bA):Option Canon:=match vs with
 | [.aI l true 0 n cap]=>match T l with
   | some (.own cs 142)=>match dV .u64 cs with
     | some [a0]=>match Nat.beq n 1&&Nat.beq cap 1 with
       | true=>some { eR:=[.aI 63 true 0 1 1],T0:=[(63,.own (wc [a0]) 142)],vl:=[(63,.lab l 0)],e0:={ val:=.aI 63 false 0 (M.nl [a0]) 1,wr:=[(63,.own (wc [a0]) 142)] } }
       | false=>none
     | some [a0,a1,_,_,_,_]=>match Nat.beq n 2&&Nat.beq cap 6 with
       | true=>some { eR:=[.aI 63 true 0 2 6],T0:=[(63,.own (wc [a0,a1,0,0,0,0]) 142)],vl:=[(63,.lab l 0)],e0:={ val:=.aI 63 false 0 (M.nl [a0,a1]) 6,wr:=[(63,.own (wc [a0,a1,0,0,0,0]) 142)] } }
       | false=>none
     | some [a0,a1,a2,a3,_,_,_]=>match Nat.beq cap 7 with
       | true=>match Nat.beq n 4 with
         | true=>some { eR:=[.aI 63 true 0 4 7],T0:=[(63,.own (wc [a0,a1,a2,a3,0,0,0]) 142)],vl:=[(63,.lab l 0)],e0:={ val:=.aI 63 false 0 (M.nl [a0,a1,a2,a3]) 7,wr:=[(63,.own (wc [a0,a1,a2,a3,0,0,0]) 142)] } }
         | false=>match Nat.beq n 3 with
           | true=>some { eR:=[.aI 63 true 0 3 7],T0:=[(63,.own (wc [a0,a1,a2,0,0,0,0]) 142)],vl:=[(63,.lab l 0)],e0:={ val:=.aI 63 false 0 (M.nl [a0,a1,a2]) 7,wr:=[(63,.own (wc [a0,a1,a2,0,0,0,0]) 142)] } }
           | false=>none
       | false=>none
     | some [a0,a1,a2,a3,a4,_,_,_]=>match Nat.beq cap 8 with
       | true=>match Nat.beq n 4 with
         | true=>some { eR:=[.aI 63 true 0 4 8],T0:=[(63,.own (wc [a0,a1,a2,a3,0,0,0,0]) 142)],vl:=[(63,.lab l 0)],e0:={ val:=.aI 63 false 0 (M.nl [a0,a1,a2,a3]) 8,wr:=[(63,.own (wc [a0,a1,a2,a3,0,0,0,0]) 142)] } }
         | false=>match Nat.beq n 5 with
           | true=>some { eR:=[.aI 63 true 0 5 8],T0:=[(63,.own (wc [a0,a1,a2,a3,a4,0,0,0]) 142)],vl:=[(63,.lab l 0)],e0:={ val:=.aI 63 false 0 (M.nl [a0,a1,a2,a3,a4]) 8,wr:=[(63,.own (wc [a0,a1,a2,a3,a4,0,0,0]) 142)] } }
           | false=>none
       | false=>none
     | some [a0,a1,a2,a3,a4,_,_,_,_]=>match Nat.beq n 5&&Nat.beq cap 9 with
       | true=>some { eR:=[.aI 63 true 0 5 9],T0:=[(63,.own (wc [a0,a1,a2,a3,a4,0,0,0,0]) 142)],vl:=[(63,.lab l 0)],e0:={ val:=.aI 63 false 0 (M.nl [a0,a1,a2,a3,a4]) 9,wr:=[(63,.own (wc [a0,a1,a2,a3,a4,0,0,0,0]) 142)] } }
       | false=>none
     | _=>none
   | _=>none
 | _=>none
theorem aAy (Γ:Env) (hg:Γ.aU=aB) {vs:List SV} {T:bA} {c:Canon} (hd:DR vs T=some c):aD Tryz.prog Γ 131 c.eR (fun l=>look l c.T0) 100 100 c.e0:=by
 unfold DR at hd
 split at hd
 case h_2=>cases hd
 split at hd
 case h_2=>cases hd
 split at hd
 case h_6=>cases hd
 .split at hd
  case h_2=>cases hd
  cases hd
  exact ((pF (ws:=[_]) (zs:=wc []) (nm1 (.inl rfl) _ _)).bE 63 _ rfl (by decide)).words (by rw [hg];rfl) (fun _=>rfl) (fun _ _ h=>h) (fun _=>rfl) rfl rfl
 .split at hd
  case h_2=>cases hd
  cases hd
  exact ((pF (ws:=[_,_]) (zs:=wc [0,0,0,0]) (nm2 (.inl rfl) _ _ _)).bE 63 _ rfl (by decide)).words (by rw [hg];rfl) (fun _=>rfl) (fun _ _ h=>h) (fun _=>rfl) rfl rfl
 .split at hd
  case h_2=>cases hd
  split at hd
  .cases hd
   exact ((pF (ws:=[_,_,_,_]) (zs:=wc [0,0,0]) (nm4 (.inl rfl) _ _ _ _ _)).bE 63 _ rfl (by decide)).words (by rw [hg];rfl) (fun _=>rfl) (fun _ _ h=>h) (fun _=>rfl) rfl rfl
  .split at hd
   case h_2=>cases hd
   cases hd
   exact ((pF (ws:=[_,_,_]) (zs:=wc [0,0,0,0]) (nm3 (.inl rfl) _ _ _ _)).bE 63 _ rfl (by decide)).words (by rw [hg];rfl) (fun _=>rfl) (fun _ _ h=>h) (fun _=>rfl) rfl rfl
 .split at hd
  case h_2=>cases hd
  split at hd
  .cases hd
   exact ((pF (ws:=[_,_,_,_]) (zs:=wc [0,0,0,0]) (nm4 (.inr rfl) _ _ _ _ _)).bE 63 _ rfl (by decide)).words (by rw [hg];rfl) (fun _=>rfl) (fun _ _ h=>h) (fun _=>rfl) rfl rfl
  .split at hd
   case h_2=>cases hd
   cases hd
   exact ((pF (ws:=[_,_,_,_,_]) (zs:=wc [0,0,0]) (nm5 (.inl rfl) _ _ _ _ _ _)).bE 63 _ rfl (by decide)).words (by rw [hg];rfl) (fun _=>rfl) (fun _ _ h=>h) (fun _=>rfl) rfl rfl
 .split at hd
  case h_2=>cases hd
  cases hd
  exact ((pF (ws:=[_,_,_,_,_]) (zs:=wc [0,0,0,0]) (nm5 (.inr rfl) _ _ _ _ _ _)).bE 63 _ rfl (by decide)).words (by rw [hg];rfl) (fun _=>rfl) (fun _ _ h=>h) (fun _=>rfl) rfl rfl
def sZ (iq ir:Nat) (vs:List SV) (T:bA):Option Canon:=match DR vs T with
 | some c=>match c.eR,c.e0.val with
   | [.aI _ _ _ n _],.aI 63 false 0 k cap=>match Nat.ble n 2 with
     | true=>some { c with e0:={ c.e0 with val:=.aI 63 true 0 iq cap },conds:=[k=iq] }
     | false=>some { c with e0:={ c.e0 with val:=.aI 63 true 0 ir cap },conds:=[k=ir] }
   | _,_=>none
 | none=>none
theorem Bv (iq ir:Nat) (Γ:Env) (hg:Γ.aU=aB):aH Tryz.prog Γ 131 (aK aB 100 (sZ iq ir)):=by
 refine aT hg fun vs T c hd hc=>?_
 unfold sZ at hd
 split at hd
 case h_2=>cases hd
 rename_i c0 h0
 split at hd
 case h_2=>cases hd
 rename_i hv
 split at hd
 .cases hd
  have hk:=hc _ List.mem_cons_self
  refine (aAy Γ hg h0).words rfl (fun _=>rfl) (fun _ _ h=>h) (fun V=>?_) rfl rfl
  rw [hv,hk];rfl
 .cases hd
  have hk:=hc _ List.mem_cons_self
  refine (aAy Γ hg h0).words rfl (fun _=>rfl) (fun _ _ h=>h) (fun V=>?_) rfl rfl
  rw [hv,hk];rfl
def aDf (c c':Nat):List SV:=[.aI 61 true 0 3 c,.aI 62 true 0 3 c']
def cmT (xs ys:List Int):bA:=fun l=>look l [(61,.oD .u64 xs),(62,.oD .u64 ys)]
noncomputable def yB (c c':Nat) (xs ys:List Int) (h:List Bool):Option bR:=aR Γv Tryz.f110 true h 400 (aDf c c') (cmT xs ys) 100 100
theorem bBm (c c':Nat) (x0 x1 x2 y0 y1 y2:Int) (xs ys:List Int) :
 yB c c' (x0::x1::x2::xs) (y0::y1::y2::ys) [false,true] =
 sh (x0::x1::x2::xs) fun z0=>
 sh (y0::y1::y2::ys) fun z1=>
 sh (2:Nat) fun z2=>
 sh (0:Int) fun z3=>
 sh (3:Nat) fun z4=>
 some {bV:=[decide (z0.getD z2 z3<z1.getD z2 z3)=true,z4<=z1.length,z4<=z0.length,(z0.getD z2 z3==z1.getD z2 z3)=false,z4<=z1.length,z4<=z0.length],val:=SV.int true IntKind.i64 (Int.negSucc 0)}:=by kernel_rfl
theorem bBl (c c':Nat) (x0 x1 x2 y0 y1 y2:Int) (xs ys:List Int) :
 yB c c' (x0::x1::x2::xs) (y0::y1::y2::ys) [false,false,true] =
 sh (x0::x1::x2::xs) fun z0=>
 sh (y0::y1::y2::ys) fun z1=>
 sh (2:Nat) fun z2=>
 sh (0:Int) fun z3=>
 sh (3:Nat) fun z4=>
 some {bV:=[decide (z0.getD z2 z3>z1.getD z2 z3)=true,z4<=z1.length,z4<=z0.length,decide (z0.getD z2 z3<z1.getD z2 z3)=false,z4<=z1.length,z4<=z0.length,(z0.getD z2 z3==z1.getD z2 z3)=false,z4<=z1.length,z4<=z0.length],val:=SV.int true IntKind.i64 (1:Int)}:=by kernel_rfl
theorem bBk (c c':Nat) (x0 x1 x2 y0 y1 y2:Int) (xs ys:List Int) :
 yB c c' (x0::x1::x2::xs) (y0::y1::y2::ys) [true,false,true] =
 sh (x0::x1::x2::xs) fun z0=>
 sh (y0::y1::y2::ys) fun z1=>
 sh (0:Int) fun z2=>
 sh (2:Nat) fun z3=>
 sh (1:Nat) fun z4=>
 some {bV:=[decide (z0.getD z4 z2<z1.getD z4 z2)=true,z3<=z1.length,z3<=z0.length,(z0.getD z4 z2==z1.getD z4 z2)=false,z3<=z1.length,z3<=z0.length,(z0.getD z3 z2==z1.getD z3 z2)=true,(3:Nat)<=z1.length,(3:Nat)<=z0.length],val:=SV.int true IntKind.i64 (Int.negSucc 0)}:=by kernel_rfl
theorem bBj (c c':Nat) (x0 x1 x2 y0 y1 y2:Int) (xs ys:List Int) :
 yB c c' (x0::x1::x2::xs) (y0::y1::y2::ys) [true,false,false,true] =
 sh (x0::x1::x2::xs) fun z0=>
 sh (y0::y1::y2::ys) fun z1=>
 sh (0:Int) fun z2=>
 sh (2:Nat) fun z3=>
 sh (1:Nat) fun z4=>
 some {bV:=[decide (z0.getD z4 z2>z1.getD z4 z2)=true,z3<=z1.length,z3<=z0.length,decide (z0.getD z4 z2<z1.getD z4 z2)=false,z3<=z1.length,z3<=z0.length,(z0.getD z4 z2==z1.getD z4 z2)=false,z3<=z1.length,z3<=z0.length,(z0.getD z3 z2==z1.getD z3 z2)=true,(3:Nat)<=z1.length,(3:Nat)<=z0.length],val:=SV.int true IntKind.i64 (1:Int)}:=by kernel_rfl
theorem bBi (c c':Nat) (x0 x1 x2 y0 y1 y2:Int) (xs ys:List Int) :
 yB c c' (x0::x1::x2::xs) (y0::y1::y2::ys) [true,true,true] =
 sh (x0::x1::x2::xs) fun z0=>
 sh (y0::y1::y2::ys) fun z1=>
 sh (0:Int) fun z2=>
 sh (1:Nat) fun z3=>
 sh (2:Nat) fun z4=>
 some {bV:=[decide (z0.getD (0:Nat) z2<z1.getD (0:Nat) z2)=true,z3<=z1.length,z3<=z0.length,(z0.getD z3 z2==z1.getD z3 z2)=true,z4<=z1.length,z4<=z0.length,(z0.getD z4 z2==z1.getD z4 z2)=true,(3:Nat)<=z1.length,(3:Nat)<=z0.length],val:=SV.int true IntKind.i64 (Int.negSucc 0)}:=by kernel_rfl
theorem bBh (c c':Nat) (x0 x1 x2 y0 y1 y2:Int) (xs ys:List Int) :
 yB c c' (x0::x1::x2::xs) (y0::y1::y2::ys) [true,true,false,true] =
 sh (x0::x1::x2::xs) fun z0=>
 sh (y0::y1::y2::ys) fun z1=>
 sh (0:Int) fun z2=>
 sh (1:Nat) fun z3=>
 sh (0:Nat) fun z4=>
 sh (2:Nat) fun z5=>
 some {bV:=[decide (z0.getD z4 z2>z1.getD z4 z2)=true,z3<=z1.length,z3<=z0.length,decide (z0.getD z4 z2<z1.getD z4 z2)=false,z3<=z1.length,z3<=z0.length,(z0.getD z3 z2==z1.getD z3 z2)=true,z5<=z1.length,z5<=z0.length,(z0.getD z5 z2==z1.getD z5 z2)=true,(3:Nat)<=z1.length,(3:Nat)<=z0.length],val:=SV.int true IntKind.i64 (1:Int)}:=by kernel_rfl
theorem bBg (c c':Nat) (x0 x1 x2 y0 y1 y2:Int) (xs ys:List Int) :
 yB c c' (x0::x1::x2::xs) (y0::y1::y2::ys) [true,true,false,false] =
 sh (x0::x1::x2::xs) fun z0=>
 sh (y0::y1::y2::ys) fun z1=>
 sh (0:Int) fun z2=>
 sh (1:Nat) fun z3=>
 sh (0:Nat) fun z4=>
 sh (2:Nat) fun z5=>
 some {bV:=[decide (z0.getD z4 z2>z1.getD z4 z2)=false,z3<=z1.length,z3<=z0.length,decide (z0.getD z4 z2<z1.getD z4 z2)=false,z3<=z1.length,z3<=z0.length,(z0.getD z3 z2==z1.getD z3 z2)=true,z5<=z1.length,z5<=z0.length,(z0.getD z5 z2==z1.getD z5 z2)=true,(3:Nat)<=z1.length,(3:Nat)<=z0.length],val:=SV.int true IntKind.i64 z2}:=by kernel_rfl
namespace M
def cmp (x y:Int):Int:=if x<y then -1 else if y<x then 1 else 0
def n3 (a b c:Int):Int:=a+18446744073709551616*(b+18446744073709551616*c)
end M
def EE:SB->Option (IntKind × List Int)
 | .ints k xs _=>some (k,xs)
 | .own cs _=>qL cs
 | .eY cs=>qL cs
 | .oD k xs=>some (k,xs)
 | _=>none
def Tg (vs:List SV) (T:bA):Option Canon:=match vs with
 | [.aI l _ 0 3 c,.aI l' _ 0 3 c']=>match (T l).bind EE,(T l').bind EE with
   | some (.u64,x0::x1::x2::xs),some (.u64,y0::y1::y2::ys)=>some { eR:=aDf c c',T0:=[(61,.oD .u64 (x0::x1::x2::xs)),(62,.oD .u64 (y0::y1::y2::ys))],vl:=[(61,.lab l 0),(62,.lab l' 0)],e0:={ val:=.int false .i64 (M.cmp (M.n3 x0 x1 x2) (M.n3 y0 y1 y2)) },conds:=[M.U x0,M.U x1,M.U x2,M.U y0,M.U y1,M.U y2] }
   | _,_=>none
 | _=>none
theorem aBu (Γ:Env) (hg:Γ.aU=aB):aH Tryz.prog Γ 110 (aK aB 100 Tg):=by
 refine aT hg fun vs T c hd hc=>?_
 unfold Tg at hd
 split at hd
 case h_2=>cases hd
 split at hd
 case h_2=>cases hd
 rename_i c _ _ c' _ _ x0 x1 x2 xs y0 y1 y2 ys _ _
 cases hd
 have a0:M.U x0:=hc _ (by simp)
 have a1:M.U x1:=hc _ (by simp)
 have a2:M.U x2:=hc _ (by simp)
 have b0:M.U y0:=hc _ (by simp)
 have b1:M.U y1:=hc _ (by simp)
 have b2:M.U y2:=hc _ (by simp)
 have:=a0.1;have:=a0.2;have:=a1.1;have:=a1.2;have:=a2.1;have:=a2.2
 have:=b0.1;have:=b0.2;have:=b1.1;have:=b1.2;have:=b2.1;have:=b2.2
 have hs:∀ hs,aH Tryz.prog Γv 110 (aR Γv Tryz.f110 true hs 400):=fun hs=>aY kW kX mix Tryz.func110 (by kernel_rfl) true hs 400
 have fin:∀ {hs:List Bool} {ob:List Prop} {s:Bool} {r:Int},yB c c' (x0::x1::x2::xs) (y0::y1::y2::ys) hs=some { bV:=ob,val:=.int s .i64 r }->(∀ q∈ob,q)->M.cmp (M.n3 x0 x1 x2) (M.n3 y0 y1 y2)=r ->
  aD Tryz.prog Γ 110 (aDf c c') (fun l=>look l [(61,.oD .u64 (x0::x1::x2::xs)),(62,.oD .u64 (y0::y1::y2::ys))]) 100 100 { val:=.int false .i64 (M.cmp (M.n3 x0 x1 x2) (M.n3 y0 y1 y2)) }:=by
  intro h ob s r e ho hr
  exact ((hs h).call e ho).words (by rw [hg];rfl) (fun _=>rfl) (fun _ _ h=>h) (fun V=>by simp only [den,hr]) rfl rfl
 rcases Int.lt_trichotomy x2 y2 with h | rfl | h
 .exact fin (bBm c c' x0 x1 x2 y0 y1 y2 xs ys) (aA (by simp [aO];omega)) (by unfold M.cmp M.n3;rw [if_pos (by omega)];rfl)
 .rcases Int.lt_trichotomy x1 y1 with h | rfl | h
  .exact fin (bBk c c' x0 x1 x2 y0 y1 x2 xs ys) (aA (by simp [aO];omega)) (by unfold M.cmp M.n3;rw [if_pos (by omega)];rfl)
  .rcases Int.lt_trichotomy x0 y0 with h | rfl | h
   .exact fin (bBi c c' x0 x1 x2 y0 x1 x2 xs ys) (aA (by simp [aO];omega)) (by unfold M.cmp M.n3;rw [if_pos (by omega)];rfl)
   .exact fin (bBg c c' x0 x1 x2 x0 x1 x2 xs ys) (aA (by simp [aO])) (by unfold M.cmp M.n3;rw [if_neg (by omega),if_neg (by omega)])
   .exact fin (bBh c c' x0 x1 x2 y0 x1 x2 xs ys) (aA (by simp [aO];omega)) (by unfold M.cmp M.n3;rw [if_neg (by omega),if_pos (by omega)])
  .exact fin (bBj c c' x0 x1 x2 y0 y1 x2 xs ys) (aA (by simp [aO];omega)) (by unfold M.cmp M.n3;rw [if_neg (by omega),if_pos (by omega)])
 .exact fin (bBl c c' x0 x1 x2 y0 y1 y2 xs ys) (aA (by simp [aO];omega)) (by unfold M.cmp M.n3;rw [if_neg (by omega),if_pos (by omega)])
noncomputable def Ax (ex:Nat->Option Sum) (f0:Nat) (hs:List Bool) (f:Nat):Option Sum:=match Nat.beq f f0 with
 | true=>match Tryz.prog.funcs[f0]? with
   | some fn=>some (aR (env ex 22) fn true hs 400)
   | none=>none
 | false=>ex f
theorem lQ {ex:Nat->Option Sum} (hex:∀ f S,ex f=some S->∀ Γ:Env,Γ.aU=aB->aH Tryz.prog Γ f S) (f0:Nat) (hs:List Bool):∀ f S,Ax ex f0 hs f=some S->∀ Γ:Env,Γ.aU=aB->aH Tryz.prog Γ f S:=by
 intro f S h Γ hg
 unfold Ax at h
 split at h
 .rename_i e
  rw [Nat.eq_of_beq_eq_true e]
  split at h
  .rename_i fn tP
   cases h
   exact (aY (bH ex 22) (bJ ex hex 22) mix tP (names f0 fn tP) true hs 400).aU (by rw [hg];rfl)
  .cases h
 .exact hex f S h Γ hg
noncomputable def eE (ex:Nat->Option Sum) (f0:Nat) (S0:Sum) (f:Nat):Option Sum:=match Nat.beq f f0 with
 | true=>some S0
 | false=>ex f
theorem bI {ex:Nat->Option Sum} (hex:∀ f S,ex f=some S->∀ Γ:Env,Γ.aU=aB->aH Tryz.prog Γ f S) (f0:Nat) (S0:Sum) (h0:∀ Γ:Env,Γ.aU=aB->aH Tryz.prog Γ f0 S0):∀ f S,eE ex f0 S0 f=some S->∀ Γ:Env,Γ.aU=aB->aH Tryz.prog Γ f S:=by
 intro f S h Γ hg
 unfold eE at h
 split at h
 .rename_i e;cases h;rw [Nat.eq_of_beq_eq_true e];exact h0 Γ hg
 .exact hex f S h Γ hg
noncomputable def orB (ex:Nat->Option Sum) (f0:Nat) (S0:Sum):Sum:=match Tryz.prog.funcs[f0]? with
 | some fn=>orS S0 (aR (env ex 22) fn true [] 400)
 | none=>S0
theorem GP {ex:Nat->Option Sum} (hex:∀ f S,ex f=some S->∀ Γ:Env,Γ.aU=aB->aH Tryz.prog Γ f S) (f0:Nat) (S0:Sum) (h0:∀ Γ:Env,Γ.aU=aB->aH Tryz.prog Γ f0 S0):∀ Γ:Env,Γ.aU=aB->aH Tryz.prog Γ f0 (orB ex f0 S0):=by
 intro Γ hg
 unfold orB
 split
 .rename_i fn tP
  exact GO (h0 Γ hg) ((aY (bH ex 22) (bJ ex hex 22) mix tP (names f0 fn tP) true [] 400).aU (by rw [hg];rfl))
 .exact h0 Γ hg
open M in
def FH (vs:List SV) (T:bA):Option Canon:=match vs with
 | [.aI lq true 0 nq cq,.ptr ls true 0,.aI lu true 0 nu cu,.dO lv 0 3 0]=>match T lq,T ls,T lu,T lv with
   | some (.own qs 142),some (.own [.raw (.pointer none)] 236),some (.own us 142),some (.row 1 _ 142)=>match dV .u64 qs,dV .u64 us,Nat.beq nu 4 with
     | some [y0],some [u0,u1,u2,u3,_,_,_],true=>match Nat.beq cu 7&&(Nat.beq nq 1&&Nat.beq cq 1) with
       | true=>some { eR:=Av 4 7 1 1,T0:=[(61,.own (wc [y0]) 142),(62,.own [.raw (.pointer none)] 236),(63,.own (wc [u0,u1,u2,u3,0,0,0]) 142),(64,.row 1 fB 142)],vl:=[(61,.lab lq 0),(62,.lab ls 0),(63,.lab lu 0),(64,.lab lv 0)]
                      e0:={ val:=.eD [],wr:=[(61,.own (wc [n4 u0 u1 u2 u3/DD]) 142),(63,.own (wc [w0 (n4 u0 u1 u2 u3%DD),w1 (n4 u0 u1 u2 u3%DD),w2 (n4 u0 u1 u2 u3%DD),0,0,0,0]) 142),(62,.own [.raw (.pointer none)] 236),(64,.row 1 fB 142)] },conds:=[U u0,U u1,U u2,U u3,u3<9223372036854775808] }
       | false=>none
     | some [y0],some [u0,u1,u2,u3,_,_,_,_],true=>match Nat.beq cu 8&&(Nat.beq nq 1&&Nat.beq cq 1) with
       | true=>some { eR:=Av 4 8 1 1,T0:=[(61,.own (wc [y0]) 142),(62,.own [.raw (.pointer none)] 236),(63,.own (wc [u0,u1,u2,u3,0,0,0,0]) 142),(64,.row 1 fB 142)],vl:=[(61,.lab lq 0),(62,.lab ls 0),(63,.lab lu 0),(64,.lab lv 0)]
                      e0:={ val:=.eD [],wr:=[(61,.own (wc [n4 u0 u1 u2 u3/DD]) 142),(63,.own (wc [w0 (n4 u0 u1 u2 u3%DD),w1 (n4 u0 u1 u2 u3%DD),w2 (n4 u0 u1 u2 u3%DD),0,0,0,0,0]) 142),(62,.own [.raw (.pointer none)] 236),(64,.row 1 fB 142)] },conds:=[U u0,U u1,U u2,U u3,u3<9223372036854775808] }
       | false=>none
     | some [y0,y1,_,_,_,_],some [u0,u1,u2,u3,u4,_,_,_],false=>match Nat.beq nu 5&&(Nat.beq cu 8&&(Nat.beq nq 2&&Nat.beq cq 6)) with
       | true=>some { eR:=Av 5 8 2 6,T0:=[(61,.own (wc [y0,y1,0,0,0,0]) 142),(62,.own [.raw (.pointer none)] 236),(63,.own (wc [u0,u1,u2,u3,u4,0,0,0]) 142),(64,.row 1 fB 142)],vl:=[(61,.lab lq 0),(62,.lab ls 0),(63,.lab lu 0),(64,.lab lv 0)]
                      e0:={ val:=.eD [],wr:=[(61,.own (wc [r5 u0 u1 u2 u3 u4/DD,n4 u1 u2 u3 u4/DD,0,0,0,0]) 142),(63,.own (wc [w0 (r5 u0 u1 u2 u3 u4%DD),w1 (r5 u0 u1 u2 u3 u4%DD),w2 (r5 u0 u1 u2 u3 u4%DD),0,0,0,0,0]) 142),(62,.own [.raw (.pointer none)] 236),(64,.row 1 fB 142)] },conds:=[U u0,U u1,U u2,U u3,U u4,u4<9223372036854775808] }
       | false=>none
     | some [y0,y1,_,_,_,_],some [u0,u1,u2,u3,u4,_,_,_,_],false=>match Nat.beq nu 5&&(Nat.beq cu 9&&(Nat.beq nq 2&&Nat.beq cq 6)) with
       | true=>some { eR:=Av 5 9 2 6,T0:=[(61,.own (wc [y0,y1,0,0,0,0]) 142),(62,.own [.raw (.pointer none)] 236),(63,.own (wc [u0,u1,u2,u3,u4,0,0,0,0]) 142),(64,.row 1 fB 142)],vl:=[(61,.lab lq 0),(62,.lab ls 0),(63,.lab lu 0),(64,.lab lv 0)]
                      e0:={ val:=.eD [],wr:=[(61,.own (wc [r5 u0 u1 u2 u3 u4/DD,n4 u1 u2 u3 u4/DD,0,0,0,0]) 142),(63,.own (wc [w0 (r5 u0 u1 u2 u3 u4%DD),w1 (r5 u0 u1 u2 u3 u4%DD),w2 (r5 u0 u1 u2 u3 u4%DD),0,0,0,0,0,0]) 142),(62,.own [.raw (.pointer none)] 236),(64,.row 1 fB 142)] },conds:=[U u0,U u1,U u2,U u3,U u4,u4<9223372036854775808] }
       | false=>none
     | _,_,_=>none
   | _,_,_,_=>none
 | _=>none
theorem aRl (Γ:Env) (hg:Γ.aU=aB):aH Tryz.prog Γ 203 (aK aB 100 FH):=by
 refine aT hg fun vs T c hd hc=>?_
 unfold FH at hd
 split at hd
 case h_2=>cases hd
 split at hd
 case h_2=>cases hd
 split at hd
 case h_5=>cases hd
 .split at hd
  case h_2=>cases hd
  cases hd
  exact (((Zg _ (hc _ (by simp)) (hc _ (by simp)) (hc _ (by simp)) (hc _ (by simp)) (hc _ (by simp))).bE 62 _ rfl (by decide)).bE 64 _ rfl (by decide)).words (by rw [hg];rfl) (fun _=>rfl) (fun _ _ h=>h) (fun _=>rfl) rfl rfl
 .split at hd
  case h_2=>cases hd
  cases hd
  exact (((Zf _ (hc _ (by simp)) (hc _ (by simp)) (hc _ (by simp)) (hc _ (by simp)) (hc _ (by simp))).bE 62 _ rfl (by decide)).bE 64 _ rfl (by decide)).words (by rw [hg];rfl) (fun _=>rfl) (fun _ _ h=>h) (fun _=>rfl) rfl rfl
 .split at hd
  case h_2=>cases hd
  cases hd
  exact (((Ze _ _ (hc _ (by simp)) (hc _ (by simp)) (hc _ (by simp)) (hc _ (by simp)) (hc _ (by simp)) (hc _ (by simp))).bE 62 _ rfl (by decide)).bE 64 _ rfl (by decide)).words (by rw [hg];rfl) (fun _=>rfl) (fun _ _ h=>h) (fun _=>rfl) rfl rfl
 .split at hd
  case h_2=>cases hd
  cases hd
  exact (((Zd _ _ (hc _ (by simp)) (hc _ (by simp)) (hc _ (by simp)) (hc _ (by simp)) (hc _ (by simp)) (hc _ (by simp))).bE 62 _ rfl (by decide)).bE 64 _ rfl (by decide)).words (by rw [hg];rfl) (fun _=>rfl) (fun _ _ h=>h) (fun _=>rfl) rfl rfl
theorem pI:∀ f S,Vq f=some S->∀ Γ:Env,Γ.aU=aB->aH Tryz.prog Γ f S:=HF
noncomputable def aCu:Nat->Option Sum:=eE Vq 203 (aK aB 100 FH)
theorem Us:∀ f S,aCu f=some S->∀ Γ:Env,Γ.aU=aB->aH Tryz.prog Γ f S:=bI pI 203 _ aRl
noncomputable def aMl (iq ir:Nat):Nat->Option Sum:=eE (eE aCu 131 (aK aB 100 (sZ iq ir))) 110 (orB aCu 110 (aK aB 100 Tg))
theorem XL (iq ir:Nat):∀ f S,aMl iq ir f=some S->∀ Γ:Env,Γ.aU=aB->aH Tryz.prog Γ f S:=bI (bI Us 131 _ (Bv iq ir)) 110 _ (GP Us 110 _ aBu)
noncomputable def pA (lt:Bool) (iq ir:Nat):Nat->Option Sum:=Ax (aMl iq ir) 152 [lt]
theorem nR (lt:Bool) (iq ir:Nat):∀ f S,pA lt iq ir f=some S->∀ Γ:Env,Γ.aU=aB->aH Tryz.prog Γ f S:=lQ (XL iq ir) 152 _
def qI:List SV:=[.ptr 61 true 0,.ptr 61 true 0,.ptr 62 true 0]
def Dh:List SV:=[.int true .u64 18446744073709551611,.int true .u64 18446744073709551615,.int true .u64 3,.int true .u64 0,.int true .u64 0,.int true .u64 0,.int true .u64 0,.int true .u64 0]
def YX (n cap:Nat) (ws:List SV):bA:=fun l=>look l [(61,.own [.bool true false,.aI 63 true 0 n cap] 122),(62,.own [.bool true false,.aI 66 true 0 3 8] 122),(63,.own ws 142),(66,.own Dh 142),(18,.eY [.int true .i64 40])]
noncomputable def Bf (lt:Bool) (iq ir n cap:Nat) (ws:List SV):Option bR:=aR (env (pA lt iq ir) 22) Tryz.f94 true [] 400 qI (YX n cap ws) 100 100
namespace M
def s0 (a:Int):Int:=dZ .u64 a 62
def s1 (a b:Int):Int:=oG .u64 (dZ .u64 b 62) (cE .u64 a 2)
def s2 (a:Int):Int:=cE .u64 a 2
def t0 (x:Int):Int:=oG .u64 (cE .u64 (w0 x) 62) (dZ .u64 (w1 x) 2)
def t1 (x:Int):Int:=oG .u64 (cE .u64 (w1 x) 62) (dZ .u64 (w2 x) 2)
def t2 (x:Int):Int:=oG .u64 (cE .u64 (w2 x) 62) 0
def x3 (a0 a1 a2:Int):Int:=n4 (s0 a0) (s1 a0 a1) (s1 a1 a2) (s2 a2)
def h4 (a0 a1 a2 a3:Int):Int:=n4 (s1 a0 a1) (s1 a1 a2) (s1 a2 a3) (s2 a3)
def x4 (a0 a1 a2 a3:Int):Int:=r5 (s0 a0) (s1 a0 a1) (s1 a1 a2) (s1 a2 a3) (s2 a3)
end M
theorem aGz (a0:Int) :
 Bf true 0 0 1 6 (wc [a0,0,0,0,0,0]) =
 some {val:=.ptr 61 true 0,wr:=[(61,.own [.bool true false,.aI 63 true 0 1 6] 122),(63,.own [.int false .u64 a0,.int false .u64 0,.int false .u64 0,.int false .u64 0,.int false .u64 0,.int false .u64 0] 142)]}:=by kernel_rfl
theorem aGy (a0 a1:Int) :
 Bf true 0 0 2 6 (wc [a0,a1,0,0,0,0]) =
 some {val:=.ptr 61 true 0,wr:=[(61,.own [.bool true false,.aI 63 true 0 2 6] 122),(63,.own [.int false .u64 a0,.int false .u64 a1,.int false .u64 0,.int false .u64 0,.int false .u64 0,.int false .u64 0] 142)]}:=by kernel_rfl
theorem aGx (a0 a1:Int) :
 Bf true 0 0 2 7 (wc [a0,a1,0,0,0,0,0]) =
 some {val:=.ptr 61 true 0,wr:=[(61,.own [.bool true false,.aI 63 true 0 2 7] 122),(63,.own [.int false .u64 a0,.int false .u64 a1,.int false .u64 0,.int false .u64 0,.int false .u64 0,.int false .u64 0,.int false .u64 0] 142)]}:=by kernel_rfl
theorem aGw (a0 a1 a2:Int) :
 Bf true 0 0 3 7 (wc [a0,a1,a2,0,0,0,0]) =
 some {bV:=[decide (M.cmp (M.n3 a0 a1 a2) 1361129467683753853853498429727072845819<0)=true,M.U a0,M.U a1,M.U a2,M.U 18446744073709551611,M.U 18446744073709551615,M.U 3,[a0,a1,a2,0,0,0,0]=[a0,a1,a2,0,0,0,0],([18446744073709551611,18446744073709551615,3,0,0,0,0,0]:List Int)=[18446744073709551611,18446744073709551615,3,0,0,0,0,0]],val:=.ptr 61 true 0,wr:=[(61,.own [.bool true false,.aI 63 true 0 3 7] 122),(63,.own [.int false .u64 a0,.int false .u64 a1,.int false .u64 a2,.int false .u64 0,.int false .u64 0,.int false .u64 0,.int false .u64 0] 142)]}:=by kernel_rfl
theorem aGv (a0 a1 a2:Int) :
 Bf true 0 0 3 8 (wc [a0,a1,a2,0,0,0,0,0]) =
 some {bV:=[decide (M.cmp (M.n3 a0 a1 a2) 1361129467683753853853498429727072845819<0)=true,M.U a0,M.U a1,M.U a2,M.U 18446744073709551611,M.U 18446744073709551615,M.U 3,[a0,a1,a2,0,0,0,0,0]=[a0,a1,a2,0,0,0,0,0],([18446744073709551611,18446744073709551615,3,0,0,0,0,0]:List Int)=[18446744073709551611,18446744073709551615,3,0,0,0,0,0]],val:=.ptr 61 true 0,wr:=[(61,.own [.bool true false,.aI 63 true 0 3 8] 122),(63,.own [.int false .u64 a0,.int false .u64 a1,.int false .u64 a2,.int false .u64 0,.int false .u64 0,.int false .u64 0,.int false .u64 0,.int false .u64 0] 142)]}:=by kernel_rfl
theorem aPd {c ir:Nat} (hc:c=7\/c=8) (hr:ir<=3) (a0 a1 a2:Int):Bf false 1 ir 3 c (wc ([a0,a1,a2]++List.replicate (c-3) 0))=some { bV:=[M.nl [M.t0 (M.x3 a0 a1 a2%M.DD),M.t1 (M.x3 a0 a1 a2%M.DD),M.t2 (M.x3 a0 a1 a2%M.DD),0]=ir,[M.t0 (M.x3 a0 a1 a2%M.DD),M.t1 (M.x3 a0 a1 a2%M.DD),M.t2 (M.x3 a0 a1 a2%M.DD)]++List.replicate (c-3) 0=[M.t0 (M.x3 a0 a1 a2%M.DD),M.t1 (M.x3 a0 a1 a2%M.DD),M.t2 (M.x3 a0 a1 a2%M.DD)]++List.replicate (c-3) 0,M.nl [M.x3 a0 a1 a2/M.DD]=1,[M.x3 a0 a1 a2/M.DD]=[M.x3 a0 a1 a2/M.DD],M.U (M.s0 a0),M.U (M.s1 a0 a1),M.U (M.s1 a1 a2),M.U (M.s2 a2),M.s2 a2<9223372036854775808,3=3,([0]:List Int)=[0],[M.s0 a0,M.s1 a0 a1,M.s1 a1 a2,M.s2 a2]++List.replicate (c-4) 0=[M.s0 a0,M.s1 a0 a1,M.s1 a1 a2,M.s2 a2]++List.replicate (c-4) 0,decide (M.cmp (M.n3 a0 a1 a2) 1361129467683753853853498429727072845819<0)=false,M.U a0,M.U a1,M.U a2,M.U 18446744073709551611,M.U 18446744073709551615,M.U 3,[a0,a1,a2]++List.replicate (c-3) 0=[a0,a1,a2]++List.replicate (c-3) 0,([18446744073709551611,18446744073709551615,3,0,0,0,0,0]:List Int)=[18446744073709551611,18446744073709551615,3,0,0,0,0,0]],val:=.ptr 61 true 0,wr:=[(61,.own [.bool true false,.aI 63 true 0 ir c] 122),(63,.own (wc ([M.t0 (M.x3 a0 a1 a2%M.DD),M.t1 (M.x3 a0 a1 a2%M.DD),M.t2 (M.x3 a0 a1 a2%M.DD)]++List.replicate (c-3) 0)) 142)] }:=by rcases hc with rfl | rfl <;> rcases (by omega:ir=0\/ir=1\/ir=2\/ir=3) with rfl | rfl | rfl | rfl <;> kernel_rfl
theorem aPc {c iq ir:Nat} (hc:c=8\/c=9) (hq:iq=1\/iq=2) (hr:ir<=3) (a0 a1 a2 a3:Int):Bf false iq ir 4 c (wc ([a0,a1,a2,a3]++List.replicate (c-4) 0))=some { bV:=[M.nl [M.t0 (M.x4 a0 a1 a2 a3%M.DD),M.t1 (M.x4 a0 a1 a2 a3%M.DD),M.t2 (M.x4 a0 a1 a2 a3%M.DD),0,0]=ir,[M.t0 (M.x4 a0 a1 a2 a3%M.DD),M.t1 (M.x4 a0 a1 a2 a3%M.DD),M.t2 (M.x4 a0 a1 a2 a3%M.DD),0]++List.replicate (c-4) 0=[M.t0 (M.x4 a0 a1 a2 a3%M.DD),M.t1 (M.x4 a0 a1 a2 a3%M.DD),M.t2 (M.x4 a0 a1 a2 a3%M.DD),0]++List.replicate (c-4) 0,M.nl [M.x4 a0 a1 a2 a3/M.DD,M.h4 a0 a1 a2 a3/M.DD]=iq,[M.x4 a0 a1 a2 a3/M.DD,M.h4 a0 a1 a2 a3/M.DD,0,0,0,0]=[M.x4 a0 a1 a2 a3/M.DD,M.h4 a0 a1 a2 a3/M.DD,0,0,0,0],M.U (M.s0 a0),M.U (M.s1 a0 a1),M.U (M.s1 a1 a2),M.U (M.s1 a2 a3),M.U (M.s2 a3),M.s2 a3<9223372036854775808,3=3,([0,0,0,0,0,0]:List Int)=[0,0,0,0,0,0],[M.s0 a0,M.s1 a0 a1,M.s1 a1 a2,M.s1 a2 a3,M.s2 a3]++List.replicate (c-5) 0=[M.s0 a0,M.s1 a0 a1,M.s1 a1 a2,M.s1 a2 a3,M.s2 a3]++List.replicate (c-5) 0],val:=.ptr 61 true 0,wr:=[(61,.own [.bool true false,.aI 63 true 0 ir c] 122),(63,.own (wc ([M.t0 (M.x4 a0 a1 a2 a3%M.DD),M.t1 (M.x4 a0 a1 a2 a3%M.DD),M.t2 (M.x4 a0 a1 a2 a3%M.DD),0]++List.replicate (c-4) 0)) 142)] }:=by rcases hc with rfl | rfl <;> rcases hq with rfl | rfl <;> rcases (by omega:ir=0\/ir=1\/ir=2\/ir=3) with rfl | rfl | rfl | rfl <;> kernel_rfl
def lG:SB->SB->Prop
 | .own cs t,.own ds t'=>t=t'/\∀ V,aJ V ds=aJ V cs
 | B,C=>B=C
def xA:List SB->List SB->Prop
 | [],[]=>True
 | B::r,C::t=>lG B C/\xA r t
 | _,_=>False
def oM:List (Nat × SB)->List (Nat × SB)->Prop
 | [],[]=>True
 | (l,B)::r,(k,C)::t=>l=k/\lG B C/\oM r t
 | _,_=>False
theorem bZ (B:SB):lG B B:=by cases B <;> simp [lG]
theorem kN {B C:SB} (h:lG B C) (V:bF) (w:World) (l:Nat):(okB V w l B->okB V w l C)/\C.bB V l=B.bB V l/\C.owned=B.owned:=by
 cases B with
 | own cs t=>
   cases C with
   | own ds t'=>
     obtain ⟨rfl,hd⟩:=h
     exact ⟨fun ⟨us,hu,hr⟩=>⟨us,(hd V).trans hu,hr⟩,rfl,rfl⟩
   | _=>simp [lG] at h
 | _=>simp only [lG] at h;subst h;exact ⟨id,rfl,rfl⟩
theorem pM {l:Nat}:∀ {r t:List (Nat × SB)},oM r t->(look l r=none/\look l t=none)\/∃ B C,look l r=some B/\look l t=some C/\lG B C
 | [],[],_=>.inl ⟨rfl,rfl⟩
 | [],(k,C)::t,h=>by simp [oM] at h
 | (k,B)::r,[],h=>by simp [oM] at h
 | (k,B)::r,(k',C)::t,h=>by
   obtain ⟨rfl,h1,h2⟩:=h
   by_cases e:k=l
   .subst e;exact .inr ⟨B,C,aL _ _ _,aL _ _ _,h1⟩
   .rw [aF e,aF e];exact pM h2
theorem Cv:∀ {r t:List SB} (lab:Nat),xA r t->oM (iE lab r) (iE lab t)
 | [],[],_,_=>trivial
 | [],_::_,_,h=>by simp [xA] at h
 | _::_,[],_,h=>by simp [xA] at h
 | B::r,C::t,lab,h=>⟨rfl,h.1,Cv (lab+1) h.2⟩
theorem vL:∀ {r t r' t':List (Nat × SB)},oM r t->oM r' t'->oM (r++r') (t++t')
 | [],[],_,_,_,h=>h
 | [],_::_,_,_,h,_=>by simp [oM] at h
 | _::_,[],_,_,h,_=>by simp [oM] at h
 | (_,_)::_,(_,_)::_,_,_,h,h'=>⟨h.1,h.2.1,vL h.2.2 h'⟩
theorem aD.re {P:Program} {Γ Γ':Env} {f:FuncId} {vs:List SV} {T:bA} {lab F:Nat} {e e':bR} (h:aD P Γ f vs T lab F e) (hg:Γ'.aU=Γ.aU) (he:∀ V,den V e.val=den V e'.val) (hn:xA e.new e'.new) (hw:oM e.wr e'.wr):aD P Γ' f vs T lab F e':=by
 intro w0 M V T2 w xs bC Hf AO hf hF hx o a K Q hK
 refine h w0 M V T2 w xs bC Hf (fun n l hl=>AO n l (by rw [hg];exact hl)) hf hF hx o a K Q fun V' x w' h1 h2 h3=>hK V' x w' h1 ((he V').symm.trans h2) ?_
 have jN:oM (e.fM lab) (e'.fM lab):=vL hw (Cv lab hn)
 have src:∀ l B,fL T2 lab e' l=some B->∃ C,fL T2 lab e l=some C/\lG C B:=by
  intro l B hl
  unfold fL at hl |-
  rcases pM (l:=l) jN with ⟨e1,e2⟩ | ⟨C,D,e1,e2,e3⟩
  .rw [e2] at hl;rw [e1];exact ⟨B,hl,bZ B⟩
  .rw [e2] at hl;cases hl;rw [e1];exact ⟨C,rfl,e3⟩
 refine ⟨fun l B hl=>?_,fun l B l' B' n dP hl sB ho hb iZ=>?_,fun l B n hl ho hb=>?_,h3.frame⟩
 .obtain ⟨C,hC,hs⟩:=src l B hl
  exact (kN hs V' w' l).1 (h3.ok l C hC)
 .obtain ⟨C,hC,hs⟩:=src l B hl
  obtain ⟨C',hC',Gp⟩:=src l' B' sB
  obtain ⟨_,b1,b2⟩:=kN hs V' w' l
  obtain ⟨_,b1',b2'⟩:=kN Gp V' w' l'
  exact h3.kF l C l' C' n dP hC hC' (b2 ▸ ho) (b1 ▸ hb) (b1' ▸ iZ)
 .obtain ⟨C,hC,hs⟩:=src l B hl
  obtain ⟨_,b1,b2⟩:=kN hs V' w' l
  exact h3.perm l C n hC (b2 ▸ ho) (b1 ▸ hb)
namespace M
def aZ:Int:=1361129467683753853853498429727072845819
theorem FQ:DD=4611686018427387904*aZ:=by decide
theorem AG {k y i:Nat} (hy:y<2^i) (hk:k*2^i+y<18446744073709551616):oG .u64 ((k*2^i:Nat):Int) (y:Int)=((k*2^i+y:Nat):Int):=by
 have h:=bits_or_u64_nat (k*2^i) y (by omega) (by omega)
 have e:k*2^i ||| y=k*2^i+y:=by
  rw [<- Nat.shiftLeft_eq]
  exact (Nat.shiftLeft_add_eq_or_of_lt hy k).symm
 rw [e] at h
 exact h
theorem AH (x y:Int):oG .u64 x y=oG .u64 y x:=by unfold oG;rw [BitVec.or_comm]
theorem aAg (a:Int):dZ .u64 a 62=ul (a*4611686018427387904):=by unfold dZ;rw [bP];rfl
theorem aKt (a:Int):dZ .u64 a 2=ul (a*4):=by unfold dZ;rw [bP];rfl
theorem CP (a:Int):cE .u64 a 62=a/4611686018427387904:=by
 show Int.fdiv a 4611686018427387904=_
 rw [Int.fdiv_eq_ediv_of_nonneg _ (by decide)]
theorem aKs (a:Int):cE .u64 a 2=a/4:=by
 show Int.fdiv a 4=_
 rw [Int.fdiv_eq_ediv_of_nonneg _ (by decide)]
theorem CY (a:Int):s0 a=a%4*4611686018427387904:=by unfold s0;rw [aAg];unfold ul;omega
theorem CX (a:Int):s2 a=a/4:=aKs a
theorem aLm (k y:Int) (hk:0<=k) (hk4:k<4) (fC:0<=y) (hy:y<4611686018427387904):oG .u64 (k*4611686018427387904) y=k*4611686018427387904+y:=by
 obtain ⟨k,rfl⟩:=Int.eq_ofNat_of_zero_le hk
 obtain ⟨y,rfl⟩:=Int.eq_ofNat_of_zero_le fC
 have e:(k:Int)*4611686018427387904=((k*2^62:Nat):Int):=by rw [Int.natCast_mul];rfl
 have OA:(2:Nat)^62=4611686018427387904:=rfl
 rw [e,AG (by omega) (by omega)]
 omega
theorem or2 (k y:Int) (hk:0<=k) (hk4:k<4611686018427387904) (fC:0<=y) (hy:y<4):oG .u64 (k*4) y=k*4+y:=by
 obtain ⟨k,rfl⟩:=Int.eq_ofNat_of_zero_le hk
 obtain ⟨y,rfl⟩:=Int.eq_ofNat_of_zero_le fC
 have e:(k:Int)*4=((k*2^2:Nat):Int):=by rw [Int.natCast_mul];rfl
 have OA:(2:Nat)^2=4:=rfl
 rw [e,AG (by omega) (by omega)]
 omega
theorem Ev {a b:Int} (ha:U a):s1 a b=b%4*4611686018427387904+a/4:=by
 have:=ha.1;have:=ha.2
 unfold s1
 rw [aAg,aKs]
 have e:ul (b*4611686018427387904)=b%4*4611686018427387904:=by unfold ul;omega
 rw [e]
 exact aLm (b%4) (a/4) (by omega) (by omega) (by omega) (by omega)
theorem aNp (x:Int):t0 x=w0 x/4611686018427387904+w1 x%4611686018427387904*4:=by
 obtain ⟨h0,h1,h2⟩:=w_U x
 have:=h0.1;have:=h0.2;have:=h1.1;have:=h1.2
 unfold t0
 rw [CP,aKt,AH]
 have e:ul (w1 x*4)=w1 x%4611686018427387904*4:=by unfold ul;omega
 rw [e,or2 (w1 x%4611686018427387904) (w0 x/4611686018427387904) (by omega) (by omega) (by omega) (by omega)]
 omega
theorem aNo (x:Int):t1 x=w1 x/4611686018427387904+w2 x%4611686018427387904*4:=by
 obtain ⟨h0,h1,h2⟩:=w_U x
 have:=h1.1;have:=h1.2;have:=h2.1;have:=h2.2
 unfold t1
 rw [CP,aKt,AH]
 have e:ul (w2 x*4)=w2 x%4611686018427387904*4:=by unfold ul;omega
 rw [e,or2 (w2 x%4611686018427387904) (w1 x/4611686018427387904) (by omega) (by omega) (by omega) (by omega)]
 omega
theorem aNn (x:Int):t2 x=w2 x/4611686018427387904:=by
 obtain ⟨h0,h1,h2⟩:=w_U x
 have:=h2.1;have:=h2.2
 unfold t2
 have:=aLm 0 (w2 x/4611686018427387904) (by omega) (by omega) (by omega) (by omega)
 rw [Int.zero_mul] at this
 rw [CP,AH,this]
 omega
theorem GI {R:Int} (h0:0<=R) (h1:R<aZ):t0 (4611686018427387904*R)=w0 R/\t1 (4611686018427387904*R)=w1 R/\t2 (4611686018427387904*R)=w2 R:=by
 have Ot:R<1361129467683753853853498429727072845819:=h1
 rw [aNp,aNo,aNn]
 unfold w0 w1 w2
 refine ⟨?_,?_,?_⟩ <;> omega
theorem ZV {a0 a1 a2:Int} (h0:U a0) (h1:U a1) (h2:U a2):x3 a0 a1 a2=4611686018427387904*n3 a0 a1 a2:=by
 have:=h0.1;have:=h0.2;have:=h1.1;have:=h1.2;have:=h2.1;have:=h2.2
 unfold x3
 rw [CY,Ev h0,Ev h1,CX]
 unfold n4 n3
 omega
theorem aBo {a0 a1 a2 a3:Int} (h0:U a0) (h1:U a1) (h2:U a2) (h3:U a3):s0 a0+18446744073709551616*h4 a0 a1 a2 a3=4611686018427387904*n4 a0 a1 a2 a3:=by
 have:=h0.1;have:=h0.2;have:=h1.1;have:=h1.2;have:=h2.1;have:=h2.2;have:=h3.1;have:=h3.2
 unfold h4
 rw [CY,Ev h0,Ev h1,Ev h2,CX]
 unfold n4
 omega
theorem GV (n:Int):4611686018427387904*n%DD=4611686018427387904*(n%aZ):=by
 rw [FQ];exact Int.mul_emod_mul_of_pos _ _ (by decide)
theorem aJt (n:Int):4611686018427387904*n/DD=n/aZ:=by
 rw [FQ];exact Int.mul_ediv_mul_of_pos _ _ (by decide)
theorem aDr {a0 a1 a2:Int} (h0:U a0) (h1:U a1) (h2:U a2):x3 a0 a1 a2%DD=4611686018427387904*(n3 a0 a1 a2%aZ):=by
 rw [ZV h0 h1 h2,GV]
theorem aDs {a0 a1 a2:Int} (h0:U a0) (h1:U a1) (h2:U a2):x3 a0 a1 a2/DD=n3 a0 a1 a2/aZ:=by
 rw [ZV h0 h1 h2,aJt]
theorem ZU {a0 a1 a2 a3:Int}:x4 a0 a1 a2 a3=s0 a0+18446744073709551616*(h4 a0 a1 a2 a3%DD):=aAp
theorem aDp {a0 a1 a2 a3:Int} (h0:U a0) (h1:U a1) (h2:U a2) (h3:U a3):x4 a0 a1 a2 a3%DD=4611686018427387904*(n4 a0 a1 a2 a3%aZ):=by
 rw [<- GV,<- aBo h0 h1 h2 h3,ZU]
 rw [Int.add_emod,Int.mul_emod,Int.emod_emod_of_dvd _ (Int.dvd_refl DD),<- Int.mul_emod,<- Int.add_emod]
theorem aDq {a0 a1 a2 a3:Int} (h0:U a0) (h1:U a1) (h2:U a2) (h3:U a3) (hp:aZ<=n4 a0 a1 a2 a3) (hz:h4 a0 a1 a2 a3/DD=0):x4 a0 a1 a2 a3/DD≠0:=by
 have hh:=aBo h0 h1 h2 h3
 have hx:=ZU (a0:=a0) (a1:=a1) (a2:=a2) (a3:=a3)
 have hd:=FQ
 have e1:=Int.emod_add_mul_ediv (h4 a0 a1 a2 a3) DD
 rw [hz] at e1
 have e2:h4 a0 a1 a2 a3%DD=h4 a0 a1 a2 a3:=by omega
 rw [e2,hh] at hx
 intro e
 have e3:=Int.emod_lt_of_pos (x4 a0 a1 a2 a3) Qs
 have e4:=Int.emod_add_mul_ediv (x4 a0 a1 a2 a3) DD
 rw [e] at e4
 omega
theorem sU {a:Int} (h:U a):U (s0 a)/\U (s2 a)/\s2 a<9223372036854775808:=by
 have:=h.1;have:=h.2
 rw [CY,CX]
 unfold U
 omega
theorem s1U {a b:Int} (h:U a):U (s1 a b):=by
 have:=h.1;have:=h.2
 rw [Ev h]
 unfold U
 omega
theorem aAl (n:Int):0<=n%aZ/\n%aZ<aZ:=⟨Int.emod_nonneg _ (by decide),Int.emod_lt_of_pos _ (by decide)⟩
def ln (R:Int):Nat:=nl [w0 R,w1 R,w2 R]
theorem gC:∀ l:List Int,nl (l++[0])=nl l
 | []=>rfl
 | x::r=>by simp only [List.cons_append,nl,gC r]
theorem nl4 (a b c:Int):nl [a,b,c,0]=nl [a,b,c]:=gC [a,b,c]
theorem nl5 (a b c:Int):nl [a,b,c,0,0]=nl [a,b,c]:=(gC [a,b,c,0]).trans (nl4 a b c)
theorem aAz (R:Int):ln R<=3:=DS _
theorem Ql {x y:Int}:decide (cmp x y<0)=decide (x<y):=by
 unfold cmp
 by_cases h:x<y
 .rw [if_pos h];simp [h]
 .rw [if_neg h];split <;> simp [h]
end M
open M in
theorem Rg {a0:Int} (h0:U a0) (hz:a0≠0):aD Tryz.prog Γv 94 qI (YX 1 6 (wc [a0,0,0,0,0,0])) 100 100
 { val:=.ptr 61 true 0,wr:=[(61,.own [.bool true false,.aI 63 false 0 (ln (a0%aZ)) 6] 122),(63,.own (wc [w0 (a0%aZ),w1 (a0%aZ),w2 (a0%aZ),0,0,0]) 142)] }:=by
 have:=h0.1;have:=h0.2
 have hs:aH Tryz.prog (env (pA true 0 0) 22) 94 (aR (env (pA true 0 0) 22) Tryz.f94 true [] 400):=aY (bH _ 22) (bJ _ (nR true 0 0) 22) mix Tryz.func94 (by kernel_rfl) true [] 400
 have hR:a0%aZ=a0:=Int.emod_eq_of_lt (by omega) (by unfold aZ;omega)
 have e0:w0 (a0)=a0:=by unfold w0;omega
 have e1:w1 (a0)=0:=by unfold w1;omega
 have e2:w2 (a0)=0:=by unfold w2;omega
 have hl:ln (a0)=1:=by unfold ln;rw [e0,e1,e2];simp only [nl,if_true,if_neg hz]
 rw [hR,e0,e1,e2,hl]
 refine (hs.call (aGz a0) ?_).re rfl (fun _=>rfl) trivial ⟨rfl,⟨rfl,fun _=>rfl⟩,rfl,⟨rfl,fun _=>rfl⟩,trivial⟩
 simp
open M in
theorem Rf {a0 a1:Int} (h0:U a0) (h1:U a1) (hz:a1≠0):aD Tryz.prog Γv 94 qI (YX 2 6 (wc [a0,a1,0,0,0,0])) 100 100
 { val:=.ptr 61 true 0,wr:=[(61,.own [.bool true false,.aI 63 false 0 (ln ((a0+18446744073709551616*a1)%aZ)) 6] 122),(63,.own (wc [w0 ((a0+18446744073709551616*a1)%aZ),w1 ((a0+18446744073709551616*a1)%aZ),w2 ((a0+18446744073709551616*a1)%aZ),0,0,0]) 142)] }:=by
 have:=h0.1;have:=h0.2;have:=h1.1;have:=h1.2
 have hs:aH Tryz.prog (env (pA true 0 0) 22) 94 (aR (env (pA true 0 0) 22) Tryz.f94 true [] 400):=aY (bH _ 22) (bJ _ (nR true 0 0) 22) mix Tryz.func94 (by kernel_rfl) true [] 400
 have hR:(a0+18446744073709551616*a1)%aZ=(a0+18446744073709551616*a1):=Int.emod_eq_of_lt (by omega) (by unfold aZ;omega)
 have e0:w0 ((a0+18446744073709551616*a1))=a0:=by unfold w0;omega
 have e1:w1 ((a0+18446744073709551616*a1))=a1:=by unfold w1;omega
 have e2:w2 ((a0+18446744073709551616*a1))=0:=by unfold w2;omega
 have hl:ln ((a0+18446744073709551616*a1))=2:=by unfold ln;rw [e0,e1,e2];simp only [nl,if_true,if_neg hz]
 rw [hR,e0,e1,e2,hl]
 refine (hs.call (aGy a0 a1) ?_).re rfl (fun _=>rfl) trivial ⟨rfl,⟨rfl,fun _=>rfl⟩,rfl,⟨rfl,fun _=>rfl⟩,trivial⟩
 simp
open M in
theorem Re {a0 a1:Int} (h0:U a0) (h1:U a1) (hz:a1≠0):aD Tryz.prog Γv 94 qI (YX 2 7 (wc [a0,a1,0,0,0,0,0])) 100 100
 { val:=.ptr 61 true 0,wr:=[(61,.own [.bool true false,.aI 63 false 0 (ln ((a0+18446744073709551616*a1)%aZ)) 7] 122),(63,.own (wc [w0 ((a0+18446744073709551616*a1)%aZ),w1 ((a0+18446744073709551616*a1)%aZ),w2 ((a0+18446744073709551616*a1)%aZ),0,0,0,0]) 142)] }:=by
 have:=h0.1;have:=h0.2;have:=h1.1;have:=h1.2
 have hs:aH Tryz.prog (env (pA true 0 0) 22) 94 (aR (env (pA true 0 0) 22) Tryz.f94 true [] 400):=aY (bH _ 22) (bJ _ (nR true 0 0) 22) mix Tryz.func94 (by kernel_rfl) true [] 400
 have hR:(a0+18446744073709551616*a1)%aZ=(a0+18446744073709551616*a1):=Int.emod_eq_of_lt (by omega) (by unfold aZ;omega)
 have e0:w0 ((a0+18446744073709551616*a1))=a0:=by unfold w0;omega
 have e1:w1 ((a0+18446744073709551616*a1))=a1:=by unfold w1;omega
 have e2:w2 ((a0+18446744073709551616*a1))=0:=by unfold w2;omega
 have hl:ln ((a0+18446744073709551616*a1))=2:=by unfold ln;rw [e0,e1,e2];simp only [nl,if_true,if_neg hz]
 rw [hR,e0,e1,e2,hl]
 refine (hs.call (aGx a0 a1) ?_).re rfl (fun _=>rfl) trivial ⟨rfl,⟨rfl,fun _=>rfl⟩,rfl,⟨rfl,fun _=>rfl⟩,trivial⟩
 simp
open M in
theorem Rd {a0 a1 a2:Int} (h0:U a0) (h1:U a1) (h2:U a2) (hz:a2≠0) (hp:n3 a0 a1 a2<aZ):aD Tryz.prog Γv 94 qI (YX 3 7 (wc [a0,a1,a2,0,0,0,0])) 100 100
 { val:=.ptr 61 true 0,wr:=[(61,.own [.bool true false,.aI 63 false 0 (ln (n3 a0 a1 a2%aZ)) 7] 122),(63,.own (wc [w0 (n3 a0 a1 a2%aZ),w1 (n3 a0 a1 a2%aZ),w2 (n3 a0 a1 a2%aZ),0,0,0,0]) 142)] }:=by
 have:=h0.1;have:=h0.2;have:=h1.1;have:=h1.2;have:=h2.1;have:=h2.2
 have hs:aH Tryz.prog (env (pA true 0 0) 22) 94 (aR (env (pA true 0 0) 22) Tryz.f94 true [] 400):=aY (bH _ 22) (bJ _ (nR true 0 0) 22) mix Tryz.func94 (by kernel_rfl) true [] 400
 have hR:n3 a0 a1 a2%aZ=n3 a0 a1 a2:=Int.emod_eq_of_lt (by unfold n3;omega) (by exact hp)
 have e0:w0 (n3 a0 a1 a2)=a0:=by unfold w0 n3;omega
 have e1:w1 (n3 a0 a1 a2)=a1:=by unfold w1 n3;omega
 have e2:w2 (n3 a0 a1 a2)=a2:=by unfold w2 n3;omega
 have hl:ln (n3 a0 a1 a2)=3:=by unfold ln;rw [e0,e1,e2];simp only [nl,if_true,if_neg hz]
 rw [hR,e0,e1,e2,hl]
 refine (hs.call (aGw a0 a1 a2) ?_).re rfl (fun _=>rfl) trivial ⟨rfl,⟨rfl,fun _=>rfl⟩,rfl,⟨rfl,fun _=>rfl⟩,trivial⟩
 refine aA ?_
 simp only [aO,Ql,and_true,true_and,h0,h1,h2]
 exact ⟨decide_eq_true hp,⟨by decide,by decide⟩,⟨by decide,by decide⟩,⟨by decide,by decide⟩⟩
open M in
theorem Rc {a0 a1 a2:Int} (h0:U a0) (h1:U a1) (h2:U a2) (hz:a2≠0) (hp:n3 a0 a1 a2<aZ):aD Tryz.prog Γv 94 qI (YX 3 8 (wc [a0,a1,a2,0,0,0,0,0])) 100 100
 { val:=.ptr 61 true 0,wr:=[(61,.own [.bool true false,.aI 63 false 0 (ln (n3 a0 a1 a2%aZ)) 8] 122),(63,.own (wc [w0 (n3 a0 a1 a2%aZ),w1 (n3 a0 a1 a2%aZ),w2 (n3 a0 a1 a2%aZ),0,0,0,0,0]) 142)] }:=by
 have:=h0.1;have:=h0.2;have:=h1.1;have:=h1.2;have:=h2.1;have:=h2.2
 have hs:aH Tryz.prog (env (pA true 0 0) 22) 94 (aR (env (pA true 0 0) 22) Tryz.f94 true [] 400):=aY (bH _ 22) (bJ _ (nR true 0 0) 22) mix Tryz.func94 (by kernel_rfl) true [] 400
 have hR:n3 a0 a1 a2%aZ=n3 a0 a1 a2:=Int.emod_eq_of_lt (by unfold n3;omega) (by exact hp)
 have e0:w0 (n3 a0 a1 a2)=a0:=by unfold w0 n3;omega
 have e1:w1 (n3 a0 a1 a2)=a1:=by unfold w1 n3;omega
 have e2:w2 (n3 a0 a1 a2)=a2:=by unfold w2 n3;omega
 have hl:ln (n3 a0 a1 a2)=3:=by unfold ln;rw [e0,e1,e2];simp only [nl,if_true,if_neg hz]
 rw [hR,e0,e1,e2,hl]
 refine (hs.call (aGv a0 a1 a2) ?_).re rfl (fun _=>rfl) trivial ⟨rfl,⟨rfl,fun _=>rfl⟩,rfl,⟨rfl,fun _=>rfl⟩,trivial⟩
 refine aA ?_
 simp only [aO,Ql,and_true,true_and,h0,h1,h2]
 exact ⟨decide_eq_true hp,⟨by decide,by decide⟩,⟨by decide,by decide⟩,⟨by decide,by decide⟩⟩
open M in
theorem Fy {c:Nat} (hc:c=7\/c=8) {a0 a1 a2:Int} (h0:U a0) (h1:U a1) (h2:U a2) (hp:aZ<=n3 a0 a1 a2):aD Tryz.prog Γv 94 qI (YX 3 c (wc ([a0,a1,a2]++List.replicate (c-3) 0))) 100 100
 { val:=.ptr 61 true 0,wr:=[(61,.own [.bool true false,.aI 63 false 0 (ln (n3 a0 a1 a2%aZ)) c] 122),(63,.own (wc ([w0 (n3 a0 a1 a2%aZ),w1 (n3 a0 a1 a2%aZ),w2 (n3 a0 a1 a2%aZ)]++List.replicate (c-3) 0)) 142)] }:=by
 have hs:∀ iq ir,aH Tryz.prog (env (pA false iq ir) 22) 94 (aR (env (pA false iq ir) 22) Tryz.f94 true [] 400):=fun iq ir=>aY (bH _ 22) (bJ _ (nR false iq ir) 22) mix Tryz.func94 (by kernel_rfl) true [] 400
 obtain ⟨r0,r1⟩:=aAl (n3 a0 a1 a2)
 obtain ⟨b0,b1,b2⟩:=GI r0 r1
 obtain ⟨v0,v1,v2⟩:=sU h0
 obtain ⟨_,v3,v4⟩:=sU h2
 have hm:=aDr h0 h1 h2
 have hq:x3 a0 a1 a2/DD≠0:=by
  rw [aDs h0 h1 h2]
  have:=Int.emod_add_mul_ediv (n3 a0 a1 a2) aZ
  intro e
  rw [e] at this
  omega
 have OW:nl [x3 a0 a1 a2/DD]=1:=by simp only [nl,if_neg hq]
 refine ((hs 1 _).call (aPd hc (aAz (n3 a0 a1 a2%aZ)) a0 a1 a2) (aA ?_)).re rfl (fun _=>rfl) trivial ⟨rfl,⟨rfl,fun _=>rfl⟩,rfl,⟨rfl,fun _=>by rw [hm,b0,b1,b2]⟩,trivial⟩
 simp only [aO,hm,b0,b1,b2,nl4,ln,OW,and_true,true_and,h0,h1,h2,v0,v3,v4,s1U h0,s1U h1,Ql]
 exact ⟨decide_eq_false (by show ¬ n3 a0 a1 a2<aZ;omega),⟨by decide,by decide⟩,⟨by decide,by decide⟩,⟨by decide,by decide⟩⟩
open M in
theorem Fx {c:Nat} (hc:c=8\/c=9) {a0 a1 a2 a3:Int} (h0:U a0) (h1:U a1) (h2:U a2) (h3:U a3) (hp:aZ<=n4 a0 a1 a2 a3):aD Tryz.prog Γv 94 qI (YX 4 c (wc ([a0,a1,a2,a3]++List.replicate (c-4) 0))) 100 100
 { val:=.ptr 61 true 0,wr:=[(61,.own [.bool true false,.aI 63 false 0 (ln (n4 a0 a1 a2 a3%aZ)) c] 122),(63,.own (wc ([w0 (n4 a0 a1 a2 a3%aZ),w1 (n4 a0 a1 a2 a3%aZ),w2 (n4 a0 a1 a2 a3%aZ),0]++List.replicate (c-4) 0)) 142)] }:=by
 have hs:∀ iq ir,aH Tryz.prog (env (pA false iq ir) 22) 94 (aR (env (pA false iq ir) 22) Tryz.f94 true [] 400):=fun iq ir=>aY (bH _ 22) (bJ _ (nR false iq ir) 22) mix Tryz.func94 (by kernel_rfl) true [] 400
 obtain ⟨r0,r1⟩:=aAl (n4 a0 a1 a2 a3)
 obtain ⟨b0,b1,b2⟩:=GI r0 r1
 obtain ⟨v0,v1,v2⟩:=sU h0
 obtain ⟨_,v3,v4⟩:=sU h3
 have hm:=aDp h0 h1 h2 h3
 have OW:nl [x4 a0 a1 a2 a3/DD,h4 a0 a1 a2 a3/DD]=1\/nl [x4 a0 a1 a2 a3/DD,h4 a0 a1 a2 a3/DD]=2:=by
  by_cases hz:h4 a0 a1 a2 a3/DD=0
  .exact .inl (by simp only [nl,hz,if_true,if_neg (aDq h0 h1 h2 h3 hp hz)])
  .exact .inr (by simp only [nl,if_neg hz])
 refine ((hs _ _).call (aPc hc OW (aAz (n4 a0 a1 a2 a3%aZ)) a0 a1 a2 a3) (aA ?_)).re rfl (fun _=>rfl) trivial ⟨rfl,⟨rfl,fun _=>rfl⟩,rfl,⟨rfl,fun _=>by rw [hm,b0,b1,b2]⟩,trivial⟩
 simp only [aO,hm,b0,b1,b2,nl5,ln,and_true,true_and,h0,h1,h2,h3,v0,v3,v4,s1U h0,s1U h1,s1U h2]
theorem Qx {B C:SB} (h:lG B C):lG C B:=by
 cases B with
 | own cs t=>
   cases C with
   | own ds t'=>exact ⟨h.1.symm,fun V=>(h.2 V).symm⟩
   | _=>simp [lG] at h
 | _=>simp only [lG] at h;subst h;exact bZ _
theorem aD.reL {P:Program} {Γ:Env} {f:FuncId} {vs Jq:List SV} {L L':List (Nat × SB)} {lab F:Nat} {e:bR} (h:aD P Γ f vs (fun l=>look l L) lab F e) (hw:oM L L') (hv:∀ V,aJ V Jq=aJ V vs):aD P Γ f Jq (fun l=>look l L') lab F e:=by
 intro w0 M V T2 w xs bC Hf AO hf hF hx o a K Q hK
 obtain ⟨T3,hT3⟩:∃ T3:bA,T3=fun l=>match look l L with
  | some B=>some B
  | none=>T2 l:=⟨_,rfl⟩
 have src:∀ l B,T3 l=some B->∃ C,T2 l=some C/\lG C B:=by
  intro l B hl
  rw [hT3] at hl
  simp only at hl
  rcases pM (l:=l) hw with ⟨e1,e2⟩ | ⟨C,D,e1,e2,e3⟩
  .rw [e1] at hl;exact ⟨B,hl,bZ B⟩
  .rw [e1] at hl;cases hl;exact ⟨D,bC l D e2,Qx e3⟩
 have back:∀ l B,T2 l=some B->∃ C,T3 l=some C/\lG C B:=by
  intro l B hl
  rw [hT3]
  rcases pM (l:=l) hw with ⟨e1,e2⟩ | ⟨C,D,e1,e2,e3⟩
  .simp only [e1];exact ⟨B,hl,bZ B⟩
  .simp only [e1]
   have:=bC l D e2
   rw [hl] at this
   cases this
   exact ⟨C,rfl,e3⟩
 have move:∀ {T T':bA} {V:bF} {w:World},(∀ l B,T' l=some B->∃ C,T l=some C/\lG C B)->aG w0 M V T w->aG w0 M V T' w:=by
  intro T T' V w hs ht
  refine ⟨fun l B hl=>?_,fun l B l' B' n dP hl sB ho hb iZ=>?_,fun l B n hl ho hb=>?_,ht.frame⟩
  .obtain ⟨C,hC,hs⟩:=hs l B hl
   exact (kN hs V w l).1 (ht.ok l C hC)
  .obtain ⟨C,hC,lV⟩:=hs l B hl
   obtain ⟨C',hC',Gp⟩:=hs l' B' sB
   obtain ⟨_,b1,b2⟩:=kN lV V w l
   obtain ⟨_,b1',b2'⟩:=kN Gp V w l'
   exact ht.kF l C l' C' n dP hC hC' (b2 ▸ ho) (b1 ▸ hb) (b1' ▸ iZ)
  .obtain ⟨C,hC,hs⟩:=hs l B hl
   obtain ⟨_,b1,b2⟩:=kN hs V w l
   exact ht.perm l C n hC (b2 ▸ ho) (b1 ▸ hb)
 refine h w0 M V T3 w xs (fun l B hl=>?_) (move src Hf) AO hf hF ((hv V).symm.trans hx) o a K Q fun V' x w' h1 h2 h3=>hK V' x w' h1 h2 (move (fun l B hl=>?_) h3)
 .have hl:look l L=some B:=hl
  rw [hT3];simp only;rw [hl]
 .unfold fL at hl |-
  cases hk:look l (e.fM lab) with
  | some C=>rw [hk] at hl;cases hl;exact ⟨_,rfl,bZ _⟩
  | none=>rw [hk] at hl;exact back l B hl
noncomputable def aGu:Option bR:=aR (env (pA true 0 0) 22) Tryz.f94 true [] 400 qI (fun l=>look l [(61,.own [.bool true false,.raw (.slice none 0 0)] 122),(62,.own [.bool true false,.aI 66 true 0 3 8] 122),(66,.own Dh 142),(18,.eY [.int true .i64 40])]) 100 100
theorem md0 (x:Int) :
 aGu =
 some {val:=SV.ptr 61 true 0,wr:=[(61,SB.own [SV.bool true false,SV.raw (Value.slice none (0:Nat) (0:Nat))] 122)]}:=by kernel_rfl
open M in
def DX (vs:List SV) (T:bA):Option Canon:=match vs with
 | [.ptr l1 true 0,.ptr l1' true 0,.ptr l2 true 0]=>match Nat.beq l1 l1',T l1,T l2 with
   | true,some (.own [.bool _ _,X] 122),some (.own [.bool _ _,.aI lp _ 0 3 8] 122)=>match X with
     | .raw (.slice none 0 0)=>some { eR:=qI,T0:=[(61,.own [.bool true false,.raw (.slice none 0 0)] 122),(62,.own [.bool true false,.aI 66 true 0 3 8] 122),(66,.own Dh 142),(18,.eY [.int true .i64 40])],vl:=[(61,.lab l1 0),(62,.lab l2 0),(66,.lab lp 0)],e0:={ val:=.ptr 61 true 0,wr:=[(61,.own [.bool true false,.raw (.slice none 0 0)] 122),(62,.own [.bool true false,.aI 66 true 0 3 8] 122),(66,.own Dh 142)] } }
     | .aI lw true 0 n cap=>match T lw with
       | some (.own cs 142)=>match dV .u64 cs with
         | some [a0,a1,_,_,_,_]=>match Nat.beq cap 6,Nat.beq n 1,Nat.beq n 2 with
           | true,true,_=>some { eR:=qI,T0:=[(61,.own [.bool true false,.aI 63 true 0 1 6] 122),(62,.own [.bool true false,.aI 66 true 0 3 8] 122),(63,.own (wc [a0,0,0,0,0,0]) 142),(66,.own Dh 142),(18,.eY [.int true .i64 40])],vl:=[(61,.lab l1 0),(62,.lab l2 0),(63,.lab lw 0),(66,.lab lp 0)],e0:={ val:=.ptr 61 true 0,wr:=[(61,.own [.bool true false,.aI 63 false 0 (ln (a0%aZ)) 6] 122),(63,.own (wc [w0 (a0%aZ),w1 (a0%aZ),w2 (a0%aZ),0,0,0]) 142),(62,.own [.bool true false,.aI 66 true 0 3 8] 122),(66,.own Dh 142)] },conds:=[U a0,a0≠0] }
           | true,_,true=>some { eR:=qI,T0:=[(61,.own [.bool true false,.aI 63 true 0 2 6] 122),(62,.own [.bool true false,.aI 66 true 0 3 8] 122),(63,.own (wc [a0,a1,0,0,0,0]) 142),(66,.own Dh 142),(18,.eY [.int true .i64 40])],vl:=[(61,.lab l1 0),(62,.lab l2 0),(63,.lab lw 0),(66,.lab lp 0)],e0:={ val:=.ptr 61 true 0,wr:=[(61,.own [.bool true false,.aI 63 false 0 (ln ((a0+18446744073709551616*a1)%aZ)) 6] 122),(63,.own (wc [w0 ((a0+18446744073709551616*a1)%aZ),w1 ((a0+18446744073709551616*a1)%aZ),w2 ((a0+18446744073709551616*a1)%aZ),0,0,0]) 142),(62,.own [.bool true false,.aI 66 true 0 3 8] 122),(66,.own Dh 142)] },conds:=[U a0,U a1,a1≠0] }
           | _,_,_=>none
         | some [a0,a1,a2,_,_,_,_]=>match Nat.beq cap 7,Nat.beq n 2,Nat.beq n 3 with
           | true,true,_=>some { eR:=qI,T0:=[(61,.own [.bool true false,.aI 63 true 0 2 7] 122),(62,.own [.bool true false,.aI 66 true 0 3 8] 122),(63,.own (wc [a0,a1,0,0,0,0,0]) 142),(66,.own Dh 142),(18,.eY [.int true .i64 40])],vl:=[(61,.lab l1 0),(62,.lab l2 0),(63,.lab lw 0),(66,.lab lp 0)],e0:={ val:=.ptr 61 true 0,wr:=[(61,.own [.bool true false,.aI 63 false 0 (ln ((a0+18446744073709551616*a1)%aZ)) 7] 122),(63,.own (wc [w0 ((a0+18446744073709551616*a1)%aZ),w1 ((a0+18446744073709551616*a1)%aZ),w2 ((a0+18446744073709551616*a1)%aZ),0,0,0,0]) 142),(62,.own [.bool true false,.aI 66 true 0 3 8] 122),(66,.own Dh 142)] },conds:=[U a0,U a1,a1≠0] }
           | true,_,true=>some { eR:=qI,T0:=[(61,.own [.bool true false,.aI 63 true 0 3 7] 122),(62,.own [.bool true false,.aI 66 true 0 3 8] 122),(63,.own (wc [a0,a1,a2,0,0,0,0]) 142),(66,.own Dh 142),(18,.eY [.int true .i64 40])],vl:=[(61,.lab l1 0),(62,.lab l2 0),(63,.lab lw 0),(66,.lab lp 0)],e0:={ val:=.ptr 61 true 0,wr:=[(61,.own [.bool true false,.aI 63 false 0 (ln (n3 a0 a1 a2%aZ)) 7] 122),(63,.own (wc [w0 (n3 a0 a1 a2%aZ),w1 (n3 a0 a1 a2%aZ),w2 (n3 a0 a1 a2%aZ),0,0,0,0]) 142),(62,.own [.bool true false,.aI 66 true 0 3 8] 122),(66,.own Dh 142)] },conds:=[U a0,U a1,U a2,a2≠0] }
           | _,_,_=>none
         | some [a0,a1,a2,a3,_,_,_,_]=>match Nat.beq cap 8,Nat.beq n 3,Nat.beq n 4 with
           | true,true,_=>some { eR:=qI,T0:=[(61,.own [.bool true false,.aI 63 true 0 3 8] 122),(62,.own [.bool true false,.aI 66 true 0 3 8] 122),(63,.own (wc [a0,a1,a2,0,0,0,0,0]) 142),(66,.own Dh 142),(18,.eY [.int true .i64 40])],vl:=[(61,.lab l1 0),(62,.lab l2 0),(63,.lab lw 0),(66,.lab lp 0)],e0:={ val:=.ptr 61 true 0,wr:=[(61,.own [.bool true false,.aI 63 false 0 (ln (n3 a0 a1 a2%aZ)) 8] 122),(63,.own (wc [w0 (n3 a0 a1 a2%aZ),w1 (n3 a0 a1 a2%aZ),w2 (n3 a0 a1 a2%aZ),0,0,0,0,0]) 142),(62,.own [.bool true false,.aI 66 true 0 3 8] 122),(66,.own Dh 142)] },conds:=[U a0,U a1,U a2,a2≠0] }
           | true,_,true=>some { eR:=qI,T0:=[(61,.own [.bool true false,.aI 63 true 0 4 8] 122),(62,.own [.bool true false,.aI 66 true 0 3 8] 122),(63,.own (wc [a0,a1,a2,a3,0,0,0,0]) 142),(66,.own Dh 142),(18,.eY [.int true .i64 40])],vl:=[(61,.lab l1 0),(62,.lab l2 0),(63,.lab lw 0),(66,.lab lp 0)],e0:={ val:=.ptr 61 true 0,wr:=[(61,.own [.bool true false,.aI 63 false 0 (ln (n4 a0 a1 a2 a3%aZ)) 8] 122),(63,.own (wc [w0 (n4 a0 a1 a2 a3%aZ),w1 (n4 a0 a1 a2 a3%aZ),w2 (n4 a0 a1 a2 a3%aZ),0,0,0,0,0]) 142),(62,.own [.bool true false,.aI 66 true 0 3 8] 122),(66,.own Dh 142)] },conds:=[U a0,U a1,U a2,U a3,a3≠0] }
           | _,_,_=>none
         | some [a0,a1,a2,a3,_,_,_,_,_]=>match Nat.beq cap 9,Nat.beq n 4 with
           | true,true=>some { eR:=qI,T0:=[(61,.own [.bool true false,.aI 63 true 0 4 9] 122),(62,.own [.bool true false,.aI 66 true 0 3 8] 122),(63,.own (wc [a0,a1,a2,a3,0,0,0,0,0]) 142),(66,.own Dh 142),(18,.eY [.int true .i64 40])],vl:=[(61,.lab l1 0),(62,.lab l2 0),(63,.lab lw 0),(66,.lab lp 0)],e0:={ val:=.ptr 61 true 0,wr:=[(61,.own [.bool true false,.aI 63 false 0 (ln (n4 a0 a1 a2 a3%aZ)) 9] 122),(63,.own (wc [w0 (n4 a0 a1 a2 a3%aZ),w1 (n4 a0 a1 a2 a3%aZ),w2 (n4 a0 a1 a2 a3%aZ),0,0,0,0,0,0]) 142),(62,.own [.bool true false,.aI 66 true 0 3 8] 122),(66,.own Dh 142)] },conds:=[U a0,U a1,U a2,U a3,a3≠0] }
           | _,_=>none
         | _=>none
       | _=>none
     | _=>none
   | _,_,_=>none
 | _=>none
open M in
theorem aPb (Γ:Env) (hg:Γ.aU=aB):aH Tryz.prog Γ 94 (aK aB 100 DX):=by
 refine aT hg fun vs T c hd hc=>?_
 unfold DX at hd
 split at hd
 case h_2=>cases hd
 split at hd
 case h_2=>cases hd
 split at hd
 case h_3=>cases hd
 .cases hd
  have hs:aH Tryz.prog (env (pA true 0 0) 22) 94 (aR (env (pA true 0 0) 22) Tryz.f94 true [] 400):=aY (bH _ 22) (bJ _ (nR true 0 0) 22) mix Tryz.func94 (by kernel_rfl) true [] 400
  exact (((hs.call (md0 0) (by simp)).bE 62 _ rfl (by decide)).bE 66 _ rfl (by decide)).words (by rw [hg];rfl) (fun _=>rfl) (fun _ _ h=>h) (fun _=>rfl) rfl rfl
 split at hd
 case h_2=>cases hd
 split at hd
 case h_5=>cases hd
 .rename_i a0 a1 _ _ _ _ _
  split at hd
  case h_3=>cases hd
  .cases hd
   exact (((Rg (hc _ (by simp)) (hc _ (by simp))).bE 62 _ rfl (by decide)).bE 66 _ rfl (by decide)).words (by rw [hg];rfl) (fun _=>rfl) (fun _ _ h=>h) (fun _=>rfl) rfl rfl
  .cases hd
   exact (((Rf (hc _ (by simp)) (hc _ (by simp)) (hc _ (by simp))).bE 62 _ rfl (by decide)).bE 66 _ rfl (by decide)).words (by rw [hg];rfl) (fun _=>rfl) (fun _ _ h=>h) (fun _=>rfl) rfl rfl
 .rename_i a0 a1 a2 _ _ _ _ _
  split at hd
  case h_3=>cases hd
  .cases hd
   exact (((Re (hc _ (by simp)) (hc _ (by simp)) (hc _ (by simp))).bE 62 _ rfl (by decide)).bE 66 _ rfl (by decide)).words (by rw [hg];rfl) (fun _=>rfl) (fun _ _ h=>h) (fun _=>rfl) rfl rfl
  .cases hd
   have h3:a2≠0:=hc _ (by simp)
   have u0:U a0:=hc _ (by simp)
   have u1:U a1:=hc _ (by simp)
   have u2:U a2:=hc _ (by simp)
   by_cases hp:n3 a0 a1 a2<aZ
   .exact (((Rd u0 u1 u2 h3 hp).bE 62 _ rfl (by decide)).bE 66 _ rfl (by decide)).words (by rw [hg];rfl) (fun _=>rfl) (fun _ _ h=>h) (fun _=>rfl) rfl rfl
   .exact (((Fy (.inl rfl) u0 u1 u2 (by omega)).bE 62 _ rfl (by decide)).bE 66 _ rfl (by decide)).words (by rw [hg];rfl) (fun _=>rfl) (fun _ _ h=>h) (fun _=>rfl) rfl rfl
 .rename_i a0 a1 a2 a3 _ _ _ _ _
  split at hd
  case h_3=>cases hd
  .cases hd
   have h3:a2≠0:=hc _ (by simp)
   have u0:U a0:=hc _ (by simp)
   have u1:U a1:=hc _ (by simp)
   have u2:U a2:=hc _ (by simp)
   by_cases hp:n3 a0 a1 a2<aZ
   .exact (((Rc u0 u1 u2 h3 hp).bE 62 _ rfl (by decide)).bE 66 _ rfl (by decide)).words (by rw [hg];rfl) (fun _=>rfl) (fun _ _ h=>h) (fun _=>rfl) rfl rfl
   .exact (((Fy (.inr rfl) u0 u1 u2 (by omega)).bE 62 _ rfl (by decide)).bE 66 _ rfl (by decide)).words (by rw [hg];rfl) (fun _=>rfl) (fun _ _ h=>h) (fun _=>rfl) rfl rfl
  .cases hd
   have h3:a3≠0:=hc _ (by simp)
   have u0:U a0:=hc _ (by simp)
   have u1:U a1:=hc _ (by simp)
   have u2:U a2:=hc _ (by simp)
   have u3:U a3:=hc _ (by simp)
   have hp:aZ<=n4 a0 a1 a2 a3:=by
    have:=u0.1;have:=u1.1;have:=u2.1;have:=u3.1
    unfold aZ n4;omega
   exact (((Fx (.inl rfl) u0 u1 u2 u3 hp).bE 62 _ rfl (by decide)).bE 66 _ rfl (by decide)).words (by rw [hg];rfl) (fun _=>rfl) (fun _ _ h=>h) (fun _=>rfl) rfl rfl
 .rename_i a0 a1 a2 a3 _ _ _ _ _ _
  split at hd
  case h_2=>cases hd
  .cases hd
   have h3:a3≠0:=hc _ (by simp)
   have u0:U a0:=hc _ (by simp)
   have u1:U a1:=hc _ (by simp)
   have u2:U a2:=hc _ (by simp)
   have u3:U a3:=hc _ (by simp)
   have hp:aZ<=n4 a0 a1 a2 a3:=by
    have:=u0.1;have:=u1.1;have:=u2.1;have:=u3.1
    unfold aZ n4;omega
   exact (((Fx (.inr rfl) u0 u1 u2 u3 hp).bE 62 _ rfl (by decide)).bE 66 _ rfl (by decide)).words (by rw [hg];rfl) (fun _=>rfl) (fun _ _ h=>h) (fun _=>rfl) rfl rfl
noncomputable def aCt:Nat->Option Sum:=eE Vq 94 (aK aB 100 DX)
theorem Ur:∀ f S,aCt f=some S->∀ Γ:Env,Γ.aU=aB->aH Tryz.prog Γ f S:=bI pI 94 _ aPb
noncomputable def Hh (iq ir:Nat):Nat->Option Sum:=eE Vq 131 (aK aB 100 (sZ iq ir))
theorem Iy (iq ir:Nat):∀ f S,Hh iq ir f=some S->∀ Γ:Env,Γ.aU=aB->aH Tryz.prog Γ f S:=bI pI 131 _ (Bv iq ir)
def bc (xs:List Int):List SV:=xs.map (.int false .u8)
noncomputable def aGr (bs:List Int):Option bR:=aR (env (Hh 0 3) 22) Tryz.f64 true [] 400 [.dO 61 0 17 0] (fun l=>look l [(61,.row 1 (bc bs) 5)]) 100 100
noncomputable def xB (iq:Nat) (o c:Nat) (bs:List Int):Option bR:=aR (env (Hh iq 0) 22) Tryz.f64 true [] 400 [.aI 61 true o 16 c] (fun l=>look l [(61,.eY (bc bs))]) 100 100
namespace M
def iP (b0 b1 b2 b3 b4 b5 b6 b7:Int):Int:=oG .u64 (oG .u64 (oG .u64 (oG .u64 (oG .u64 (oG .u64 (oG .u64 (IntKind.u64.wrap b0) (dZ .u64 (IntKind.u64.wrap b1) 8)) (dZ .u64 (IntKind.u64.wrap b2) 16)) (dZ .u64 (IntKind.u64.wrap b3) 24)) (dZ .u64 (IntKind.u64.wrap b4) 32)) (dZ .u64 (IntKind.u64.wrap b5) 40)) (dZ .u64 (IntKind.u64.wrap b6) 48)) (dZ .u64 (IntKind.u64.wrap b7) 56)
end M
theorem n17 (b0 b1 b2 b3 b4 b5 b6 b7 b8 b9 dF dD dC dB dA gP iW:Int) :
 aGr [b0,b1,b2,b3,b4,b5,b6,b7,b8,b9,dF,dD,dC,dB,dA,gP,iW] =
 sh (IntKind.u64.wrap iW) fun z0=>
 some {bV:=([M.nl [M.iP b0 b1 b2 b3 b4 b5 b6 b7,M.iP b8 b9 dF dD dC dB dA gP,oG .u64 0 (dZ .u64 z0 0)]=3,[M.iP b0 b1 b2 b3 b4 b5 b6 b7,M.iP b8 b9 dF dD dC dB dA gP,oG .u64 0 (dZ .u64 z0 0),0,0,0,0]=[M.iP b0 b1 b2 b3 b4 b5 b6 b7,M.iP b8 b9 dF dD dC dB dA gP,oG .u64 0 (dZ .u64 z0 0),0,0,0,0]]:List Prop),val:=.ptr 100 true 0,new:=[.own [.bool true false,.aI 101 true 0 3 7] 122,.own [.int false .u64 (M.iP b0 b1 b2 b3 b4 b5 b6 b7),.int false .u64 (M.iP b8 b9 dF dD dC dB dA gP),.int false .u64 (oG .u64 0 (dZ .u64 z0 0)),.int false .u64 0,.int false .u64 0,.int false .u64 0,.int false .u64 0] 142]}:=by kernel_rfl
theorem UP (b0 b1 b2 b3 b4 b5 b6 b7 b8 b9 dF dD dC dB dA gP iW mM mL mK mJ mI mH mG mF mE mD mC mB mA lZ lY:Int) :
 xB 0 0 32 [b0,b1,b2,b3,b4,b5,b6,b7,b8,b9,dF,dD,dC,dB,dA,gP,iW,mM,mL,mK,mJ,mI,mH,mG,mF,mE,mD,mC,mB,mA,lZ,lY] =
 some {bV:=([M.nl [M.iP b0 b1 b2 b3 b4 b5 b6 b7,M.iP b8 b9 dF dD dC dB dA gP]=0,[M.iP b0 b1 b2 b3 b4 b5 b6 b7,M.iP b8 b9 dF dD dC dB dA gP,0,0,0,0]=[M.iP b0 b1 b2 b3 b4 b5 b6 b7,M.iP b8 b9 dF dD dC dB dA gP,0,0,0,0]]:List Prop),val:=.ptr 100 true 0,new:=[.own [.bool true false,.aI 101 true 0 0 6] 122,.own [.int false .u64 (M.iP b0 b1 b2 b3 b4 b5 b6 b7),.int false .u64 (M.iP b8 b9 dF dD dC dB dA gP),.int false .u64 0,.int false .u64 0,.int false .u64 0,.int false .u64 0] 142]}:=by kernel_rfl
theorem II (b0 b1 b2 b3 b4 b5 b6 b7 b8 b9 dF dD dC dB dA gP iW mM mL mK mJ mI mH mG mF mE mD mC mB mA lZ lY:Int) :
 xB 0 16 16 [b0,b1,b2,b3,b4,b5,b6,b7,b8,b9,dF,dD,dC,dB,dA,gP,iW,mM,mL,mK,mJ,mI,mH,mG,mF,mE,mD,mC,mB,mA,lZ,lY] =
 some {bV:=([M.nl [M.iP iW mM mL mK mJ mI mH mG,M.iP mF mE mD mC mB mA lZ lY]=0,[M.iP iW mM mL mK mJ mI mH mG,M.iP mF mE mD mC mB mA lZ lY,0,0,0,0]=[M.iP iW mM mL mK mJ mI mH mG,M.iP mF mE mD mC mB mA lZ lY,0,0,0,0]]:List Prop),val:=.ptr 100 true 0,new:=[.own [.bool true false,.aI 101 true 0 0 6] 122,.own [.int false .u64 (M.iP iW mM mL mK mJ mI mH mG),.int false .u64 (M.iP mF mE mD mC mB mA lZ lY),.int false .u64 0,.int false .u64 0,.int false .u64 0,.int false .u64 0] 142]}:=by kernel_rfl
theorem UO (b0 b1 b2 b3 b4 b5 b6 b7 b8 b9 dF dD dC dB dA gP iW mM mL mK mJ mI mH mG mF mE mD mC mB mA lZ lY:Int) :
 xB 1 0 32 [b0,b1,b2,b3,b4,b5,b6,b7,b8,b9,dF,dD,dC,dB,dA,gP,iW,mM,mL,mK,mJ,mI,mH,mG,mF,mE,mD,mC,mB,mA,lZ,lY] =
 some {bV:=([M.nl [M.iP b0 b1 b2 b3 b4 b5 b6 b7,M.iP b8 b9 dF dD dC dB dA gP]=1,[M.iP b0 b1 b2 b3 b4 b5 b6 b7,M.iP b8 b9 dF dD dC dB dA gP,0,0,0,0]=[M.iP b0 b1 b2 b3 b4 b5 b6 b7,M.iP b8 b9 dF dD dC dB dA gP,0,0,0,0]]:List Prop),val:=.ptr 100 true 0,new:=[.own [.bool true false,.aI 101 true 0 1 6] 122,.own [.int false .u64 (M.iP b0 b1 b2 b3 b4 b5 b6 b7),.int false .u64 (M.iP b8 b9 dF dD dC dB dA gP),.int false .u64 0,.int false .u64 0,.int false .u64 0,.int false .u64 0] 142]}:=by kernel_rfl
theorem IH (b0 b1 b2 b3 b4 b5 b6 b7 b8 b9 dF dD dC dB dA gP iW mM mL mK mJ mI mH mG mF mE mD mC mB mA lZ lY:Int) :
 xB 1 16 16 [b0,b1,b2,b3,b4,b5,b6,b7,b8,b9,dF,dD,dC,dB,dA,gP,iW,mM,mL,mK,mJ,mI,mH,mG,mF,mE,mD,mC,mB,mA,lZ,lY] =
 some {bV:=([M.nl [M.iP iW mM mL mK mJ mI mH mG,M.iP mF mE mD mC mB mA lZ lY]=1,[M.iP iW mM mL mK mJ mI mH mG,M.iP mF mE mD mC mB mA lZ lY,0,0,0,0]=[M.iP iW mM mL mK mJ mI mH mG,M.iP mF mE mD mC mB mA lZ lY,0,0,0,0]]:List Prop),val:=.ptr 100 true 0,new:=[.own [.bool true false,.aI 101 true 0 1 6] 122,.own [.int false .u64 (M.iP iW mM mL mK mJ mI mH mG),.int false .u64 (M.iP mF mE mD mC mB mA lZ lY),.int false .u64 0,.int false .u64 0,.int false .u64 0,.int false .u64 0] 142]}:=by kernel_rfl
theorem UN (b0 b1 b2 b3 b4 b5 b6 b7 b8 b9 dF dD dC dB dA gP iW mM mL mK mJ mI mH mG mF mE mD mC mB mA lZ lY:Int) :
 xB 2 0 32 [b0,b1,b2,b3,b4,b5,b6,b7,b8,b9,dF,dD,dC,dB,dA,gP,iW,mM,mL,mK,mJ,mI,mH,mG,mF,mE,mD,mC,mB,mA,lZ,lY] =
 some {bV:=([M.nl [M.iP b0 b1 b2 b3 b4 b5 b6 b7,M.iP b8 b9 dF dD dC dB dA gP]=2,[M.iP b0 b1 b2 b3 b4 b5 b6 b7,M.iP b8 b9 dF dD dC dB dA gP,0,0,0,0]=[M.iP b0 b1 b2 b3 b4 b5 b6 b7,M.iP b8 b9 dF dD dC dB dA gP,0,0,0,0]]:List Prop),val:=.ptr 100 true 0,new:=[.own [.bool true false,.aI 101 true 0 2 6] 122,.own [.int false .u64 (M.iP b0 b1 b2 b3 b4 b5 b6 b7),.int false .u64 (M.iP b8 b9 dF dD dC dB dA gP),.int false .u64 0,.int false .u64 0,.int false .u64 0,.int false .u64 0] 142]}:=by kernel_rfl
theorem IG (b0 b1 b2 b3 b4 b5 b6 b7 b8 b9 dF dD dC dB dA gP iW mM mL mK mJ mI mH mG mF mE mD mC mB mA lZ lY:Int) :
 xB 2 16 16 [b0,b1,b2,b3,b4,b5,b6,b7,b8,b9,dF,dD,dC,dB,dA,gP,iW,mM,mL,mK,mJ,mI,mH,mG,mF,mE,mD,mC,mB,mA,lZ,lY] =
 some {bV:=([M.nl [M.iP iW mM mL mK mJ mI mH mG,M.iP mF mE mD mC mB mA lZ lY]=2,[M.iP iW mM mL mK mJ mI mH mG,M.iP mF mE mD mC mB mA lZ lY,0,0,0,0]=[M.iP iW mM mL mK mJ mI mH mG,M.iP mF mE mD mC mB mA lZ lY,0,0,0,0]]:List Prop),val:=.ptr 100 true 0,new:=[.own [.bool true false,.aI 101 true 0 2 6] 122,.own [.int false .u64 (M.iP iW mM mL mK mJ mI mH mG),.int false .u64 (M.iP mF mE mD mC mB mA lZ lY),.int false .u64 0,.int false .u64 0,.int false .u64 0,.int false .u64 0] 142]}:=by kernel_rfl
noncomputable def yY (h:List Bool):Nat->Option Sum:=Ax (eE aCt 131 (aK aB 100 (sZ 0 3))) 139 h
theorem uE (h:List Bool):∀ f S,yY h f=some S->∀ Γ:Env,Γ.aU=aB->aH Tryz.prog Γ f S:=lQ (bI Ur 131 _ (Bv 0 3)) 139 h
def iY:List SV:=[.agg [.ptr 62 true 0],.ptr 61 true 0,.ptr 63 true 0]
def sC (X Y:SV) (xs ys:List SV):List (Nat × SB):=[(61,.own [.bool true false,X] 122),(62,.own [.bool true false,.aI 66 true 0 3 8] 122),(63,.own [.bool true false,Y] 122),(64,.eY xs),(65,.own ys 142),(66,.own Dh 142),(17,.eY [.int true .i64 40]),(18,.eY [.int true .i64 40])]
noncomputable def Ff (h:List Bool) (X:SV) (xs ys:List SV):Option bR:=aR (env (yY h) 22) Tryz.f68 true [] 400 iY (fun l=>look l (sC X (.aI 65 true 0 3 7) xs ys)) 100 100
def ww (x:Int) (r:List SV):List SV:=.int false .u64 x::r
namespace M
def az (p z c:Int):Int:=ul (ul (p+z)+c+0)
def ac (p z c:Int):Int:=IntKind.u64.wrap (uh (ul (p+z)+c+0)+uh (p+z))
def q0 (x0 y:Int):Int:=az (x0*y) 0 0
def k0 (x0 y:Int):Int:=ac (x0*y) 0 0
def q1 (x0 x1 y:Int):Int:=az (x1*y) 0 (k0 x0 y)
def k1 (x0 x1 y:Int):Int:=ac (x1*y) 0 (k0 x0 y)
def q2 (x0 x1 x2 y:Int):Int:=az (x2*y) 0 (k1 x0 x1 y)
def k2 (x0 x1 x2 y:Int):Int:=ac (x2*y) 0 (k1 x0 x1 y)
def r0 (x0 x1 y0 y1:Int):Int:=az (x0*y1) (q1 x0 x1 y0) 0
def Gk (x0 x1 y0 y1:Int):Int:=ac (x0*y1) (q1 x0 x1 y0) 0
def r1 (x0 x1 x2 y0 y1:Int):Int:=az (x1*y1) (q2 x0 x1 x2 y0) (Gk x0 x1 y0 y1)
def YW (x0 x1 x2 y0 y1:Int):Int:=ac (x1*y1) (q2 x0 x1 x2 y0) (Gk x0 x1 y0 y1)
def r2 (x0 x1 x2 y0 y1:Int):Int:=az (x2*y1) (k2 x0 x1 x2 y0) (YW x0 x1 x2 y0 y1)
def OO (x0 x1 x2 y0 y1:Int):Int:=ac (x2*y1) (k2 x0 x1 x2 y0) (YW x0 x1 x2 y0 y1)
def e1 (x0 x1 y0 y1:Int):Int:=az (x1*y1) (k1 x0 x1 y0) (Gk x0 x1 y0 y1)
def f1 (x0 x1 y0 y1:Int):Int:=ac (x1*y1) (k1 x0 x1 y0) (Gk x0 x1 y0 y1)
def g0 (x0 y0:Int):Int:=ul (x0+y0+0)
def c0 (x0 y0:Int):Int:=uh (x0+y0+0)
def g1 (x0 x1 y0 y1:Int):Int:=ul (x1+y1+c0 x0 y0)
def c1 (x0 x1 y0 y1:Int):Int:=uh (x1+y1+c0 x0 y0)
def g2 (x0 x1 x2 y0 y1 y2:Int):Int:=ul (x2+y2+c1 x0 x1 y0 y1)
def c2 (x0 x1 x2 y0 y1 y2:Int):Int:=uh (x2+y2+c1 x0 x1 y0 y1)
end M
def vW:List (Nat × SB):=[(62,.own [.bool true false,.aI 66 true 0 3 8] 122),(66,.own Dh 142)]
theorem aZa (ca:Nat) (xs:List SV) (y0 y1 y2:Int) (ys:List SV) :
 Ff [] (.aI 64 true 0 0 ca) xs (ww y0 (ww y1 (ww y2 ys))) =
 sh (M.n3 y0 y1 y2%M.aZ) fun z0=>
 some {bV:=([M.U y0,M.U y1,M.U y2,y2≠0,[y0,y1,y2,0,0,0,0]=[y0,y1,y2,0,0,0,0]]:List Prop),val:=.ptr 100 true 0,new:=[.own [.bool true false,.aI 101 false 0 (M.ln z0) 7] 122,.own [.int false .u64 (M.w0 z0),.int false .u64 (M.w1 z0),.int false .u64 (M.w2 z0),.int false .u64 0,.int false .u64 0,.int false .u64 0,.int false .u64 0] 142],wr:=vW}:=by kernel_rfl
theorem aYz {ca:Nat} (jM:ca=6\/ca=7\/ca=8\/ca=9) (x0:Int) (xs:List SV) (y0 y1 y2:Int) (ys:List SV):Ff [true] (.aI 64 true 0 1 ca) (ww x0 xs) (ww y0 (ww y1 (ww y2 ys)))=some { bV:=([M.U (M.g0 y0 x0),M.U (M.ul (y1+M.c0 y0 x0+0)),M.U y2,y2≠0,[M.g0 y0 x0,M.ul (y1+M.c0 y0 x0+0),y2,0,0,0,0,0]=[M.g0 y0 x0,M.ul (y1+M.c0 y0 x0+0),y2,0,0,0,0,0],M.nl [M.g0 y0 x0,M.ul (y1+M.c0 y0 x0+0),y2,0]=3,[M.g0 y0 x0,M.ul (y1+M.c0 y0 x0+0),y2,0,0,0,0,0]=[M.g0 y0 x0,M.ul (y1+M.c0 y0 x0+0),y2,0,0,0,0,0],(M.uh (y1+M.c0 y0 x0+0)==0)=true,M.U y1,M.U (M.c0 y0 x0),M.K 0,y1=y1,M.c0 y0 x0=M.c0 y0 x0,(0 :Int)=0,M.U y0,M.U x0,M.K 0,y0=y0,x0=x0,(0 :Int)=0]:List Prop),val:=.ptr 100 true 0,new:=[.own [.bool true false,.aI 101 false 0 (M.ln (M.n3 (M.g0 y0 x0) (M.ul (y1+M.c0 y0 x0+0)) y2%M.aZ)) 8] 122,.own [.int false .u64 (M.w0 (M.n3 (M.g0 y0 x0) (M.ul (y1+M.c0 y0 x0+0)) y2%M.aZ)),.int false .u64 (M.w1 (M.n3 (M.g0 y0 x0) (M.ul (y1+M.c0 y0 x0+0)) y2%M.aZ)),.int false .u64 (M.w2 (M.n3 (M.g0 y0 x0) (M.ul (y1+M.c0 y0 x0+0)) y2%M.aZ)),.int false .u64 0,.int false .u64 0,.int false .u64 0,.int false .u64 0,.int false .u64 0] 142],wr:=vW }:=by rcases jM with rfl | rfl | rfl | rfl <;> kernel_rfl
theorem aQw {ca:Nat} (jM:ca=6\/ca=7\/ca=8\/ca=9) (x0:Int) (xs:List SV) (y0 y1 y2:Int) (ys:List SV):Ff [false,true] (.aI 64 true 0 1 ca) (ww x0 xs) (ww y0 (ww y1 (ww y2 ys)))=some { bV:=([M.U (M.g0 y0 x0),M.U (M.ul (y1+M.c0 y0 x0+0)),M.U (IntKind.u64.wrap (y2+1)),IntKind.u64.wrap (y2+1)≠0,[M.g0 y0 x0,M.ul (y1+M.c0 y0 x0+0),IntKind.u64.wrap (y2+1),0,0,0,0,0]=[M.g0 y0 x0,M.ul (y1+M.c0 y0 x0+0),IntKind.u64.wrap (y2+1),0,0,0,0,0],M.nl [M.g0 y0 x0,M.ul (y1+M.c0 y0 x0+0),IntKind.u64.wrap (y2+1),0]=3,[M.g0 y0 x0,M.ul (y1+M.c0 y0 x0+0),IntKind.u64.wrap (y2+1),0,0,0,0,0]=[M.g0 y0 x0,M.ul (y1+M.c0 y0 x0+0),IntKind.u64.wrap (y2+1),0,0,0,0,0],(y2 != 18446744073709551615)=true,(M.uh (y1+M.c0 y0 x0+0)==0)=false,M.U y1,M.U (M.c0 y0 x0),M.K 0,y1=y1,M.c0 y0 x0=M.c0 y0 x0,(0 :Int)=0,M.U y0,M.U x0,M.K 0,y0=y0,x0=x0,(0 :Int)=0]:List Prop),val:=.ptr 100 true 0,new:=[.own [.bool true false,.aI 101 false 0 (M.ln (M.n3 (M.g0 y0 x0) (M.ul (y1+M.c0 y0 x0+0)) (IntKind.u64.wrap (y2+1))%M.aZ)) 8] 122,.own [.int false .u64 (M.w0 (M.n3 (M.g0 y0 x0) (M.ul (y1+M.c0 y0 x0+0)) (IntKind.u64.wrap (y2+1))%M.aZ)),.int false .u64 (M.w1 (M.n3 (M.g0 y0 x0) (M.ul (y1+M.c0 y0 x0+0)) (IntKind.u64.wrap (y2+1))%M.aZ)),.int false .u64 (M.w2 (M.n3 (M.g0 y0 x0) (M.ul (y1+M.c0 y0 x0+0)) (IntKind.u64.wrap (y2+1))%M.aZ)),.int false .u64 0,.int false .u64 0,.int false .u64 0,.int false .u64 0,.int false .u64 0] 142],wr:=vW }:=by rcases jM with rfl | rfl | rfl | rfl <;> kernel_rfl
theorem aYy {ca:Nat} (jM:ca=6\/ca=7\/ca=8\/ca=9) (x0 x1:Int) (xs:List SV) (y0 y1 y2:Int) (ys:List SV):Ff [true] (.aI 64 true 0 2 ca) (ww x0 (ww x1 xs)) (ww y0 (ww y1 (ww y2 ys)))=some { bV:=([M.U (M.g0 y0 x0),M.U (M.g1 y0 y1 x0 x1),M.U (M.ul (y2+M.c1 y0 y1 x0 x1+0)),M.ul (y2+M.c1 y0 y1 x0 x1+0)≠0,[M.g0 y0 x0,M.g1 y0 y1 x0 x1,M.ul (y2+M.c1 y0 y1 x0 x1+0),0,0,0,0,0]=[M.g0 y0 x0,M.g1 y0 y1 x0 x1,M.ul (y2+M.c1 y0 y1 x0 x1+0),0,0,0,0,0],M.nl [M.g0 y0 x0,M.g1 y0 y1 x0 x1,M.ul (y2+M.c1 y0 y1 x0 x1+0),0]=3,[M.g0 y0 x0,M.g1 y0 y1 x0 x1,M.ul (y2+M.c1 y0 y1 x0 x1+0),0,0,0,0,0]=[M.g0 y0 x0,M.g1 y0 y1 x0 x1,M.ul (y2+M.c1 y0 y1 x0 x1+0),0,0,0,0,0],(M.uh (y2+M.c1 y0 y1 x0 x1+0)==0)=true,M.U y2,M.U (M.c1 y0 y1 x0 x1),M.K 0,y2=y2,M.c1 y0 y1 x0 x1=M.c1 y0 y1 x0 x1,(0 :Int)=0,M.U y1,M.U x1,M.K (M.c0 y0 x0),y1=y1,x1=x1,M.c0 y0 x0=M.c0 y0 x0,M.U y0,M.U x0,M.K 0,y0=y0,x0=x0,(0 :Int)=0]:List Prop),val:=.ptr 100 true 0,new:=[.own [.bool true false,.aI 101 false 0 (M.ln (M.n3 (M.g0 y0 x0) (M.g1 y0 y1 x0 x1) (M.ul (y2+M.c1 y0 y1 x0 x1+0))%M.aZ)) 8] 122,.own [.int false .u64 (M.w0 (M.n3 (M.g0 y0 x0) (M.g1 y0 y1 x0 x1) (M.ul (y2+M.c1 y0 y1 x0 x1+0))%M.aZ)),.int false .u64 (M.w1 (M.n3 (M.g0 y0 x0) (M.g1 y0 y1 x0 x1) (M.ul (y2+M.c1 y0 y1 x0 x1+0))%M.aZ)),.int false .u64 (M.w2 (M.n3 (M.g0 y0 x0) (M.g1 y0 y1 x0 x1) (M.ul (y2+M.c1 y0 y1 x0 x1+0))%M.aZ)),.int false .u64 0,.int false .u64 0,.int false .u64 0,.int false .u64 0,.int false .u64 0] 142],wr:=vW }:=by rcases jM with rfl | rfl | rfl | rfl <;> kernel_rfl
theorem aYx {ca:Nat} (jM:ca=6\/ca=7\/ca=8\/ca=9) (x0 x1 x2:Int) (xs:List SV) (y0 y1 y2:Int) (ys:List SV):Ff [] (.aI 64 true 0 3 ca) (ww x0 (ww x1 (ww x2 xs))) (ww y0 (ww y1 (ww y2 ys)))=some { bV:=([M.U (M.g0 x0 y0),M.U (M.g1 x0 x1 y0 y1),M.U (M.g2 x0 x1 x2 y0 y1 y2),M.g2 x0 x1 x2 y0 y1 y2≠0,[M.g0 x0 y0,M.g1 x0 x1 y0 y1,M.g2 x0 x1 x2 y0 y1 y2,M.c2 x0 x1 x2 y0 y1 y2,0,0,0,0]=[M.g0 x0 y0,M.g1 x0 x1 y0 y1,M.g2 x0 x1 x2 y0 y1 y2,0,0,0,0,0],M.nl [M.g0 x0 y0,M.g1 x0 x1 y0 y1,M.g2 x0 x1 x2 y0 y1 y2,M.c2 x0 x1 x2 y0 y1 y2]=3,[M.g0 x0 y0,M.g1 x0 x1 y0 y1,M.g2 x0 x1 x2 y0 y1 y2,M.c2 x0 x1 x2 y0 y1 y2,0,0,0,0]=[M.g0 x0 y0,M.g1 x0 x1 y0 y1,M.g2 x0 x1 x2 y0 y1 y2,M.c2 x0 x1 x2 y0 y1 y2,0,0,0,0],M.U x2,M.U y2,M.K (M.c1 x0 x1 y0 y1),x2=x2,y2=y2,M.c1 x0 x1 y0 y1=M.c1 x0 x1 y0 y1,M.U x1,M.U y1,M.K (M.c0 x0 y0),x1=x1,y1=y1,M.c0 x0 y0=M.c0 x0 y0,M.U x0,M.U y0,M.K 0,x0=x0,y0=y0,(0 :Int)=0]:List Prop),val:=.ptr 100 true 0,new:=[.own [.bool true false,.aI 101 false 0 (M.ln (M.n3 (M.g0 x0 y0) (M.g1 x0 x1 y0 y1) (M.g2 x0 x1 x2 y0 y1 y2)%M.aZ)) 8] 122,.own [.int false .u64 (M.w0 (M.n3 (M.g0 x0 y0) (M.g1 x0 x1 y0 y1) (M.g2 x0 x1 x2 y0 y1 y2)%M.aZ)),.int false .u64 (M.w1 (M.n3 (M.g0 x0 y0) (M.g1 x0 x1 y0 y1) (M.g2 x0 x1 x2 y0 y1 y2)%M.aZ)),.int false .u64 (M.w2 (M.n3 (M.g0 x0 y0) (M.g1 x0 x1 y0 y1) (M.g2 x0 x1 x2 y0 y1 y2)%M.aZ)),.int false .u64 0,.int false .u64 0,.int false .u64 0,.int false .u64 0,.int false .u64 0] 142],wr:=vW }:=by rcases jM with rfl | rfl | rfl | rfl <;> kernel_rfl
theorem aYw (xs:List SV) (y0 y1 y2:Int) (ys:List SV) :
 Ff [] (.raw (.slice none 0 0)) xs (ww y0 (ww y1 (ww y2 ys))) =
 sh (M.n3 y0 y1 y2%M.aZ) fun z0=>
 some {bV:=([M.U y0,M.U y1,M.U y2,y2≠0,[y0,y1,y2,0,0,0,0]=[y0,y1,y2,0,0,0,0]]:List Prop),val:=.ptr 100 true 0,new:=[.own [.bool true false,.aI 101 false 0 (M.ln z0) 7] 122,.own [.int false .u64 (M.w0 z0),.int false .u64 (M.w1 z0),.int false .u64 (M.w2 z0),.int false .u64 0,.int false .u64 0,.int false .u64 0,.int false .u64 0] 142],wr:=vW}:=by kernel_rfl
noncomputable def QT (h:Bool) (iq ir:Nat):Nat->Option Sum:=Ax (Ax (eE aCt 131 (aK aB 100 (sZ iq ir))) 182 [false]) 179 [h,true]
theorem XN (h:Bool) (iq ir:Nat):∀ f S,QT h iq ir f=some S->∀ Γ:Env,Γ.aU=aB->aH Tryz.prog Γ f S:=lQ (lQ (bI Ur 131 _ (Bv iq ir)) 182 _) 179 _
noncomputable def iV (h:Bool) (iq ir:Nat) (X Y:SV) (xs ys:List SV):Option bR:=aR (env (QT h iq ir) 22) Tryz.f70 true [] 400 iY (fun l=>look l (sC X Y xs ys)) 100 100
theorem WV (ca ct:Nat) (xs ys:List SV) :
 iV true 0 0 (.aI 64 true 0 0 ca) (.aI 65 true 0 0 ct) xs ys =
 some {val:=.ptr 100 true 0,new:=[.own [.bool true false,.raw (Value.slice none 0 0)] 122],wr:=vW}:=by kernel_rfl
theorem WU (ca ct:Nat) (y0:Int) (xs ys:List SV) :
 iV true 0 0 (.aI 64 true 0 0 ca) (.aI 65 true 0 1 ct) xs (ww y0 ys) =
 some {val:=.ptr 100 true 0,new:=[.own [.bool true false,.raw (Value.slice none 0 0)] 122],wr:=vW}:=by kernel_rfl
theorem WT (ca ct:Nat) (y0 y1:Int) (xs ys:List SV) :
 iV true 0 0 (.aI 64 true 0 0 ca) (.aI 65 true 0 2 ct) xs (ww y0 (ww y1 ys)) =
 some {val:=.ptr 100 true 0,new:=[.own [.bool true false,.raw (Value.slice none 0 0)] 122],wr:=vW}:=by kernel_rfl
theorem WS (ca ct:Nat) (x0:Int) (xs ys:List SV) :
 iV true 0 0 (.aI 64 true 0 1 ca) (.aI 65 true 0 0 ct) (ww x0 xs) ys =
 some {val:=.ptr 100 true 0,new:=[.own [.bool true false,.raw (Value.slice none 0 0)] 122],wr:=vW}:=by kernel_rfl
theorem WR (ca ct:Nat) (x0 y0:Int) (xs ys:List SV) :
 iV true 1 0 (.aI 64 true 0 1 ca) (.aI 65 true 0 1 ct) (ww x0 xs) (ww y0 ys) =
 sh (x0*y0+0) fun z0=>
 sh (M.ul z0%M.aZ) fun z1=>
 some {bV:=([M.U (M.ul z0),M.ul z0≠0,[M.ul z0,M.uh z0,0,0,0,0]=[M.ul z0,0,0,0,0,0],M.nl [M.ul z0,M.uh z0]=1,[M.ul z0,M.uh z0,0,0,0,0]=[M.ul z0,M.uh z0,0,0,0,0],M.U x0,M.U y0,M.U 0,x0=x0,y0=y0,(0 :Int)=0,(y0==0)=false]:List Prop),val:=.ptr 100 true 0,new:=[.own [.bool true false,.aI 101 false 0 (M.ln z1) 6] 122,.own [.int false .u64 (M.w0 z1),.int false .u64 (M.w1 z1),.int false .u64 (M.w2 z1),.int false .u64 0,.int false .u64 0,.int false .u64 0] 142],wr:=vW}:=by kernel_rfl
theorem WQ (ca ct:Nat) (x0 y0:Int) (xs ys:List SV) :
 iV true 2 0 (.aI 64 true 0 1 ca) (.aI 65 true 0 1 ct) (ww x0 xs) (ww y0 ys) =
 sh (x0*y0+0) fun z1=>
 sh ((M.ul z1+18446744073709551616*M.uh z1)%M.aZ) fun z0=>
 some {bV:=([M.U (M.ul z1),M.U (M.uh z1),M.uh z1≠0,[M.ul z1,M.uh z1,0,0,0,0]=[M.ul z1,M.uh z1,0,0,0,0],M.nl [M.ul z1,M.uh z1]=2,[M.ul z1,M.uh z1,0,0,0,0]=[M.ul z1,M.uh z1,0,0,0,0],M.U x0,M.U y0,M.U 0,x0=x0,y0=y0,(0 :Int)=0,(y0==0)=false]:List Prop),val:=.ptr 100 true 0,new:=[.own [.bool true false,.aI 101 false 0 (M.ln z0) 6] 122,.own [.int false .u64 (M.w0 z0),.int false .u64 (M.w1 z0),.int false .u64 (M.w2 z0),.int false .u64 0,.int false .u64 0,.int false .u64 0] 142],wr:=vW}:=by kernel_rfl
theorem WO (ca ct:Nat) (x0 y0 y1:Int) (xs ys:List SV) :
 iV true 0 2 (.aI 64 true 0 1 ca) (.aI 65 true 0 2 ct) (ww x0 xs) (ww y0 (ww y1 ys)) =
 sh (y0*x0+0) fun z2=>
 sh (y1*x0+M.uh z2) fun z0=>
 sh ((M.ul z2+18446744073709551616*M.ul z0)%M.aZ) fun z1=>
 some {bV:=([M.U (M.ul z2),M.U (M.ul z0),M.ul z0≠0,[M.ul z2,M.ul z0,M.uh z0,0,0,0,0]=[M.ul z2,M.ul z0,0,0,0,0,0],M.nl [M.ul z2,M.ul z0,M.uh z0]=2,[M.ul z2,M.ul z0,M.uh z0,0,0,0,0]=[M.ul z2,M.ul z0,M.uh z0,0,0,0,0],M.U y1,M.U x0,M.U (M.uh z2),y1=y1,x0=x0,M.uh z2=M.uh z2,M.U y0,M.U x0,M.U 0,y0=y0,x0=x0,(0 :Int)=0,(x0==0)=false]:List Prop),val:=.ptr 100 true 0,new:=[.own [.bool true false,.aI 101 false 0 (M.ln z1) 7] 122,.own [.int false .u64 (M.w0 z1),.int false .u64 (M.w1 z1),.int false .u64 (M.w2 z1),.int false .u64 0,.int false .u64 0,.int false .u64 0,.int false .u64 0] 142],wr:=vW}:=by kernel_rfl
theorem WN (ca ct:Nat) (x0 y0 y1:Int) (xs ys:List SV) :
 iV true 0 3 (.aI 64 true 0 1 ca) (.aI 65 true 0 2 ct) (ww x0 xs) (ww y0 (ww y1 ys)) =
 sh (y0*x0+0) fun z2=>
 sh (y1*x0+M.uh z2) fun z0=>
 sh (M.n3 (M.ul z2) (M.ul z0) (M.uh z0)%M.aZ) fun z1=>
 some {bV:=([M.U (M.ul z2),M.U (M.ul z0),M.U (M.uh z0),M.uh z0≠0,[M.ul z2,M.ul z0,M.uh z0,0,0,0,0]=[M.ul z2,M.ul z0,M.uh z0,0,0,0,0],M.nl [M.ul z2,M.ul z0,M.uh z0]=3,[M.ul z2,M.ul z0,M.uh z0,0,0,0,0]=[M.ul z2,M.ul z0,M.uh z0,0,0,0,0],M.U y1,M.U x0,M.U (M.uh z2),y1=y1,x0=x0,M.uh z2=M.uh z2,M.U y0,M.U x0,M.U 0,y0=y0,x0=x0,(0 :Int)=0,(x0==0)=false]:List Prop),val:=.ptr 100 true 0,new:=[.own [.bool true false,.aI 101 false 0 (M.ln z1) 7] 122,.own [.int false .u64 (M.w0 z1),.int false .u64 (M.w1 z1),.int false .u64 (M.w2 z1),.int false .u64 0,.int false .u64 0,.int false .u64 0,.int false .u64 0] 142],wr:=vW}:=by kernel_rfl
theorem WM (ca ct:Nat) (x0 x1:Int) (xs ys:List SV) :
 iV true 0 0 (.aI 64 true 0 2 ca) (.aI 65 true 0 0 ct) (ww x0 (ww x1 xs)) ys =
 some {val:=.ptr 100 true 0,new:=[.own [.bool true false,.raw (Value.slice none 0 0)] 122],wr:=vW}:=by kernel_rfl
theorem WL (ca ct:Nat) (x0 x1 y0:Int) (xs ys:List SV) :
 iV true 0 2 (.aI 64 true 0 2 ca) (.aI 65 true 0 1 ct) (ww x0 (ww x1 xs)) (ww y0 ys) =
 sh (x0*y0+0) fun z2=>
 sh (x1*y0+M.uh z2) fun z0=>
 sh ((M.ul z2+18446744073709551616*M.ul z0)%M.aZ) fun z1=>
 some {bV:=([M.U (M.ul z2),M.U (M.ul z0),M.ul z0≠0,[M.ul z2,M.ul z0,M.uh z0,0,0,0,0]=[M.ul z2,M.ul z0,0,0,0,0,0],M.nl [M.ul z2,M.ul z0,M.uh z0]=2,[M.ul z2,M.ul z0,M.uh z0,0,0,0,0]=[M.ul z2,M.ul z0,M.uh z0,0,0,0,0],M.U x1,M.U y0,M.U (M.uh z2),x1=x1,y0=y0,M.uh z2=M.uh z2,M.U x0,M.U y0,M.U 0,x0=x0,y0=y0,(0 :Int)=0,(y0==0)=false]:List Prop),val:=.ptr 100 true 0,new:=[.own [.bool true false,.aI 101 false 0 (M.ln z1) 7] 122,.own [.int false .u64 (M.w0 z1),.int false .u64 (M.w1 z1),.int false .u64 (M.w2 z1),.int false .u64 0,.int false .u64 0,.int false .u64 0,.int false .u64 0] 142],wr:=vW}:=by kernel_rfl
theorem WK (ca ct:Nat) (x0 x1 y0:Int) (xs ys:List SV) :
 iV true 0 3 (.aI 64 true 0 2 ca) (.aI 65 true 0 1 ct) (ww x0 (ww x1 xs)) (ww y0 ys) =
 sh (x0*y0+0) fun z2=>
 sh (x1*y0+M.uh z2) fun z0=>
 sh (M.n3 (M.ul z2) (M.ul z0) (M.uh z0)%M.aZ) fun z1=>
 some {bV:=([M.U (M.ul z2),M.U (M.ul z0),M.U (M.uh z0),M.uh z0≠0,[M.ul z2,M.ul z0,M.uh z0,0,0,0,0]=[M.ul z2,M.ul z0,M.uh z0,0,0,0,0],M.nl [M.ul z2,M.ul z0,M.uh z0]=3,[M.ul z2,M.ul z0,M.uh z0,0,0,0,0]=[M.ul z2,M.ul z0,M.uh z0,0,0,0,0],M.U x1,M.U y0,M.U (M.uh z2),x1=x1,y0=y0,M.uh z2=M.uh z2,M.U x0,M.U y0,M.U 0,x0=x0,y0=y0,(0 :Int)=0,(y0==0)=false]:List Prop),val:=.ptr 100 true 0,new:=[.own [.bool true false,.aI 101 false 0 (M.ln z1) 7] 122,.own [.int false .u64 (M.w0 z1),.int false .u64 (M.w1 z1),.int false .u64 (M.w2 z1),.int false .u64 0,.int false .u64 0,.int false .u64 0,.int false .u64 0] 142],wr:=vW}:=by kernel_rfl
theorem WJ (ca ct:Nat) (x0 x1 y0 y1:Int) (xs ys:List SV) :
 iV true 0 3 (.aI 64 true 0 2 ca) (.aI 65 true 0 2 ct) (ww x0 (ww x1 xs)) (ww y0 (ww y1 ys)) =
 sh (M.n3 (M.q0 x0 y0) (M.r0 x0 x1 y0 y1) (M.e1 x0 x1 y0 y1)%M.aZ) fun z0=>
 sh (x1*y1+M.k1 x0 x1 y0) fun z1=>
 sh (x0*y1+M.q1 x0 x1 y0) fun z2=>
 sh (x1*y0+0) fun z3=>
 sh (x0*y0+0) fun z4=>
 some {bV:=([M.U (M.q0 x0 y0),M.U (M.r0 x0 x1 y0 y1),M.U (M.e1 x0 x1 y0 y1),M.e1 x0 x1 y0 y1≠0,[M.q0 x0 y0,M.r0 x0 x1 y0 y1,M.e1 x0 x1 y0 y1,M.f1 x0 x1 y0 y1,0,0,0,0]=[M.q0 x0 y0,M.r0 x0 x1 y0 y1,M.e1 x0 x1 y0 y1,0,0,0,0,0],M.nl [M.q0 x0 y0,M.r0 x0 x1 y0 y1,M.e1 x0 x1 y0 y1,M.f1 x0 x1 y0 y1]=3,[M.q0 x0 y0,M.r0 x0 x1 y0 y1,M.e1 x0 x1 y0 y1,M.f1 x0 x1 y0 y1,0,0,0,0]=[M.q0 x0 y0,M.r0 x0 x1 y0 y1,M.e1 x0 x1 y0 y1,M.f1 x0 x1 y0 y1,0,0,0,0],M.U (M.ul z1),M.U (M.Gk x0 x1 y0 y1),M.K 0,M.ul z1=M.ul z1,M.Gk x0 x1 y0 y1=M.Gk x0 x1 y0 y1,(0 :Int)=0,M.U x1,M.U y1,M.U (M.k1 x0 x1 y0),x1=x1,y1=y1,M.k1 x0 x1 y0=M.k1 x0 x1 y0,M.U (M.ul z2),M.U 0,M.K 0,M.ul z2=M.ul z2,(0 :Int)=0,(0 :Int)=0,M.U x0,M.U y1,M.U (M.q1 x0 x1 y0),x0=x0,y1=y1,M.q1 x0 x1 y0=M.q1 x0 x1 y0,(y1 != 0)=true,M.U (M.ul z3),M.U (M.k0 x0 y0),M.K 0,M.ul z3=M.ul z3,M.k0 x0 y0=M.k0 x0 y0,(0 :Int)=0,M.U x1,M.U y0,M.U 0,x1=x1,y0=y0,(0 :Int)=0,M.U (M.ul z4),M.U 0,M.K 0,M.ul z4=M.ul z4,(0 :Int)=0,(0 :Int)=0,M.U x0,M.U y0,M.U 0,x0=x0,y0=y0,(0 :Int)=0,(y0 != 0)=true]:List Prop),val:=.ptr 100 true 0,new:=[.own [.bool true false,.aI 101 false 0 (M.ln z0) 8] 122,.own [.int false .u64 (M.w0 z0),.int false .u64 (M.w1 z0),.int false .u64 (M.w2 z0),.int false .u64 0,.int false .u64 0,.int false .u64 0,.int false .u64 0,.int false .u64 0] 142],wr:=vW}:=by kernel_rfl
theorem JD (ca ct:Nat) (x0 x1 y0 y1:Int) (xs ys:List SV) :
 iV false 0 3 (.aI 64 true 0 2 ca) (.aI 65 true 0 2 ct) (ww x0 (ww x1 xs)) (ww y0 (ww y1 ys)) =
 sh (M.n3 0 (M.q0 x0 y1) (M.q1 x0 x1 y1)%M.aZ) fun z0=>
 sh (x1*y1+0) fun z1=>
 sh (x0*y1+0) fun z2=>
 some {bV:=([M.U 0,M.U (M.q0 x0 y1),M.U (M.q1 x0 x1 y1),M.q1 x0 x1 y1≠0,[0,M.q0 x0 y1,M.q1 x0 x1 y1,M.k1 x0 x1 y1,0,0,0,0]=[0,M.q0 x0 y1,M.q1 x0 x1 y1,0,0,0,0,0],M.nl [0,M.q0 x0 y1,M.q1 x0 x1 y1,M.k1 x0 x1 y1]=3,[0,M.q0 x0 y1,M.q1 x0 x1 y1,M.k1 x0 x1 y1,0,0,0,0]=[0,M.q0 x0 y1,M.q1 x0 x1 y1,M.k1 x0 x1 y1,0,0,0,0],M.U (M.ul z1),M.U (M.k0 x0 y1),M.K 0,M.ul z1=M.ul z1,M.k0 x0 y1=M.k0 x0 y1,(0 :Int)=0,M.U x1,M.U y1,M.U 0,x1=x1,y1=y1,(0 :Int)=0,M.U (M.ul z2),M.U 0,M.K 0,M.ul z2=M.ul z2,(0 :Int)=0,(0 :Int)=0,M.U x0,M.U y1,M.U 0,x0=x0,y1=y1,(0 :Int)=0,(y1 != 0)=true,(y0 != 0)=false]:List Prop),val:=.ptr 100 true 0,new:=[.own [.bool true false,.aI 101 false 0 (M.ln z0) 8] 122,.own [.int false .u64 (M.w0 z0),.int false .u64 (M.w1 z0),.int false .u64 (M.w2 z0),.int false .u64 0,.int false .u64 0,.int false .u64 0,.int false .u64 0,.int false .u64 0] 142],wr:=vW}:=by kernel_rfl
theorem WI (ca ct:Nat) (x0 x1 y0 y1:Int) (xs ys:List SV) :
 iV true 0 4 (.aI 64 true 0 2 ca) (.aI 65 true 0 2 ct) (ww x0 (ww x1 xs)) (ww y0 (ww y1 ys)) =
 sh (M.n4 (M.q0 x0 y0) (M.r0 x0 x1 y0 y1) (M.e1 x0 x1 y0 y1) (M.f1 x0 x1 y0 y1)%M.aZ) fun z0=>
 sh (x1*y1+M.k1 x0 x1 y0) fun z1=>
 sh (x0*y1+M.q1 x0 x1 y0) fun z2=>
 sh (x1*y0+0) fun z3=>
 sh (x0*y0+0) fun z4=>
 some {bV:=([M.U (M.q0 x0 y0),M.U (M.r0 x0 x1 y0 y1),M.U (M.e1 x0 x1 y0 y1),M.U (M.f1 x0 x1 y0 y1),M.f1 x0 x1 y0 y1≠0,[M.q0 x0 y0,M.r0 x0 x1 y0 y1,M.e1 x0 x1 y0 y1,M.f1 x0 x1 y0 y1,0,0,0,0]=[M.q0 x0 y0,M.r0 x0 x1 y0 y1,M.e1 x0 x1 y0 y1,M.f1 x0 x1 y0 y1,0,0,0,0],M.nl [M.q0 x0 y0,M.r0 x0 x1 y0 y1,M.e1 x0 x1 y0 y1,M.f1 x0 x1 y0 y1]=4,[M.q0 x0 y0,M.r0 x0 x1 y0 y1,M.e1 x0 x1 y0 y1,M.f1 x0 x1 y0 y1,0,0,0,0]=[M.q0 x0 y0,M.r0 x0 x1 y0 y1,M.e1 x0 x1 y0 y1,M.f1 x0 x1 y0 y1,0,0,0,0],M.U (M.ul z1),M.U (M.Gk x0 x1 y0 y1),M.K 0,M.ul z1=M.ul z1,M.Gk x0 x1 y0 y1=M.Gk x0 x1 y0 y1,(0 :Int)=0,M.U x1,M.U y1,M.U (M.k1 x0 x1 y0),x1=x1,y1=y1,M.k1 x0 x1 y0=M.k1 x0 x1 y0,M.U (M.ul z2),M.U 0,M.K 0,M.ul z2=M.ul z2,(0 :Int)=0,(0 :Int)=0,M.U x0,M.U y1,M.U (M.q1 x0 x1 y0),x0=x0,y1=y1,M.q1 x0 x1 y0=M.q1 x0 x1 y0,(y1 != 0)=true,M.U (M.ul z3),M.U (M.k0 x0 y0),M.K 0,M.ul z3=M.ul z3,M.k0 x0 y0=M.k0 x0 y0,(0 :Int)=0,M.U x1,M.U y0,M.U 0,x1=x1,y0=y0,(0 :Int)=0,M.U (M.ul z4),M.U 0,M.K 0,M.ul z4=M.ul z4,(0 :Int)=0,(0 :Int)=0,M.U x0,M.U y0,M.U 0,x0=x0,y0=y0,(0 :Int)=0,(y0 != 0)=true]:List Prop),val:=.ptr 100 true 0,new:=[.own [.bool true false,.aI 101 false 0 (M.ln z0) 8] 122,.own [.int false .u64 (M.w0 z0),.int false .u64 (M.w1 z0),.int false .u64 (M.w2 z0),.int false .u64 0,.int false .u64 0,.int false .u64 0,.int false .u64 0,.int false .u64 0] 142],wr:=vW}:=by kernel_rfl
theorem JC (ca ct:Nat) (x0 x1 y0 y1:Int) (xs ys:List SV) :
 iV false 0 4 (.aI 64 true 0 2 ca) (.aI 65 true 0 2 ct) (ww x0 (ww x1 xs)) (ww y0 (ww y1 ys)) =
 sh (M.n4 0 (M.q0 x0 y1) (M.q1 x0 x1 y1) (M.k1 x0 x1 y1)%M.aZ) fun z0=>
 sh (x1*y1+0) fun z1=>
 sh (x0*y1+0) fun z2=>
 some {bV:=([M.U 0,M.U (M.q0 x0 y1),M.U (M.q1 x0 x1 y1),M.U (M.k1 x0 x1 y1),M.k1 x0 x1 y1≠0,[0,M.q0 x0 y1,M.q1 x0 x1 y1,M.k1 x0 x1 y1,0,0,0,0]=[0,M.q0 x0 y1,M.q1 x0 x1 y1,M.k1 x0 x1 y1,0,0,0,0],M.nl [0,M.q0 x0 y1,M.q1 x0 x1 y1,M.k1 x0 x1 y1]=4,[0,M.q0 x0 y1,M.q1 x0 x1 y1,M.k1 x0 x1 y1,0,0,0,0]=[0,M.q0 x0 y1,M.q1 x0 x1 y1,M.k1 x0 x1 y1,0,0,0,0],M.U (M.ul z1),M.U (M.k0 x0 y1),M.K 0,M.ul z1=M.ul z1,M.k0 x0 y1=M.k0 x0 y1,(0 :Int)=0,M.U x1,M.U y1,M.U 0,x1=x1,y1=y1,(0 :Int)=0,M.U (M.ul z2),M.U 0,M.K 0,M.ul z2=M.ul z2,(0 :Int)=0,(0 :Int)=0,M.U x0,M.U y1,M.U 0,x0=x0,y1=y1,(0 :Int)=0,(y1 != 0)=true,(y0 != 0)=false]:List Prop),val:=.ptr 100 true 0,new:=[.own [.bool true false,.aI 101 false 0 (M.ln z0) 8] 122,.own [.int false .u64 (M.w0 z0),.int false .u64 (M.w1 z0),.int false .u64 (M.w2 z0),.int false .u64 0,.int false .u64 0,.int false .u64 0,.int false .u64 0,.int false .u64 0] 142],wr:=vW}:=by kernel_rfl
theorem WH (ca ct:Nat) (x0 x1 x2:Int) (xs ys:List SV) :
 iV true 0 0 (.aI 64 true 0 3 ca) (.aI 65 true 0 0 ct) (ww x0 (ww x1 (ww x2 xs))) ys =
 some {val:=.ptr 100 true 0,new:=[.own [.bool true false,.raw (Value.slice none 0 0)] 122],wr:=vW}:=by kernel_rfl
theorem WG (ca ct:Nat) (x0 x1 x2 y0:Int) (xs ys:List SV) :
 iV true 0 3 (.aI 64 true 0 3 ca) (.aI 65 true 0 1 ct) (ww x0 (ww x1 (ww x2 xs))) (ww y0 ys) =
 sh (x0*y0+0) fun z3=>
 sh (x1*y0+M.uh z3) fun z0=>
 sh (x2*y0+M.uh z0) fun z1=>
 sh (M.n3 (M.ul z3) (M.ul z0) (M.ul z1)%M.aZ) fun z2=>
 some {bV:=([M.U (M.ul z3),M.U (M.ul z0),M.U (M.ul z1),M.ul z1≠0,[M.ul z3,M.ul z0,M.ul z1,M.uh z1,0,0,0,0]=[M.ul z3,M.ul z0,M.ul z1,0,0,0,0,0],M.nl [M.ul z3,M.ul z0,M.ul z1,M.uh z1]=3,[M.ul z3,M.ul z0,M.ul z1,M.uh z1,0,0,0,0]=[M.ul z3,M.ul z0,M.ul z1,M.uh z1,0,0,0,0],M.U x2,M.U y0,M.U (M.uh z0),x2=x2,y0=y0,M.uh z0=M.uh z0,M.U x1,M.U y0,M.U (M.uh z3),x1=x1,y0=y0,M.uh z3=M.uh z3,M.U x0,M.U y0,M.U 0,x0=x0,y0=y0,(0 :Int)=0,(y0==0)=false]:List Prop),val:=.ptr 100 true 0,new:=[.own [.bool true false,.aI 101 false 0 (M.ln z2) 8] 122,.own [.int false .u64 (M.w0 z2),.int false .u64 (M.w1 z2),.int false .u64 (M.w2 z2),.int false .u64 0,.int false .u64 0,.int false .u64 0,.int false .u64 0,.int false .u64 0] 142],wr:=vW}:=by kernel_rfl
theorem WE (ca ct:Nat) (x0 x1 x2 y0:Int) (xs ys:List SV) :
 iV true 0 4 (.aI 64 true 0 3 ca) (.aI 65 true 0 1 ct) (ww x0 (ww x1 (ww x2 xs))) (ww y0 ys) =
 sh (x0*y0+0) fun z3=>
 sh (x1*y0+M.uh z3) fun z0=>
 sh (x2*y0+M.uh z0) fun z1=>
 sh (M.n4 (M.ul z3) (M.ul z0) (M.ul z1) (M.uh z1)%M.aZ) fun z2=>
 some {bV:=([M.U (M.ul z3),M.U (M.ul z0),M.U (M.ul z1),M.U (M.uh z1),M.uh z1≠0,[M.ul z3,M.ul z0,M.ul z1,M.uh z1,0,0,0,0]=[M.ul z3,M.ul z0,M.ul z1,M.uh z1,0,0,0,0],M.nl [M.ul z3,M.ul z0,M.ul z1,M.uh z1]=4,[M.ul z3,M.ul z0,M.ul z1,M.uh z1,0,0,0,0]=[M.ul z3,M.ul z0,M.ul z1,M.uh z1,0,0,0,0],M.U x2,M.U y0,M.U (M.uh z0),x2=x2,y0=y0,M.uh z0=M.uh z0,M.U x1,M.U y0,M.U (M.uh z3),x1=x1,y0=y0,M.uh z3=M.uh z3,M.U x0,M.U y0,M.U 0,x0=x0,y0=y0,(0 :Int)=0,(y0==0)=false]:List Prop),val:=.ptr 100 true 0,new:=[.own [.bool true false,.aI 101 false 0 (M.ln z2) 8] 122,.own [.int false .u64 (M.w0 z2),.int false .u64 (M.w1 z2),.int false .u64 (M.w2 z2),.int false .u64 0,.int false .u64 0,.int false .u64 0,.int false .u64 0,.int false .u64 0] 142],wr:=vW}:=by kernel_rfl
theorem WD (ca ct:Nat) (x0 x1 x2 y0 y1:Int) (xs ys:List SV) :
 iV true 0 4 (.aI 64 true 0 3 ca) (.aI 65 true 0 2 ct) (ww x0 (ww x1 (ww x2 xs))) (ww y0 (ww y1 ys)) =
 sh (M.r1 x0 x1 x2 y0 y1) fun z7=>
 sh (M.r2 x0 x1 x2 y0 y1) fun z8=>
 sh (M.n4 (M.q0 x0 y0) (M.r0 x0 x1 y0 y1) z7 z8%M.aZ) fun z0=>
 sh (x2*y1+M.k2 x0 x1 x2 y0) fun z1=>
 sh (x1*y1+M.q2 x0 x1 x2 y0) fun z2=>
 sh (x0*y1+M.q1 x0 x1 y0) fun z3=>
 sh (x2*y0+0) fun z4=>
 sh (x1*y0+0) fun z5=>
 sh (x0*y0+0) fun z6=>
 some {bV:=([M.U (M.q0 x0 y0),M.U (M.r0 x0 x1 y0 y1),M.U z7,M.U z8,M.r2 x0 x1 x2 y0 y1≠0,[M.q0 x0 y0,M.r0 x0 x1 y0 y1,M.r1 x0 x1 x2 y0 y1,M.r2 x0 x1 x2 y0 y1,M.OO x0 x1 x2 y0 y1,0,0,0,0]=[M.q0 x0 y0,M.r0 x0 x1 y0 y1,M.r1 x0 x1 x2 y0 y1,M.r2 x0 x1 x2 y0 y1,0,0,0,0,0],M.nl [M.q0 x0 y0,M.r0 x0 x1 y0 y1,M.r1 x0 x1 x2 y0 y1,M.r2 x0 x1 x2 y0 y1,M.OO x0 x1 x2 y0 y1]=4,[M.q0 x0 y0,M.r0 x0 x1 y0 y1,M.r1 x0 x1 x2 y0 y1,M.r2 x0 x1 x2 y0 y1,M.OO x0 x1 x2 y0 y1,0,0,0,0]=[M.q0 x0 y0,M.r0 x0 x1 y0 y1,M.r1 x0 x1 x2 y0 y1,M.r2 x0 x1 x2 y0 y1,M.OO x0 x1 x2 y0 y1,0,0,0,0],M.U (M.ul z1),M.U (M.YW x0 x1 x2 y0 y1),M.K 0,M.ul z1=M.ul z1,M.YW x0 x1 x2 y0 y1=M.YW x0 x1 x2 y0 y1,(0 :Int)=0,M.U x2,M.U y1,M.U (M.k2 x0 x1 x2 y0),x2=x2,y1=y1,M.k2 x0 x1 x2 y0=M.k2 x0 x1 x2 y0,M.U (M.ul z2),M.U (M.Gk x0 x1 y0 y1),M.K 0,M.ul z2=M.ul z2,M.Gk x0 x1 y0 y1=M.Gk x0 x1 y0 y1,(0 :Int)=0,M.U x1,M.U y1,M.U (M.q2 x0 x1 x2 y0),x1=x1,y1=y1,M.q2 x0 x1 x2 y0=M.q2 x0 x1 x2 y0,M.U (M.ul z3),M.U 0,M.K 0,M.ul z3=M.ul z3,(0 :Int)=0,(0 :Int)=0,M.U x0,M.U y1,M.U (M.q1 x0 x1 y0),x0=x0,y1=y1,M.q1 x0 x1 y0=M.q1 x0 x1 y0,(y1 != 0)=true,M.U (M.ul z4),M.U (M.k1 x0 x1 y0),M.K 0,M.ul z4=M.ul z4,M.k1 x0 x1 y0=M.k1 x0 x1 y0,(0 :Int)=0,M.U x2,M.U y0,M.U 0,x2=x2,y0=y0,(0 :Int)=0,M.U (M.ul z5),M.U (M.k0 x0 y0),M.K 0,M.ul z5=M.ul z5,M.k0 x0 y0=M.k0 x0 y0,(0 :Int)=0,M.U x1,M.U y0,M.U 0,x1=x1,y0=y0,(0 :Int)=0,M.U (M.ul z6),M.U 0,M.K 0,M.ul z6=M.ul z6,(0 :Int)=0,(0 :Int)=0,M.U x0,M.U y0,M.U 0,x0=x0,y0=y0,(0 :Int)=0,(y0 != 0)=true]:List Prop),val:=.ptr 100 true 0,new:=[.own [.bool true false,.aI 101 false 0 (M.ln z0) 9] 122,.own [.int false .u64 (M.w0 z0),.int false .u64 (M.w1 z0),.int false .u64 (M.w2 z0),.int false .u64 0,.int false .u64 0,.int false .u64 0,.int false .u64 0,.int false .u64 0,.int false .u64 0] 142],wr:=vW}:=by kernel_rfl
theorem JB (ca ct:Nat) (x0 x1 x2 y0 y1:Int) (xs ys:List SV) :
 iV false 0 4 (.aI 64 true 0 3 ca) (.aI 65 true 0 2 ct) (ww x0 (ww x1 (ww x2 xs))) (ww y0 (ww y1 ys)) =
 sh (M.n4 0 (M.q0 x0 y1) (M.q1 x0 x1 y1) (M.q2 x0 x1 x2 y1)%M.aZ) fun z0=>
 sh (x2*y1+0) fun z1=>
 sh (x1*y1+0) fun z2=>
 sh (x0*y1+0) fun z3=>
 some {bV:=([M.U 0,M.U (M.q0 x0 y1),M.U (M.q1 x0 x1 y1),M.U (M.q2 x0 x1 x2 y1),M.q2 x0 x1 x2 y1≠0,[0,M.q0 x0 y1,M.q1 x0 x1 y1,M.q2 x0 x1 x2 y1,M.k2 x0 x1 x2 y1,0,0,0,0]=[0,M.q0 x0 y1,M.q1 x0 x1 y1,M.q2 x0 x1 x2 y1,0,0,0,0,0],M.nl [0,M.q0 x0 y1,M.q1 x0 x1 y1,M.q2 x0 x1 x2 y1,M.k2 x0 x1 x2 y1]=4,[0,M.q0 x0 y1,M.q1 x0 x1 y1,M.q2 x0 x1 x2 y1,M.k2 x0 x1 x2 y1,0,0,0,0]=[0,M.q0 x0 y1,M.q1 x0 x1 y1,M.q2 x0 x1 x2 y1,M.k2 x0 x1 x2 y1,0,0,0,0],M.U (M.ul z1),M.U (M.k1 x0 x1 y1),M.K 0,M.ul z1=M.ul z1,M.k1 x0 x1 y1=M.k1 x0 x1 y1,(0 :Int)=0,M.U x2,M.U y1,M.U 0,x2=x2,y1=y1,(0 :Int)=0,M.U (M.ul z2),M.U (M.k0 x0 y1),M.K 0,M.ul z2=M.ul z2,M.k0 x0 y1=M.k0 x0 y1,(0 :Int)=0,M.U x1,M.U y1,M.U 0,x1=x1,y1=y1,(0 :Int)=0,M.U (M.ul z3),M.U 0,M.K 0,M.ul z3=M.ul z3,(0 :Int)=0,(0 :Int)=0,M.U x0,M.U y1,M.U 0,x0=x0,y1=y1,(0 :Int)=0,(y1 != 0)=true,(y0 != 0)=false]:List Prop),val:=.ptr 100 true 0,new:=[.own [.bool true false,.aI 101 false 0 (M.ln z0) 9] 122,.own [.int false .u64 (M.w0 z0),.int false .u64 (M.w1 z0),.int false .u64 (M.w2 z0),.int false .u64 0,.int false .u64 0,.int false .u64 0,.int false .u64 0,.int false .u64 0,.int false .u64 0] 142],wr:=vW}:=by kernel_rfl
def rB (R:Int) (cap:Nat):List SB:=[.own [.bool true false,.aI 101 false 0 (M.ln R) cap] 122,.own (wc (M.w0 R::M.w1 R::M.w2 R::List.replicate (cap-3) 0)) 142]
def mP (X Y:SV) (ys:List SV):List (Nat × SB):=vW++[(61,.own [.bool true false,X] 122),(63,.own [.bool true false,Y] 122),(65,.own ys 142)]
namespace M
theorem nl3 (a b c:Int):(nl [a,b,c]=0/\a=0/\b=0/\c=0)\/(nl [a,b,c]=1/\a≠0/\b=0/\c=0)\/(nl [a,b,c]=2/\b≠0/\c=0)\/(nl [a,b,c]=3/\c≠0):=by
 by_cases hc:c=0
 .by_cases hb:b=0
  .by_cases ha:a=0
   .left;exact ⟨by simp only [nl,hc,hb,ha,if_true],ha,hb,hc⟩
   .right;left;exact ⟨by simp only [nl,hc,hb,if_true,if_neg ha],ha,hb,hc⟩
  .right;right;left;exact ⟨by simp only [nl,hc,if_true,if_neg hb],hb,hc⟩
 .right;right;right;exact ⟨by simp only [nl,if_neg hc],hc⟩
theorem OT (a b:Int):(nl [a,b]=0/\a=0/\b=0)\/(nl [a,b]=1/\a≠0/\b=0)\/(nl [a,b]=2/\b≠0):=by
 by_cases hb:b=0
 .by_cases ha:a=0
  .left;exact ⟨by simp only [nl,hb,ha,if_true],ha,hb⟩
  .right;left;exact ⟨by simp only [nl,hb,if_true,if_neg ha],ha,hb⟩
 .right;right;exact ⟨by simp only [nl,if_neg hb],hb⟩
theorem mY {p z c:Int} (Zv:0<=p) (hp:p<=340282366920938463426481119284349108225) (hz:U z) (hc:U c):az p z c+18446744073709551616*ac p z c=p+z+c/\U (az p z c)/\U (ac p z c):=by
 have:=hz.1;have:=hz.2;have:=hc.1;have:=hc.2
 unfold az ac
 rw [bP]
 unfold U ul uh
 omega
end M
theorem tB {f:FuncId} {n m ca cb:Nat} {b:Bool} {xs ys:List SV} {e:bR} (h:aD Tryz.prog Γv f iY (fun l=>look l (sC (.aI 64 true 0 n ca) (.aI 65 true 0 m cb) xs ys)) 100 100 e):aD Tryz.prog Γv f iY (fun l=>look l (sC (.aI 64 false 0 n ca) (.aI 65 b 0 m cb) xs ys)) 100 100 e:=
 aD.reL (L:=sC (.aI 64 true 0 n ca) (.aI 65 true 0 m cb) xs ys) (L':=sC (.aI 64 false 0 n ca) (.aI 65 b 0 m cb) xs ys) h ⟨rfl,⟨rfl,fun _=>rfl⟩,rfl,bZ _,rfl,⟨rfl,fun _=>rfl⟩,rfl,bZ _,rfl,bZ _,rfl,bZ _,rfl,bZ _,rfl,bZ _,trivial⟩ (fun _=>rfl)
theorem jG {Γ:Env} {f:FuncId} {n m ca cb:Nat} {b:Bool} {xs ys:List SV} {ob:List Prop} {N N':List SB} (h:aD Tryz.prog Γ f iY (fun l=>look l (sC (.aI 64 true 0 n ca) (.aI 65 true 0 m cb) xs ys)) 100 100 { bV:=ob,val:=.ptr 100 true 0,new:=N,wr:=vW }) (hg:Γv.aU=Γ.aU) (hn:xA N N') :
 aD Tryz.prog Γv f iY (fun l=>look l (sC (.aI 64 false 0 n ca) (.aI 65 b 0 m cb) xs ys)) 100 100 { val:=.ptr 100 true 0,new:=N',wr:=mP (.aI 64 false 0 n ca) (.aI 65 b 0 m cb) ys }:=
 tB ((((h.bE 61 _ rfl (by decide)).bE 63 _ rfl (by decide)).bE 65 _ rfl (by decide)).re hg (fun _=>rfl) hn ⟨rfl,⟨rfl,fun _=>rfl⟩,rfl,⟨rfl,fun _=>rfl⟩,rfl,⟨rfl,fun _=>rfl⟩,rfl,⟨rfl,fun _=>rfl⟩,rfl,⟨rfl,fun _=>rfl⟩,trivial⟩)
open M in
theorem JE (xs ys:List SV) {y0 y1 y2:Int} (fC:U y0) (iJ:U y1) (Ab:y2=1):aD Tryz.prog Γv 68 iY (fun l=>look l (sC (.raw (.slice none 0 0)) (.aI 65 true 0 3 7) xs (ww y0 (ww y1 (ww y2 ys))))) 100 100
 { val:=.ptr 100 true 0,new:=rB ((0+n3 y0 y1 y2)%aZ) 7,wr:=mP (.raw (.slice none 0 0)) (.aI 65 true 0 3 7) (ww y0 (ww y1 (ww y2 ys))) }:=by
 have hs:aH Tryz.prog (env (yY []) 22) 68 (aR (env (yY []) 22) Tryz.f68 true [] 400):=aY (bH _ 22) (bJ _ (uE []) 22) mix Tryz.func68 (by kernel_rfl) true [] 400
 have hU:U y2:=by unfold U;omega
 have hz:y2≠0:=by omega
 rw [Int.zero_add]
 exact (((((hs.call (aYw xs y0 y1 y2 ys) (aA (by simp only [aO,fC,iJ,hU,and_true,true_and];exact hz))).bE 61 _ rfl (by decide)).bE 63 _ rfl (by decide)).bE 65 _ rfl (by decide)).re rfl (fun _=>rfl) ⟨⟨rfl,fun _=>rfl⟩,⟨rfl,fun _=>rfl⟩,trivial⟩ ⟨rfl,⟨rfl,fun _=>rfl⟩,rfl,⟨rfl,fun _=>rfl⟩,rfl,⟨rfl,fun _=>rfl⟩,rfl,⟨rfl,fun _=>rfl⟩,rfl,⟨rfl,fun _=>rfl⟩,trivial⟩)
open M in
theorem JI (ca:Nat) (xs ys:List SV) {y0 y1 y2:Int} (fC:U y0) (iJ:U y1) (Ab:y2=1):aD Tryz.prog Γv 68 iY (fun l=>look l (sC (.aI 64 false 0 0 ca) (.aI 65 true 0 3 7) xs (ww y0 (ww y1 (ww y2 ys))))) 100 100
 { val:=.ptr 100 true 0,new:=rB ((0+n3 y0 y1 y2)%aZ) 7,wr:=mP (.aI 64 false 0 0 ca) (.aI 65 true 0 3 7) (ww y0 (ww y1 (ww y2 ys))) }:=by
 have hs:∀ h,aH Tryz.prog (env (yY h) 22) 68 (aR (env (yY h) 22) Tryz.f68 true [] 400):=fun h=>aY (bH _ 22) (bJ _ (uE h) 22) mix Tryz.func68 (by kernel_rfl) true [] 400
 have hU:U y2:=by unfold U;omega
 have hz:(y2≠0)=True:=eq_true (by omega)
 have hW:0+n3 y0 y1 y2=n3 y0 y1 y2:=Int.zero_add _
 rw [hW]
 exact jG ((hs _).call (aZa ca xs y0 y1 y2 ys) (aA (by simp only [aO,fC,iJ,hU,hz,and_true,true_and]))) rfl ⟨⟨rfl,fun _=>rfl⟩,⟨rfl,fun _=>rfl⟩,trivial⟩
open M in
theorem JH {ca:Nat} (jM:ca=6\/ca=7\/ca=8\/ca=9) (xs ys:List SV) {x0 y0 y1 y2:Int} (gE:U x0) (hN:x0<aZ) (fC:U y0) (iJ:U y1) (Ab:y2=1):aD Tryz.prog Γv 68 iY (fun l=>look l (sC (.aI 64 false 0 1 ca) (.aI 65 true 0 3 7) (ww x0 xs) (ww y0 (ww y1 (ww y2 ys))))) 100 100
 { val:=.ptr 100 true 0,new:=rB ((x0+n3 y0 y1 y2)%aZ) 8,wr:=mP (.aI 64 false 0 1 ca) (.aI 65 true 0 3 7) (ww y0 (ww y1 (ww y2 ys))) }:=by
 have hs:∀ h,aH Tryz.prog (env (yY h) 22) 68 (aR (env (yY h) 22) Tryz.f68 true [] 400):=fun h=>aY (bH _ 22) (bJ _ (uE h) 22) mix Tryz.func68 (by kernel_rfl) true [] 400
 have hU:U y2:=by unfold U;omega
 have:=gE.1;have:=gE.2;have:=fC.1;have:=fC.2;have:=iJ.1;have:=iJ.2
 have AU:x0<1361129467683753853853498429727072845819:=hN
 skip
 have ec0:c0 y0 x0=(y0+x0)/18446744073709551616:=by unfold c0 uh;omega
 by_cases Dn:(uh (y1+c0 y0 x0+0)==0)=true
 .have h1:uh (y1+c0 y0 x0+0)=0:=by simpa using Dn
  have h1:y1+c0 y0 x0<18446744073709551616:=by unfold uh at h1;omega
  have u0:U (g0 y0 x0):=by exact dL _
  have u1:U (ul (y1+c0 y0 x0+0)):=by exact dL _
  have u2:U (y2):=by exact hU
  have hW:n3 (g0 y0 x0) (ul (y1+c0 y0 x0+0)) (y2)=x0+n3 y0 y1 y2:=by unfold n3 g0;unfold ul;omega
  have hz:(y2≠0)=True:=eq_true (by intro e;rw [e] at hW;have:=u0.2;have:=u1.2;unfold n3 at hW;omega)
  have hn:nl [g0 y0 x0,ul (y1+c0 y0 x0+0),y2,0]=3:=by rw [nl4];simp only [nl,if_neg (of_eq_true hz)]
  have kc0:K (c0 y0 x0):=by unfold K;omega
  have vc0:U (c0 y0 x0):=by unfold U;omega
  rw [<- hW]
  exact jG ((hs _).call (aYz jM x0 xs y0 y1 y2 ys) (aA (by simp only [aO,gE,fC,iJ,hU,u0,u1,u2,hz,hn,K0,kc0,vc0,Dn,and_true,true_and]))) rfl ⟨⟨rfl,fun _=>rfl⟩,⟨rfl,fun _=>rfl⟩,trivial⟩
 .have Dn:(uh (y1+c0 y0 x0+0)==0)=false:=by simpa using Dn
  have hm:(y2 != 18446744073709551615)=true:=by rw [Ab];decide
  have h1:uh (y1+c0 y0 x0+0)≠0:=by simpa using Dn
  have h1:y1+c0 y0 x0=18446744073709551616:=by unfold uh at h1;omega
  have u0:U (g0 y0 x0):=by exact dL _
  have u1:U (ul (y1+c0 y0 x0+0)):=by exact dL _
  have u2:U (IntKind.u64.wrap (y2+1)):=by rw [bP];exact dL _
  have hW:n3 (g0 y0 x0) (ul (y1+c0 y0 x0+0)) (IntKind.u64.wrap (y2+1))=x0+n3 y0 y1 y2:=by unfold n3 g0;rw [bP];unfold ul;omega
  have hz:(IntKind.u64.wrap (y2+1)≠0)=True:=eq_true (by intro e;rw [e] at hW;have:=u0.2;have:=u1.2;unfold n3 at hW;omega)
  have hn:nl [g0 y0 x0,ul (y1+c0 y0 x0+0),IntKind.u64.wrap (y2+1),0]=3:=by rw [nl4];simp only [nl,if_neg (of_eq_true hz)]
  have kc0:K (c0 y0 x0):=by unfold K;omega
  have vc0:U (c0 y0 x0):=by unfold U;omega
  rw [<- hW]
  exact jG ((hs _).call (aQw jM x0 xs y0 y1 y2 ys) (aA (by simp only [aO,gE,fC,iJ,hU,u0,u1,u2,hz,hn,K0,kc0,vc0,Dn,hm,and_true,true_and]))) rfl ⟨⟨rfl,fun _=>rfl⟩,⟨rfl,fun _=>rfl⟩,trivial⟩
open M in
theorem JG {ca:Nat} (jM:ca=6\/ca=7\/ca=8\/ca=9) (xs ys:List SV) {x0 x1 y0 y1 y2:Int} (gE:U x0) (gL:U x1) (hN:(x0+18446744073709551616*x1)<aZ) (fC:U y0) (iJ:U y1) (Ab:y2=1):aD Tryz.prog Γv 68 iY (fun l=>look l (sC (.aI 64 false 0 2 ca) (.aI 65 true 0 3 7) (ww x0 (ww x1 xs)) (ww y0 (ww y1 (ww y2 ys))))) 100 100
 { val:=.ptr 100 true 0,new:=rB (((x0+18446744073709551616*x1)+n3 y0 y1 y2)%aZ) 8,wr:=mP (.aI 64 false 0 2 ca) (.aI 65 true 0 3 7) (ww y0 (ww y1 (ww y2 ys))) }:=by
 have hs:∀ h,aH Tryz.prog (env (yY h) 22) 68 (aR (env (yY h) 22) Tryz.f68 true [] 400):=fun h=>aY (bH _ 22) (bJ _ (uE h) 22) mix Tryz.func68 (by kernel_rfl) true [] 400
 have hU:U y2:=by unfold U;omega
 have:=gE.1;have:=gE.2;have:=gL.1;have:=gL.2;have:=fC.1;have:=fC.2;have:=iJ.1;have:=iJ.2
 have AU:(x0+18446744073709551616*x1)<1361129467683753853853498429727072845819:=hN
 skip
 have ec0:c0 y0 x0=(y0+x0)/18446744073709551616:=by unfold c0 uh;omega
 have ec1:c1 y0 y1 x0 x1=(y1+x1+c0 y0 x0)/18446744073709551616:=by unfold c1 uh;omega
 have Dn:(uh (y2+c1 y0 y1 x0 x1+0)==0)=true:=by rw [Ab];simp only [beq_iff_eq];unfold uh;omega
 have u0:U (g0 y0 x0):=by exact dL _
 have u1:U (g1 y0 y1 x0 x1):=by exact dL _
 have u2:U (ul (y2+c1 y0 y1 x0 x1+0)):=by exact dL _
 have hW:n3 (g0 y0 x0) (g1 y0 y1 x0 x1) (ul (y2+c1 y0 y1 x0 x1+0))=(x0+18446744073709551616*x1)+n3 y0 y1 y2:=by unfold n3 g0 g1;unfold ul;omega
 have hz:(ul (y2+c1 y0 y1 x0 x1+0)≠0)=True:=eq_true (by intro e;rw [e] at hW;have:=u0.2;have:=u1.2;unfold n3 at hW;omega)
 have hn:nl [g0 y0 x0,g1 y0 y1 x0 x1,ul (y2+c1 y0 y1 x0 x1+0),0]=3:=by rw [nl4];simp only [nl,if_neg (of_eq_true hz)]
 have kc0:K (c0 y0 x0):=by unfold K;omega
 have vc0:U (c0 y0 x0):=by unfold U;omega
 have kc1:K (c1 y0 y1 x0 x1):=by unfold K;omega
 have vc1:U (c1 y0 y1 x0 x1):=by unfold U;omega
 rw [<- hW]
 exact jG ((hs _).call (aYy jM x0 x1 xs y0 y1 y2 ys) (aA (by simp only [aO,gE,gL,fC,iJ,hU,u0,u1,u2,hz,hn,K0,kc0,kc1,vc0,vc1,Dn,and_true,true_and]))) rfl ⟨⟨rfl,fun _=>rfl⟩,⟨rfl,fun _=>rfl⟩,trivial⟩
open M in
theorem JF {ca:Nat} (jM:ca=6\/ca=7\/ca=8\/ca=9) (xs ys:List SV) {x0 x1 x2 y0 y1 y2:Int} (gE:U x0) (gL:U x1) (oV:U x2) (hN:n3 x0 x1 x2<aZ) (fC:U y0) (iJ:U y1) (Ab:y2=1):aD Tryz.prog Γv 68 iY (fun l=>look l (sC (.aI 64 false 0 3 ca) (.aI 65 true 0 3 7) (ww x0 (ww x1 (ww x2 xs))) (ww y0 (ww y1 (ww y2 ys))))) 100 100
 { val:=.ptr 100 true 0,new:=rB ((n3 x0 x1 x2+n3 y0 y1 y2)%aZ) 8,wr:=mP (.aI 64 false 0 3 ca) (.aI 65 true 0 3 7) (ww y0 (ww y1 (ww y2 ys))) }:=by
 have hs:∀ h,aH Tryz.prog (env (yY h) 22) 68 (aR (env (yY h) 22) Tryz.f68 true [] 400):=fun h=>aY (bH _ 22) (bJ _ (uE h) 22) mix Tryz.func68 (by kernel_rfl) true [] 400
 have hU:U y2:=by unfold U;omega
 have:=gE.1;have:=gE.2;have:=gL.1;have:=gL.2;have:=oV.1;have:=oV.2;have:=fC.1;have:=fC.2;have:=iJ.1;have:=iJ.2
 have AU:n3 x0 x1 x2<1361129467683753853853498429727072845819:=hN
 unfold n3 at AU
 have ec0:c0 x0 y0=(x0+y0)/18446744073709551616:=by unfold c0 uh;omega
 have ec1:c1 x0 x1 y0 y1=(x1+y1+c0 x0 y0)/18446744073709551616:=by unfold c1 uh;omega
 have ec2:c2 x0 x1 x2 y0 y1 y2=(x2+y2+c1 x0 x1 y0 y1)/18446744073709551616:=by unfold c2 uh;omega
 have Dn:c2 x0 x1 x2 y0 y1 y2=0:=by omega
 have u0:U (g0 x0 y0):=by exact dL _
 have u1:U (g1 x0 x1 y0 y1):=by exact dL _
 have u2:U (g2 x0 x1 x2 y0 y1 y2):=by exact dL _
 have hW:n3 (g0 x0 y0) (g1 x0 x1 y0 y1) (g2 x0 x1 x2 y0 y1 y2)=n3 x0 x1 x2+n3 y0 y1 y2:=by unfold n3 g0 g1 g2;unfold ul;omega
 have hz:(g2 x0 x1 x2 y0 y1 y2≠0)=True:=eq_true (by intro e;rw [e] at hW;have:=u0.2;have:=u1.2;unfold n3 at hW;omega)
 have hn:nl [g0 x0 y0,g1 x0 x1 y0 y1,g2 x0 x1 x2 y0 y1 y2,0]=3:=by rw [nl4];simp only [nl,if_neg (of_eq_true hz)]
 have kc0:K (c0 x0 y0):=by unfold K;omega
 have vc0:U (c0 x0 y0):=by unfold U;omega
 have kc1:K (c1 x0 x1 y0 y1):=by unfold K;omega
 have vc1:U (c1 x0 x1 y0 y1):=by unfold U;omega
 rw [<- hW]
 exact jG ((hs _).call (aYx jM x0 x1 x2 xs y0 y1 y2 ys) (aA (by simp only [aO,gE,gL,oV,fC,iJ,hU,u0,u1,u2,hz,hn,K0,kc0,kc1,vc0,vc1,Dn,and_true,true_and]))) rfl ⟨⟨rfl,fun _=>rfl⟩,⟨rfl,fun _=>rfl⟩,trivial⟩
end Go.Proofs.YtaibhjpgbckbkaaGreatDoor.Sx
