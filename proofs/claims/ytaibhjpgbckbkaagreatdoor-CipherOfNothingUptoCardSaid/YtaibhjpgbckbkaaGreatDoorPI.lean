/- A part of the proof of CipherOfNothing: DoD to Lw14. -/
import Derived.Test.YtaibhjpgbckbkaaGreatDoorPH
import Derived.ProofKit
import Derived.OpenShut
open Go
set_option maxRecDepth 100000
namespace Go.Proofs.YtaibhjpgbckbkaaGreatDoor.Sx
theorem aSa (key aX:List Int) (has aW:Bool) (non aV:Int) (ad bs:List Int) (lg dY:Nat) (kind:Int) (xk:List Int) (num:Int) (la lb:Nat) (n n' m':Int) (aw bw want:List Int) :
 (cL 100 Tryz.f8.ntmps (aC 100 (dT key has non ad bs lg)) [.Jw 12] (qD (.raw .nilIface) (0) (.dX 105 lb) la lb n' m') (gN aX aW aV 106 (pP kind xk num la lb n) aw bw (.dK .u8 bs) (.gone)++[(106,.bO 2 dY 165)]) 107 [60,65] [] (dMr [(17,[true,true,true,true])] (dT key has non ad bs lg) 49 (.go (codeOf Tryz.f8)) [] ((gU (pQ key has non kind xk num la lb n) 100).hint [false,false,false,false,true]))) =
 sh (0:Int) fun z0=>
 sh (M.Js key) fun z1=>
 some (.go gO,[],[z1.length=(32:Nat),M.NN (List.take (34:Nat) (List.take (35:Nat) (List.drop (0:Nat) ([SV.int false IntKind.u8 (key.getD 0 z0),SV.int false IntKind.u8 (key.getD 1 z0),SV.int false IntKind.u8 (key.getD 2 z0),SV.int false IntKind.u8 (key.getD 3 z0),SV.int false IntKind.u8 (key.getD 4 z0),SV.int false IntKind.u8 (key.getD 5 z0),SV.int false IntKind.u8 (key.getD 6 z0),SV.int false IntKind.u8 (key.getD 7 z0),SV.int false IntKind.u8 (key.getD 8 z0),SV.int false IntKind.u8 (key.getD 9 z0),SV.int false IntKind.u8 (key.getD 10 z0),SV.int false IntKind.u8 (key.getD 11 z0),SV.int false IntKind.u8 (key.getD 12 z0),SV.int false IntKind.u8 (key.getD 13 z0),SV.int false IntKind.u8 (key.getD 14 z0),SV.int false IntKind.u8 (key.getD 15 z0),SV.int false IntKind.u8 (key.getD 16 z0),SV.int false IntKind.u8 (key.getD 17 z0),SV.int false IntKind.u8 (key.getD 18 z0),SV.int false IntKind.u8 (key.getD 19 z0),SV.int false IntKind.u8 (key.getD 20 z0),SV.int false IntKind.u8 (key.getD 21 z0),SV.int false IntKind.u8 (key.getD 22 z0),SV.int false IntKind.u8 (key.getD 23 z0),SV.int false IntKind.u8 (key.getD 24 z0),SV.int false IntKind.u8 (key.getD 25 z0),SV.int false IntKind.u8 (key.getD 26 z0),SV.int false IntKind.u8 (key.getD 27 z0),SV.int false IntKind.u8 (key.getD 28 z0),SV.int false IntKind.u8 (key.getD 29 z0),SV.int false IntKind.u8 (key.getD 30 z0),SV.int false IntKind.u8 (key.getD 31 z0)]++[SV.bool false has,SV.int false IntKind.u64 non,SV.buf (65:Nat)])))++[SV.buf (65:Nat)]) z1 has non,has=true,bG z1,lg<=(8000000000000:Nat)]++(M.gV key key++([has=has,non=non,lg=lg,z1.length=(32:Nat),M.NO (SV.int false IntKind.u64 non::([SV.int true IntKind.i64 z0,SV.raw Value.nilFunc,SV.raw Value.nilFunc,SV.raw Value.nilFunc,SV.raw Value.nilFunc,SV.raw Value.nilFunc,SV.raw Value.nilFunc]++([SV.int false IntKind.u8 (key.getD 0 z0),SV.int false IntKind.u8 (key.getD 1 z0),SV.int false IntKind.u8 (key.getD 2 z0),SV.int false IntKind.u8 (key.getD 3 z0),SV.int false IntKind.u8 (key.getD 4 z0),SV.int false IntKind.u8 (key.getD 5 z0),SV.int false IntKind.u8 (key.getD 6 z0),SV.int false IntKind.u8 (key.getD 7 z0),SV.int false IntKind.u8 (key.getD 8 z0),SV.int false IntKind.u8 (key.getD 9 z0),SV.int false IntKind.u8 (key.getD 10 z0),SV.int false IntKind.u8 (key.getD 11 z0),SV.int false IntKind.u8 (key.getD 12 z0),SV.int false IntKind.u8 (key.getD 13 z0),SV.int false IntKind.u8 (key.getD 14 z0),SV.int false IntKind.u8 (key.getD 15 z0),SV.int false IntKind.u8 (key.getD 16 z0),SV.int false IntKind.u8 (key.getD 17 z0),SV.int false IntKind.u8 (key.getD 18 z0),SV.int false IntKind.u8 (key.getD 19 z0),SV.int false IntKind.u8 (key.getD 20 z0),SV.int false IntKind.u8 (key.getD 21 z0),SV.int false IntKind.u8 (key.getD 22 z0),SV.int false IntKind.u8 (key.getD 23 z0),SV.int false IntKind.u8 (key.getD 24 z0),SV.int false IntKind.u8 (key.getD 25 z0),SV.int false IntKind.u8 (key.getD 26 z0),SV.int false IntKind.u8 (key.getD 27 z0),SV.int false IntKind.u8 (key.getD 28 z0),SV.int false IntKind.u8 (key.getD 29 z0),SV.int false IntKind.u8 (key.getD 30 z0),SV.int false IntKind.u8 (key.getD 31 z0)]++[SV.bool false has]))) non z1 has,has=true,non=non]++(M.gV key key++([has=has,(kind==(5:Int))=true,(kind==(4:Int))=false,(kind==(3:Int))=false,(kind==(2:Int))=false,(kind==(1:Int))=false]++(M.Eo la lb ad bs++([lb=lb,z0=n',z0=m',non=aV]++(M.gV (M.rk z1) aX++([true=aW]++(M.gV (M.rk z1) aX++([true=aW,non=aV,kind=kind]++(M.gV xk xk++([num=num,la=la,lb=lb,n=n,M.lX la ad=aw/\(5:Nat)=(5:TypeId),M.lX lb bs=bw/\(5:Nat)=(5:TypeId),bs=bs,lg+(46:Nat)=dY]))))))))))))):=by kernel_rfl
theorem aRz (key aX:List Int) (has aW:Bool) (non aV:Int) (ad bs:List Int) (lg dY:Nat) (kind:Int) (xk:List Int) (num:Int) (la lb:Nat) (n n' m':Int) (aw bw want:List Int):fA (ΓR [(17,[true,true,true,true])]) (dT key has non ad bs lg) 100 100 Tryz.f8 [] (dMr [(17,[true,true,true,true])] (dT key has non ad bs lg) 400 (.go gO) [] ((aN (qD (.raw .nilIface) (0) (.dX 105 lb) la lb n' m') (gN aX aW aV 106 (pP kind xk num la lb n) aw bw (.dK .u8 bs) (.gone)++[(106,.bO 2 dY 165)]) 107 [60,65] []).hint [true,true]))=some (mX aX aW aV dY la lb ad aw bw bs n' m'):=by kernel_rfl
set_option maxHeartbeats 1000000 in
theorem bAu {key ad bs xk:List Int} {has:Bool} {non num kind n:Int} {lg:Nat} (cX:ad.length<=200000) (dH:bs.length<=200000) (h1:kind=5) (hh:has=true) (hk:key.length=32) (Gr:bG key) (NU:lg<=7900000000000) :
 aD Tryz.prog (ΓR [(17,[true,true,true,true])]) 8 (pQ key has non kind xk num ad.length bs.length n) (dT key has non ad bs lg) 100 100 (Dg (M.rk key) true (non) (lg+46)):=by
 refine bU (FW [(17,[true,true,true,true])]) (FX [(17,[true,true,true,true])]) Tryz.func8 (by kernel_rfl) rfl (Nat.le_of_ble_eq_true (by kernel_rfl)) rfl [] ?_
 intro w0 Mx V0 Q bQ H
 have aM:=FW [(17,[true,true,true,true])]
 have aE:=FX [(17,[true,true,true,true])]
 have Ad:=M.nZ hk
 refine G.cL aM aE mix bQ [false,false,false,false,true] (aSa key (M.rk key) has (true) non (non) ad bs lg (lg+46) kind xk num ad.length bs.length n (0) (0) (ad++M.t3) ((bs)++M.t3) (bs)) ?_ ?_
 .simp only [Nat.sub_zero,Nat.zero_add,Nat.add_zero,Nat.mul_one,List.drop_zero,List.take_zero,List.nil_append,Int.toNat_natCast,M.cW cX,M.cW dH,M.oX cX,M.oX dH,List.length_replicate,Ad]
  repeat' (first | exact M.fJ rfl | exact M.gH cX dH | refine M.nM ?_ ?_)
  all_goals refine aA ?_
  all_goals simp only [aO]
  all_goals repeat' apply And.intro
  all_goals first | (with_reducible exact hh.symm) | (with_reducible exact congrArg _ hh) | (unfold M.NN;rfl) | (unfold M.NO;rfl) | omega | (with_reducible assumption) | (with_reducible exact True.intro) | ((with_reducible refine decide_eq_true ?_);omega) | ((with_reducible refine decide_eq_false ?_);omega) | ((with_reducible refine iC ?_);omega) | ((with_reducible refine jR ?_);omega) | ((with_reducible refine pX ?_);omega) | ((with_reducible refine pW ?_);omega) | (with_reducible exact pZ hh) | (with_reducible exact pY hh) | with_reducible rfl | (simp only [decide_eq_false_iff_not,decide_eq_true_eq,Bool.not_eq_false',Bool.not_eq_true'];omega) | skip
 refine G.eX (cl:=[]) aM aE mix [true,true] H (aRz key (M.rk key) has (true) non (non) ad bs lg (lg+46) kind xk num ad.length bs.length n (0) (0) (ad++M.t3) ((bs)++M.t3) (bs)) (aA ?_) rfl rfl rfl
 exact gY cX dH rfl
def Im (vs:List SV) (T:bA) (lg:Nat):Prop:=∃ (aX:List Int) (aW:Bool) (aV:Int) (dY:Nat),aX.length=32/\bG aX/\M.tR aV/\dY<=lg+10000000100/\aD Tryz.prog (ΓD true []) 8 vs T 100 100 (dE aX aW aV dY)
theorem Im.of {Γ:Env} {vs:List SV} {T:bA} {lg:Nat} {aX:List Int} {aW:Bool} {aV:Int} {dY:Nat} (hg:Γ.aU=aB) (h:aD Tryz.prog Γ 8 vs T 100 100 (Dg aX aW aV dY)) (h1:aX.length=32) (h2:bG aX) (h3:M.tR aV) (h4:dY<=lg+10000000100):Im vs T lg:=
 ⟨aX,aW,aV,dY,h1,h2,h3,h4,h.dE (by rw [hg];rfl)⟩
theorem kG (b:Bool) (hs:List (Nat × List Bool)):(ΓD b hs).aU=aB:=rfl
theorem aMu (hs:List (Nat × List Bool)):(ΓR hs).aU=aB:=rfl
theorem Uy {key ad bs xk:List Int} {has:Bool} {non num kind n:Int} {lg:Nat} (hk:key.length=32) (Gr:bG key) (vU:M.tR non) (Vo:bG ad) (pT:bG bs) (hx:xk.length=32) (hxb:bG xk) (BR:M.tR num) (cX:ad.length<=200000) (dH:bs.length<=200000) (NU:lg<=7900000000000) :
 Im (pQ key has non kind xk num ad.length bs.length n) (dT key has non ad bs lg) lg:=by
 have hN:=vU
 obtain ⟨hN0,hN1⟩:=hN
 have same:∀ {Γ:Env} {vs:List SV} {T:bA},Γ.aU=aB->aD Tryz.prog Γ 8 vs T 100 100 (Dg key has non lg)->Im vs T lg:=fun hg h=>.of hg h hk Gr vU (by omega)
 by_cases k1:kind=1
 .exact .of (kG _ _) (bBe (has:=has) (non:=non) (num:=num) (n:=n) cX dH k1) hx hxb ⟨by decide,by decide⟩ (by omega)
 by_cases k2:kind=2
 .exact .of (kG _ _) (bBd (num:=num) (n:=n) cX dH k2) hk Gr BR (by omega)
 by_cases k3:kind=3
 .by_cases n0:n<0
  .exact same (kG _ _) (bAt cX dH k3 n0)
  by_cases n1:(bs.length:Int)<n
  .exact same (kG _ _) (bAs cX dH k3 (by omega) n1)
  obtain ⟨m,rfl⟩:∃ m:Nat,n=(m:Int):=⟨n.toNat,by omega⟩
  have hm:m<=bs.length:=by omega
  cases has with
  | false=>exact same (kG _ _) (bAr cX dH k3 rfl hm)
  | true=>
    by_cases m2:bs.length<m+16
    .exact same (kG _ _) (bAq cX dH k3 rfl m2 hm)
    by_cases hl:non=18446744073709551615
    .exact same (kG _ _) (bAp cX dH k3 rfl (by omega) hl hm)
    .have:=M.Ig (a:=ad.length) (n:=m) (by omega) (by omega)
     exact .of (kG _ _) (bAo cX dH k3 rfl (by omega) hl hm hk Gr vU Vo pT NU) hk Gr ⟨by omega,by omega⟩ (by omega)
 by_cases k4:kind=4
 .by_cases n0:n<0
  .exact same (kG _ _) (bBc cX dH k4 n0)
  by_cases n1:(bs.length:Int)<n
  .exact same (kG _ _) (bBb cX dH k4 (by omega) n1)
  obtain ⟨m,rfl⟩:∃ m:Nat,n=(m:Int):=⟨n.toNat,by omega⟩
  have hm:m<=bs.length:=by omega
  cases has with
  | false=>exact same (kG _ _) (bBa cX dH k4 rfl hm)
  | true=>
    by_cases m2:m<16
    .exact same (kG _ _) (bAz cX dH k4 rfl m2 hm)
    by_cases hl:non=18446744073709551615
    .exact same (kG _ _) (bAy cX dH k4 rfl (by omega) hl hm)
    .obtain ⟨j,rfl⟩:∃ j,m=j+16:=⟨m-16,by omega⟩
     have ht:=M.qQ (a:=ad.length) (n:=j) true (by omega) (by omega)
     have hf:=M.qQ (a:=ad.length) (n:=j) false (by omega) (by omega)
     cases hd:decide (M.gI key non ad (bs.take j)=(bs.drop j).take 16) with
     | true=>exact .of (kG _ _) (bAw cX dH k4 rfl (by omega) hl hk Gr vU Vo pT NU hd) hk Gr ⟨by omega,by omega⟩ (by omega)
     | false=>exact .of (kG _ _) (bAx cX dH k4 rfl (by omega) hl hk Gr vU Vo pT NU hd) hk Gr vU (by omega)
 by_cases k5:kind=5
 .cases has with
  | false=>exact same (kG _ _) (bAv cX dH k5 rfl)
  | true=>exact .of (aMu _) (bAu (num:=num) (n:=n) cX dH k5 rfl hk Gr NU) (M.Xc _) (M.aGd _) vU (by omega)
 exact same (kG _ _) (bBf cX dH k1 k2 k3 k4 k5)
def BH:List SV:=[.int true .i64 2,.fn (.func 45) [] [],.fn (.func 46) [] [],.fn (.func 47) [] [],.fn (.func 48) [] [],.fn (.func 49) [] [],.fn (.func 50) [] []]
theorem aWa (key:List Int) (N:Int) :
 aR (env Vr 22) Tryz.f56 true [] 400 [.agg BH,.ai .u8 key,.int false .u64 N] (fun l=>look l wE) 100 100 =
 sh (M.once key N) fun z0=>
 sh (0:Int) fun z1=>
 some {bV:=[z0.length=32,z0.length=32,z0.length=32,key.length=32,(M.nonce N).length=12,32<=32,32<=4611686018427387904,z1<=0/\z1<=4294967295,key=key,z1=0,M.nonce N=M.nonce N,0=0,32=32,32=32,List.replicate 32 z1=List.replicate 32 0/\(38:TypeId)=38,(M.nonce N).length=12,key.length=32,N=N,key.length=32],val:=.ai .u8 z0}:=by kernel_rfl
theorem UF {key:List Int} (hk:key.length=32) (N:Int):aD Tryz.prog (env Vr 22) 56 [.agg BH,.ai .u8 key,.int false .u64 N] (fun l=>look l wE) 100 100 { val:=.ai .u8 (M.once key N) }:=
 ((aY (bH Vr 22) (bJ Vr Ib 22) mix Tryz.func56 (by kernel_rfl) true [] 400:aH Tryz.prog (env Vr 22) 56 _).call (aWa key N) (aA ⟨M.dW _ _,M.dW _ _,M.dW _ _,hk,rfl,by omega,by omega,by omega,rfl,rfl,rfl,rfl,rfl,rfl,⟨rfl,rfl⟩,rfl,hk,rfl,hk,trivial⟩)).re rfl (fun _=>rfl) trivial trivial
def DH (vs:List SV) (_:bA):Option Canon:=match vs with
 | [.agg (.int true .i64 2::_),ks,.int _ .u64 N]=>match cY ks with
   | some (.u8,k)=>some { eR:=[.agg BH,.ai .u8 k,.int false .u64 N],T0:=wE,vl:=[],e0:={ val:=.ai .u8 (M.once k N) },conds:=[k.length=32] }
   | _=>none
 | _=>none
theorem aOj (Γ:Env) (hg:Γ.aU=aB):aH Tryz.prog Γ 56 (aK aB 100 DH):=by
 refine aT hg fun vs T c hd hc=>?_
 unfold DH at hd
 split at hd
 case h_2=>cases hd
 split at hd
 case h_2=>cases hd
 cases hd
 exact (UF (hc _ (by simp)) _).words (by rw [hg];rfl) (fun _=>rfl) (fun _ _ h=>h) (fun _=>rfl) rfl rfl
noncomputable def aMj:Nat->Option Sum:=eE (eE (eE (eE Vr 56 (aK aB 100 DH)) 48 (aK aB 100 Sl)) 87 (aK aB 100 Ss)) 88 (aK aB 100 Sz)
theorem XI:∀ f S,aMj f=some S->∀ Γ:Env,Γ.aU=aB->aH Tryz.prog Γ f S:=bI (bI (bI (bI Ib 56 _ aOj) 48 _ GL) 87 _ aBa) 88 _ aBr
noncomputable def ΓQ:Env:=env aMj 22
def aCa (key:List Int) (N:Int) (la lb cb:Nat) (n:Int):List SV:=[.agg BH,.ai .u8 key,.int false .u64 N,.dX 63 la,.aI 62 false 0 lb cb,.int false .i64 n]
noncomputable def spM (ad bs:List Int) (t:TypeId) (k:Nat) (cf:Cf) (K:List Fr) (s:St):Option jA:=cA ΓQ (aC 100 (Oa ad bs t)) 100 Tryz.f32.ntmps [] 400 k cf K s
def aKp (la lb cb n:Nat):List (Nat × SV):=[(3,.dX 63 la),(4,.aI 62 false 0 lb cb),(5,.int false .i64 (n:Int)),(6,.ptr 100 true 0),(14,.aI 62 false 0 n n),(15,.ptr 101 true 0)]
def aKr (cs ok:List Int) (t:TypeId):List (Nat × SB):=[(62,.ints .u8 cs t),(100,.own BH 36),(101,.ints .u8 ok 38)]
def aKo (lb cb n:Nat):List (Nat × SV):=[(4,.aI 62 false 0 lb cb),(5,.int false .i64 (n:Int)),(16,.ptr 100 true 0)]
def aKq (cs tg:List Int) (t:TypeId):List (Nat × SB):=[(62,.ints .u8 cs t),(100,.ints .u8 tg 105)]
theorem aUk (key ad bs cs ok:List Int) (N:Int) (la lb cb n:Nat) (t:TypeId) :
 (cL 100 Tryz.f32.ntmps (aC 100 (Oa ad bs t)) [] (aKp la lb cb n) (aKr cs ok t) 102 [62] [] (spM ad bs t 25 (.go (codeOf Tryz.f32)) [] ((gU (aCa key N la lb cb (n:Int)) 100).hint [false,false,false]))) =
 sh (↑n:Int) fun z0=>
 sh (0:Nat) fun z1=>
 sh (0:Int) fun z2=>
 sh (32:Nat) fun z3=>
 sh (1:Int) fun z4=>
 some (.go (iN 5 (codeOf Tryz.f32)),[],[key.length=z3,(M.nonce N).length=(12:Nat),z1+(z0.toNat-z1)<=bs.length,z0.toNat-z1<=(4611686018427387904:Nat),z2<=z4/\z4<=(4294967295:Int),key=key,z4=z4,M.nonce N=M.nonce N,z1=z1+z1,z0.toNat-z1=z0.toNat-z1,z0.toNat-z1=z0.toNat-z1,bs=bs/\t=t,(M.nonce N).length=(12:Nat),key.length=z3,N=N,key.length=z3,(M.once key N).length=z3,key.length=z3,key=key,N=N,key.length=z3,z2<=z0/\z0<=(↑cb:Int)/\z2<=z0/\z0<=z0/\z2<=z2/\z2<=z0,decide (IntKind.i64.wrap ((↑lb:Int)-z0)<(16:Int))=false,decide (z0>(↑lb:Int))=false,decide (z0<z2)=false,la=la,z1=z1,lb=lb,cb=cb,z0=z0,z1=z1,z0.toNat-z1=n,z0.toNat-z1=n,cP key (M.nonce N) 1 0 n bs=cs/\t=t,M.once key N=ok/\(38:Nat)=(38:TypeId)]):=by kernel_rfl
theorem aUj (ad bs cs ok tg:List Int) (la lb cb n:Nat) (t:TypeId) :
 (cL 100 Tryz.f32.ntmps (aC 100 (Oa ad bs t)) [] (aKo lb cb n) (aKq cs tg t) 101 [62] [] (spM ad bs t 3 (.go (iN 5 (codeOf Tryz.f32))) [] ((aN (aKp la lb cb n) (aKr cs ok t) 102 [62] []).hint []))) =
 sh (0:Nat) fun z5=>
 sh (↑la:Int) fun z3=>
 sh (IntKind.u64.wrap z3) fun z1=>
 sh (1:Nat) fun cH=>
 sh (2:Nat) fun cO=>
 sh (3:Nat) fun dJ=>
 sh (4:Nat) fun eG=>
 sh (5:Nat) fun fE=>
 sh (6:Nat) fun iI=>
 sh (7:Nat) fun eT=>
 sh (↑n:Int) fun z4=>
 sh (IntKind.u64.wrap z4) fun z2=>
 sh (List.drop z5 [M.le z1 z5,M.le z1 cH,M.le z1 cO,M.le z1 dJ,M.le z1 eG,M.le z1 fE,M.le z1 iI,M.le z1 eT,M.le z2 z5,M.le z2 cH,M.le z2 cO,M.le z2 dJ,M.le z2 eG,M.le z2 fE,M.le z2 iI,M.le z2 eT]) fun z0=>
 sh (M.Af ad la (List.take n (List.drop 0 cs)) n) fun z6=>
 sh (M.bS z3) fun jL=>
 sh (0:Int) fun oH=>
 sh (List.replicate jL oH) fun z7=>
 sh (M.bS z4) fun oC=>
 sh (List.replicate oC oH) fun z8=>
 sh (16:Nat) fun z9=>
 sh (List.drop z5 z7) fun kR=>
 sh (List.drop z5 cs) fun lW=>
 sh (List.drop z5 z8) fun kQ=>
 sh (M.tag ok z6) fun qE=>
 some (.go (iN 6 (codeOf Tryz.f32)),[],[qE.length=z9,qE.length=z9,qE.length=z9,ok.length=(32:Nat),bG ok,bG z6,z6.length<=(1073741824:Nat),z6.length%z9=z5,z5+M.bS z3<=z7.length/\M.bS z3<=M.bS z3,z5+n<=cs.length/\n<=n,z5+M.bS z4<=z8.length/\M.bS z4<=M.bS z4,z9<=[M.le z1 z5,M.le z1 cH,M.le z1 cO,M.le z1 dJ,M.le z1 eG,M.le z1 fE,M.le z1 iI,M.le z1 eT,M.le z2 z5,M.le z2 cH,M.le z2 cO,M.le z2 dJ,M.le z2 eG,M.le z2 fE,M.le z2 iI,M.le z2 eT].length/\z5<=z5,ok=ok,la=la,ad.length=ad.length,z5=z5,M.bS z3=M.bS z3,M.bS z3=M.bS z3,z5+M.bS z3<=z7.length/\M.bS z3<=M.bS z3,(List.take jL kR).length=(List.take jL kR).length,z5=z5,n=n,n=n,z5+n<=cs.length/\n<=n,(List.take n lW).length=(List.take n lW).length,z5=z5,M.bS z4=M.bS z4,M.bS z4=M.bS z4,z5+M.bS z4<=z8.length/\M.bS z4<=M.bS z4,(List.take oC kQ).length=(List.take oC kQ).length,z9=z9,z9<=[M.le z1 z5,M.le z1 cH,M.le z1 cO,M.le z1 dJ,M.le z1 eG,M.le z1 fE,M.le z1 iI,M.le z1 eT,M.le z2 z5,M.le z2 cH,M.le z2 cO,M.le z2 dJ,M.le z2 eG,M.le z2 fE,M.le z2 iI,M.le z2 eT].length/\z5<=z5,(List.take z9 z0).length=(List.take z9 z0).length,ad=ad,List.take jL kR=List.take jL kR,z5+M.bS z3<=z7.length/\M.bS z3<=M.bS z3,List.take n lW=List.take n lW,z5+n<=cs.length/\n<=n,List.take oC kQ=List.take oC kQ,z5+M.bS z4<=z8.length/\M.bS z4<=M.bS z4,List.take z9 z0=List.take z9 z0,z9<=[M.le z1 z5,M.le z1 cH,M.le z1 cO,M.le z1 dJ,M.le z1 eG,M.le z1 fE,M.le z1 iI,M.le z1 eT,M.le z2 z5,M.le z2 cH,M.le z2 cO,M.le z2 dJ,M.le z2 eG,M.le z2 fE,M.le z2 iI,M.le z2 eT].length/\z5<=z5,ok.length=(32:Nat),oH<=z4/\z4<=(1073741824:Int),z4=z4,oH<=z3/\z3<=(1073741824:Int),z3=z3,IntKind.u64.wrap z4=IntKind.u64.wrap z4,IntKind.u64.wrap z3=IntKind.u64.wrap z3,ok.length=(32:Nat),z5=z5,lb=lb,cb=cb,z4=z4,cs=cs/\t=t,M.tag ok z6=tg/\(105:Nat)=(105:TypeId)]):=by kernel_rfl
theorem aUi (ad bs cs tg:List Int) (lb cb n:Nat) (t:TypeId) :
 fA ΓQ (Oa ad bs t) 100 100 Tryz.f32 [] (spM ad bs t 400 (.go (iN 6 (codeOf Tryz.f32))) [] ((aN (aKo lb cb n) (aKq cs tg t) 101 [62] []).hint [])) =
 sh (↑n:Int) fun z2=>
 sh (z2+(16:Int)) fun z0=>
 sh (0:Nat) fun z3=>
 sh (List.take (16:Nat) (List.drop z3 tg)) fun z1=>
 sh (IntKind.i64.wrap z0) fun z4=>
 some {bV:=[z1.length<=z4.toNat-z2.toNat/\(if IntKind.i64.wrap z0=z2 then z3 else z3+z2.toNat*(1:Nat))+z1.length<=cs.length,(16:Nat)<=tg.length,(0:Int)<=IntKind.i64.wrap z0/\IntKind.i64.wrap z0<=(↑cb:Int)/\(0:Int)<=IntKind.i64.wrap z0/\IntKind.i64.wrap z0<=IntKind.i64.wrap z0/\(0:Int)<=z2/\z2<=IntKind.i64.wrap z0],val:=SV.eD [SV.int false IntKind.i64 z4,SV.raw Value.nilIface],wr:=[(62,SB.ints IntKind.u8 (List.take (if IntKind.i64.wrap z0=z2 then z3 else z3+z2.toNat*(1:Nat)) cs++List.take (16:Nat) (List.drop z3 tg)++List.drop ((if IntKind.i64.wrap z0=z2 then z3 else z3+z2.toNat*(1:Nat))+z1.length) cs) t)]}:=by kernel_rfl
theorem FY:cG Tryz.prog ΓQ:=bH _ 22
theorem FZ:bX Tryz.prog ΓQ:=bJ _ XI 22
theorem RO {key ad bs:List Int} {N:Int} {lb cb n:Nat} {t:TypeId} (hk:key.length=32) (ha:bG ad) (AS:bG bs) (cX:ad.length<=500000000) (hn:n+16<=lb) (hl:lb<=cb) (hb:lb<=bs.length) (PH:cb<=500000000) :
 aD Tryz.prog ΓQ 32 (aCa key N ad.length lb cb n) (Oa ad bs t) 100 100 (seE key N ad bs n t):=by
 refine bU FY FZ Tryz.func32 (by kernel_rfl) rfl (Nat.le_of_ble_eq_true (by kernel_rfl)) rfl [] ?_
 intro w0 Mx V0 Q bQ H
 have aM:=FY
 have aE:=FZ
 have w1:IntKind.i64.wrap ((lb:Int)-(n:Int))=(lb:Int)-n:=IntWalk.i64_in _ ⟨by omega,by omega⟩
 have w2:IntKind.i64.wrap ((n:Int)+16)=((n+16:Nat):Int):=by rw [IntWalk.i64_in _ ⟨by omega,by omega⟩];omega
 have Jt:(cP key (M.nonce N) 1 0 n bs).length=bs.length:=fX _ _ _ _ _ _
 have hx:=M.rQ key (M.nonce N) 1 0 n AS
 have ZE:=M.dW key N
 have hoB:=M.qT key N
 have rF:=M.pL (M.once key N) (M.Af ad ad.length ((cP key (M.nonce N) 1 0 n bs).take n) n)
 have Lk:M.xX key N ad bs n=(cP key (M.nonce N) 1 0 n bs).take n++M.tag (M.once key N) (M.Af ad ad.length ((cP key (M.nonce N) 1 0 n bs).take n) n)++(cP key (M.nonce N) 1 0 n bs).drop (n+16):=rfl
 have d1:decide ((lb:Int)-(n:Int)<16)=false:=decide_eq_false (by omega)
 have d2:decide ((n:Int)>(lb:Int))=false:=decide_eq_false (by omega)
 have d3:decide ((n:Int)<0)=false:=decide_eq_false (by omega)
 refine G.cL aM aE mix bQ [false,false,false] (aUk key ad bs (cP key (M.nonce N) 1 0 n bs) (M.once key N) N ad.length lb cb n t) (aA ?_) ?_
 .simp only [aO,w1]
  repeat' apply And.intro
  all_goals first | rfl | assumption | omega | trivial | exact Nat.le_refl _
 generalize nK:cP key (M.nonce N) 1 0 n bs=cs at *
 generalize oW:M.once key N=ok at *
 have hd0:List.drop 0 cs=cs:=rfl
 have oY:(cs.take n).length=n:=by rw [List.length_take];omega
 obtain ⟨f1,f2,f3⟩:=M.Hz (la:=ad.length) (n:=n) ha (M.kM n hx) rfl oY cX (by omega)
 generalize htg:M.tag ok (M.Af ad ad.length (cs.take n) n)=tg at *
 refine G.cL aM aE mix bQ [] (aUj ad bs cs ok tg ad.length lb cb n t) (aA ?_) ?_
 .simp only [aO,hd0,htg,List.length_replicate]
  repeat' apply And.intro
  all_goals first | rfl | assumption | omega | trivial | exact Nat.le_refl _
 have e1:(if ((n+16:Nat):Int)=(n:Int) then 0 else 0+(n:Int).toNat*1)=n:=by rw [if_neg (by omega)];omega
 have e1':(if ((n+16:Nat):Int)=(n:Int) then 0 else 0+n*1)=n:=by rw [if_neg (by omega)];omega
 have e2:List.take 16 (List.drop 0 tg)=tg:=by rw [List.drop_zero,List.take_of_length_le (by omega)]
 refine G.eX (cl:=[]) aM aE mix [] H (aUi ad bs cs tg lb cb n t) (aA ?_) ?_ rfl ?_
 .simp only [aO,w2,e2,Int.toNat_natCast,e1']
  repeat' apply And.intro
  all_goals first | rfl | assumption | omega | trivial | exact Nat.le_refl _
 .show SV.eD [.int false .i64 (IntKind.i64.wrap ((n:Int)+16)),.raw .nilIface]=_
  rw [w2];rfl
 .show [(62,SB.ints .u8 _ t)]=[(62,SB.ints .u8 _ t)]
  rw [w2,e1,e2,rF,Lk]
def CN (vs:List SV) (T:bA):Option Canon:=match vs with
 | [.agg (.int true .i64 2::_),ks,.int _ .u64 N,a,.aI L _ 0 lb cb,.int _ .i64 n]=>match cY ks,fG T .u8 a,T L with
   | some (.u8,k),some (oa,ad),some B=>match Lh B with
     | some (.u8,bs,t)=>some { eR:=aCa k N ad.length lb cb (n.toNat:Int),T0:=[(62,.ints .u8 bs t),(63,.dK .u8 ad)]++Kg,vl:=(62,.lab L 0)::(63,.arg 3)::Wp,e0:=seE k N ad bs n.toNat t,conds:=[k.length=32,bG ad,bG bs,ad.length<=500000000,n.toNat+16<=lb,lb<=cb,lb<=bs.length,cb<=500000000]++oa }
     | _=>none
   | _,_,_=>none
 | _=>none
theorem aEg (Γ:Env) (hg:Γ.aU=aB):aH Tryz.prog Γ 32 (aK aB 100 CN):=by
 refine aT hg fun vs T c hd hc=>?_
 unfold CN at hd
 split at hd
 case h_2=>cases hd
 split at hd
 case h_2=>cases hd
 split at hd
 case h_2=>cases hd
 cases hd
 exact (RO (hc _ (by simp)) (hc _ (by simp)) (hc _ (by simp)) (hc _ (by simp)) (hc _ (by simp)) (hc _ (by simp)) (hc _ (by simp)) (hc _ (by simp))).words (by rw [hg];rfl) (fun _=>rfl) (fun _ _ h=>h) (fun _=>rfl) rfl rfl
noncomputable def Pl:Nat->Option Sum:=eE fF 32 (aK aB 100 CN)
theorem XR:∀ f S,Pl f=some S->∀ Γ:Env,Γ.aU=aB->aH Tryz.prog Γ f S:=bI kC 32 _ aEg
theorem bBw (x:Nat) :
 aR (env Pl 22) Tryz.f6 true [true] 400 [] (fun l=>look l Kg) 100 100 =
 sh (0:Int) fun z0=>
 sh (16:Nat) fun z1=>
 sh (0:Nat) fun z2=>
 some {bV:=[true=true,(32:Nat)=(32:Nat),bG [],bG [z0,z0,z0,z0,z0,z0,z0,z0,z0,z0,z0,z0,z0,z0,z0,z0],z2<=(500000000:Nat),z1<=z1,z1<=z1,z1<=z1,z1<=(500000000:Nat),[(1:Int),z0,z0,z0,z0,z0,z0,z0,z0,z0,z0,z0,z0,z0,z0,z0,z0,z0,z0,z0,z0,z0,z0,z0,z0,z0,z0,z0,z0,z0,z0,z0]=[(1:Int),z0,z0,z0,z0,z0,z0,z0,z0,z0,z0,z0,z0,z0,z0,z0,z0,z0,z0,z0,z0,z0,z0,z0,z0,z0,z0,z0,z0,z0,z0,z0],z0=z0,z2=z2,z2=z2,z1=z1,z1=z1,z0=z0,[z0,z0,z0,z0,z0,z0,z0,z0,z0,z0,z0,z0,z0,z0,z0,z0]=[z0,z0,z0,z0,z0,z0,z0,z0,z0,z0,z0,z0,z0,z0,z0,z0]/\(5:Nat)=(5:Nat),([]:List Int)=[]],val:=SV.bool true true}:=by kernel_rfl
theorem YO:aD Tryz.prog (env Pl 22) 6 [] (fun l=>look l Kg) 100 100 { val:=.bool true true }:=by
 have hs:aH Tryz.prog (env Pl 22) 6 (aR (env Pl 22) Tryz.f6 true [true] 400):=aY (bH Pl 22) (bJ Pl XR 22) mix Tryz.func6 (by kernel_rfl) true [true] 400
 refine (hs.call (bBw 0) (aA ?_)).words rfl (fun _=>rfl) (fun _ _ h=>h) (fun _=>rfl) rfl rfl
 have Vp:=M.rK 16
 exact ⟨rfl,rfl,(fun x hx=>by cases hx),Vp,by omega,by omega,by omega,by omega,by omega,rfl,rfl,rfl,rfl,rfl,rfl,rfl,⟨rfl,rfl⟩,rfl,trivial⟩
def FN (vs:List SV) (_:bA):Option Canon:=match vs with
 | []=>some { eR:=[],T0:=Kg,vl:=Wp,e0:={ val:=.bool true true } }
 | _=>none
theorem aKe (Γ:Env) (hg:Γ.aU=aB):aH Tryz.prog Γ 6 (aK aB 100 FN):=by
 refine aT hg fun vs T c hd hc=>?_
 unfold FN at hd
 split at hd
 case h_2=>cases hd
 cases hd
 exact YO.words (by rw [hg];rfl) (fun _=>rfl) (fun _ _ h=>h) (fun _=>rfl) rfl rfl
def M.OV (xs:List SV) (kind:Int) (xk:List Int) (num:Int) (la lb:Nat) (n:Int):Prop:=xs=pP kind xk num la lb n
def M.Fi (key:List Int) (has:Bool) (non:Int) (kind:Int) (xk:List Int) (num n:Int) (ad bs:List Int) (lg:Nat) (k':List Int) (h':Bool) (n':Int) (l':Nat):Prop:=
 aD Tryz.prog (ΓD true []) 8 (pQ key has non kind xk num ad.length bs.length n) (dT key has non ad bs lg) 100 100 (dE k' h' n' l')
def FI (k':List Int) (h':Bool) (n':Int) (l':Nat) (vs:List SV) (T:bA):Option Canon:=match vs with
 | [.ptr l _ 0,.agg cs,.agg xs]=>match T l,aAb cs,qL ((xs.drop 1).take 32) with
   | some (.own cc _),some (_,_,_,l2),some (.u8,xk)=>match aAc cc,T l2,xs.take 1,xs.drop 33 with
     | some (non,key,has),some (.bO 2 lg _),[.int _ .i64 kind],[.int _ .u64 num,a,b,.int _ .i64 n]=>match fG T .u8 a,fG T .u8 b with
       | some (oa,ad),some (ob,bs)=>some { eR:=[.ptr 60 true 0,.agg (cs.take 34++[.buf 65]),.agg (xs.take 34++[.dX 63 ad.length,.dX 64 bs.length,.int false .i64 n])],T0:=[(60,.own cc 40),(63,.dK .u8 ad),(64,.dK .u8 bs),(65,.bO 2 lg 165)]++(ZR++Kg),vl:=(60,.lab l 0)::(63,.sub 2 34)::(64,.sub 2 35)::(65,.lab l2 0)::Wp,e0:=dE k' h' n' l',conds:=[M.NO cc non key has,M.NN (cs.take 34++[.buf 65]) key has non,M.OV (xs.take 34++[.dX 63 ad.length,.dX 64 bs.length,.int false .i64 n]) kind xk num ad.length bs.length n,M.Fi key has non kind xk num n ad bs lg k' h' n' l']++(oa++ob) }
       | _,_=>none
     | _,_,_,_=>none
   | _,_,_=>none
 | _=>none
theorem aJs (k':List Int) (h':Bool) (n':Int) (l':Nat) (Γ:Env) (hg:Γ.aU=aB):aH Tryz.prog Γ 8 (aK aB 100 (FI k' h' n' l')):=by
 refine aT hg fun vs T c hd hc=>?_
 unfold FI at hd
 split at hd
 case h_2=>cases hd
 split at hd
 case h_2=>cases hd
 split at hd
 case h_2=>cases hd
 split at hd
 case h_2=>cases hd
 cases hd
 have h1:=hc _ List.mem_cons_self
 have h2:=hc _ (List.mem_cons_of_mem _ List.mem_cons_self)
 have h3:=hc _ (List.mem_cons_of_mem _ (List.mem_cons_of_mem _ List.mem_cons_self))
 have h4:=hc _ (List.mem_cons_of_mem _ (List.mem_cons_of_mem _ (List.mem_cons_of_mem _ List.mem_cons_self)))
 unfold M.NO at h1
 unfold M.NN at h2
 unfold M.OV at h3
 unfold M.Fi at h4
 simp only [h1,h2,h3]
 exact h4.words (by rw [hg];rfl) (fun _=>rfl) (fun _ _ h=>h) (fun _=>rfl) rfl rfl
section
variable {w0 w:World} {M:Nat->Prop} {V:bF} {T:bA} {lab:Nat}
theorem aG.forget (h:aG w0 M V T w) {l:Nat} (v:SV):aG w0 M V (fL T lab { val:=v,wr:=[(l,.gone)] }) w:=by
 refine h.step (N:=fun m=>if m=l then some .gone else none) (V.le_refl) (fun m C hm=>?_) (fun m C hm=>?_) (fun m C q hm hq=>?_) (fun m C m' C' q dP hm vV yL _=>?_) (Nat.le_refl _) (fun _ _ _=>rfl) rfl rfl rfl
 .simp only [fL,bR.fM,iE,List.append_nil] at hm
  by_cases k1:l=m
  .subst k1
   rw [aL] at hm
   left
   simpa using hm
  .rw [aF k1] at hm
   right
   simp only [look] at hm
   exact ⟨if_neg (fun q=>k1 q.symm),hm⟩
 .split at hm
  .cases hm;exact ⟨[],rfl,trivial⟩
  .cases hm
 .split at hm
  .cases hm;cases hq
  .cases hm
 .split at hm
  .cases hm;cases yL
  .cases hm
end
noncomputable def ZM (F0 N:Nat) (B:bA) (l:Nat) (s:St):Option St:=match s.T B l with
 | some _=>s.step F0 N none { val:=.raw undef,wr:=[(l,.gone)] } s.nx (s.nx+8)
 | none=>none
noncomputable def ZL (F0 N:Nat) (B:bA) (l:Nat) (r:Option jA):Option jA:=match r with
 | some r=>match ZM F0 N B l r.st with
   | some s=>some ⟨r.cf,r.fr,s⟩
   | none=>none
 | none=>none
section
variable {P:Program} {Γ:Env} {w0:World} {M:Nat->Prop} {B:bA} {N F0:Nat} {V0:bF}
theorem Inv.ZM {l:Nat} {s s':St} (h:Sx.ZM F0 N B l s=some s') {V:bF} {a:Act} {w:World} (hi:Inv P Γ w0 M B N F0 V0 s V a w):Inv P Γ w0 M B N F0 V0 s' V a w/\s'.ob=s.ob:=by
 unfold Sx.ZM at h
 split at h
 case h_2=>cases h
 exact ⟨hi.step (x:=undef) h (Nat.le_refl _) (Nat.le_refl _) (V.dR _) (fun h=>by cases h) (aG.forget hi.fM _),(St.eJ B h).2.2.1⟩
theorem aHt {l:Nat} {s s':St} (h:Sx.ZM F0 N B l s=some s'):s'.ob=s.ob:=by
 unfold Sx.ZM at h
 split at h
 case h_2=>cases h
 exact (St.eJ B h).2.2.1
theorem G.PV (aM:cG P Γ) (aE:bX P Γ) (iF:P.follows .mixedOrders=true) (hb:mU Γ B F0 V0) {stops:List Nat} {lf n l:Nat} {cf cf':Cf} {K K':List Fr} {s:St} (hs:List Bool) {nils:List (Nat × IntKind × TypeId)} {labs:List Nat} {gs:List (Nat × SV)} {tb:List (Nat × SB)} {nx:Nat} {ws:List Nat} {df:List SV} {ps:List Prop} {Q:Exit->Act->World->Prop}
 (h:Sx.Ol F0 B nils labs gs tb nx ws df (Sx.ZL F0 N B l (cA Γ B F0 N stops lf n cf K (s.hint hs)))=some (cf',K',ps)) (hp:∀ q∈ps,q) (hG:G P Γ w0 M B N F0 V0 cf' K' (aN gs tb nx ws df) Q):G P Γ w0 M B N F0 V0 cf K s Q:=by
 cases hr:cA Γ B F0 N stops lf n cf K (s.hint hs) with
 | none=>rw [hr] at h;simp [ZL,Sx.Ol] at h
 | some r=>
   rw [hr] at h
   cases hf:Sx.ZM F0 N B l r.st with
   | none=>simp [ZL,hf,Sx.Ol] at h
   | some s1=>
     simp only [ZL,hf] at h
     have tN:∀ q∈r.st.ob,q:=by
      intro q hq
      have e:=aHt hf
      unfold Sx.Ol at h
      simp only at h
      split at h
      case h_2=>cases h
      rename_i s2 h2
      have e2:=Ch h2
      unfold Ry at h
      simp only at h
      split at h
      case h_2=>cases h
      split at h
      case h_2=>cases h
      cases h
      exact hp q (List.mem_append_left _ (by rw [e2,e];exact hq))
     have gG:G P Γ w0 M B N F0 V0 cf K (s.hint hs) Q:=by
      refine G.run aM aE iF hr tN ?_
      intro V a w hi
      obtain ⟨tO,_⟩:=hi.ZM hf
      have h0:G P Γ w0 M B N F0 V0 r.cf r.fr s1 Q:=by
       refine G.Ol aM aE iF hb s1.hs (stops:=stops) (lf:=lf) (n:=0) (s:=s1) (nils:=nils) (labs:=labs) (gs:=gs) (tb:=tb) (nx:=nx) (ws:=ws) (df:=df) (ps:=ps) (cf':=cf') (K':=K') ?_ hp hG
       exact h
      exact h0 V a w tO
     intro V a w hi
     exact gG V a w (hi.hints s.ob hs)
end
def M.nX (vs:List SV) (T:bA) (lab F:Nat) (b:Bool):Prop:=aD Tryz.prog (env fF 22) 5 vs T lab F { val:=.bool true b }
def Ps (b:Bool):Sum:=fun vs T lab F=>some { bV:=[M.nX vs T lab F b],val:=.bool true b }
theorem HT (b:Bool) (Γ:Env) (hg:Γ.aU=aB):aH Tryz.prog Γ 5 (Ps b):=by
 refine aH.Mq fun vs T lab F e he ho=>?_
 unfold Ps at he
 cases he
 have h:=ho _ List.mem_cons_self
 unfold M.nX at h
 exact h.words (by rw [hg];rfl) (fun _=>rfl) (fun _ _ h=>h) (fun _=>rfl) rfl rfl
noncomputable def exF (b:Bool) (k':List Int) (h':Bool) (n':Int) (l':Nat):Nat->Option Sum:=Ls (eE (eE (eE (eE CB 34 (aK aB 100 Sk)) 6 (aK aB 100 FN)) 8 (aK aB 100 (FI k' h' n' l'))) 5 (Ps b)) [(17,[true,true,true,true])]
theorem aIr (b:Bool) (k':List Int) (h':Bool) (n':Int) (l':Nat):∀ f S,exF b k' h' n' l' f=some S->∀ Γ:Env,Γ.aU=aB->aH Tryz.prog Γ f S:=
 vJ (bI (bI (bI (bI zS 34 _ GK) 6 _ aKe) 8 _ (aJs k' h' n' l')) 5 _ (HT b)) _
noncomputable def ΓF (b:Bool) (k':List Int) (h':Bool) (n':Int) (l':Nat):Env:=env (exF b k' h' n' l') 22
theorem wR (b:Bool) (k':List Int) (h':Bool) (n':Int) (l':Nat):cG Tryz.prog (ΓF b k' h' n' l'):=bH _ 22
theorem wS (b:Bool) (k':List Int) (h':Bool) (n':Int) (l':Nat):bX Tryz.prog (ΓF b k' h' n' l'):=bJ _ (aIr b k' h' n' l') 22
def Ob (kind:Int) (xk:List Int) (num:Int) (la lb:Nat) (n:Int) (a b:Nat):List SV:=.int false .i64 kind::(cQ .u8 32 xk++[.int false .u64 num,.dX a la,.dX b lb,.int false .i64 n])
noncomputable def brC (F0 N t i:Nat) (kind:Int) (xk:List Int) (num:Int) (ad bs:List Int) (n:Int) (s:St):Option St:=match s.g.get t with
 | some (.rT l n0 cap 37 _ _)=>s.step F0 N (some t) { val:=.rT l n0 cap 37 i s.nx,new:=[.eY (Ob kind xk num ad.length bs.length n (s.nx+1) (s.nx+2)),.dK .u8 ad,.dK .u8 bs] } s.nx (s.nx+8)
 | _=>none
noncomputable def Zz (F0 N t i:Nat) (kind:Int) (xk:List Int) (num:Int) (ad bs:List Int) (n:Int) (s:St):St:=match brC F0 N t i kind xk num ad bs n s with
 | some s'=>s'
 | none=>s
def oE (all:List SV) (cU:bA):bA:=fun l=>match look l ((60,.eY all)::(ZR++Kg)) with
 | some B=>some B
 | none=>match Nat.blt l 200 with
   | true=>none
   | false=>cU l
noncomputable def Zp (b:Bool) (all:List SV) (cU:bA) (k':List Int) (h':Bool) (n':Int) (l':Nat) (k:Nat) (cf:Cf) (K:List Fr) (s:St):Option jA:=cA (ΓF b k' h' n' l') (aC 400 (oE all cU)) 400 Tryz.f3.ntmps [8] 0 k cf K s
def nW (n0 cap j le:Nat) (i:Int):List (Nat × SV):=[(0,.rT 60 n0 cap 37 j le),(3,.raw (.pointer none)),(4,.ptr 400 true 0),(5,.ptr 401 true 0),(6,.bool true true),(7,.int false .i64 i)]
def kU (key:List Int) (has:Bool) (non:Int) (lg:Nat):List (Nat × SB):=[(400,.own (Zn non key has) 40),(401,.own (Om key has non 402) 43),(402,.bO 2 lg 165)]
def tT:List (Nat × SB):=[(403,.gone),(404,.gone),(405,.gone)]
def BK (n0 cap:Nat):List (Nat × SV):=[(0,.rT 60 n0 cap 37 0 60),(2,.bool true false)]
noncomputable def Pb:Code:=iN 1 (codeOf Tryz.f3)
noncomputable def Vj:Option jA:=Zp true [] (fun _=>none) [] false 0 0 400 (.go Pb) [] (aN (BK 0 0) [] 400 [] [])
theorem aWq (all:List SV) (cU:bA) (n0 cap:Nat):(cL 400 Tryz.f3.ntmps (aC 400 (oE all cU)) [] (BK n0 cap) [] 400 [] [] (Zp true all cU [] false 0 0 3 (.go (codeOf Tryz.f3)) [] ((gU [.rT 60 n0 cap 37 0 60] 400).hint [])))=some (.go Pb,[],[n0=n0/\cap=cap/\(0:Nat)=(0:Nat)]):=by kernel_rfl
theorem aWu (all:List SV) (cU:bA) (n0 cap j:Nat) (i i':Int) (key:List Int) (has:Bool) (non:Int) (lg:Nat) (aX:List Int) (aW:Bool) (aV:Int) (dY:Nat) (k:Nat) (kind:Int) (xk:List Int) (num:Int) (ad bs:List Int) (n:Int) :
 Ol 400 (aC 400 (oE all cU)) [] [400,401,550,406,407,408] (nW n0 cap k 403 i') (kU aX aW aV dY++tT) 406 [] [] (ZL 400 Tryz.f3.ntmps (aC 400 (oE all cU)) 406 (Zp true all cU aX aW aV dY 400 (.go (lF Vj)) [] ((Zz 400 Tryz.f3.ntmps 0 k kind xk num ad bs n (aN (nW n0 cap j 403 i) (kU key has non lg++tT) 406 [] [])).hint [true,true,false]))) =
 sh (0:Nat) fun z4=>
 sh (↑bs.length:Int) fun z3=>
 sh (z3+(3:Int)) fun oC=>
 sh (IntKind.i64.wrap oC) fun z1=>
 sh (0:Int) fun z2=>
 sh (List.replicate z1.toNat z2) fun qE=>
 sh (List.take z4 qE++bs++List.drop (z4+bs.length) qE) fun z7=>
 sh (171:Int) fun vY=>
 sh (z4+bs.length+(3:Nat)) fun z32=>
 sh (List.take (z4+bs.length) z7++[vY,vY,vY]++List.drop z32 z7) fun z0=>
 sh (116:UInt8) fun z5=>
 sh (110:UInt8) fun z6=>
 sh (101:UInt8) fun z8=>
 sh (↑z1.toNat:Int) fun z9=>
 sh (32:UInt8) fun cH=>
 sh (111:UInt8) fun cO=>
 sh (105:UInt8) fun dJ=>
 sh (108:UInt8) fun eG=>
 sh (112:UInt8) fun fE=>
 sh (↑z32:Int) fun iI=>
 sh (58:UInt8) fun eT=>
 sh (z3.toNat-z4) fun kR=>
 sh (List.drop z4 z0) fun lW=>
 sh (114:UInt8) fun kQ=>
 sh (1:Nat) fun jL=>
 sh (117:UInt8) fun oH=>
 sh (109:UInt8) fun tM=>
 sh (z3+(2:Int)) fun zV=>
 sh (z3+(1:Int)) fun Oj=>
 sh (List.take kR lW) fun Jx=>
 sh (115:UInt8) fun OI=>
 sh (104:UInt8) fun OH=>
 sh (97:UInt8) fun OG=>
 sh (↑n0:Int) fun z33=>
 sh (IntKind.i64.wrap zV) fun z34=>
 sh (IntKind.i64.wrap Oj) fun z35=>
 some (Cf.at Ex.normal,[],[(!z0.getD (z4+z34.toNat*jL+0) z2==vY)=false,z4+z34.toNat*jL+jL<=z0.length,z2<=IntKind.i64.wrap zV/\IntKind.i64.wrap zV<iI,(z0.getD (z4+z35.toNat*jL+0) z2==vY)=true,z4+z35.toNat*jL+jL<=z0.length,z2<=IntKind.i64.wrap Oj/\IntKind.i64.wrap Oj<iI,(z0.getD (z4+z3.toNat*jL+0) z2==vY)=true,z4+z3.toNat*jL+jL<=z0.length,z2<=z3/\z3<iI,decide (List.take kR lW=bs)=true,Jx.length<=(1073741824:Nat),bs.length<=(1073741824:Nat),z4+kR<=z0.length/\z3.toNat-z4<=z9.toNat-z4,z4=z4,z3.toNat-z4=z3.toNat-z4,z9.toNat-z4=z9.toNat-z4,z4+kR<=z0.length/\z3.toNat-z4<=z9.toNat-z4,Jx.length=Jx.length,bs.length=bs.length,bs.length=bs.length,List.take kR lW=List.take kR lW,z4+kR<=z0.length/\z3.toNat-z4<=z9.toNat-z4,bs=bs,z2<=z9/\z9<=z9/\z2<=z3/\z3<=z9/\z2<=z2/\z2<=z3,(iI==IntKind.i64.wrap oC)=true,z2<=z9/\z9<=z9/\z2<=z3/\z3<=z9/\z2<=z2/\z2<=z3,z1.toNat=z7.length/\z4+bs.length+(3:Nat)<=z1.toNat,z1.toNat=qE.length/\z4+bs.length<=z1.toNat,z2<=z2/\z2<=IntKind.i64.wrap oC/\(1:Int)*IntKind.i64.wrap oC<=(281474976710656:Int)/\IntKind.i64.wrap oC<(9223372036854775808:Int),z2<=i/\i<z33/\i.toNat=k,M.NO (SV.int false IntKind.u64 non::([SV.int true IntKind.i64 z2,SV.raw Value.nilFunc,SV.raw Value.nilFunc,SV.raw Value.nilFunc,SV.raw Value.nilFunc,SV.raw Value.nilFunc,SV.raw Value.nilFunc]++([SV.int false IntKind.u8 (key.getD 0 z2),SV.int false IntKind.u8 (key.getD 1 z2),SV.int false IntKind.u8 (key.getD 2 z2),SV.int false IntKind.u8 (key.getD 3 z2),SV.int false IntKind.u8 (key.getD 4 z2),SV.int false IntKind.u8 (key.getD 5 z2),SV.int false IntKind.u8 (key.getD 6 z2),SV.int false IntKind.u8 (key.getD 7 z2),SV.int false IntKind.u8 (key.getD 8 z2),SV.int false IntKind.u8 (key.getD 9 z2),SV.int false IntKind.u8 (key.getD 10 z2),SV.int false IntKind.u8 (key.getD 11 z2),SV.int false IntKind.u8 (key.getD 12 z2),SV.int false IntKind.u8 (key.getD 13 z2),SV.int false IntKind.u8 (key.getD 14 z2),SV.int false IntKind.u8 (key.getD 15 z2),SV.int false IntKind.u8 (key.getD 16 z2),SV.int false IntKind.u8 (key.getD 17 z2),SV.int false IntKind.u8 (key.getD 18 z2),SV.int false IntKind.u8 (key.getD 19 z2),SV.int false IntKind.u8 (key.getD 20 z2),SV.int false IntKind.u8 (key.getD 21 z2),SV.int false IntKind.u8 (key.getD 22 z2),SV.int false IntKind.u8 (key.getD 23 z2),SV.int false IntKind.u8 (key.getD 24 z2),SV.int false IntKind.u8 (key.getD 25 z2),SV.int false IntKind.u8 (key.getD 26 z2),SV.int false IntKind.u8 (key.getD 27 z2),SV.int false IntKind.u8 (key.getD 28 z2),SV.int false IntKind.u8 (key.getD 29 z2),SV.int false IntKind.u8 (key.getD 30 z2),SV.int false IntKind.u8 (key.getD 31 z2)]++[SV.bool false has]))) non (M.Js key) has,M.NN (List.take (34:Nat) (List.take (35:Nat) (List.drop z4 ([SV.int false IntKind.u8 (key.getD 0 z2),SV.int false IntKind.u8 (key.getD 1 z2),SV.int false IntKind.u8 (key.getD 2 z2),SV.int false IntKind.u8 (key.getD 3 z2),SV.int false IntKind.u8 (key.getD 4 z2),SV.int false IntKind.u8 (key.getD 5 z2),SV.int false IntKind.u8 (key.getD 6 z2),SV.int false IntKind.u8 (key.getD 7 z2),SV.int false IntKind.u8 (key.getD 8 z2),SV.int false IntKind.u8 (key.getD 9 z2),SV.int false IntKind.u8 (key.getD 10 z2),SV.int false IntKind.u8 (key.getD 11 z2),SV.int false IntKind.u8 (key.getD 12 z2),SV.int false IntKind.u8 (key.getD 13 z2),SV.int false IntKind.u8 (key.getD 14 z2),SV.int false IntKind.u8 (key.getD 15 z2),SV.int false IntKind.u8 (key.getD 16 z2),SV.int false IntKind.u8 (key.getD 17 z2),SV.int false IntKind.u8 (key.getD 18 z2),SV.int false IntKind.u8 (key.getD 19 z2),SV.int false IntKind.u8 (key.getD 20 z2),SV.int false IntKind.u8 (key.getD 21 z2),SV.int false IntKind.u8 (key.getD 22 z2),SV.int false IntKind.u8 (key.getD 23 z2),SV.int false IntKind.u8 (key.getD 24 z2),SV.int false IntKind.u8 (key.getD 25 z2),SV.int false IntKind.u8 (key.getD 26 z2),SV.int false IntKind.u8 (key.getD 27 z2),SV.int false IntKind.u8 (key.getD 28 z2),SV.int false IntKind.u8 (key.getD 29 z2),SV.int false IntKind.u8 (key.getD 30 z2),SV.int false IntKind.u8 (key.getD 31 z2)]++[SV.bool false has,SV.int false IntKind.u64 non,SV.buf (402:Nat)])))++[SV.buf (65:Nat)]) (M.Js key) has non,M.OV (List.take (34:Nat) (List.take (37:Nat) (List.drop z4 (SV.int false IntKind.i64 kind::([SV.int false IntKind.u8 (xk.getD 0 z2),SV.int false IntKind.u8 (xk.getD 1 z2),SV.int false IntKind.u8 (xk.getD 2 z2),SV.int false IntKind.u8 (xk.getD 3 z2),SV.int false IntKind.u8 (xk.getD 4 z2),SV.int false IntKind.u8 (xk.getD 5 z2),SV.int false IntKind.u8 (xk.getD 6 z2),SV.int false IntKind.u8 (xk.getD 7 z2),SV.int false IntKind.u8 (xk.getD 8 z2),SV.int false IntKind.u8 (xk.getD 9 z2),SV.int false IntKind.u8 (xk.getD 10 z2),SV.int false IntKind.u8 (xk.getD 11 z2),SV.int false IntKind.u8 (xk.getD 12 z2),SV.int false IntKind.u8 (xk.getD 13 z2),SV.int false IntKind.u8 (xk.getD 14 z2),SV.int false IntKind.u8 (xk.getD 15 z2),SV.int false IntKind.u8 (xk.getD 16 z2),SV.int false IntKind.u8 (xk.getD 17 z2),SV.int false IntKind.u8 (xk.getD 18 z2),SV.int false IntKind.u8 (xk.getD 19 z2),SV.int false IntKind.u8 (xk.getD 20 z2),SV.int false IntKind.u8 (xk.getD 21 z2),SV.int false IntKind.u8 (xk.getD 22 z2),SV.int false IntKind.u8 (xk.getD 23 z2),SV.int false IntKind.u8 (xk.getD 24 z2),SV.int false IntKind.u8 (xk.getD 25 z2),SV.int false IntKind.u8 (xk.getD 26 z2),SV.int false IntKind.u8 (xk.getD 27 z2),SV.int false IntKind.u8 (xk.getD 28 z2),SV.int false IntKind.u8 (xk.getD 29 z2),SV.int false IntKind.u8 (xk.getD 30 z2),SV.int false IntKind.u8 (xk.getD 31 z2)]++[SV.int false IntKind.u64 num,SV.dX ((406:Nat)+jL) ad.length,SV.dX ((406:Nat)+(2:Nat)) bs.length,SV.int false IntKind.i64 n]))))++[SV.dX (63:Nat) ad.length,SV.dX (64:Nat) bs.length,SV.int false IntKind.i64 n]) kind (M.Js xk) num ad.length bs.length n,M.Fi (M.Js key) has non kind (M.Js xk) num n ad bs lg aX aW aV dY]++(M.gV key key++([has=has,non=non,kind=kind]++(M.gV xk xk++([num=num,ad.length=ad.length,ad.length=ad.length,bs.length=bs.length,bs.length=bs.length,n=n,non=non]++(M.gV key key++([has=has,ad=ad,bs=bs,lg=lg,Value.string {data:={toList:=[fE,dJ,z6,z5,eG,z8,eT,cH,OG,kQ,(103:UInt8),oH,tM,z8,z6,z5]}}=Value.string {data:={toList:=[fE,dJ,z6,z5,eG,z8,eT,cH,OG,kQ,(103:UInt8),oH,tM,z8,z6,z5]}},Value.string {data:={toList:=[fE,dJ,z6,z5,eG,z8,eT,cH,z6,cO,cH,kQ,cO,cO,tM]}}=Value.string {data:={toList:=[fE,dJ,z6,z5,eG,z8,eT,cH,z6,cO,cH,kQ,cO,cO,tM]}},Value.string {data:={toList:=[fE,dJ,z6,z5,eG,z8,eT,cH,z6,cO,cH,z6,oH,tM,(98:UInt8),z8,kQ,cH,eG,z8,(102:UInt8),z5]}}=Value.string {data:={toList:=[fE,dJ,z6,z5,eG,z8,eT,cH,z6,cO,cH,z6,oH,tM,(98:UInt8),z8,kQ,cH,eG,z8,(102:UInt8),z5]}},Value.string {data:={toList:=[fE,dJ,z6,z5,eG,z8,eT,cH,z5,cO,cO,cH,OI,OH,cO,kQ,z5]}}=Value.string {data:={toList:=[fE,dJ,z6,z5,eG,z8,eT,cH,z5,cO,cO,cH,OI,OH,cO,kQ,z5]}},Value.string {data:={toList:=[fE,dJ,z6,z5,eG,z8,eT,cH,(107:UInt8),z8,(121:UInt8),OI]}}=Value.string {data:={toList:=[fE,dJ,z6,z5,eG,z8,eT,cH,(107:UInt8),z8,(121:UInt8),OI]}},Value.string {data:={toList:=[fE,dJ,z6,z5,eG,z8,eT,cH,z6,cO,z5,cH,OG,oH,z5,OH,z8,z6,z5,dJ,(99:UInt8)]}}=Value.string {data:={toList:=[fE,dJ,z6,z5,eG,z8,eT,cH,z6,cO,z5,cH,OG,oH,z5,OH,z8,z6,z5,dJ,(99:UInt8)]}},z2<=i/\i<z33/\i.toNat=k,decide (i<(60:Int))=true,decide (i<z33)=true,n0=n0/\cap=cap/\k=k,IntKind.i64.wrap (i+(1:Int))=i',aV=aV]++(M.gV aX aX++([aW=aW]++(M.gV aX aX++([aW=aW,aV=aV,dY=dY]))))))))))):=by kernel_rfl
theorem aWt (all:List SV) (cU:bA) (n0 cap j:Nat) (i:Int) (key:List Int) (has:Bool) (non:Int) (lg:Nat):cL 400 Tryz.f3.ntmps (aC 400 (oE all cU)) [] [(6,.bool true true)] [] 400 [] [] (Zp true all cU [] false 0 0 400 (.go (lF Vj)) [] ((aN (nW n0 cap j 403 i) (kU key has non lg++tT) 406 [] []).hint [false]))=some (Cf.at (Ex.exit 0),[],[decide (i<(↑n0:Int))=false]):=by kernel_rfl
theorem aWs (all:List SV) (cU:bA) (n0 cap j:Nat) (i:Int) (key:List Int) (has:Bool) (non:Int) (lg:Nat):cL 400 Tryz.f3.ntmps (aC 400 (oE all cU)) [] [(6,.bool true true)] [] 400 [] [] (Zp true all cU [] false 0 0 400 (.go (lF Vj)) [] ((aN (nW n0 cap j 403 i) (kU key has non lg++tT) 406 [] []).hint [true,false]))=some (Cf.at (Ex.exit 0),[],[decide (i<(60:Int))=false,decide (i<(↑n0:Int))=true]):=by kernel_rfl
theorem aWr (all:List SV) (cU:bA) :
 fA (ΓF true [] false 0 0) (oE all cU) 400 400 Tryz.f3 [] (Zp true all cU [] false 0 0 400 (.at (.exit 0)) (rG Vj) ((aN [(6,.bool true true)] [] 400 [] []).hint [])) =
 some {val:=SV.bool true true}:=by kernel_rfl
set_option maxHeartbeats 2000000 in
theorem UX {all:List SV} {cU:bA} {n0 cap j k:Nat} {key xk ad bs aX:List Int} {has aW:Bool} {non num kind n aV:Int} {lg dY:Nat} {w0:World} {Mx:Nat->Prop} {V0:bF} {Q:Exit->Act->World->Prop}
 (hb:mU (ΓF true aX aW aV dY) (aC 400 (oE all cU)) 400 V0) (hk:key.length=32) (hx:xk.length=32) (cX:ad.length<=200000) (dH:bs.length<=200000) (NW:k<n0) (Sb:k<60)
 (hD:M.Fi key has non kind xk num n ad bs lg aX aW aV dY)
 (hG:G Tryz.prog (ΓF true aX aW aV dY) w0 Mx (aC 400 (oE all cU)) Tryz.f3.ntmps 400 V0 (.at .normal) [] (aN (nW n0 cap k 403 ((k+1:Nat):Int)) (kU aX aW aV dY++tT) 406 [] []) Q) :
 G Tryz.prog (ΓF true aX aW aV dY) w0 Mx (aC 400 (oE all cU)) Tryz.f3.ntmps 400 V0 (.go (lF Vj)) [] (Zz 400 Tryz.f3.ntmps 0 k kind xk num ad bs n (aN (nW n0 cap j 403 (k:Int)) (kU key has non lg++tT) 406 [] [])) Q:=by
 have aM:=wR true aX aW aV dY
 have aE:=wS true aX aW aV dY
 have wb:IntKind.i64.wrap ((bs.length:Int)+3)=((bs.length+3:Nat):Int):=bD (by omega) (by omega)
 have wb1:IntKind.i64.wrap ((bs.length:Int)+1)=((bs.length+1:Nat):Int):=bD (by omega) (by omega)
 have wb2:IntKind.i64.wrap ((bs.length:Int)+2)=((bs.length+2:Nat):Int):=bD (by omega) (by omega)
 have wk:IntKind.i64.wrap ((k:Int)+1)=((k+1:Nat):Int):=bD (by omega) (by omega)
 obtain ⟨gb,gb1,gb2⟩:=M.wX bs
 have tb:=M.lL bs
 have lb:=M.kY bs
 have rb:=M.Cd bs
 have eb:=M.It bs
 simp only [Nat.zero_add,List.take_zero,List.nil_append,List.drop_zero] at rb eb tb
 have Ad:=M.nZ hk
 have Ju:=M.nZ hx
 refine G.PV aM aE mix hb [true,true,false] (aWu all cU n0 cap j (k:Int) ((k+1:Nat):Int) key has non lg aX aW aV dY k kind xk num ad bs n) ?_ hG
 simp only [Nat.sub_zero,Nat.zero_add,Nat.add_zero,Nat.mul_one,List.drop_zero,List.take_zero,List.nil_append,wb,wb1,wb2,wk,Int.toNat_natCast,rb,eb,tb,lb,gb,gb1,gb2,Ad,Ju,List.length_replicate]
 repeat' (first | exact M.fJ rfl | refine M.nM ?_ ?_)
 all_goals refine aA ?_
 all_goals simp only [aO]
 all_goals repeat' apply And.intro
 all_goals first | (with_reducible assumption) | (unfold M.NN;rfl) | (unfold M.NO;rfl) | (unfold M.OV;rfl) | omega | (with_reducible exact True.intro) | ((with_reducible refine decide_eq_true ?_);omega) | ((with_reducible refine decide_eq_false ?_);omega) | ((with_reducible refine iC ?_);omega) | with_reducible rfl | rfl | skip
section
variable {w0 w:World} {M:Nat->Prop} {V:bF} {T:bA} {lab:Nat}
def bF.BG (V:bF) (lab:Nat) (p:Nat × Nat) (u1 u2:Value):bF:=
 ⟨fun k=>if k=lab then some p else V.β k,fun k=>if k=lab+1 then some u1 else if k=lab+2 then some u2 else V.σ k⟩
theorem bF.IC (hf:V.fresh lab) (p:Nat × Nat) (u1 u2:Value):V.ext lab (V.BG lab p u1 u2):=by
 refine ⟨⟨fun k q hk=>?_,fun k q hk=>?_⟩,fun k hk=>⟨?_,?_⟩⟩
 .show (if k=lab then some p else V.β k)=some q
  by_cases e:k=lab
  .subst e;rw [(hf k (Nat.le_refl _) (by omega)).1] at hk;cases hk
  .rw [if_neg e];exact hk
 .show (if k=lab+1 then some u1 else if k=lab+2 then some u2 else V.σ k)=some q
  by_cases e:k=lab+1
  .subst e;rw [(hf (lab+1) (by omega) (by omega)).2] at hk;cases hk
  .rw [if_neg e]
   by_cases e2:k=lab+2
   .subst e2;rw [(hf (lab+2) (by omega) (by omega)).2] at hk;cases hk
   .rw [if_neg e2];exact hk
 .show (if k=lab then some p else V.β k)=V.β k
  rw [if_neg (by omega)]
 .show (if k=lab+1 then some u1 else if k=lab+2 then some u2 else V.σ k)=V.σ k
  rw [if_neg (by omega),if_neg (by omega)]
theorem aG.Fj (hT:aG w0 M V T w) (hf:V.fresh lab) {all:List SV} (Sb:T 60=some (.eY all)) {a b:Nat} {ad bs xk:List Int} {kind num n:Int} {i n0 cap j le:Nat}
 (ha:T a=some (.dK .u8 ad)) (hb:T b=some (.dK .u8 bs)) (hc:(all.drop (37*i)).take 37=Ob kind xk num ad.length bs.length n a b) {x:Value} (hx:den V (.rT 60 n0 cap 37 j le)=some x) :
 ∃ V',V.ext lab V'/\den V' (.rT 60 n0 cap 37 i lab)=some x/\aG w0 M V' (fL T lab { val:=.rT 60 n0 cap 37 i lab,new:=[.eY (Ob kind xk num ad.length bs.length n (lab+1) (lab+2)),.dK .u8 ad,.dK .u8 bs] }) w:=by
 obtain ⟨cs,nK,bb,oo,hβ,Of,kK⟩:=hT.ok 60 _ Sb
 obtain ⟨ca,jM,ua,hσa,hra⟩:=hT.ok a _ ha
 obtain ⟨cb,PH,ub,hσb,hrb⟩:=hT.ok b _ hb
 have bW:=bF.IC hf (bb,oo+37*i) ua ub
 have e1:(V.BG lab (bb,oo+37*i) ua ub).β lab=some (bb,oo+37*i):=if_pos rfl
 have e2:(V.BG lab (bb,oo+37*i) ua ub).σ (lab+1)=some ua:=if_pos rfl
 have e3:(V.BG lab (bb,oo+37*i) ua ub).σ (lab+2)=some ub:=by
  show (if lab+2=lab+1 then some ua else if lab+2=lab+2 then some ub else V.σ (lab+2))=some ub
  rw [if_neg (by omega),if_pos rfl]
 generalize V.BG lab (bb,oo+37*i) ua ub=V' at *
 have Pf:aJ V' (Ob kind xk num ad.length bs.length n (lab+1) (lab+2))=aJ V (Ob kind xk num ad.length bs.length n a b):=by
  have hi:aJ V' (cQ .u8 32 xk)=aJ V (cQ .u8 32 xk):=by
   unfold cQ
   generalize List.range 32=rs
   induction rs with
   | nil=>rfl
   | cons r rs ih=>simp only [List.map_cons,aJ,den,ih]
  have aMd:∀ (p q r:List SV),aJ V' p=aJ V p->aJ V' q=aJ V r->aJ V' (p++q)=aJ V (p++r):=by
   intro p
   induction p with
   | nil=>intro q r _ h;exact h
   | cons c p ih=>
     intro q r h1 h2
     simp only [List.cons_append,aJ] at h1 |-
     cases h3:den V' c with
     | none=>
       cases h4:den V c with
       | none=>rfl
       | some y=>rw [kO bW.1 h4] at h3;cases h3
     | some y=>
       rw [h3] at h1
       cases h4:den V c with
       | none=>
         rw [h4] at h1
         simp only [Option.bind_some,Option.bind_none,Option.map_eq_none_iff] at h1
         have:=ih q r
         simp only [Option.bind_some,Option.bind_none,Option.map_eq_none_iff]
         cases h5:aJ V' (p++q) with
         | none=>rfl
         | some ys=>
           have hpn:aJ V' p=none:=h1
           have hsp:∀ (p q:List SV) ys,aJ V' (p++q)=some ys->∃ zs,aJ V' p=some zs:=by
            intro p
            induction p with
            | nil=>intro q ys _;exact ⟨[],rfl⟩
            | cons c p ih2=>
              intro q ys hh
              simp only [List.cons_append,aJ,Option.map_eq_some_iff,Option.bind_eq_some_iff] at hh |-
              obtain ⟨y,hy,zs,hz,rfl⟩:=hh
              obtain ⟨z2,hz2⟩:=ih2 q zs hz
              exact ⟨y::z2,y,hy,z2,hz2,rfl⟩
           obtain ⟨zs,hz⟩:=hsp p q ys h5
           rw [hz] at hpn;cases hpn
       | some y2=>
         have Ab:=kO bW.1 h4
         rw [h3] at Ab
         cases Ab
         rw [h4] at h1
         have Ot:aJ V' p=aJ V p:=by
          cases h6:aJ V' p with
          | none=>
            cases h7:aJ V p with
            | none=>rfl
            | some zs=>rw [h6,h7] at h1;simp at h1
          | some zs=>
            cases h7:aJ V p with
            | none=>rw [h6,h7] at h1;simp at h1
            | some z2=>rw [h6,h7] at h1;simp at h1;rw [h1]
         rw [ih q r Ot h2]
  unfold Ob
  refine aMd [_] _ _ (by simp [aJ,den]) (aMd _ _ _ hi ?_)
  simp only [aJ,den,e2,e3,hσa,hσb]
 have jN:aJ V ((all.drop (37*i)).take 37)=some ((cs.drop (37*i)).take 37):=eB 37 (iA (37*i) nK)
 rw [hc,<- Pf] at jN
 refine ⟨V',bW,?_,?_⟩
 .simp only [den,hβ,Option.bind_some] at hx
  simp only [den,bW.1.1 _ _ hβ,e1,Option.bind_some]
  simp only [Option.bind_eq_some_iff] at hx
  obtain ⟨q,_,hq⟩:=hx
  split at hq
  .rw [<- hq]
   have:decide ((bb,oo+37*i)=(bb,oo+i*37))=true:=decide_eq_true (by rw [Nat.mul_comm])
   rw [this]
  .cases hq
 refine hT.step (N:=fun m=>if m=lab then some (.eY (Ob kind xk num ad.length bs.length n (lab+1) (lab+2))) else if m=lab+1 then some (.dK .u8 ad) else if m=lab+2 then some (.dK .u8 bs) else none) bW.1 (fun m C hm=>?_) (fun m C hm=>?_) (fun m C q hm hq=>?_) (fun m C m' C' q dP hm vV yL _=>?_) (Nat.le_refl _) (fun _ _ _=>rfl) rfl rfl rfl
 .simp only [fL,bR.fM,iE,List.nil_append] at hm
  by_cases k1:lab=m
  .subst k1;rw [aL] at hm;left;simpa using hm
  .rw [aF k1] at hm
   by_cases k2:lab+1=m
   .subst k2;rw [aL] at hm;left;simpa using hm
   .rw [aF k2] at hm
    by_cases k3:lab+1+1=m
    .subst k3;rw [aL] at hm;left;rw [if_neg (by omega),if_neg (by omega),if_pos rfl];exact hm
    .rw [aF k3] at hm
     right
     simp only [look] at hm
     exact ⟨by rw [if_neg (fun q=>k1 q.symm),if_neg (fun q=>k2 q.symm),if_neg (fun q=>k3 q.symm)],hm⟩
 .split at hm
  .rename_i e
   subst e
   cases hm
   refine ⟨_,jN,bb,oo+37*i,e1,⟨Of.lt,fun s hs=>?_⟩,fun jj v hv=>?_⟩
   .have h0:=jN
    unfold Ob at h0
    simp only [aJ,den,Option.bind_some,Option.map_eq_some_iff] at h0
    obtain ⟨ys,_,h0⟩:=h0
    rw [<- h0] at hs
    simp at hs
   rw [Nat.add_assoc]
   refine kK (37*i+jj) v ?_
   rw [List.getElem?_take] at hv
   split at hv
   .rw [List.getElem?_drop] at hv;exact hv
   .cases hv
  .split at hm
   .rename_i e
    subst e
    cases hm
    exact ⟨ca,jM,ua,e2,hra⟩
   .split at hm
    .rename_i e
     subst e
     cases hm
     exact ⟨cb,PH,ub,e3,hrb⟩
    .cases hm
 .have ro:∀ (l1:Nat) (B1:SB),T l1=some B1->B1.owned=false->B1.bB V l1=some q->∀ l2 B2,T l2=some B2->B2.owned=true->B2.bB V l2≠some q:=by
   intro l1 B1 h1 h2 h3 l2 B2 h4 h5 h6
   have dP:l2≠l1:=fun e=>by subst e;rw [h1] at h4;cases h4;rw [h2] at h5;cases h5
   exact hT.kF l2 B2 l1 B1 q dP h4 h1 h5 h6 h3
  split at hm
  .rename_i e
   subst e
   cases hm
   refine .inr (.inr ⟨rfl,fun l2 B2 _ Kd yL=>?_⟩)
   simp only [SB.bB,e1,Option.map_some,Option.some.injEq] at hq
   exact ro 60 _ Sb rfl (by simp [SB.bB,hβ,hq]) l2 B2 Kd yL
  .split at hm
   .rename_i e
    subst e
    cases hm
    refine .inr (.inr ⟨rfl,fun l2 B2 _ Kd yL=>?_⟩)
    simp only [SB.bB,e2,Option.bind_some] at hq
    exact ro a _ ha rfl (by simp [SB.bB,hσa,hq]) l2 B2 Kd yL
   .split at hm
    .rename_i e
     subst e
     cases hm
     refine .inr (.inr ⟨rfl,fun l2 B2 _ Kd yL=>?_⟩)
     simp only [SB.bB,e3,Option.bind_some] at hq
     exact ro b _ hb rfl (by simp [SB.bB,hσb,hq]) l2 B2 Kd yL
    .cases hm
 .split at hm
  .cases hm;cases yL
  .split at hm
   .cases hm;cases yL
   .split at hm
    .cases hm;cases yL
    .cases hm
end
section
variable {P:Program} {Γ:Env} {w0:World} {M:Nat->Prop} {B:bA} {N F0:Nat} {V0:bF}
theorem G.Fj {i:Nat} {all:List SV} {a b:Nat} {ad bs xk:List Int} {kind num n:Int} {n0 cap j le:Nat} {cf:Cf} {K:List Fr} {s:St} {Q:Exit->Act->World->Prop} (h0:s.g.get 0=some (.rT 60 n0 cap 37 j le))
 (Sb:s.T B 60=some (.eY all)) (ha:s.T B a=some (.dK .u8 ad)) (hb:s.T B b=some (.dK .u8 bs)) (hc:(all.drop (37*i)).take 37=Ob kind xk num ad.length bs.length n a b)
 (hG:G P Γ w0 M B N F0 V0 cf K (Zz F0 N 0 i kind xk num ad bs n s) Q):G P Γ w0 M B N F0 V0 cf K s Q:=by
 intro V ac w hi
 unfold Zz at hG
 split at hG
 .rename_i s' h
  unfold brC at h
  rw [h0] at h
  simp only at h
  obtain ⟨V',hV,hx,hT⟩:=aG.Fj hi.fM hi.top.fresh Sb ha hb hc (hi.tmp 0 _ h0)
  have:=hi.step (x:=ac.eval (.tmp 0)) h (Nat.le_refl _) (Nat.le_refl _) hV (fun _=>hx) hT
  rw [Act.oR] at this
  exact hG V' ac w this
 .exact hG V ac w hi
end
theorem aWp (all:List SV) (cU:bA) (n0 cap:Nat) :
 fA (ΓF false [] false 0 0) (oE all cU) 400 400 Tryz.f3 [] (Zp false all cU [] false 0 0 400 (.go Pb) [] ((aN (BK n0 cap) [] 400 [] []).hint [])) =
 some {bV:=[M.nX ([]++[SV.rT (60:Nat) n0 cap (37:Nat) (0:Nat) (60:Nat)]++[]) (aC 400 (oE all cU)) ((400:Nat)+(8:Nat)) ((400:Nat)+(8:Nat)+(8:Nat)) false],val:=SV.bool true true}:=by kernel_rfl
theorem aWv (all:List SV) (cU:bA) (n0 cap:Nat) :
 (cL 400 Tryz.f3.ntmps (aC 400 (oE all cU)) [.QF 5 34 2 165] (nW n0 cap 0 60 0) (kU M.oZ false 0 0) 403 [] [] (Zp true all cU [] false 0 0 400 (.go Pb) [] ((aN (BK n0 cap) [] 400 [] []).hint []))) =
 sh (0:Int) fun z0=>
 sh (0:Nat) fun z1=>
 some (.go (.loop (lF Vj)),rG Vj,[M.nX ([]++[SV.rT (60:Nat) n0 cap (37:Nat) z1 (60:Nat)]++[]) (aC 400 (oE all cU)) ((400:Nat)+(8:Nat)) ((400:Nat)+(8:Nat)+(8:Nat)) true,n0=n0/\cap=cap/\z1=z1,z0=z0,z0=z0,z0=z0,z0=z0,z0=z0,z0=z0,z0=z0,z0=z0,z0=z0,z0=z0,z0=z0,z0=z0,z0=z0,z0=z0,z0=z0,z0=z0,z0=z0,z0=z0,z0=z0,z0=z0,z0=z0,z0=z0,z0=z0,z0=z0,z0=z0,z0=z0,z0=z0,z0=z0,z0=z0,z0=z0,z0=z0,z0=z0,z0=z0,z0=z0,false=false,z0=z0,z0=z0,z0=z0,z0=z0,z0=z0,z0=z0,z0=z0,z0=z0,z0=z0,z0=z0,z0=z0,z0=z0,z0=z0,z0=z0,z0=z0,z0=z0,z0=z0,z0=z0,z0=z0,z0=z0,z0=z0,z0=z0,z0=z0,z0=z0,z0=z0,z0=z0,z0=z0,z0=z0,z0=z0,z0=z0,z0=z0,z0=z0,false=false,z0=z0,z1=z1]):=by kernel_rfl
theorem aPk (all:List SV) (cU:bA) (n0 cap j:Nat) (i i':Int) (key:List Int) (has:Bool) (non:Int) (lg:Nat) (aX:List Int) (aW:Bool) (aV:Int) (dY:Nat) (k:Nat) (kind:Int) (xk:List Int) (num:Int) (ad bs:List Int) (n:Int) :
 Ol 400 (aC 400 (oE all cU)) [] [400,401,547,403,404,405] (nW n0 cap k 403 i') (kU aX aW aV dY++tT) 406 [] [] (ZL 400 Tryz.f3.ntmps (aC 400 (oE all cU)) 403 (Zp true all cU aX aW aV dY 400 (.go (lF Vj)) [] ((Zz 400 Tryz.f3.ntmps 0 k kind xk num ad bs n (aN (nW n0 cap j 60 i) (kU key has non lg) 403 [] [])).hint [true,true,false]))) =
 sh (0:Nat) fun z4=>
 sh (↑bs.length:Int) fun z3=>
 sh (z3+(3:Int)) fun oC=>
 sh (IntKind.i64.wrap oC) fun z1=>
 sh (0:Int) fun z2=>
 sh (List.replicate z1.toNat z2) fun qE=>
 sh (List.take z4 qE++bs++List.drop (z4+bs.length) qE) fun z7=>
 sh (171:Int) fun vY=>
 sh (z4+bs.length+(3:Nat)) fun z32=>
 sh (List.take (z4+bs.length) z7++[vY,vY,vY]++List.drop z32 z7) fun z0=>
 sh (116:UInt8) fun z5=>
 sh (110:UInt8) fun z6=>
 sh (101:UInt8) fun z8=>
 sh (↑z1.toNat:Int) fun z9=>
 sh (32:UInt8) fun cH=>
 sh (111:UInt8) fun cO=>
 sh (105:UInt8) fun dJ=>
 sh (108:UInt8) fun eG=>
 sh (112:UInt8) fun fE=>
 sh (↑z32:Int) fun iI=>
 sh (58:UInt8) fun eT=>
 sh (z3.toNat-z4) fun kR=>
 sh (List.drop z4 z0) fun lW=>
 sh (114:UInt8) fun kQ=>
 sh (1:Nat) fun jL=>
 sh (117:UInt8) fun oH=>
 sh (109:UInt8) fun tM=>
 sh (z3+(2:Int)) fun zV=>
 sh (z3+(1:Int)) fun Oj=>
 sh (List.take kR lW) fun Jx=>
 sh (115:UInt8) fun OI=>
 sh (104:UInt8) fun OH=>
 sh (97:UInt8) fun OG=>
 sh (↑n0:Int) fun z33=>
 sh (IntKind.i64.wrap zV) fun z34=>
 sh (IntKind.i64.wrap Oj) fun z35=>
 some (Cf.at Ex.normal,[],[(!z0.getD (z4+z34.toNat*jL+0) z2==vY)=false,z4+z34.toNat*jL+jL<=z0.length,z2<=IntKind.i64.wrap zV/\IntKind.i64.wrap zV<iI,(z0.getD (z4+z35.toNat*jL+0) z2==vY)=true,z4+z35.toNat*jL+jL<=z0.length,z2<=IntKind.i64.wrap Oj/\IntKind.i64.wrap Oj<iI,(z0.getD (z4+z3.toNat*jL+0) z2==vY)=true,z4+z3.toNat*jL+jL<=z0.length,z2<=z3/\z3<iI,decide (List.take kR lW=bs)=true,Jx.length<=(1073741824:Nat),bs.length<=(1073741824:Nat),z4+kR<=z0.length/\z3.toNat-z4<=z9.toNat-z4,z4=z4,z3.toNat-z4=z3.toNat-z4,z9.toNat-z4=z9.toNat-z4,z4+kR<=z0.length/\z3.toNat-z4<=z9.toNat-z4,Jx.length=Jx.length,bs.length=bs.length,bs.length=bs.length,List.take kR lW=List.take kR lW,z4+kR<=z0.length/\z3.toNat-z4<=z9.toNat-z4,bs=bs,z2<=z9/\z9<=z9/\z2<=z3/\z3<=z9/\z2<=z2/\z2<=z3,(iI==IntKind.i64.wrap oC)=true,z2<=z9/\z9<=z9/\z2<=z3/\z3<=z9/\z2<=z2/\z2<=z3,z1.toNat=z7.length/\z4+bs.length+(3:Nat)<=z1.toNat,z1.toNat=qE.length/\z4+bs.length<=z1.toNat,z2<=z2/\z2<=IntKind.i64.wrap oC/\(1:Int)*IntKind.i64.wrap oC<=(281474976710656:Int)/\IntKind.i64.wrap oC<(9223372036854775808:Int),z2<=i/\i<z33/\i.toNat=k,M.NO (SV.int false IntKind.u64 non::([SV.int true IntKind.i64 z2,SV.raw Value.nilFunc,SV.raw Value.nilFunc,SV.raw Value.nilFunc,SV.raw Value.nilFunc,SV.raw Value.nilFunc,SV.raw Value.nilFunc]++([SV.int false IntKind.u8 (key.getD 0 z2),SV.int false IntKind.u8 (key.getD 1 z2),SV.int false IntKind.u8 (key.getD 2 z2),SV.int false IntKind.u8 (key.getD 3 z2),SV.int false IntKind.u8 (key.getD 4 z2),SV.int false IntKind.u8 (key.getD 5 z2),SV.int false IntKind.u8 (key.getD 6 z2),SV.int false IntKind.u8 (key.getD 7 z2),SV.int false IntKind.u8 (key.getD 8 z2),SV.int false IntKind.u8 (key.getD 9 z2),SV.int false IntKind.u8 (key.getD 10 z2),SV.int false IntKind.u8 (key.getD 11 z2),SV.int false IntKind.u8 (key.getD 12 z2),SV.int false IntKind.u8 (key.getD 13 z2),SV.int false IntKind.u8 (key.getD 14 z2),SV.int false IntKind.u8 (key.getD 15 z2),SV.int false IntKind.u8 (key.getD 16 z2),SV.int false IntKind.u8 (key.getD 17 z2),SV.int false IntKind.u8 (key.getD 18 z2),SV.int false IntKind.u8 (key.getD 19 z2),SV.int false IntKind.u8 (key.getD 20 z2),SV.int false IntKind.u8 (key.getD 21 z2),SV.int false IntKind.u8 (key.getD 22 z2),SV.int false IntKind.u8 (key.getD 23 z2),SV.int false IntKind.u8 (key.getD 24 z2),SV.int false IntKind.u8 (key.getD 25 z2),SV.int false IntKind.u8 (key.getD 26 z2),SV.int false IntKind.u8 (key.getD 27 z2),SV.int false IntKind.u8 (key.getD 28 z2),SV.int false IntKind.u8 (key.getD 29 z2),SV.int false IntKind.u8 (key.getD 30 z2),SV.int false IntKind.u8 (key.getD 31 z2)]++[SV.bool false has]))) non (M.Js key) has,M.NN (List.take (34:Nat) (List.take (35:Nat) (List.drop z4 ([SV.int false IntKind.u8 (key.getD 0 z2),SV.int false IntKind.u8 (key.getD 1 z2),SV.int false IntKind.u8 (key.getD 2 z2),SV.int false IntKind.u8 (key.getD 3 z2),SV.int false IntKind.u8 (key.getD 4 z2),SV.int false IntKind.u8 (key.getD 5 z2),SV.int false IntKind.u8 (key.getD 6 z2),SV.int false IntKind.u8 (key.getD 7 z2),SV.int false IntKind.u8 (key.getD 8 z2),SV.int false IntKind.u8 (key.getD 9 z2),SV.int false IntKind.u8 (key.getD 10 z2),SV.int false IntKind.u8 (key.getD 11 z2),SV.int false IntKind.u8 (key.getD 12 z2),SV.int false IntKind.u8 (key.getD 13 z2),SV.int false IntKind.u8 (key.getD 14 z2),SV.int false IntKind.u8 (key.getD 15 z2),SV.int false IntKind.u8 (key.getD 16 z2),SV.int false IntKind.u8 (key.getD 17 z2),SV.int false IntKind.u8 (key.getD 18 z2),SV.int false IntKind.u8 (key.getD 19 z2),SV.int false IntKind.u8 (key.getD 20 z2),SV.int false IntKind.u8 (key.getD 21 z2),SV.int false IntKind.u8 (key.getD 22 z2),SV.int false IntKind.u8 (key.getD 23 z2),SV.int false IntKind.u8 (key.getD 24 z2),SV.int false IntKind.u8 (key.getD 25 z2),SV.int false IntKind.u8 (key.getD 26 z2),SV.int false IntKind.u8 (key.getD 27 z2),SV.int false IntKind.u8 (key.getD 28 z2),SV.int false IntKind.u8 (key.getD 29 z2),SV.int false IntKind.u8 (key.getD 30 z2),SV.int false IntKind.u8 (key.getD 31 z2)]++[SV.bool false has,SV.int false IntKind.u64 non,SV.buf (402:Nat)])))++[SV.buf (65:Nat)]) (M.Js key) has non,M.OV (List.take (34:Nat) (List.take (37:Nat) (List.drop z4 (SV.int false IntKind.i64 kind::([SV.int false IntKind.u8 (xk.getD 0 z2),SV.int false IntKind.u8 (xk.getD 1 z2),SV.int false IntKind.u8 (xk.getD 2 z2),SV.int false IntKind.u8 (xk.getD 3 z2),SV.int false IntKind.u8 (xk.getD 4 z2),SV.int false IntKind.u8 (xk.getD 5 z2),SV.int false IntKind.u8 (xk.getD 6 z2),SV.int false IntKind.u8 (xk.getD 7 z2),SV.int false IntKind.u8 (xk.getD 8 z2),SV.int false IntKind.u8 (xk.getD 9 z2),SV.int false IntKind.u8 (xk.getD 10 z2),SV.int false IntKind.u8 (xk.getD 11 z2),SV.int false IntKind.u8 (xk.getD 12 z2),SV.int false IntKind.u8 (xk.getD 13 z2),SV.int false IntKind.u8 (xk.getD 14 z2),SV.int false IntKind.u8 (xk.getD 15 z2),SV.int false IntKind.u8 (xk.getD 16 z2),SV.int false IntKind.u8 (xk.getD 17 z2),SV.int false IntKind.u8 (xk.getD 18 z2),SV.int false IntKind.u8 (xk.getD 19 z2),SV.int false IntKind.u8 (xk.getD 20 z2),SV.int false IntKind.u8 (xk.getD 21 z2),SV.int false IntKind.u8 (xk.getD 22 z2),SV.int false IntKind.u8 (xk.getD 23 z2),SV.int false IntKind.u8 (xk.getD 24 z2),SV.int false IntKind.u8 (xk.getD 25 z2),SV.int false IntKind.u8 (xk.getD 26 z2),SV.int false IntKind.u8 (xk.getD 27 z2),SV.int false IntKind.u8 (xk.getD 28 z2),SV.int false IntKind.u8 (xk.getD 29 z2),SV.int false IntKind.u8 (xk.getD 30 z2),SV.int false IntKind.u8 (xk.getD 31 z2)]++[SV.int false IntKind.u64 num,SV.dX ((403:Nat)+jL) ad.length,SV.dX ((403:Nat)+(2:Nat)) bs.length,SV.int false IntKind.i64 n]))))++[SV.dX (63:Nat) ad.length,SV.dX (64:Nat) bs.length,SV.int false IntKind.i64 n]) kind (M.Js xk) num ad.length bs.length n,M.Fi (M.Js key) has non kind (M.Js xk) num n ad bs lg aX aW aV dY]++(M.gV key key++([has=has,non=non,kind=kind]++(M.gV xk xk++([num=num,ad.length=ad.length,ad.length=ad.length,bs.length=bs.length,bs.length=bs.length,n=n,non=non]++(M.gV key key++([has=has,ad=ad,bs=bs,lg=lg,Value.string {data:={toList:=[fE,dJ,z6,z5,eG,z8,eT,cH,OG,kQ,(103:UInt8),oH,tM,z8,z6,z5]}}=Value.string {data:={toList:=[fE,dJ,z6,z5,eG,z8,eT,cH,OG,kQ,(103:UInt8),oH,tM,z8,z6,z5]}},Value.string {data:={toList:=[fE,dJ,z6,z5,eG,z8,eT,cH,z6,cO,cH,kQ,cO,cO,tM]}}=Value.string {data:={toList:=[fE,dJ,z6,z5,eG,z8,eT,cH,z6,cO,cH,kQ,cO,cO,tM]}},Value.string {data:={toList:=[fE,dJ,z6,z5,eG,z8,eT,cH,z6,cO,cH,z6,oH,tM,(98:UInt8),z8,kQ,cH,eG,z8,(102:UInt8),z5]}}=Value.string {data:={toList:=[fE,dJ,z6,z5,eG,z8,eT,cH,z6,cO,cH,z6,oH,tM,(98:UInt8),z8,kQ,cH,eG,z8,(102:UInt8),z5]}},Value.string {data:={toList:=[fE,dJ,z6,z5,eG,z8,eT,cH,z5,cO,cO,cH,OI,OH,cO,kQ,z5]}}=Value.string {data:={toList:=[fE,dJ,z6,z5,eG,z8,eT,cH,z5,cO,cO,cH,OI,OH,cO,kQ,z5]}},Value.string {data:={toList:=[fE,dJ,z6,z5,eG,z8,eT,cH,(107:UInt8),z8,(121:UInt8),OI]}}=Value.string {data:={toList:=[fE,dJ,z6,z5,eG,z8,eT,cH,(107:UInt8),z8,(121:UInt8),OI]}},Value.string {data:={toList:=[fE,dJ,z6,z5,eG,z8,eT,cH,z6,cO,z5,cH,OG,oH,z5,OH,z8,z6,z5,dJ,(99:UInt8)]}}=Value.string {data:={toList:=[fE,dJ,z6,z5,eG,z8,eT,cH,z6,cO,z5,cH,OG,oH,z5,OH,z8,z6,z5,dJ,(99:UInt8)]}},z2<=i/\i<z33/\i.toNat=k,decide (i<(60:Int))=true,decide (i<z33)=true,n0=n0/\cap=cap/\k=k,IntKind.i64.wrap (i+(1:Int))=i',aV=aV]++(M.gV aX aX++([aW=aW]++(M.gV aX aX++([aW=aW,aV=aV,dY=dY]))))))))))):=by kernel_rfl
def iL (all:List SV) (cU:bA):bA:=aC 400 (oE all cU)
noncomputable def tS (all:List SV) (cU:bA) (cf:Cf) (K:List Fr) (s:St):Option jA:=cA (env fF 22) (aC 416 (iL all cU)) 416 Tryz.f5.ntmps [3] 0 400 cf K s
def nL (n0 cap j le:Nat) (v i:Int):List (Nat × SV):=[(0,.rT 60 n0 cap 37 j le),(3,.int false .i64 v),(4,.int false .i64 i)]
def wF:List (Nat × SB):=[(416,.gone),(417,.gone),(418,.gone)]
noncomputable def pV:Option jA:=tS [] (fun _=>none) (.go (codeOf Tryz.f5)) [] (gU [.rT 60 0 0 37 0 60] 416)
theorem aAf (all:List SV) (cU:bA) (n0 cap:Nat) :
 (cL 416 Tryz.f5.ntmps (aC 416 (iL all cU)) [] (nL n0 cap 0 60 0 0) [] 416 [] [] (tS all cU (.go (codeOf Tryz.f5)) [] ((gU [.rT 60 n0 cap 37 0 60] 416).hint []))) =
 sh (0:Int) fun z0=>
 some (.go (.loop (lF pV)),rG pV,[n0=n0/\cap=cap/\(0:Nat)=(0:Nat),z0=z0,z0=z0]):=by kernel_rfl
theorem aEr (all:List SV) (cU:bA) (n0 cap j k:Nat) (v v' i i':Int) (kind:Int) (xk:List Int) (num:Int) (ad bs:List Int) (n:Int) :
 Ol 416 (aC 416 (iL all cU)) [] [416,417,418] (nL n0 cap k 416 v' i') wF 419 [] [] (ZL 416 Tryz.f5.ntmps (aC 416 (iL all cU)) 416 (tS all cU (.go (lF pV)) [] ((Zz 416 Tryz.f5.ntmps 0 k kind xk num ad bs n (aN (nL n0 cap j 60 v i) [] 416 [] [])).hint [true,true,false,false]))) =
 sh (↑n0:Int) fun z0=>
 sh (0:Int) fun z1=>
 some (Cf.at Ex.normal,[],[z1<=i/\i<z0/\i.toNat=k,z1<=i/\i<z0/\i.toNat=k,decide ((↑bs.length:Int)>(200000:Int))=false,z1<=i/\i<z0/\i.toNat=k,decide ((↑ad.length:Int)>(200000:Int))=false,z1<=i/\i<z0/\i.toNat=k,decide (i<(60:Int))=true,decide (i<z0)=true,n0=n0/\cap=cap/\k=k,IntKind.i64.wrap (IntKind.i64.wrap (v+(↑ad.length:Int))+(↑bs.length:Int))=v',IntKind.i64.wrap (i+(1:Int))=i']):=by kernel_rfl
theorem aEp (all:List SV) (cU:bA) (n0 cap j k:Nat) (v v' i i':Int) (kind:Int) (xk:List Int) (num:Int) (ad bs:List Int) (n:Int):cL 416 Tryz.f5.ntmps (aC 416 (iL all cU)) [] [(2,.bool true false)] [] 416 [] [] (tS all cU (.go (lF pV)) [] ((Zz 416 Tryz.f5.ntmps 0 k kind xk num ad bs n (aN (nL n0 cap j 60 v i) [] 416 [] [])).hint [true,true,true]))=some (Cf.at Ex.ret,[],[decide ((↑ad.length:Int)>(200000:Int))=true,(0:Int)<=i/\i<(↑n0:Int)/\i.toNat=k,decide (i<(60:Int))=true,decide (i<(↑n0:Int))=true]):=by kernel_rfl
theorem aEn (all:List SV) (cU:bA) (n0 cap j k:Nat) (v v' i i':Int) (kind:Int) (xk:List Int) (num:Int) (ad bs:List Int) (n:Int) :
 cL 416 Tryz.f5.ntmps (aC 416 (iL all cU)) [] [(2,.bool true false)] [] 416 [] [] (tS all cU (.go (lF pV)) [] ((Zz 416 Tryz.f5.ntmps 0 k kind xk num ad bs n (aN (nL n0 cap j 60 v i) [] 416 [] [])).hint [true,true,false,true])) =
 sh (↑n0:Int) fun z0=>
 some (Cf.at Ex.ret,[],[decide ((↑bs.length:Int)>(200000:Int))=true,(0:Int)<=i/\i<z0/\i.toNat=k,decide ((↑ad.length:Int)>(200000:Int))=false,(0:Int)<=i/\i<z0/\i.toNat=k,decide (i<(60:Int))=true,decide (i<z0)=true]):=by kernel_rfl
theorem aEl (all:List SV) (cU:bA) (n0 cap j:Nat) (v i:Int):cL 416 Tryz.f5.ntmps (aC 416 (iL all cU)) [] [(3,.int false .i64 v)] [] 416 [] [] (tS all cU (.go (lF pV)) [] ((aN (nL n0 cap j 60 v i) [] 416 [] []).hint [false]))=some (Cf.at (Ex.exit 0),[],[decide (i<(↑n0:Int))=false,v=v]):=by kernel_rfl
theorem aEj (all:List SV) (cU:bA) (n0 cap j:Nat) (v i:Int):cL 416 Tryz.f5.ntmps (aC 416 (iL all cU)) [] [(3,.int false .i64 v)] [] 416 [] [] (tS all cU (.go (lF pV)) [] ((aN (nL n0 cap j 60 v i) [] 416 [] []).hint [true,false]))=some (Cf.at (Ex.exit 0),[],[decide (i<(60:Int))=false,decide (i<(↑n0:Int))=true,v=v]):=by kernel_rfl
theorem aEq (all:List SV) (cU:bA) (n0 cap j k:Nat) (v v' i i':Int) (kind:Int) (xk:List Int) (num:Int) (ad bs:List Int) (n:Int) :
 Ol 416 (aC 416 (iL all cU)) [] [419,420,421] (nL n0 cap k 416 v' i') wF 419 [] [] (ZL 416 Tryz.f5.ntmps (aC 416 (iL all cU)) 419 (tS all cU (.go (lF pV)) [] ((Zz 416 Tryz.f5.ntmps 0 k kind xk num ad bs n (aN (nL n0 cap j 416 v i) wF 419 [] [])).hint [true,true,false,false]))) =
 sh (↑n0:Int) fun z0=>
 sh (0:Int) fun z1=>
 some (Cf.at Ex.normal,[],[z1<=i/\i<z0/\i.toNat=k,z1<=i/\i<z0/\i.toNat=k,decide ((↑bs.length:Int)>(200000:Int))=false,z1<=i/\i<z0/\i.toNat=k,decide ((↑ad.length:Int)>(200000:Int))=false,z1<=i/\i<z0/\i.toNat=k,decide (i<(60:Int))=true,decide (i<z0)=true,n0=n0/\cap=cap/\k=k,IntKind.i64.wrap (IntKind.i64.wrap (v+(↑ad.length:Int))+(↑bs.length:Int))=v',IntKind.i64.wrap (i+(1:Int))=i']):=by kernel_rfl
theorem aEo (all:List SV) (cU:bA) (n0 cap j k:Nat) (v v' i i':Int) (kind:Int) (xk:List Int) (num:Int) (ad bs:List Int) (n:Int):cL 416 Tryz.f5.ntmps (aC 416 (iL all cU)) [] [(2,.bool true false)] [] 416 [] [] (tS all cU (.go (lF pV)) [] ((Zz 416 Tryz.f5.ntmps 0 k kind xk num ad bs n (aN (nL n0 cap j 416 v i) wF 419 [] [])).hint [true,true,true]))=some (Cf.at Ex.ret,[],[decide ((↑ad.length:Int)>(200000:Int))=true,(0:Int)<=i/\i<(↑n0:Int)/\i.toNat=k,decide (i<(60:Int))=true,decide (i<(↑n0:Int))=true]):=by kernel_rfl
theorem aEm (all:List SV) (cU:bA) (n0 cap j k:Nat) (v v' i i':Int) (kind:Int) (xk:List Int) (num:Int) (ad bs:List Int) (n:Int) :
 cL 416 Tryz.f5.ntmps (aC 416 (iL all cU)) [] [(2,.bool true false)] [] 416 [] [] (tS all cU (.go (lF pV)) [] ((Zz 416 Tryz.f5.ntmps 0 k kind xk num ad bs n (aN (nL n0 cap j 416 v i) wF 419 [] [])).hint [true,true,false,true])) =
 sh (↑n0:Int) fun z0=>
 some (Cf.at Ex.ret,[],[decide ((↑bs.length:Int)>(200000:Int))=true,(0:Int)<=i/\i<z0/\i.toNat=k,decide ((↑ad.length:Int)>(200000:Int))=false,(0:Int)<=i/\i<z0/\i.toNat=k,decide (i<(60:Int))=true,decide (i<z0)=true]):=by kernel_rfl
theorem aEk (all:List SV) (cU:bA) (n0 cap j:Nat) (v i:Int):cL 416 Tryz.f5.ntmps (aC 416 (iL all cU)) [] [(3,.int false .i64 v)] [] 416 [] [] (tS all cU (.go (lF pV)) [] ((aN (nL n0 cap j 416 v i) wF 419 [] []).hint [false]))=some (Cf.at (Ex.exit 0),[],[decide (i<(↑n0:Int))=false,v=v]):=by kernel_rfl
theorem aEi (all:List SV) (cU:bA) (n0 cap j:Nat) (v i:Int):cL 416 Tryz.f5.ntmps (aC 416 (iL all cU)) [] [(3,.int false .i64 v)] [] 416 [] [] (tS all cU (.go (lF pV)) [] ((aN (nL n0 cap j 416 v i) wF 419 [] []).hint [true,false]))=some (Cf.at (Ex.exit 0),[],[decide (i<(60:Int))=false,decide (i<(↑n0:Int))=true,v=v]):=by kernel_rfl
theorem aNr (all:List SV) (cU:bA) (v:Int) :
 fA (env fF 22) (iL all cU) 408 416 Tryz.f5 [] (tS all cU (.at (.exit 0)) (rG pV) ((aN [(3,.int false .i64 v)] [] 416 [] []).hint [])) =
 some {val:=SV.bool false (decide (v<=(200000:Int)))}:=by kernel_rfl
theorem aNq (all:List SV) (cU:bA) :
 fA (env fF 22) (iL all cU) 408 416 Tryz.f5 [] (tS all cU (.at .ret) (rG pV) ((aN [(2,.bool true false)] [] 416 [] []).hint [])) =
 some {val:=SV.bool true false}:=by kernel_rfl
structure Du where
 kind:Int
 xk:List Int
 num:Int
 ad:List Int
 bs:List Int
 n:Int
def Du.ok (s:Du):Prop:=s.xk.length=32/\bG s.xk/\M.tR s.num/\bG s.ad/\bG s.bs
def Du.OC (s:Du):Prop:=s.ad.length<=200000/\s.bs.length<=200000
structure Fk (all:List SV) (cU:bA) (ss:List Du):Prop where
 el:∀ i s,i<60->ss[i]?=some s->(all.drop (37*i)).take 37=Ob s.kind s.xk s.num s.ad.length s.bs.length s.n (200+3*i) (201+3*i)
 a:∀ i s,i<60->ss[i]?=some s->cU (200+3*i)=some (.dK .u8 s.ad)
 b:∀ i s,i<60->ss[i]?=some s->cU (201+3*i)=some (.dK .u8 s.bs)
theorem qP (all:List SV) (cU:bA) {l:Nat} (h:200<=l):oE all cU l=cU l:=by
 have hk:((60,SB.eY all)::(ZR++Kg)).all (fun p=>Nat.blt p.1 200)=true:=by rfl
 have hn:look l ((60,SB.eY all)::(ZR++Kg))=none:=by
  cases hl:look l ((60,SB.eY all)::(ZR++Kg)) with
  | none=>rfl
  | some B=>
    have:=List.all_eq_true.1 hk _ (gQ hl)
    simp only [Nat.blt_eq] at this
    omega
 unfold oE
 rw [hn]
 have:Nat.blt l 200=false:=by
  cases hb:Nat.blt l 200 with
  | false=>rfl
  | true=>rw [Nat.blt_eq] at hb;omega
 rw [this]
theorem iS {F:Nat} {T:bA} {l:Nat} (h:l<F):aC F T l=T l:=by
 unfold aC
 have:Nat.blt l F=true:=by rw [Nat.blt_eq];exact h
 simp [this,h]
theorem YU {gs:List (Nat × SV)} {tb:List (Nat × SB)} {nx:Nat} {ws:List Nat} {df:List SV} {B:bA} {l:Nat} (h:look l tb=none):(aN gs tb nx ws df).T B l=B l:=by
 unfold St.T aN
 simp only
 cases hg:(yP tb).get l with
 | none=>rfl
 | some b=>have:=oP l b hg;rw [h] at this;cases this
section
open Go.ChangeShapes Go.WideShapes
section
variable {H:Type} {enc:TypeId × Value->H} {P:Program} {w:World} {held:Bool}
theorem wf_u8 {n:Int} (h:(Lit.int .u8 n).wf=true):Bt n:=by
 have:=bounds_u8 h
 exact ⟨this.1,by omega⟩
theorem Cw {fuel:Nat} {tb t5:TypeId} {cs:List Value} {x:DataW H × List MemPlace} (ht:P.underlying tb=some (.slice t5)) (h5:P.underlying t5=some (.int .u8)) (hc:P.cellsOf t5=1)
 (h:DataW.trod enc P w 0 (fun _=>true) held fuel tb cs=some x):∃ v xs,cs=[v]/\Hl w .u8 v xs/\bG xs:=by
 rcases open_ints ht h5 hc h with ⟨rfl,_⟩ | ⟨a,len,cap,zs,rfl,_,hle,_,hz,_,kK,hwf⟩
 .exact ⟨_,[],rfl,.inl ⟨.nil,rfl⟩,fun _ h=>by cases h⟩
 .simp only [if_true] at hz
  refine ⟨_,zs.take len,rfl,?_,fun z hzm=>wf_u8 (hwf z (List.mem_of_mem_take hzm))⟩
  by_cases h0:cap=0
  .subst h0
   have:len=0:=by omega
   subst this
   exact .inl ⟨⟨_,rfl⟩,by simp⟩
  .have wA:=kK 0 (by omega)
   obtain ⟨b,o,s⟩:=a
   have hs:s=none:=by
    have:=World.cell?_spot wA
    cases s with
    | none=>rfl
    | some s=>simp [Addr.add] at this
   subst hs
   have hlen:(zs.take len).length=len:=by rw [List.length_take];omega
   refine .inr ⟨b,o,cap,by rw [hlen],?_,by omega,fun j u hj=>?_⟩
   .rw [bY] at wA
    unfold World.cell? at wA
    simp only at wA
    cases hb:w.heap[b]? with
    | none=>rw [hb] at wA;simp at wA
    | some y=>exact (Array.getElem?_eq_some_iff.1 hb).1
   .rw [List.map_take,List.getElem?_take] at hj
    split at hj
    .rename_i hjl
     rw [List.getElem?_map] at hj
     obtain ⟨z,hzj,rfl⟩:=Option.map_eq_some_iff.1 hj
     have:=kK j (by omega)
     rw [bY] at this
     rw [this,List.getD_eq_getElem?_getD,hzj]
     rfl
    .cases hj
def intOf:Value->Int
 | .int _ z=>z
 | _=>0
theorem Nz {fuel:Nat} {ta t5:TypeId} {n:Nat} {cs:List Value} {x:DataW H × List MemPlace} (ht:P.underlying ta=some (.array n t5)) (h5:P.underlying t5=some (.int .u8)) (hc:P.cellsOf t5=1) (jM:P.cellsOf ta=n)
 (h:DataW.trod enc P w 0 (fun _=>true) held fuel ta cs=some x):∃ xs,xs.length=n/\cs=xs.map (Value.int .u8)/\bG xs:=by
 obtain ⟨xs,m,_,_,hlen,hn,ZG⟩:=DataW.trod_array ht h
 rw [jM] at hlen
 have key:∀ i,i<n->∃ z,cs[i]?=some (.int .u8 z)/\Bt z:=by
  intro i hi
  have h1:=ZG i hi
  rw [hc,Nat.mul_one,List.getElem?_eq_getElem (by omega)] at h1
  obtain ⟨z,hz,_,hw⟩:=DataW.trod_int h5 h1
  refine ⟨z,?_,wf_u8 hw⟩
  have:=congrArg (·[0]?) hz
  simpa [List.getElem?_take,List.getElem?_drop] using this
 refine ⟨cs.map intOf,by simp [hlen],?_,fun z hz=>?_⟩
 .rw [List.map_map]
  refine List.ext_getElem? fun i=>?_
  rw [List.getElem?_map]
  by_cases hi:i<n
  .obtain ⟨z,hz,_⟩:=key i hi
   rw [hz];rfl
  .rw [List.getElem?_eq_none (by omega)];rfl
 .obtain ⟨v,hv,rfl⟩:=List.mem_map.1 hz
  obtain ⟨i,hi⟩:=List.getElem?_of_mem hv
  have NW:i<n:=by rw [<- hlen];exact (List.getElem?_eq_some_iff.1 hi).1
  obtain ⟨z,hz,hb⟩:=key i NW
  rw [hi] at hz
  cases hz
  exact hb
end
structure QZ (W:World) (cs:List Value) (s:Du) (va vb:Value):Prop where
 cs:cs = .int .i64 s.kind::(s.xk.map (Value.int .u8)++[.int .u64 s.num,va,vb,.int .i64 s.n])
 a:Hl W .u8 va s.ad
 b:Hl W .u8 vb s.bs
 ok:s.ok
theorem aSy (cs:List Value):cs=(cs.drop 0).take 1++((cs.drop 1).take 32++((cs.drop 33).take 1++((cs.drop 34).take 1++((cs.drop 35).take 1++((cs.drop 36).take 1++cs.drop 37))))):=by
 have s:∀ k m (l:List Value),(l.drop k).take m++l.drop (k+m)=l.drop k:=fun k m l=>by rw [<- List.drop_drop,List.take_append_drop]
 rw [s 36 1,s 35 1,s 34 1,s 33 1,s 1 32,s 0 1,List.drop_zero]
section
variable {H:Type} {enc:TypeId × Value->H} {P:Program} {w:World} {held:Bool}
structure HN (P:Program) (e ta ti tu tb t5:TypeId) (fs:Array Field):Prop where
 he:P.underlying e=some (.struct fs)
 hf:fs.toList.map (fun f=>(f.type,f.offset))=[(ti,0),(ta,1),(tu,33),(tb,34),(tb,35),(ti,36)]
 ZJ:P.cellsOf e=37
 ha:P.underlying ta=some (.array 32 t5)
 jM:P.cellsOf ta=32
 hi:P.underlying ti=some (.int .i64)
 hci:P.cellsOf ti=1
 hu:P.underlying tu=some (.int .u64)
 hcu:P.cellsOf tu=1
 hb:P.underlying tb=some (.slice t5)
 PH:P.cellsOf tb=1
 h5:P.underlying t5=some (.int .u8)
 hc5:P.cellsOf t5=1
theorem Rj {fuel:Nat} {e ta ti tu tb t5:TypeId} {fs:Array Field} {cs:List Value} {x:DataW H × List MemPlace} (ht:HN P e ta ti tu tb t5 fs)
 (h:DataW.trod enc P w 0 (fun _=>true) held fuel e cs=some x):∃ s va vb,QZ w cs s va vb:=by
 obtain ⟨xs,m,_,_,hlen,hn,ZG⟩:=DataW.trod_struct ht.he h
 have hf6:fs.size=6:=by have:=congrArg List.length ht.hf;simpa using this
 have get:∀ (i:Nat) (t:TypeId) (o:Nat),([(ti,0),(ta,1),(tu,33),(tb,34),(tb,35),(ti,36)]:List (TypeId × Nat))[i]?=some (t,o)->∃ y,DataW.trod enc P w 0 (fun _=>true) held m t ((cs.drop o).take (P.cellsOf t))=some y:=by
  intro i t o hi
  rw [<- ht.hf,List.getElem?_map] at hi
  obtain ⟨f,hf,hfe⟩:=Option.map_eq_some_iff.1 hi
  cases hfe
  have h1:=ZG i f (by simpa using hf)
  have hi6:i<xs.length:=by
   have:=(List.getElem?_eq_some_iff.1 hf).1
   rw [hn];simpa using this
  rw [List.getElem?_eq_getElem hi6] at h1
  exact ⟨_,h1⟩
 obtain ⟨y0,h0⟩:=get 0 ti 0 rfl
 obtain ⟨y1,h1⟩:=get 1 ta 1 rfl
 obtain ⟨y2,h2⟩:=get 2 tu 33 rfl
 obtain ⟨y3,h3⟩:=get 3 tb 34 rfl
 obtain ⟨y4,h4⟩:=get 4 tb 35 rfl
 obtain ⟨y5,h5⟩:=get 5 ti 36 rfl
 rw [ht.hci] at h0 h5
 rw [ht.jM] at h1
 rw [ht.hcu] at h2
 rw [ht.PH] at h3 h4
 obtain ⟨kind,e0,_,_⟩:=DataW.trod_int ht.hi h0
 obtain ⟨xk,hxk,e1,Gr⟩:=Nz ht.ha ht.h5 ht.hc5 ht.jM h1
 obtain ⟨num,e2,_,vU⟩:=DataW.trod_int ht.hu h2
 obtain ⟨va,ad,e3,ha,AT⟩:=Cw ht.hb ht.h5 ht.hc5 h3
 obtain ⟨vb,bs,e4,hb,pT⟩:=Cw ht.hb ht.h5 ht.hc5 h4
 obtain ⟨n,e5,_,_⟩:=DataW.trod_int ht.hi h5
 have OZ:=bounds_u64 vU
 refine ⟨⟨kind,xk,num,ad,bs,n⟩,va,vb,?_,ha,hb,hxk,Gr,⟨OZ.1,by show num<18446744073709551616;omega⟩,AT,pT⟩
 rw [aSy cs,e0,e1,e2,e3,e4,e5,List.drop_eq_nil_of_le (by rw [hlen,ht.ZJ];omega)]
 simp
end
theorem yJ {α:Type} {p:Nat->α->Prop}:∀ n,(∀ i,i<n->∃ x,p i x)->∃ l:List α,l.length=n/\∀ i x,l[i]?=some x->p i x
 | 0,_=>⟨[],rfl,fun i x h=>by simp at h⟩
 | n+1,h=>by
   obtain ⟨l,hl,hp⟩:=yJ n fun i hi=>h i (by omega)
   obtain ⟨x,hx⟩:=h n (by omega)
   refine ⟨l++[x],by simp [hl],fun i y hy=>?_⟩
   by_cases hi:i<n
   .rw [List.getElem?_append_left (by omega)] at hy
    exact hp i y hy
   .rw [List.getElem?_append_right (by omega)] at hy
    have:i-l.length=0:=by
     have:=(List.getElem?_eq_some_iff.1 hy).1
     simp at this
     omega
    rw [this] at hy
    simp at hy
    subst hy
    have:i=n:=by omega
    subst this
    exact hx
abbrev AW:=List (Du × Value × Value)
def yZ:Nat->AW->List SV
 | _,[]=>[]
 | i,x::r=>Ob x.1.kind x.1.xk x.1.num x.1.ad.length x.1.bs.length x.1.n (200+3*i) (201+3*i)++yZ (i+1) r
theorem zM {k:Int} {xk:List Int} {num:Int} {la lb:Nat} {n:Int} {a b:Nat}:(Ob k xk num la lb n a b).length=37:=by
 simp [Ob,cQ]
theorem Ve:∀ (l:AW) (i0 i:Nat) (x:Du × Value × Value),l[i]?=some x->((yZ i0 l).drop (37*i)).take 37=Ob x.1.kind x.1.xk x.1.num x.1.ad.length x.1.bs.length x.1.n (200+3*(i0+i)) (201+3*(i0+i))
 | [],_,_,_,h=>by simp at h
 | y::r,i0,0,x,h=>by
   simp only [List.getElem?_cons_zero,Option.some.injEq] at h
   subst h
   simp only [yZ,Nat.mul_zero,List.drop_zero,Nat.add_zero]
   rw [List.take_append_of_le_length (by rw [zM];exact Nat.le_refl _),List.take_of_length_le (by rw [zM];exact Nat.le_refl _)]
 | y::r,i0,i+1,x,h=>by
   simp only [List.getElem?_cons_succ] at h
   have ih:=Ve r (i0+1) i x h
   simp only [yZ]
   rw [List.drop_append,zM,List.drop_eq_nil_of_le (by rw [zM];omega),List.nil_append,show 37*(i+1)-37=37*i from by omega,ih,show i0+1+i=i0+(i+1) from by omega]
def elV (l:AW) (k:Nat):Option Value:=match l[(k-200)/3]? with
 | some x=>match (k-200)%3 with
   | 0=>some x.2.1
   | 1=>some x.2.2
   | _=>none
 | none=>none
def OF (l:AW) (k:Nat):Option SB:=match l[(k-200)/3]? with
 | some x=>match (k-200)%3 with
   | 0=>some (.dK .u8 x.1.ad)
   | 1=>some (.dK .u8 x.1.bs)
   | _=>none
 | none=>none
theorem AV (i:Nat):(200+3*i-200)/3=i/\(200+3*i-200)%3=0:=by omega
theorem at1 (i:Nat):(201+3*i-200)/3=i/\(201+3*i-200)%3=1:=by omega
structure Tm (W:World) (b o:Nat) (l:AW):Prop where
 el:∀ i x,l[i]?=some x->∃ cs,QZ W cs x.1 x.2.1 x.2.2/\∀ j v,cs[j]?=some v->W.cell? ⟨b,o+37*i+j,none⟩=some v
theorem TR {W:World} {V:bF} {cs:List Value} {s:Du} {va vb:Value} {la lb:Nat} (h:QZ W cs s va vb) (ha:V.σ la=some va) (hb:V.σ lb=some vb) :
 aJ V (Ob s.kind s.xk s.num s.ad.length s.bs.length s.n la lb)=some cs:=by
 have hi:aJ V (cQ .u8 32 s.xk)=some (s.xk.map (Value.int .u8)):=vG h.ok.1
 have ht:aJ V [.int false .u64 s.num,.dX la s.ad.length,.dX lb s.bs.length,.int false .i64 s.n]=some [.int .u64 s.num,va,vb,.int .i64 s.n]:=by
  simp [aJ,den,ha,hb,h.a.dX,h.b.dX]
 unfold Ob
 rw [aJ,den,cJ hi ht,h.cs]
 rfl
theorem Tx {W:World} {b o:Nat} {V:bF} {L:AW} (hσ:∀ k,200<=k->k<400->V.σ k=elV L k) (hL:L.length<=60) (h:Tm W b o L) :
 ∀ (l:AW) (i0:Nat),(∀ i x,l[i]?=some x->L[i0+i]?=some x)->∃ cs,aJ V (yZ i0 l)=some cs/\∀ j v,cs[j]?=some v->W.cell? ⟨b,o+37*i0+j,none⟩=some v
 | [],i0,_=>⟨[],rfl,fun j v h=>by simp at h⟩
 | x::r,i0,hl=>by
   have h0:=hl 0 x rfl
   rw [Nat.add_zero] at h0
   have hi:i0<60:=by have:=(List.getElem?_eq_some_iff.1 h0).1;omega
   obtain ⟨cs,hE,nK⟩:=h.el i0 x h0
   have ha:V.σ (200+3*i0)=some x.2.1:=by
    rw [hσ _ (by omega) (by omega)]
    unfold elV
    simp only [(AV i0).1,(AV i0).2,h0]
   have hb:V.σ (201+3*i0)=some x.2.2:=by
    rw [hσ _ (by omega) (by omega)]
    unfold elV
    simp only [(at1 i0).1,(at1 i0).2,h0]
   obtain ⟨ds,hd,hds⟩:=Tx hσ hL h r (i0+1) fun i y hy=>by
    have:=hl (i+1) y hy
    rwa [show i0+(i+1)=i0+1+i from by omega] at this
   have Pf:=TR hE ha hb
   refine ⟨cs++ds,cJ Pf hd,fun j v hj=>?_⟩
   have hlen:cs.length=37:=by rw [hE.cs];simp [hE.ok.1]
   by_cases hj7:j<37
   .rw [List.getElem?_append_left (by omega)] at hj
    exact nK j v hj
   .rw [List.getElem?_append_right (by omega),hlen] at hj
    have:=hds (j-37) v hj
    rwa [show o+37*(i0+1)+(j-37)=o+37*i0+j from by omega] at this
theorem aFy (L:AW) (ss:List Du) (hL:∀ i s,i<60->ss[i]?=some s->∃ x,L[i]?=some x/\x.1=s):Fk (yZ 0 L) (OF L) ss:=by
 refine ⟨fun i s hi hs=>?_,fun i s hi hs=>?_,fun i s hi hs=>?_⟩
 .obtain ⟨x,hx,rfl⟩:=hL i s hi hs
  have:=Ve L 0 i x hx
  simpa only [Nat.zero_add] using this
 .obtain ⟨x,hx,rfl⟩:=hL i s hi hs
  unfold OF
  simp only [(AV i).1,(AV i).2,hx]
 .obtain ⟨x,hx,rfl⟩:=hL i s hi hs
  unfold OF
  simp only [(at1 i).1,(at1 i).2,hx]
end
def szO:Option Du->Nat
 | some s=>s.ad.length+s.bs.length
 | none=>0
def eZ (ss:List Du):Nat->Nat
 | 0=>0
 | k+1=>eZ ss k+szO ss[k]?
theorem Cu {ss:List Du} {k:Nat} {s:Du} (h:ss[k]?=some s):eZ ss (k+1)=eZ ss k+s.ad.length+s.bs.length:=by
 show eZ ss k+szO ss[k]?=_
 rw [h]
 show eZ ss k+(s.ad.length+s.bs.length)=_
 omega
theorem Ca {ss:List Du}:∀ {k:Nat},(∀ i s,i<k->ss[i]?=some s->s.OC)->k<=60->eZ ss k<=400000*k
 | 0,_,_=>by simp [eZ]
 | k+1,h,hk=>by
   have h1:=Ca (k:=k) (fun i s hi hs=>h i s (by omega) hs) (by omega)
   show eZ ss k+szO ss[k]?<=_
   cases hs:ss[k]? with
   | none=>show eZ ss k+0<=_;omega
   | some s=>
     have:=h k s (by omega) hs
     unfold Du.OC at this
     show eZ ss k+(s.ad.length+s.bs.length)<=_
     omega
theorem Fp {l:Nat} (h:l<400):look l wF=none:=by
 unfold wF
 rw [aF (by omega),aF (by omega),aF (by omega)]
 rfl
set_option maxHeartbeats 2000000 in
theorem Mf {all:List SV} {cU:bA} {ss:List Du} {cap:Nat} {w0:World} {Mx:Nat->Prop} {V0:bF} {Q:Exit->Act->World->Prop} (hb:mU (env fF 22) (aC 416 (iL all cU)) 416 V0) (hS:Fk all cU ss) (hl:ss.length<=1073741824)
 (H1:(∀ i s,i<60->ss[i]?=some s->s.OC)->G Tryz.prog (env fF 22) w0 Mx (aC 416 (iL all cU)) Tryz.f5.ntmps 416 V0 (.at (.exit 0)) (rG pV) (aN [(3,.int false .i64 ((eZ ss (min 60 ss.length):Nat):Int))] [] 416 [] []) Q)
 (H2:(¬ ∀ i s,i<60->ss[i]?=some s->s.OC)->G Tryz.prog (env fF 22) w0 Mx (aC 416 (iL all cU)) Tryz.f5.ntmps 416 V0 (.at .ret) (rG pV) (aN [(2,.bool true false)] [] 416 [] []) Q) :
 G Tryz.prog (env fF 22) w0 Mx (aC 416 (iL all cU)) Tryz.f5.ntmps 416 V0 (.go (.loop (lF pV))) (rG pV) (aN (nL ss.length cap 0 60 0 0) [] 416 [] []) Q:=by
 have aM:=bH fF 22
 have aE:=bJ fF kC 22
 refine G.loop (fun r s=>∃ k:Nat,k<=60/\k<=ss.length/\r=ss.length-k/\(∀ i s,i<k->ss[i]?=some s->s.OC)/\((k=0/\s=aN (nL ss.length cap 0 60 0 0) [] 416 [] [])\/(∃ j,s=aN (nL ss.length cap j 416 ((eZ ss k:Nat):Int) (k:Int)) wF 419 [] []))) (r0:=ss.length)
  ⟨0,by omega,by omega,rfl,fun i s hi=>by omega,.inl ⟨rfl,rfl⟩⟩ ?_
 rintro r s ⟨k,hk,fU,rfl,As,vZ⟩
 rcases vZ with ⟨rfl,rfl⟩ | ⟨j,rfl⟩
 .have hz:eZ ss 0=0:=rfl
  by_cases cK:0<ss.length
  .by_cases h6:0<60
   .obtain ⟨s,hs⟩:∃ s,ss[0]?=some s:=⟨_,List.getElem?_eq_getElem cK⟩
    have aQc:=Cu hs
    have Dk:=Ca As (by omega:0<=60)
    have Sb:(aN (nL ss.length cap 0 60 0 0) [] 416 [] []).T (aC 416 (iL all cU)) 60=some (.eY all):=rfl
    have hA:(aN (nL ss.length cap 0 60 0 0) [] 416 [] []).T (aC 416 (iL all cU)) (200+3*0)=some (.dK .u8 s.ad):=by
     rw [YU (rfl),iS (by omega)];unfold iL;rw [iS (by omega),qP _ _ (by omega)];exact hS.a 0 s h6 hs
    have hB:(aN (nL ss.length cap 0 60 0 0) [] 416 [] []).T (aC 416 (iL all cU)) (201+3*0)=some (.dK .u8 s.bs):=by
     rw [YU (rfl),iS (by omega)];unfold iL;rw [iS (by omega),qP _ _ (by omega)];exact hS.b 0 s h6 hs
    refine G.Fj (i:=0) (n0:=ss.length) (cap:=cap) (j:=0) (le:=60) rfl Sb hA hB (hS.el 0 s h6 hs) ?_
    by_cases f1:200000<s.ad.length
    .refine G.cL aM aE mix hb [true,true,true] (aEp all cU ss.length cap 0 0 0 0 0 0 s.kind s.xk s.num s.ad s.bs s.n) (aA ⟨decide_eq_true (by omega),⟨by omega,by omega,by omega⟩,decide_eq_true (by omega),decide_eq_true (by omega),trivial⟩) (G.leave (by simp) (H2 fun jN=>?_))
     have:=(jN 0 s h6 hs).1;omega
    by_cases f2:200000<s.bs.length
    .refine G.cL aM aE mix hb [true,true,false,true] (aEn all cU ss.length cap 0 0 0 0 0 0 s.kind s.xk s.num s.ad s.bs s.n) (aA ⟨decide_eq_true (by omega),⟨by omega,by omega,by omega⟩,decide_eq_false (by omega),⟨by omega,by omega,by omega⟩,decide_eq_true (by omega),decide_eq_true (by omega),trivial⟩) (G.leave (by simp) (H2 fun jN=>?_))
     have:=(jN 0 s h6 hs).2;omega
    refine G.PV aM aE mix hb [true,true,false,false] (aEr all cU ss.length cap 0 0 0 ((eZ ss (0+1):Nat):Int) 0 ((0+1:Nat):Int) s.kind s.xk s.num s.ad s.bs s.n) (aA ?_) (G.again fun V _ _ hi=>⟨ss.length-(0+1),by omega,_,⟨0+1,by omega,by omega,rfl,?_,.inr ⟨_,rfl⟩⟩,V,hi⟩)
    .have w1:IntKind.i64.wrap (0+(s.ad.length:Int))=((0+s.ad.length:Nat):Int):=bD (by omega) (by omega)
     have w2:IntKind.i64.wrap (((0+s.ad.length:Nat):Int)+(s.bs.length:Int))=((eZ ss (0+1):Nat):Int):=bD (by omega) (by omega)
     simp only [aO,w1,w2]
     exact ⟨⟨by omega,by omega,by omega⟩,⟨by omega,by omega,by omega⟩,decide_eq_false (by omega),⟨by omega,by omega,by omega⟩,decide_eq_false (by omega),⟨by omega,by omega,by omega⟩,decide_eq_true (by omega),decide_eq_true (by omega),⟨trivial,trivial,trivial⟩,trivial,bD (by omega) (by omega),trivial⟩
    .intro i' s' fZ Gp
     by_cases e:i'=0
     .subst e;rw [hs] at Gp;cases Gp;exact ⟨by omega,by omega⟩
     .exact As i' s' (by omega) Gp
   .have hk6:0=60:=by omega
    refine G.cL aM aE mix hb [true,false] (aEj all cU ss.length cap 0 0 0) (aA ⟨decide_eq_false (by omega),decide_eq_true (by omega),rfl,trivial⟩) (G.leave (by simp) ?_)
    omega
  .refine G.cL aM aE mix hb [false] (aEl all cU ss.length cap 0 0 0) (aA ⟨decide_eq_false (by omega),rfl,trivial⟩) (G.leave (by simp) ?_)
   have Pe:0=min 60 ss.length:=by omega
   have Bk:∀ i s,i<60->ss[i]?=some s->s.OC:=fun i s hi hs=>As i s (by have:=(List.getElem?_eq_some_iff.1 hs).1;omega) hs
   have:=H1 Bk
   rw [<- Pe] at this
   exact this
 .skip
  by_cases cK:k<ss.length
  .by_cases h6:k<60
   .obtain ⟨s,hs⟩:∃ s,ss[k]?=some s:=⟨_,List.getElem?_eq_getElem cK⟩
    have aQc:=Cu hs
    have Dk:=Ca As (by omega:k<=60)
    have Sb:(aN (nL ss.length cap j 416 ((eZ ss k:Nat):Int) (k:Int)) wF 419 [] []).T (aC 416 (iL all cU)) 60=some (.eY all):=rfl
    have hA:(aN (nL ss.length cap j 416 ((eZ ss k:Nat):Int) (k:Int)) wF 419 [] []).T (aC 416 (iL all cU)) (200+3*k)=some (.dK .u8 s.ad):=by
     rw [YU (Fp (by omega)),iS (by omega)];unfold iL;rw [iS (by omega),qP _ _ (by omega)];exact hS.a k s h6 hs
    have hB:(aN (nL ss.length cap j 416 ((eZ ss k:Nat):Int) (k:Int)) wF 419 [] []).T (aC 416 (iL all cU)) (201+3*k)=some (.dK .u8 s.bs):=by
     rw [YU (Fp (by omega)),iS (by omega)];unfold iL;rw [iS (by omega),qP _ _ (by omega)];exact hS.b k s h6 hs
    refine G.Fj (i:=k) (n0:=ss.length) (cap:=cap) (j:=j) (le:=416) rfl Sb hA hB (hS.el k s h6 hs) ?_
    by_cases f1:200000<s.ad.length
    .refine G.cL aM aE mix hb [true,true,true] (aEo all cU ss.length cap j k ((eZ ss k:Nat):Int) 0 (k:Int) 0 s.kind s.xk s.num s.ad s.bs s.n) (aA ⟨decide_eq_true (by omega),⟨by omega,by omega,by omega⟩,decide_eq_true (by omega),decide_eq_true (by omega),trivial⟩) (G.leave (by simp) (H2 fun jN=>?_))
     have:=(jN k s h6 hs).1;omega
    by_cases f2:200000<s.bs.length
    .refine G.cL aM aE mix hb [true,true,false,true] (aEm all cU ss.length cap j k ((eZ ss k:Nat):Int) 0 (k:Int) 0 s.kind s.xk s.num s.ad s.bs s.n) (aA ⟨decide_eq_true (by omega),⟨by omega,by omega,by omega⟩,decide_eq_false (by omega),⟨by omega,by omega,by omega⟩,decide_eq_true (by omega),decide_eq_true (by omega),trivial⟩) (G.leave (by simp) (H2 fun jN=>?_))
     have:=(jN k s h6 hs).2;omega
    refine G.PV aM aE mix hb [true,true,false,false] (aEq all cU ss.length cap j k ((eZ ss k:Nat):Int) ((eZ ss (k+1):Nat):Int) (k:Int) ((k+1:Nat):Int) s.kind s.xk s.num s.ad s.bs s.n) (aA ?_) (G.again fun V _ _ hi=>⟨ss.length-(k+1),by omega,_,⟨k+1,by omega,by omega,rfl,?_,.inr ⟨_,rfl⟩⟩,V,hi⟩)
    .have w1:IntKind.i64.wrap (((eZ ss k:Nat):Int)+(s.ad.length:Int))=((eZ ss k+s.ad.length:Nat):Int):=bD (by omega) (by omega)
     have w2:IntKind.i64.wrap (((eZ ss k+s.ad.length:Nat):Int)+(s.bs.length:Int))=((eZ ss (k+1):Nat):Int):=bD (by omega) (by omega)
     simp only [aO,w1,w2]
     exact ⟨⟨by omega,by omega,by omega⟩,⟨by omega,by omega,by omega⟩,decide_eq_false (by omega),⟨by omega,by omega,by omega⟩,decide_eq_false (by omega),⟨by omega,by omega,by omega⟩,decide_eq_true (by omega),decide_eq_true (by omega),⟨trivial,trivial,trivial⟩,trivial,bD (by omega) (by omega),trivial⟩
    .intro i' s' fZ Gp
     by_cases e:i'=k
     .subst e;rw [hs] at Gp;cases Gp;exact ⟨by omega,by omega⟩
     .exact As i' s' (by omega) Gp
   .have hk6:k=60:=by omega
    refine G.cL aM aE mix hb [true,false] (aEi all cU ss.length cap j ((eZ ss k:Nat):Int) (k:Int)) (aA ⟨decide_eq_false (by omega),decide_eq_true (by omega),rfl,trivial⟩) (G.leave (by simp) ?_)
    have Pe:k=min 60 ss.length:=by omega
    have:=H1 (fun i s hi hs=>As i s (by omega) hs)
    rw [<- Pe] at this
    exact this
  .refine G.cL aM aE mix hb [false] (aEk all cU ss.length cap j ((eZ ss k:Nat):Int) (k:Int)) (aA ⟨decide_eq_false (by omega),rfl,trivial⟩) (G.leave (by simp) ?_)
   have Pe:k=min 60 ss.length:=by omega
   have Bk:∀ i s,i<60->ss[i]?=some s->s.OC:=fun i s hi hs=>As i s (by have:=(List.getElem?_eq_some_iff.1 hs).1;omega) hs
   have:=H1 Bk
   rw [<- Pe] at this
   exact this
theorem aEh {all:List SV} {cU:bA} {ss:List Du} (cap:Nat) (hS:Fk all cU ss) (hl:ss.length<=1073741824) :
 ∃ b,(b=true->∀ i s,i<60->ss[i]?=some s->s.OC)/\M.nX [.rT 60 ss.length cap 37 0 60] (aC 400 (oE all cU)) 408 416 b:=by
 have aM:=bH fF 22
 have aE:=bJ fF kC 22
 by_cases jN:∀ i s,i<60->ss[i]?=some s->s.OC
 .refine ⟨decide (((eZ ss (min 60 ss.length):Nat):Int)<=200000),fun _=>jN,?_⟩
  have main:aD Tryz.prog (env fF 22) 5 [.rT 60 ss.length cap 37 0 60] (iL all cU) 408 416 { val:=.bool false (decide (((eZ ss (min 60 ss.length):Nat):Int)<=200000)) }:=by
   refine bU aM aE Tryz.func5 (by kernel_rfl) rfl (Nat.le_of_ble_eq_true (by kernel_rfl)) rfl [] ?_
   intro w0 Mx V0 Q hb H
   refine G.cL aM aE mix hb [] (aAf all cU ss.length cap) (aA ⟨⟨rfl,rfl,rfl⟩,rfl,rfl,trivial⟩) ?_
   refine Mf hb hS hl (fun _=>?_) (fun h=>(h jN).elim)
   exact G.eX (cl:=[]) aM aE mix [] H (aNr all cU _) (aA (by simp [aO])) rfl rfl rfl
  unfold M.nX
  exact main.words rfl (fun _=>rfl) (fun _ _ h=>h) (fun _=>rfl) rfl rfl
 .refine ⟨false,fun h=>(by cases h),?_⟩
  unfold M.nX
  show aD Tryz.prog (env fF 22) 5 [.rT 60 ss.length cap 37 0 60] (iL all cU) 408 416 { val:=.bool true false }
  refine bU aM aE Tryz.func5 (by kernel_rfl) rfl (Nat.le_of_ble_eq_true (by kernel_rfl)) rfl [] ?_
  intro w0 Mx V0 Q hb H
  refine G.cL aM aE mix hb [] (aAf all cU ss.length cap) (aA ⟨⟨rfl,rfl,rfl⟩,rfl,rfl,trivial⟩) ?_
  refine Mf hb hS hl (fun h=>(jN h).elim) (fun _=>?_)
  exact G.eX (cl:=[]) aM aE mix [] H (aNq all cU) (aA (by simp [aO])) rfl rfl rfl
set_option maxHeartbeats 2000000 in
theorem IJ {all:List SV} {cU:bA} {n0 cap j k:Nat} {key xk ad bs aX:List Int} {has aW:Bool} {non num kind n aV:Int} {lg dY:Nat} {w0:World} {Mx:Nat->Prop} {V0:bF} {Q:Exit->Act->World->Prop}
 (hb:mU (ΓF true aX aW aV dY) (aC 400 (oE all cU)) 400 V0) (hk:key.length=32) (hx:xk.length=32) (cX:ad.length<=200000) (dH:bs.length<=200000) (NW:k<n0) (Sb:k<60)
 (hD:M.Fi key has non kind xk num n ad bs lg aX aW aV dY)
 (hG:G Tryz.prog (ΓF true aX aW aV dY) w0 Mx (aC 400 (oE all cU)) Tryz.f3.ntmps 400 V0 (.at .normal) [] (aN (nW n0 cap k 403 ((k+1:Nat):Int)) (kU aX aW aV dY++tT) 406 [] []) Q) :
 G Tryz.prog (ΓF true aX aW aV dY) w0 Mx (aC 400 (oE all cU)) Tryz.f3.ntmps 400 V0 (.go (lF Vj)) [] (Zz 400 Tryz.f3.ntmps 0 k kind xk num ad bs n (aN (nW n0 cap j 60 (k:Int)) (kU key has non lg) 403 [] [])) Q:=by
 have aM:=wR true aX aW aV dY
 have aE:=wS true aX aW aV dY
 have wb:IntKind.i64.wrap ((bs.length:Int)+3)=((bs.length+3:Nat):Int):=bD (by omega) (by omega)
 have wb1:IntKind.i64.wrap ((bs.length:Int)+1)=((bs.length+1:Nat):Int):=bD (by omega) (by omega)
 have wb2:IntKind.i64.wrap ((bs.length:Int)+2)=((bs.length+2:Nat):Int):=bD (by omega) (by omega)
 have wk:IntKind.i64.wrap ((k:Int)+1)=((k+1:Nat):Int):=bD (by omega) (by omega)
 obtain ⟨gb,gb1,gb2⟩:=M.wX bs
 have tb:=M.lL bs
 have lb:=M.kY bs
 have rb:=M.Cd bs
 have eb:=M.It bs
 simp only [Nat.zero_add,List.take_zero,List.nil_append,List.drop_zero] at rb eb tb
 have Ad:=M.nZ hk
 have Ju:=M.nZ hx
 refine G.PV aM aE mix hb [true,true,false] (aPk all cU n0 cap j (k:Int) ((k+1:Nat):Int) key has non lg aX aW aV dY k kind xk num ad bs n) ?_ hG
 simp only [Nat.sub_zero,Nat.zero_add,Nat.add_zero,Nat.mul_one,List.drop_zero,List.take_zero,List.nil_append,wb,wb1,wb2,wk,Int.toNat_natCast,rb,eb,tb,lb,gb,gb1,gb2,Ad,Ju,List.length_replicate]
 repeat' (first | exact M.fJ rfl | refine M.nM ?_ ?_)
 all_goals refine aA ?_
 all_goals simp only [aO]
 all_goals repeat' apply And.intro
 all_goals first | (with_reducible assumption) | (unfold M.NN;rfl) | (unfold M.NO;rfl) | (unfold M.OV;rfl) | omega | (with_reducible exact True.intro) | ((with_reducible refine decide_eq_true ?_);omega) | ((with_reducible refine decide_eq_false ?_);omega) | ((with_reducible refine iC ?_);omega) | with_reducible rfl | rfl | skip
theorem aPi (all:List SV) (cU:bA) (n0 cap:Nat) :
 (cL 400 Tryz.f3.ntmps (aC 400 (oE all cU)) [] (BK n0 cap) [] 400 [] [] (Zp false all cU [] false 0 0 3 (.go (codeOf Tryz.f3)) [] ((gU [.rT 60 n0 cap 37 0 60] 400).hint []))) =
 some (.go Pb,[],[n0=n0/\cap=cap/\(0:Nat)=(0:Nat)]):=by kernel_rfl
theorem aPj (all:List SV) (cU:bA) (n0 cap j:Nat) (i:Int) (key:List Int) (has:Bool) (non:Int) (lg:Nat) :
 cL 400 Tryz.f3.ntmps (aC 400 (oE all cU)) [] [(6,.bool true true)] [] 400 [] [] (Zp true all cU [] false 0 0 400 (.go (lF Vj)) [] ((aN (nW n0 cap j 60 i) (kU key has non lg) 403 [] []).hint [false])) =
 some (Cf.at (Ex.exit 0),[],[decide (i<(↑n0:Int))=false]):=by kernel_rfl
theorem Eu (b b':Bool) (k' k2:List Int) (h' h2:Bool) (n' n2:Int) (l' l2:Nat):(ΓF b k' h' n' l').aU=(ΓF b' k2 h2 n2 l2).aU:=by kernel_rfl
theorem Ga {l:Nat} {key:List Int} {has:Bool} {non:Int} {lg:Nat} (h:l<400):look l (kU key has non lg)=none:=by
 unfold kU
 rw [aF (by omega),aF (by omega),aF (by omega)]
 rfl
theorem Fz {l:Nat} {key:List Int} {has:Bool} {non:Int} {lg:Nat} (h:l<400):look l (kU key has non lg++tT)=none:=by
 unfold kU tT
 simp only [List.cons_append,List.nil_append]
 rw [aF (by omega),aF (by omega),aF (by omega),aF (by omega),aF (by omega),aF (by omega)]
 rfl
theorem RQ:M.oZ.length=32/\bG M.oZ:=by
 refine ⟨rfl,?_⟩
 unfold bG
 intro x hx
 have e:x=0:=List.eq_of_mem_replicate (n:=32) hx
 subst e
 exact ⟨by decide,by decide⟩
set_option maxHeartbeats 4000000 in
theorem UY {all:List SV} {cU:bA} {ss:List Du} {cap:Nat} {w0:World} {Mx:Nat->Prop} {V0:bF} {Q:Exit->Act->World->Prop} (hb:mU (ΓF true [] false 0 0) (aC 400 (oE all cU)) 400 V0) (hS:Fk all cU ss) (hl:ss.length<=1073741824)
 (oW:∀ i s,i<60->ss[i]?=some s->s.ok) (As:∀ i s,i<60->ss[i]?=some s->s.OC)
 (H1:G Tryz.prog (ΓF true [] false 0 0) w0 Mx (aC 400 (oE all cU)) Tryz.f3.ntmps 400 V0 (.at (.exit 0)) (rG Vj) (aN [(6,.bool true true)] [] 400 [] []) Q) :
 G Tryz.prog (ΓF true [] false 0 0) w0 Mx (aC 400 (oE all cU)) Tryz.f3.ntmps 400 V0 (.go (.loop (lF Vj))) (rG Vj) (aN (nW ss.length cap 0 60 0) (kU M.oZ false 0 0) 403 [] []) Q:=by
 have aM:=wR true [] false 0 0
 have aE:=wS true [] false 0 0
 refine G.loop (fun r s=>∃ k:Nat,k<=60/\k<=ss.length/\r=ss.length-k/\((k=0/\s=aN (nW ss.length cap 0 60 0) (kU M.oZ false 0 0) 403 [] [])\/(∃ (j:Nat) (key:List Int) (has:Bool) (non:Int) (lg:Nat),key.length=32/\bG key/\M.tR non/\lg<=k*10000000100/\s=aN (nW ss.length cap j 403 (k:Int)) (kU key has non lg++tT) 406 [] []))) (r0:=ss.length)
  ⟨0,by omega,by omega,rfl,.inl ⟨rfl,rfl⟩⟩ ?_
 rintro r s ⟨k,hk,fU,rfl,vZ⟩
 rcases vZ with ⟨rfl,rfl⟩ | ⟨j,key,has,non,lg,hkl,Gr,vU,NU,rfl⟩
 .skip
  obtain ⟨hkl,Gr⟩:=RQ
  have vU:M.tR 0:=⟨by decide,by decide⟩
  by_cases cK:0<ss.length
  .have h6:0<60:=by decide
   obtain ⟨s,hs⟩:∃ s,ss[0]?=some s:=⟨_,List.getElem?_eq_getElem cK⟩
   obtain ⟨hx,hxb,BR,Vo,pT⟩:=oW 0 s h6 hs
   obtain ⟨cX,dH⟩:=As 0 s h6 hs
   have Sb:(aN (nW ss.length cap 0 60 0) (kU M.oZ false 0 0) 403 [] []).T (aC 400 (oE all cU)) 60=some (.eY all):=rfl
   have hA:(aN (nW ss.length cap 0 60 0) (kU M.oZ false 0 0) 403 [] []).T (aC 400 (oE all cU)) (200+3*0)=some (.dK .u8 s.ad):=by
    rw [YU (Ga (by omega)),iS (by omega),qP _ _ (by omega)];exact hS.a 0 s h6 hs
   have hB:(aN (nW ss.length cap 0 60 0) (kU M.oZ false 0 0) 403 [] []).T (aC 400 (oE all cU)) (201+3*0)=some (.dK .u8 s.bs):=by
    rw [YU (Ga (by omega)),iS (by omega),qP _ _ (by omega)];exact hS.b 0 s h6 hs
   have aCn:0<=7900000000000:=by omega
   obtain ⟨aX,aW,aV,dY,hk1,Ad,Kc,NV,hC⟩:=Uy (has:=false) (kind:=s.kind) (n:=s.n) (lg:=0) hkl Gr vU Vo pT hx hxb BR cX dH aCn
   refine G.Fj (i:=0) (n0:=ss.length) (cap:=cap) (j:=0) (le:=60) rfl Sb hA hB (hS.el 0 s h6 hs) ?_
   refine G.Ep (Eu true true aX [] aW false aV 0 dY 0) ?_
   refine IJ (hb.Ep (Eu true true aX [] aW false aV 0 dY 0)) hkl hx cX dH cK h6 hC ?_
   refine G.Ep (Eu true true [] aX false aW 0 aV 0 dY) ?_
   exact G.again fun V _ _ hi=>⟨ss.length-(0+1),by omega,_,⟨0+1,by omega,by omega,rfl,.inr ⟨0,aX,aW,aV,dY,hk1,Ad,Kc,by omega,rfl⟩⟩,V,hi⟩
  .refine G.cL aM aE mix hb [false] (aPj all cU ss.length cap 0 0 M.oZ false 0 0) (aA ⟨decide_eq_false (by omega),trivial⟩) (G.leave (by simp) H1)
 .skip
  by_cases cK:k<ss.length
  .by_cases h6:k<60
   .obtain ⟨s,hs⟩:∃ s,ss[k]?=some s:=⟨_,List.getElem?_eq_getElem cK⟩
    obtain ⟨hx,hxb,BR,Vo,pT⟩:=oW k s h6 hs
    obtain ⟨cX,dH⟩:=As k s h6 hs
    have Sb:(aN (nW ss.length cap j 403 (k:Int)) (kU key has non lg++tT) 406 [] []).T (aC 400 (oE all cU)) 60=some (.eY all):=rfl
    have hA:(aN (nW ss.length cap j 403 (k:Int)) (kU key has non lg++tT) 406 [] []).T (aC 400 (oE all cU)) (200+3*k)=some (.dK .u8 s.ad):=by
     rw [YU (Fz (by omega)),iS (by omega),qP _ _ (by omega)];exact hS.a k s h6 hs
    have hB:(aN (nW ss.length cap j 403 (k:Int)) (kU key has non lg++tT) 406 [] []).T (aC 400 (oE all cU)) (201+3*k)=some (.dK .u8 s.bs):=by
     rw [YU (Fz (by omega)),iS (by omega),qP _ _ (by omega)];exact hS.b k s h6 hs
    have aCn:lg<=7900000000000:=by omega
    obtain ⟨aX,aW,aV,dY,hk1,Ad,Kc,NV,hC⟩:=Uy (has:=has) (kind:=s.kind) (n:=s.n) (lg:=lg) hkl Gr vU Vo pT hx hxb BR cX dH aCn
    refine G.Fj (i:=k) (n0:=ss.length) (cap:=cap) (j:=j) (le:=403) rfl Sb hA hB (hS.el k s h6 hs) ?_
    refine G.Ep (Eu true true aX [] aW false aV 0 dY 0) ?_
    refine UX (hb.Ep (Eu true true aX [] aW false aV 0 dY 0)) hkl hx cX dH cK h6 hC ?_
    refine G.Ep (Eu true true [] aX false aW 0 aV 0 dY) ?_
    exact G.again fun V _ _ hi=>⟨ss.length-(k+1),by omega,_,⟨k+1,by omega,by omega,rfl,.inr ⟨k,aX,aW,aV,dY,hk1,Ad,Kc,by omega,rfl⟩⟩,V,hi⟩
   .refine G.cL aM aE mix hb [true,false] (aWs all cU ss.length cap j (k:Int) key has non lg) (aA ⟨decide_eq_false (by omega),decide_eq_true (by omega),trivial⟩) (G.leave (by simp) H1)
  .refine G.cL aM aE mix hb [false] (aWt all cU ss.length cap j (k:Int) key has non lg) (aA ⟨decide_eq_false (by omega),trivial⟩) (G.leave (by simp) H1)
theorem XF {all:List SV} {cU:bA} {ss:List Du} (cap:Nat) (hS:Fk all cU ss) (hl:ss.length<=1073741824) (oW:∀ i s,i<60->ss[i]?=some s->s.ok) :
 ∃ b,aD Tryz.prog (ΓF b [] false 0 0) 3 [.rT 60 ss.length cap 37 0 60] (oE all cU) 400 400 { val:=.bool true true }:=by
 obtain ⟨b,hf,hc⟩:=aEh cap hS hl
 refine ⟨b,?_⟩
 cases b with
 | false=>
   have aM:=wR false [] false 0 0
   have aE:=wS false [] false 0 0
   refine bU aM aE Tryz.func3 (by kernel_rfl) rfl (Nat.le_of_ble_eq_true (by kernel_rfl)) rfl [] ?_
   intro w0 Mx V0 Q hb H
   refine G.cL aM aE mix hb [] (aPi all cU ss.length cap) (aA ⟨⟨rfl,rfl,rfl⟩,trivial⟩) ?_
   exact G.eX (cl:=[]) aM aE mix [] H (aWp all cU ss.length cap) (aA ⟨hc,trivial⟩) rfl rfl rfl
 | true=>
   have aM:=wR true [] false 0 0
   have aE:=wS true [] false 0 0
   refine bU aM aE Tryz.func3 (by kernel_rfl) rfl (Nat.le_of_ble_eq_true (by kernel_rfl)) rfl [] ?_
   intro w0 Mx V0 Q hb H
   refine G.cL aM aE mix hb [] (aWq all cU ss.length cap) (aA ⟨⟨rfl,rfl,rfl⟩,trivial⟩) ?_
   refine G.cL aM aE mix hb [] (aWv all cU ss.length cap) ?_ ?_
   .refine aA ?_
    simp only [aO]
    repeat' apply And.intro
    all_goals first | exact hc | rfl | exact True.intro
   refine UY hb hS hl oW (hf rfl) ?_
   exact G.eX (cl:=[]) aM aE mix [] H (aWr all cU) (aA (by simp [aO])) rfl rfl rfl
noncomputable def AK:bA:=oE [] (fun _=>none)
def svN:SV:=.raw (.slice none 0 0)
theorem aOt (_:Unit) :
 fA (env fF 22) (aC 400 AK) 408 416 Tryz.f5 [] (cA (env fF 22) (aC 416 (aC 400 AK)) 416 Tryz.f5.ntmps [] 0 400 (.go (codeOf Tryz.f5)) [] ((gU [svN] 416).hint [])) =
 some {val:=SV.bool true true}:=by kernel_rfl
theorem aOs (_:Unit) :
 (cL 400 Tryz.f3.ntmps (aC 400 AK) [] [(0,svN),(2,.bool true false)] [] 400 [] [] (Zp true [] (fun _=>none) [] false 0 0 3 (.go (codeOf Tryz.f3)) [] ((gU [svN] 400).hint []))) =
 some (.go Pb,[],[]):=by kernel_rfl
theorem aOu (_:Unit) :
 fA (ΓF true [] false 0 0) AK 400 400 Tryz.f3 [] (cA (ΓF true [] false 0 0) (aC 400 AK) 400 Tryz.f3.ntmps [] 0 400 (.go Pb) [] ((aN [(0,svN),(2,.bool true false)] [] 400 [] []).hint [])) =
 some {bV:=[M.nX ([]++[svN]++[]) (aC 400 AK) (408:Nat) (416:Nat) true],val:=SV.bool true true}:=by kernel_rfl
theorem aIm:aD Tryz.prog (ΓF true [] false 0 0) 3 [svN] AK 400 400 { val:=.bool true true }:=by
 have h5:M.nX [svN] (aC 400 AK) 408 416 true:=by
  have aM:=bH fF 22
  have aE:=bJ fF kC 22
  unfold M.nX
  refine bU aM aE Tryz.func5 (by kernel_rfl) rfl (Nat.le_of_ble_eq_true (by kernel_rfl)) rfl [] ?_
  intro w0 Mx V0 Q hb H
  exact G.eX (cl:=[]) aM aE mix [] H (aOt ()) (aA (by simp [aO])) rfl rfl rfl
 have aM:=wR true [] false 0 0
 have aE:=wS true [] false 0 0
 refine bU aM aE Tryz.func3 (by kernel_rfl) rfl (Nat.le_of_ble_eq_true (by kernel_rfl)) rfl [] ?_
 intro w0 Mx V0 Q hb H
 refine G.cL aM aE mix hb [] (aOs ()) ?_ ?_
 .refine aA ?_
  simp only [aO]
  repeat' apply And.intro
  all_goals first | rfl | exact True.intro
 refine G.eX (cl:=[]) aM aE mix [] H (aOu ()) ?_ rfl rfl rfl
 refine aA ?_
 simp only [aO]
 repeat' apply And.intro
 all_goals first | exact h5 | rfl | exact True.intro
theorem aD.calls {P:Program} {Γ:Env} {f:FuncId} {fn:Func} {c:Code} {vs:List SV} {T:bA} {lab F:Nat} {e:bR} (h:aD P Γ f vs T lab F e) (tP:P.funcs[f]?=some fn) (dP:(fn.name == "runtime.NumGoroutine")=false) (hc:fn.body=some c)
 {w0:World} {M:Nat->Prop} {V:bF} {w:World} {xs:List Value} (hT:aG w0 M V T w) (hg:cC Γ V) (hf:V.fresh lab) (hF:V.top F) (hx:aJ V vs=some xs)
 {R:Ending->World->Prop} (hR:∀ V' x w',V.ext lab V'->den V' e.val=some x->aG w0 M V' (fL T lab e) w'->R (.returned x) w'):Calls P f xs.toArray w R:=by
 have h1:=h w0 M V T w xs (fun _ _ h=>h) hT hg hf hF hx { dst:=some 0,op:=.ready 0,type:=0,pos := "",after := #[],guard:=none } { tmps := #[Value.nilFunc],defers:=[] } (fun a' w'=>∀ x,a'.tmps[0]?=some x->R (.returned x) w') (fun _ _ _=>False)
  (fun V' x w' h1 h2 h3 y hy=>by
   simp [Act.put] at hy
   subst hy
   exact hR V' _ w' h1 h2 h3)
 rw [gT tP hc dP,Oper.upon_enter] at h1
 refine h1.mono fun e w' he=>?_
 cases e with
 | returned v=>exact he v (by simp [Act.put])
 | panicked ch=>exact he.elim
 | outgrown=>obtain ⟨_,_,hh⟩:=he;exact hh.elim
end Go.Proofs.YtaibhjpgbckbkaaGreatDoor.Sx
