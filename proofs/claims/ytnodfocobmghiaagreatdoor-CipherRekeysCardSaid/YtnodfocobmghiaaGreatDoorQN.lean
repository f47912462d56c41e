/- A growing slice of integers as a block of integers. -/
import Derived.Test.YtnodfocobmghiaaGreatDoorQM
open Go
set_option maxRecDepth 100000
namespace Go.Proofs.YtnodfocobmghiaaGreatDoor.Sx
section
variable {w0 w:World} {M:Nat->Prop} {V:bA} {T:bB} {lab:Nat}
theorem Tw:∀ {us:List Value} {k:IntKind},(∀ x∈us,∃ n,x=Value.int k n)->∃ ms:List Int,us=ms.map (Value.int k)
 | [],_,_=>⟨[],rfl⟩
 | u::us,k,h=>by
   obtain ⟨n,rfl⟩:=h u dB
   obtain ⟨ms,rfl⟩:=Tw fun x hx=>h x (eM _ hx)
   exact ⟨n::ms,rfl⟩
theorem aD.grown (h:aD w0 M V T w) (hf:V.fresh lab) (kG:∀ k,lab<=k->T k=none) {l:Nat} {k:IntKind} {xs:List Int} {el:TypeId} (hl:T l=some (.dC k xs el)) (Ft:0<xs.length) {x:Value} (hx:den V (.buf l)=some x) :
 ∃ cap zs,xs.length+zs.length=cap/\cap<=maxLen/\∃ V',V.ext lab V'/\den V' (.aH lab false 0 xs.length cap)=some x/\aD w0 M V' (eT T lab { val:=.aH lab false 0 xs.length cap,new:=[.ints k (xs++zs) el],wr:=[(l,.gone)] }) w:=by
 obtain ⟨us,Cd,u,hσ,bQ,hI⟩:=h.ok l _ hl
 cases Cd
 have hx':u=x:=by simpa [den,hσ] using hx
 subst hx'
 rcases bQ.2 with ⟨_,h0⟩ | ⟨b,cap,cur,rfl,_,hh,hle,pO,nI,dD⟩
 .omega
 have cL:l<lab:=Nat.lt_of_not_le fun q=>by rw [kG l q] at hl;cases hl
 obtain ⟨QG,ty2,p2,sP,jP⟩:=hI b rfl
 rw [hh] at sP
 cases sP
 obtain ⟨ms,My⟩:=Tw jP
 have hml:ms.length=cap:=by
  have:=congrArg List.length My
  rw [List.length_map,Array.length_toList] at this
  omega
 have nA:ms.take xs.length=xs:=by
  rw [My,Nat.mul_one,<- List.map_take] at dD
  exact (List.map_inj_right (fun a b e=>by injection e)).1 dD
 have aGn:xs++ms.drop xs.length=ms:=by
  have:=List.take_append_drop xs.length ms
  rwa [nA] at this
 have bR:=bA.jW hf lab (dE _) (by omega) (b,0)
 have e1:(V.put lab (b,0)).β lab=some (b,0):=by simp [bA.put]
 refine ⟨cap,ms.drop xs.length,by rw [List.length_drop,hml];omega,pO,V.put lab (b,0),bR,by simp [den,e1],?_⟩
 rw [aGn]
 have Rl:SB.aT V l (.dC k xs el)=some b:=by simp [SB.aT,hσ,Value.ownBlock]
 refine h.step (N:=fun q=>if q=lab then some (.ints k ms el) else if q=l then some .gone else none) bR.1 (fun q C hk=>?_) (fun q C hk=>?_) (fun q C p hk hp=>?_) (fun q C q' C' p xR hk gL ho hp=>?_) (dE _) (fun _ _ _=>rfl) rfl rfl rfl
 .simp only [eT,bK.fB,fZ,List.cons_append,oB] at hk
  by_cases k1:l=q
  .subst k1
   rw [aJ] at hk
   left
   simp only [if_neg (show ¬ l=lab by omega),if_true]
   simpa using hk
  .rw [aF k1] at hk
   by_cases k3:lab=q
   .subst k3;rw [aJ] at hk;left;simpa using hk
   .rw [aF k3] at hk
    right
    simp only [look] at hk
    exact ⟨by rw [if_neg (fun z=>k3 z.symm),if_neg (fun z=>k1 z.symm)],hk⟩
 .by_cases k1:q=lab
  .rw [if_pos k1] at hk
   cases hk
   subst k1
   exact ⟨_,rfl,b,e1,by rw [hh,<- My]⟩
  .rw [if_neg k1] at hk
   by_cases k2:q=l
   .rw [if_pos k2] at hk;cases hk;exact ⟨[],rfl,trivial⟩
   .rw [if_neg k2] at hk;cases hk
 .by_cases k1:q=lab
  .rw [if_pos k1] at hk
   cases hk
   subst k1
   simp only [SB.aT,e1,gN,aU] at hp
   subst hp
   right;left
   exact ⟨l,_,hl,rfl,Rl,by simp [if_neg (show ¬ l=q by omega)]⟩
  .rw [if_neg k1] at hk
   by_cases k2:q=l
   .rw [if_pos k2] at hk;cases hk;cases hp
   .rw [if_neg k2] at hk;cases hk
 .intro Mw
  by_cases k1:q=lab
  .by_cases k2:q'=lab
   .omega
   .rw [if_neg k2] at gL
    by_cases k3:q'=l
    .rw [if_pos k3] at gL;cases gL;cases Mw
    .rw [if_neg k3] at gL;cases gL
  .rw [if_neg k1] at hk
   by_cases k3:q=l
   .rw [if_pos k3] at hk;cases hk;cases ho
   .rw [if_neg k3] at hk;cases hk
end
noncomputable def FQ (F0 N:Nat) (B:bB) (t cap:Nat) (zs:List Int) (s:St):Option St:=match s.g.get t with
 | some (.buf l)=>match s.T B l with
   | some (.dC k xs el)=>s.step F0 N (some t) { val:=.aH s.nx false 0 xs.length cap,new:=[.ints k (xs++zs) el],wr:=[(l,.gone)] } s.nx (s.nx+8)
   | _=>none
 | _=>none
noncomputable def Gg (F0 N:Nat) (B:bB) (t cap:Nat) (zs:List Int) (s:St):St:=match FQ F0 N B t cap zs s with
 | some s'=>s'
 | none=>s
section
variable {P:Program} {Γ:Env} {w0:World} {M:Nat->Prop} {B:bB} {N F0:Nat} {V0:bA}
theorem G.grown {t l:Nat} {k:IntKind} {xs:List Int} {el:TypeId} {cf:Cf} {K:List Fr} {s:St} {Q:Exit->Act->World->Prop} (ht:s.g.get t=some (.buf l)) (hB:s.T B l=some (.dC k xs el)) (Ft:0<xs.length)
 (hG:∀ cap zs,xs.length+zs.length=cap->cap<=maxLen->G P Γ w0 M B N F0 V0 cf K (Gg F0 N B t cap zs s) Q):G P Γ w0 M B N F0 V0 cf K s Q:=by
 intro V a w hi
 obtain ⟨cap,zs,h1,h2,V',hV,hx,hT⟩:=aD.grown hi.fB hi.top.fresh hi.hi hB Ft (hi.tmp t _ ht)
 have hG':=hG cap zs h1 h2
 unfold Gg at hG'
 split at hG'
 .rename_i s' hs
  unfold FQ at hs
  rw [ht] at hs
  simp only [hB] at hs
  have:=hi.step (x:=a.eval (.tmp t)) hs (dE _) (dE _) hV (fun _=>hx) hT
  rw [Act.nS] at this
  exact hG' V' a w this
 .exact hG' V a w hi
end
def Ir (x N:Int) (key:List Int) (la lp:Nat):List SV:=[.int false .i64 x,.ai .u8 key,.int false .u64 N,.gY 60 la,.gY 61 lp]
def rkL (ad p:List Int):List (Nat × SB):=[(60,.iV .u8 ad),(61,.iV .u8 p)]++NI
def Yx (ad p:List Int):bB:=fun l=>look l (rkL ad p)
noncomputable def rkN (sb:wU) (rx:List Int->List Int) (e:Nat) (ad p:List Int) (k:Nat) (cf:Cf) (K:List Fr) (s:St):Option qL:=hH (Cp sb rx e) (bI 100 (Yx ad p)) 100 Tryz.f3.ntmps [] 400 k cf K s
def aJw (x N:Int) (la lp:Nat):List (Nat × SV):=[(0,.int false .i64 x),(2,.int false .u64 N),(3,.gY 60 la),(4,.gY 61 lp),(6,.ptr 100 true 0),(11,.ptr 101 true 0)]
def aJx (e:Nat) (N:Int) (key K1:List Int):List (Nat × SB):=[(100,.ints .u8 key 23),(101,.own (stC 102 e (.int false .u64 N) K1) 67)]++aCn 102 e
def aBl (la lp:Nat):List (Nat × SV):=[(3,.gY 60 la),(4,.gY 61 lp),(11,.ptr 100 true 0),(17,.ptr 101 true 0),(18,.buf 102),(19,.buf 103)]
def aBm (e e2:Nat) (N:Int) (K1 K2 X:List Int):List (Nat × SB):=[(100,.own (stC 104 e (.int false .u64 N) K1) 67),(101,.own (stC 104 e2 (.int false .u64 N) K2) 67),(102,.dC .u8 X 5),(103,.dC .u8 X 5)]++(aCn 104 e++aCn 104 e2)
noncomputable def rkS (e e2:Nat) (ad p:List Int) (N:Int) (K1 K2 X z1 z2:List Int) (c1 c2:Nat):St:=Gg 100 Tryz.f3.ntmps (bI 100 (Yx ad p)) 19 c2 z2 (Gg 100 Tryz.f3.ntmps (bI 100 (Yx ad p)) 18 c1 z1 (cE (aBl ad.length p.length) (aBm e e2 N K1 K2 X) (104+Jd e+Jd e2) [] []))
def PK (e e2:Nat):Prop:=(e=0/\e2=1)\/(e=1/\e2=2)\/(e=2/\e2=0)\/(e=0/\e2=0)
def qO (xs ys:List Int) (r:List Prop):List Prop:=(List.range 32).foldr (fun i r=>(xs.getD i 0=ys.getD i 0)::r) r
def dO (n:Nat) (r:List Prop):List Prop:=(List.range 32).foldr (fun i r=>(32-i<=n)::r) r
theorem aRl (e:Nat) (he:dY e) (sb:wU) (rx:List Int->List Int) (x N:Int) (key ad p:List Int):gX 100 Tryz.f3.ntmps (bI 100 (Yx ad p)) [] (aJw x N ad.length p.length) (aJx e N key (rx (M.vI key))) (102+Jd e) [] [] (rkN sb rx e ad p 29 (.go (codeOf Tryz.f3)) [] ((Df (Ir x N key ad.length p.length) 100).hint [false,false,false,false]))=some (.go (pR 7 (codeOf Tryz.f3)),[],
 ((N != N)=false)::QK rx (M.vI key)::dY e::((M.vI key).length=32)::(N=N)::qO key (M.vI key) ((key.length=32)::(key.length=32)::(key.length=32)::Nu e x::(x=x)::((N==18446744073709551615)=false)::(decide ((p.length:Int)>200000)=false)::(decide ((ad.length:Int)>200000)=false)::(x=x)::(N=N)::(ad.length=ad.length)::(p.length=p.length)::(key=key/\23=23)::(N=N)::qO (rx (M.vI key)) (rx (M.vI key)) [])):=by
 rcases he with rfl | rfl | rfl <;> kernel_rfl
theorem aRk (e e2:Nat) (he:PK e e2) (sb:wU) (rx:List Int->List Int) (x N:Int) (key ad p K1 X:List Int):gX 100 Tryz.f3.ntmps (bI 100 (Yx ad p)) [] (aBl ad.length p.length) (aBm e e2 N K1 (sb key jM [] Bz 32) X) (104+Jd e+Jd e2) [] [] (rkN sb rx e2 ad p 495 (.go (pR 7 (codeOf Tryz.f3))) [] ((cE (aJw x N ad.length p.length) (aJx e N key K1) (102+Jd e) [] []).hint [false]))=some (.go (pR 17 (codeOf Tryz.f3)),[],
 ((0+([]++p++List.replicate 16 0).length)*1<=140737488355328)::((0:Int)<16/\(((List.take 0 []++p).length:Int)+16)*1<=140737488355328)::((0+p.length)*1<=140737488355328)::Nu e2 (IntKind.i64.wrap (x+1))::(IntKind.i64.wrap (x+1)=IntKind.i64.wrap (x+1)) ::
 dO (sb key jM [] Bz 32).length ((false=false)::Jm sb key jM [] Bz 32::dY e2::(key.length=32)::bW []::bW (Bz.take 32)::(0<=500000000)::(48<=48)::(48<=48)::(48<=48)::(48<=500000000)::(key=key)::(jM=jM)::(0=0)::(0=0)::(48=48)::(48=48)::((32:Int)=32)::(Bz=Bz/\5=5)::(([]:List Int)=[]) ::
 (key.length=32)::Nu e2 (IntKind.i64.wrap (x+1))::(IntKind.i64.wrap (x+1)=IntKind.i64.wrap (x+1))::(ad.length=ad.length)::(p.length=p.length)::(N=N)::qO K1 K1 ((N=N)::qO (sb key jM [] Bz 32) (sb key jM [] Bz 32) [List.take 0 []++p++List.replicate 16 0=X,List.take 0 []++(List.take 0 []++p++List.replicate 16 0)=X]))):=by
 rcases he with ⟨rfl,rfl⟩ | ⟨rfl,rfl⟩ | ⟨rfl,rfl⟩ | ⟨rfl,rfl⟩ <;> kernel_rfl
def slO (sb:wU) (e:Nat) (N:Int) (K ad A:List Int) (n lx c:Nat) (r:List Prop):List Prop:=
 Jm sb (M.vI K) N ad A n::dY e::((M.vI K).length=32)::bW ad::bW (A.take n)::(ad.length<=500000000)::(n+16<=lx)::(lx<=c)::(lx<=A.length)::(lx<=500000000)::(M.vI K=M.vI K)::(N=N)::(ad.length=ad.length)::(ad.length=ad.length)::(0=0)::(lx=lx)::(c=c)::((n:Int)=(n:Int))::(A=A/\5=5)::(ad=ad) ::
 ((N==18446744073709551615)=false)::(decide (IntKind.i64.wrap ((lx:Int)-(n:Int))<16)=false)::((!decide ((n:Int)<=(lx:Int)))=false)::(decide ((n:Int)>=0)=true)::r
def aJv (sb:wU) (e e2:Nat) (N:Int) (ad p K1 K2 X z1 z2:List Int) (c1 c2:Nat) (W1 W2:List Int) (m:Int):List Prop:=
 ((W1.drop 0).take X.length=(W2.drop 0).take X.length)::(((W1.drop 0).take X.length).length<=1073741824)::(0+X.length<=W1.length/\X.length<=c1)::(0+X.length<=W2.length/\X.length<=c2)::(0=0)::(X.length=X.length)::(c1=c1)::(0+X.length<=W1.length/\X.length<=c1)::(((W1.drop 0).take X.length).length=((W1.drop 0).take X.length).length)::(0=0)::(X.length=X.length)::(c2=c2)::(0+X.length<=W2.length/\X.length<=c2)::(((W2.drop 0).take X.length).length=((W2.drop 0).take X.length).length) ::
   ((W1.drop 0).take X.length=(W1.drop 0).take X.length)::(0+X.length<=W1.length/\X.length<=c1)::((W2.drop 0).take X.length=(W2.drop 0).take X.length)::(0+X.length<=W2.length/\X.length<=c2)::((m==(X.length:Int))=true)::slO sb e2 N K2 ad (X++z2) p.length X.length c2 (((m != (X.length:Int))=false)::slO sb e N K1 ad (X++z1) p.length X.length c1 [])
theorem aRj (e e2:Nat) (he:PK e e2) (sb:wU) (rx:List Int->List Int) (N:Int) (ad p K1 K2 X z1 z2:List Int) (c1 c2:Nat):xU (Cp sb rx e) (Yx ad p) 100 100 Tryz.f3 [] (rkN sb rx e ad p 400 (.go (pR 17 (codeOf Tryz.f3))) [] ((rkS e e2 ad p N K1 K2 X z1 z2 c1 c2).hint [false,true,true,true])) =
 some { val:=.bool true true,bO:=aJv sb e e2 N ad p K1 K2 X z1 z2 c1 c2 (sb (M.vI K1) N ad (X++z1) p.length) (sb (M.vI K2) N ad (X++z2) p.length) ((p.length+16:Nat):Int) }:=by
 rcases he with ⟨rfl,rfl⟩ | ⟨rfl,rfl⟩ | ⟨rfl,rfl⟩ | ⟨rfl,rfl⟩ <;> kernel_rfl
theorem aRi (sb:wU) (rx:List Int->List Int) (x N:Int) (key ad p:List Int) :
 aK (Cp sb rx 0) Tryz.f3 true [true] 400 (Ir x N key ad.length p.length) (Yx ad p) 100 100 =
 some { bO:=[decide ((↑ad.length:Int)>(200000:Int))=true],val:=SV.bool true true }:=by kernel_rfl
theorem aRh (sb:wU) (rx:List Int->List Int) (x N:Int) (key ad p:List Int) :
 aK (Cp sb rx 0) Tryz.f3 true [false,true] 400 (Ir x N key ad.length p.length) (Yx ad p) 100 100 =
 some { bO:=[decide ((↑p.length:Int)>(200000:Int))=true,decide ((↑ad.length:Int)>(200000:Int))=false],val:=SV.bool true true }:=by kernel_rfl
theorem aRg (sb:wU) (rx:List Int->List Int) (x N:Int) (key ad p:List Int) :
 aK (Cp sb rx 0) Tryz.f3 true [false,false,true] 400 (Ir x N key ad.length p.length) (Yx ad p) 100 100 =
 some { bO:=[(N==(18446744073709551615:Int))=true,decide ((↑p.length:Int)>(200000:Int))=false,decide ((↑ad.length:Int)>(200000:Int))=false],val:=SV.bool true true }:=by kernel_rfl
theorem aAf {xs ys:List Int} {r:List Prop} (h:xs=ys) (hr:∀ q∈r,q):∀ q∈qO xs ys r,q:=by
 subst h
 unfold qO
 generalize List.range 32=l
 induction l with
 | nil=>exact hr
 | cons a l ih=>exact aM rfl ih
theorem aPr {n:Nat} {r:List Prop} (h:32<=n) (hr:∀ q∈r,q):∀ q∈dO n r,q:=by
 unfold dO
 generalize List.range 32=l
 induction l with
 | nil=>exact hr
 | cons a l ih=>exact aM (by omega) ih
namespace Q
theorem GW (key:List Int) (N:Int) (ad:List Int) {W zs:List Int} {n:Nat} (h:n+16<=W.length):dL key N ad (W++zs) n=dL key N ad W n++zs:=by
 unfold dL;rw [List.take_append_of_le_length (by omega),List.drop_append_of_le_length h];simp only [List.append_assoc]
theorem Wl (key:List Int):(rx key).length=48:=oV _ _ _ _ _ (dE 48)
end Q
noncomputable abbrev ΓR (e:Nat):Env:=Cp Q.dL Q.rx e
theorem aFb {x N:Int} {key ad p:List Int} (h:ad.length>200000\/p.length>200000\/N=18446744073709551615):aE Tryz.prog (ΓR 0) 3 (Ir x N key ad.length p.length) (Yx ad p) 100 100 { val:=.bool true true }:=by
 have hI:∀ hs,aG Tryz.prog (ΓR 0) 3 (aK (ΓR 0) Tryz.f3 true hs 400):=fun hs=>aN (Gv _ _ _) (Gw _ _ _) mix Tryz.func3 (by kernel_rfl) true hs 400
 by_cases h1:ad.length>200000
 .exact ((hI _).call (aRi _ _ x N key ad p) (aA ⟨decide_eq_true (by omega),trivial⟩)).words rfl (fun _=>rfl) (fun _ _ h=>h) (fun _=>rfl) rfl rfl
 .by_cases h2:p.length>200000
  .exact ((hI _).call (aRh _ _ x N key ad p) (aA ⟨decide_eq_true (by omega),mZ (by omega),trivial⟩)).words rfl (fun _=>rfl) (fun _ _ h=>h) (fun _=>rfl) rfl rfl
  .have h3:N=18446744073709551615:=by omega
   exact ((hI _).call (aRg _ _ x N key ad p) (aA ⟨by simp [h3],mZ (by omega),mZ (by omega),trivial⟩)).words rfl (fun _=>rfl) (fun _ _ h=>h) (fun _=>rfl) rfl rfl
theorem aNa {x:Int} (h : -9223372036854775808<=x/\x<=9223372036854775807):PK (nR x) (nR (IntKind.i64.wrap (x+1))):=by
 by_cases hm:x=9223372036854775807
 .subst hm;exact .inr (.inr (.inr ⟨by decide,by decide⟩))
 .rw [IntWalk.i64_in _ ⟨by omega,by omega⟩]
  unfold PK nR
  by_cases h1:x=1
  .subst h1;exact .inr (.inl ⟨by decide,by decide⟩)
  .by_cases h2:x=2
   .subst h2;exact .inr (.inr (.inl ⟨by decide,by decide⟩))
   .rw [if_neg h1,if_neg h2]
    by_cases h0:x=0
    .subst h0;exact .inl ⟨rfl,by decide⟩
    .exact .inr (.inr (.inr ⟨rfl,by rw [if_neg (by omega),if_neg (by omega)]⟩))
set_option maxHeartbeats 1000000 in
theorem TP {x N:Int} {key ad p:List Int} (hx : -9223372036854775808<=x/\x<=9223372036854775807) (hk:key.length=32) (ha:bW ad) (hp:bW p) (la:ad.length<=200000) (lp:p.length<=200000) (hN:N≠18446744073709551615) :
 aE Tryz.prog (ΓR (nR x)) 3 (Ir x N key ad.length p.length) (Yx ad p) 100 100 { val:=.bool true true }:=by
 have he:=Li x
 have hE:Nu (nR x) x:=⟨rfl⟩
 have he2:=Li (IntKind.i64.wrap (x+1))
 have hE2:Nu (nR (IntKind.i64.wrap (x+1))) (IntKind.i64.wrap (x+1)):=⟨rfl⟩
 have hpr:=aNa hx
 generalize nR x=e at *
 generalize nR (IntKind.i64.wrap (x+1))=e2 at *
 have aV:=Gv Q.dL Q.rx e
 have aY:=Gw Q.dL Q.rx e
 have aTh:=Gv Q.dL Q.rx e2
 have aOe:=Gw Q.dL Q.rx e2
 refine iH aV aY Tryz.func3 (by kernel_rfl) rfl (kO (by kernel_rfl)) rfl [] ?_
 intro w0 Mx V0 Qx fA H
 have hk3:=M.FM hk
 have n1:(N==18446744073709551615)=false:=by simp [hN]
 have n2:(N != N)=false:=by simp
 have d1:decide ((p.length:Int)>200000)=false:=mZ (by omega)
 have d2:decide ((ad.length:Int)>200000)=false:=mZ (by omega)
 have hR:QK Q.rx key:=⟨rfl⟩
 refine G.gX aV aY mix fA [false,false,false,false] (aRl e he Q.dL Q.rx x N key ad p) ?_ ?_
 .rw [hk3]
  repeat' first | exact gD | refine aAf ?_ ?_ | refine aM ?_ ?_
  all_goals first | with_reducible rfl | with_reducible assumption | exact ⟨rfl,rfl⟩
 rw [hk3]
 have hl:=Q.Wl key
 have hz:bW (Bz.take 32):=Q.Lx _ (Q.uL 48)
 have hn:bW ([]:List Int):=fun _ h=>by cases h
 have hS:Jm Q.dL key jM [] Bz 32:=⟨rfl⟩
 generalize hX:p++List.replicate 16 (0:Int)=X
 have hXl:X.length=p.length+16:=by rw [<- hX];simp
 refine G.Ii (Nv _ _ e2 e) ?_
 have mP:=fA.Ii (Nv Q.dL Q.rx e2 e)
 refine G.gX aTh aOe mix mP [false] (aRk e e2 hpr Q.dL Q.rx x N key ad p (Q.rx key) X) ?_ ?_
 .repeat' first | exact gD | refine aAf ?_ ?_ | refine aPr ?_ ?_ | refine aM ?_ ?_
  all_goals first | with_reducible rfl | with_reducible assumption | omega | with_reducible exact ⟨rfl,rfl⟩ | (simp only [List.length_append,List.length_replicate,List.length_nil,List.take_zero];omega) | (show 32<=(Q.rx key).length;omega) | (simp only [List.take_zero,oB];exact hX)
 show G _ _ _ _ _ _ _ _ _ _ (cE (aBl ad.length p.length) (aBm e e2 N (Q.rx key) (Q.rx key) X) (104+Jd e+Jd e2) [] []) _
 refine G.grown (t:=18) (l:=102) (k:=.u8) (xs:=X) (el:=5) (by kernel_rfl) (by rcases hpr with ⟨rfl,rfl⟩ | ⟨rfl,rfl⟩ | ⟨rfl,rfl⟩ | ⟨rfl,rfl⟩ <;> kernel_rfl) (by omega) ?_
 intro c1 z1 Zd hm1
 refine G.grown (t:=19) (l:=103) (k:=.u8) (xs:=X) (el:=5) (by rcases hpr with ⟨rfl,rfl⟩ | ⟨rfl,rfl⟩ | ⟨rfl,rfl⟩ | ⟨rfl,rfl⟩ <;> kernel_rfl) (by rcases hpr with ⟨rfl,rfl⟩ | ⟨rfl,rfl⟩ | ⟨rfl,rfl⟩ | ⟨rfl,rfl⟩ <;> kernel_rfl) (by omega) ?_
 intro c2 z2 sP hm2
 have hkl:=M.Qe (Q.rx key)
 have gV:∀ z:List Int,Q.dL (M.vI (Q.rx key)) N ad (X++z) p.length=Q.dL (M.vI (Q.rx key)) N ad X p.length++z:=fun z=>Q.GW _ _ _ (by omega)
 have Fh:(Q.dL (M.vI (Q.rx key)) N ad X p.length).length=X.length:=oV _ _ _ _ _ (by omega)
 have htk:∀ z:List Int,(X++z).take p.length=p:=fun z=>by rw [<- hX,List.append_assoc,List.take_left]
 have hdt:∀ z:List Int,(List.drop 0 (Q.dL (M.vI (Q.rx key)) N ad (X++z) p.length)).take X.length=Q.dL (M.vI (Q.rx key)) N ad X p.length:=fun z=>by rw [List.drop_zero,gV,<- Fh,List.take_left]
 have MT:∀ z:List Int,(Q.dL (M.vI (Q.rx key)) N ad (X++z) p.length).length=X.length+z.length:=fun z=>by rw [gV,List.length_append,Fh]
 have hSx:∀ z:List Int,Jm Q.dL (M.vI (Q.rx key)) N ad (X++z) p.length:=fun z=>⟨rfl⟩
 have oZ:∀ z:List Int,bW ((X++z).take p.length):=fun z=>by rw [htk];exact hp
 have w1:decide (IntKind.i64.wrap ((X.length:Int)-(p.length:Int))<16)=false:=mZ (by rw [IntWalk.i64_in _ ⟨by omega,by omega⟩];omega)
 have w2:(!decide ((p.length:Int)<=(X.length:Int)))=false:=by rw [decide_eq_true (by omega)];rfl
 have w3:decide ((p.length:Int)>=0)=true:=decide_eq_true (by omega)
 have w4:(((p.length+16:Nat):Int)==(X.length:Int))=true:=by rw [hXl];simp
 have w5:(((p.length+16:Nat):Int) != (X.length:Int))=false:=by rw [hXl];simp
 refine G.Ii (Nv _ _ e e2) ?_
 refine G.tB (cl:=[]) aV aY mix [false,true,true,true] H (aRj e e2 hpr Q.dL Q.rx N ad p (Q.rx key) (Q.rx key) X z1 z2 c1 c2) ?_ rfl rfl rfl
 .unfold aJv slO
  rw [hdt,hdt,MT,MT]
  repeat' first | exact gD | refine aM ?_ ?_
  all_goals first | with_reducible rfl | with_reducible assumption | with_reducible exact ⟨rfl,rfl⟩ | exact hSx _ | exact oZ _ | omega | (rw [List.length_append];omega)
end Go.Proofs.YtnodfocobmghiaaGreatDoor.Sx
section
open Go Go.Proofs.YtnodfocobmghiaaGreatDoor
set_option maxRecDepth 100000
namespace Go.Proofs.YtnodfocobmghiaaGreatDoor.CipherRekeys
open Go.ChangeShapes Go.WideShapes Go.ChangeAt Go.RowKit Go.Proofs.YtnodfocobmghiaaGreatDoor.Sx Go.Proofs.YtnodfocobmghiaaGreatDoor.Aea
theorem walk {W:World} (h:laidMet Tryz.prog listed W) {x N:Int} {v3 v4:Value} {key ad p:List Int} (hw:(Lit.int .i64 x).wf=true) (hk:key.length=32) (_:bW key) (_:(Lit.int .u64 N).wf=true) (r3:vT W .u8 v3 ad) (b3:bW ad) (r4:vT W .u8 v4 p) (b4:bW p) :
 Calls Tryz.prog 3 #[.int .i64 x,.agg (key.map (Value.int .u8)).toArray,.int .u64 N,v3,v4] W fun e w'=>e = .returned (.bool true)/\Below W.heap.size W w':=by
 obtain ⟨V,k1,k2,k3,k4⟩:=VI h [(60,.iV .u8 ad),(61,.iV .u8 p)] [(60,v3),(61,v4)] rfl fun V hV x hx=>by
  simp only [List.mem_cons,List.not_mem_nil,or_false] at hx
  rcases hx with rfl | rfl
  .exact ⟨⟨_,rfl,v3,by rw [hV];rfl,r3⟩,rfl⟩
  .exact ⟨⟨_,rfl,v4,by rw [hV];rfl,r4⟩,rfl⟩
 have k5:V.σ 60=some v3:=(k4 60).trans rfl
 have k6:V.σ 61=some v4:=(k4 61).trans rfl
 have Vr:aI V (Ir x N key ad.length p.length)=some [.int .i64 x,.agg (key.map (Value.int .u8)).toArray,.int .u64 N,v3,v4]:=by
  simp only [Ir,aI,den,k5,k6,nG,Sz r3,Sz r4,gN]
 have fin:∀ (V':bA) (x:Value) (w':World),V.ext 100 V'->den V' (.bool true true)=some x->aD W (fun _=>False) V' (eT (Yx ad p) 100 { val:=.bool true true }) w'->Ending.returned x = .returned (.bool true)/\Below W.heap.size W w':=by
  intro V' x w' _ hx hT
  simp only [den,aU] at hx
  subst hx
  exact ⟨rfl,hT.frame.os,hT.frame.tape,hT.frame.output,hT.frame.size,fun k hk=>hT.frame.block k hk (fun h=>h)⟩
 by_cases hs:ad.length<=200000/\p.length<=200000/\N≠18446744073709551615
 .exact calls (Sx.TP (x:=x) (bounds_i64 hw) hk b3 b4 hs.1 hs.2.1 hs.2.2) Tryz.func3 (by kernel_rfl) (c:=codeOf Tryz.f3) rfl k1 (fun n l hn=>k2 n l hn) (fun l NB _=>k3 l NB) k3 Vr fin
 .exact calls (Sx.aFb (by omega)) Tryz.func3 (by kernel_rfl) (c:=codeOf Tryz.f3) rfl k1 (fun n l hn=>k2 n l hn) (fun l NB _=>k3 l NB) k3 Vr fin
end Go.Proofs.YtnodfocobmghiaaGreatDoor.CipherRekeys
end
