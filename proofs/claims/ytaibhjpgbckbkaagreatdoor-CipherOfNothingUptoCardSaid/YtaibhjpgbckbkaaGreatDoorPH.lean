/- A part of the proof of CipherOfNothing: Xor to RekC. -/
import Derived.Test.YtaibhjpgbckbkaaGreatDoorPG
import Derived.KernelRfl
open Go
set_option maxRecDepth 100000
namespace Go.Proofs.YtaibhjpgbckbkaaGreatDoor.Sx
theorem Rt (key nonce:List Int) (c:Int) (hk:key.length=32) (hn:nonce.length=12) (Γ:Env) (hg:Γ.aU=aB) :
 aD Tryz.prog Γ 73 [.ai .u8 key,.int false .u32 c,.ai .u8 nonce] (fun l=>look l wE) 100 100 { val:=.ai .u8 (B.block key nonce c) }:=by
 have hs:aH Tryz.prog (env fF 6) 73 (aR (env fF 6) Tryz.f73 true [] 400):=
  aY (bH fF 6) (Cn 6) mix Tryz.func73 (by kernel_rfl) true [] 400
 refine (hs.call (Zl key nonce c) (by simp)).words (by rw [hg];rfl) (fun V=>?_) (fun _ _ h=>h) (fun V=>pO V _ _) rfl rfl
 simp only [aJ,cF V hk,cF V hn]
def Nm (vs:List SV) (_:bA):Option Canon:=match vs with
 | [ks,.int _ .u32 c,ns]=>match cY ks,cY ns with
   | some (.u8,k),some (.u8,n)=>some { eR:=[.ai .u8 k,.int false .u32 c,.ai .u8 n],T0:=wE,vl:=[],e0:={ val:=.ai .u8 (B.block k n c) },conds:=[k.length=32,n.length=12] }
   | _,_=>none
 | _=>none
def HL:Sum:=aK aB 100 Nm
theorem MY (Γ:Env) (hg:Γ.aU=aB):aH Tryz.prog Γ 73 HL:=by
 refine aT hg fun vs T c hd hc=>?_
 unfold Nm at hd
 split at hd
 case h_2=>cases hd
 split at hd
 case h_2=>cases hd
 cases hd
 exact Rt _ _ _ (hc _ (by simp)) (hc _ (by simp)) Γ hg
def exX (f:Nat):Option Sum:=match Nat.beq f 73 with
 | true=>some HL
 | false=>fF f
theorem aIn (f:Nat) (S:Sum) (h:exX f=some S) (Γ:Env) (hg:Γ.aU=aB):aH Tryz.prog Γ f S:=by
 unfold exX at h
 split at h
 .rename_i hb;have:=Nat.eq_of_beq_eq_true hb;subst this;cases h;exact MY Γ hg
 .exact lA f S h Γ
noncomputable def ΓX:Env:=env exX 8
theorem aDm:bX Tryz.prog ΓX:=bJ exX aIn 8
def Se (key nonce:List Int) (c:Int) (off len cap:Nat):List SV:=[.ai .u8 key,.int false .u32 c,.ai .u8 nonce,.aI 60 false off len cap]
def yN (xs:List Int) (ty:Nat):bA:=fun l=>look l ((60,.ints .u8 xs ty)::wE)
def OL (c:Int) (off len cap:Nat) (i:Int):List (Nat × SV):=[(1,.int false .u32 c),(3,.aI 60 false off len cap),(4,.ptr 100 true 0),(6,.ptr 101 true 0),(8,.ptr 102 true 0),(11,.int false .i64 len),(12,.int false .i64 i)]
def OK (ty:Nat) (key nonce xs bB:List Int):List (Nat × SB):=[(60,.ints .u8 xs ty),(100,.ints .u8 key 38),(101,.ints .u8 nonce 102),(102,.ints .u8 bB 125)]
noncomputable def Sf:Code:=match (cA ΓX (aC 100 (yN [] 5)) 100 Tryz.f47.ntmps [3] 0 400 (.go (codeOf Tryz.f47)) [] (gU (Se [] [] 0 0 0 0) 100)) with
 | some ⟨.go (.loop L),_,_⟩=>L
 | _=>.skip
theorem aMz (key nonce xs OJ tW:List Int) (c c':Int) (ty off len cap:Nat) (i':Int) :
 (Ry 100 (aC 100 (yN xs ty)) [100,108,116] (OL c' off len cap i') (OK ty key nonce OJ tW) 103 [60] [] (cA ΓX (aC 100 (yN xs ty)) 100 Tryz.f47.ntmps [3] 0 400 (.go (codeOf Tryz.f47)) [] ((gU (Se key nonce c off len cap) 100).hint []))) =
 some (.go (.loop Sf),[.bB 0],[c=c',off=off,len=len,cap=cap,(↑len:Int)=(↑len:Int),0=i',xs=OJ/\ty=ty,key=key/\38=38,nonce=nonce/\102=102,0::0::0::0::0::0::0::0::0::0::0::0::0::0::0::0::0::0::0::0::0::0::0::0::0::0::0::0::0::0::0::0::0::0::0::0::0::0::0::0::0::0::0::0::0::0::0::0::0::0::0::0::0::0::0::0::0::0::(fun x=>0::x) ((fun x=>0::x) ((fun x=>0::x) ((fun x=>0::x) ((fun x=>0::x) ((fun x=>0::x) [])))))=tW/\125=125]):=by kernel_rfl
theorem aMy (key nonce xs AB bB OJ tW:List Int) (c c':Int) (ty off len cap:Nat) (i i':Int) :
 Ry 100 (aC 100 (yN AB ty)) [100,101,102] (OL c' off len cap i') (OK ty key nonce OJ tW) 103 [60] [] (cA ΓX (aC 100 (yN AB ty)) 100 Tryz.f47.ntmps [3] 0 400 (.go Sf) [] ((aN (OL c off len cap i) (OK ty key nonce xs bB) 103 [60] []).hint [true,true])) =
 sh (↑len:Int) fun z0=>
 sh (B.block key nonce c) fun z1=>
 some (Cf.at Ex.normal,[],[off+i.toNat*1<xs.length,0<=i/\i<z0,0+(i.tmod 64).toNat*1+1<=z1.length,0<=i.tmod 64/\i.tmod 64<64,off+i.toNat*1+1<=xs.length,0<=i/\i<z0,z1.length=64/\bB.length=64,key.length=32,nonce.length=12,key=key,c=c,nonce=nonce,nonce.length=12,key.length=32,(i.tmod 64==0)=true,decide (i<z0)=true,IntKind.u32.wrap (c+1)=c',off=off,len=len,cap=cap,z0=z0,IntKind.i64.wrap (i+1)=i',xs.set (off+i.toNat*1) (gB IntKind.u8 (xs.getD (off+i.toNat*1+0) 0) (z1.getD (0+(i.tmod 64).toNat*1+0) 0))=OJ/\ty=ty,key=key/\38=38,nonce=nonce/\102=102,B.block key nonce c=tW/\125=125]):=by kernel_rfl
theorem aMx (key nonce xs AB bB OJ tW:List Int) (c c':Int) (ty off len cap:Nat) (i i':Int) :
 Ry 100 (aC 100 (yN AB ty)) [100,101,102] (OL c' off len cap i') (OK ty key nonce OJ tW) 103 [60] [] (cA ΓX (aC 100 (yN AB ty)) 100 Tryz.f47.ntmps [3] 0 400 (.go Sf) [] ((aN (OL c off len cap i) (OK ty key nonce xs bB) 103 [60] []).hint [true,false])) =
 sh (↑len:Int) fun z0=>
 some (Cf.at Ex.normal,[],[off+i.toNat*1<xs.length,0<=i/\i<z0,0+(i.tmod 64).toNat*1+1<=bB.length,0<=i.tmod 64/\i.tmod 64<64,off+i.toNat*1+1<=xs.length,0<=i/\i<z0,(i.tmod 64==0)=false,decide (i<z0)=true,c=c',off=off,len=len,cap=cap,z0=z0,IntKind.i64.wrap (i+1)=i',xs.set (off+i.toNat*1) (gB IntKind.u8 (xs.getD (off+i.toNat*1+0) 0) (bB.getD (0+(i.tmod 64).toNat*1+0) 0))=OJ/\ty=ty,key=key/\38=38,nonce=nonce/\102=102,bB=tW/\125=125]):=by kernel_rfl
theorem aMw (key nonce xs AB bB:List Int) (c:Int) (ty off len cap:Nat) (i:Int) :
 Ry 100 (aC 100 (yN AB ty)) [100,101,102] (OL c off len cap i) (OK ty key nonce xs bB) 103 [60] [] (cA ΓX (aC 100 (yN AB ty)) 100 Tryz.f47.ntmps [3] 0 400 (.go Sf) [] ((aN (OL c off len cap i) (OK ty key nonce xs bB) 103 [60] []).hint [false])) =
 sh (↑len:Int) fun z0=>
 some (Cf.at (Ex.exit 0),[],[decide (i<z0)=false,c=c,off=off,len=len,cap=cap,z0=z0,i=i,xs=xs/\ty=ty,key=key/\38=38,nonce=nonce/\102=102,bB=bB/\125=125]):=by kernel_rfl
theorem aMv (key nonce xs AB bB:List Int) (c:Int) (ty off len cap:Nat) (i:Int) :
 rZ ΓX (yN AB ty) 100 100 Tryz.f47 (cA ΓX (aC 100 (yN AB ty)) 100 Tryz.f47.ntmps [3] 0 400 (.at (.exit 0)) [.bB 0] ((aN (OL c off len cap i) (OK ty key nonce xs bB) 103 [60] []).hint [])) =
 some {val:=SV.eD [],wr:=[(60,SB.ints IntKind.u8 xs ty)]}:=by kernel_rfl
theorem vO (key nonce:List Int) (c:Int):(B.block key nonce c).length=64:=by simp [B.block,B.out]
theorem HQ (key nonce xs:List Int) (c:Int) (ty off len cap:Nat) (hk:key.length=32) (hn:nonce.length=12) (hx:off+len<=xs.length) (hl:len<=4611686018427387904) (hc:0<=c/\c<=4294967295) :
 aD Tryz.prog ΓX 47 (Se key nonce c off len cap) (yN xs ty) 100 100 { val:=.eD [],wr:=[(60,.ints .u8 (cP key nonce c off len xs) ty)] }:=by
 have aM:=bH exX 8
 have aE:=aDm
 refine bU aM aE Tryz.func47 (by kernel_rfl) rfl (Nat.le_of_ble_eq_true (by kernel_rfl)) rfl [] ?_
 intro w0 M V0 Q hb H
 refine G.to aM aE mix hb [] (aMz key nonce xs xs (List.replicate 64 0) c c ty off len cap 0) (aA (by simp [aO])) ?_
 refine G.loop (fun r s=>∃ (i:Nat) (bB:List Int),i<=len/\r=len-i/\bB.length=64/\(i%64≠0->bB=B.block key nonce (IntKind.u32.wrap (c+(i/64:Nat)))) /\
  s=aN (OL (IntKind.u32.wrap (c+((i+63)/64:Nat))) off len cap i) (OK ty key nonce (cP key nonce c off i xs) bB) 103 [60] []) (r0:=len)
  ⟨0,List.replicate 64 0,Nat.zero_le _,rfl,by simp,fun h=>absurd rfl h,by rw [Qt];simp [IntWalk.u32_in c hc]⟩ ?_
 rintro r s ⟨i,bB,hi,rfl,Gs,gA,rfl⟩
 have Zw:((i:Int)).tmod 64=((i%64:Nat):Int):=by rw [Int.tmod_eq_emod_of_nonneg (by omega)];omega
 have Jt:=fX key nonce c off i xs
 have tO:IntKind.i64.wrap ((i:Int)+1)=((i+1:Nat):Int):=by rw [IntWalk.i64_in _ (by omega)];omega
 by_cases cK:i<len
 .have qJ:∀ b:List Int,b.getD (i%64) 0=Wf key nonce c i->(cP key nonce c off i xs).set (off+(i:Int).toNat*1) (gB IntKind.u8 ((cP key nonce c off i xs).getD (off+(i:Int).toNat*1+0) 0) (b.getD (0+((i:Int).tmod 64).toNat*1+0) 0))=cP key nonce c off (i+1) xs:=by
   intro b hb
   rw [<- Qu key nonce c off i xs (by omega),<- hb]
   simp only [Zw,Int.toNat_natCast,Nat.mul_one,Nat.add_zero,Nat.zero_add]
  by_cases h64:i%64=0
  .have e1:(i+63)/64=i/64:=by omega
   have e2:(i+1+63)/64=i/64+1:=by omega
   refine G.round aM aE mix hb [true,true] (aMy key nonce _ xs bB (cP key nonce c off (i+1) xs) (B.block key nonce (IntKind.u32.wrap (c+(i/64:Nat)))) (IntKind.u32.wrap (c+((i+63)/64:Nat))) (IntKind.u32.wrap (c+((i+1+63)/64:Nat))) ty off len cap i ((i+1:Nat):Int)) (aA ?_) (len-(i+1)) (by omega) ⟨i+1,_,cK,rfl,vO _ _ _,fun _=>by rw [show (i+1)/64=i/64 from by omega],rfl⟩
   simp only [aO,vO,tO,e1,e2,Jn]
   refine ⟨by omega,by omega,by omega,by omega,by omega,by omega,⟨trivial,Gs⟩,hk,hn,trivial,trivial,trivial,hn,hk,by rw [Zw,h64];rfl,by simpa using cK,trivial,trivial,trivial,trivial,trivial,trivial,⟨qJ _ rfl,trivial⟩,⟨trivial,trivial⟩,⟨trivial,trivial⟩,⟨trivial,trivial⟩,trivial⟩
  .have e1:(i+1+63)/64=(i+63)/64:=by omega
   refine G.round aM aE mix hb [true,false] (aMx key nonce _ xs bB (cP key nonce c off (i+1) xs) bB (IntKind.u32.wrap (c+((i+63)/64:Nat))) (IntKind.u32.wrap (c+((i+1+63)/64:Nat))) ty off len cap i ((i+1:Nat):Int)) (aA ?_) (len-(i+1)) (by omega) ⟨i+1,bB,cK,rfl,Gs,fun h=>by rw [gA h64];congr 4;omega,rfl⟩
   simp only [aO,tO,e1]
   refine ⟨by omega,by omega,by omega,by omega,by omega,by omega,by rw [Zw];simpa using by omega,by simpa using cK,trivial,trivial,trivial,trivial,trivial,trivial,⟨qJ _ (by rw [gA h64];rfl),trivial⟩,⟨trivial,trivial⟩,⟨trivial,trivial⟩,⟨trivial,trivial⟩,trivial⟩
 .have hil:i=len:=by omega
  subst hil
  refine G.to aM aE mix hb [false] (aMw key nonce _ xs bB _ ty off i cap i) (aA (by simp [aO])) (G.leave (by simp) ?_)
  exact G.fin aM aE mix [] H (aMv key nonce _ xs bB _ ty off i cap i) (by simp) rfl rfl rfl
def Lh:SB->Option (IntKind × List Int × Nat)
 | .ints k xs t=>some (k,xs,t)
 | .own cs t=>(qL cs).map fun p=>(p.1,p.2,t)
 | _=>none
def GC (vs:List SV) (T:bA):Option Canon:=match vs with
 | [ks,.int _ .u32 c,ns,.aI l _ off len cap]=>match cY ks,cY ns with
   | some (.u8,k),some (.u8,n)=>match T l with
     | some B=>match Lh B with
       | some (.u8,xs,ty)=>some { eR:=Se k n c off len cap,T0:=(60,.ints .u8 xs ty)::wE,vl:=[(60,.lab l 0)],e0:={ val:=.eD [],wr:=[(60,.ints .u8 (cP k n c off len xs) ty)] },conds:=[k.length=32,n.length=12,off+len<=xs.length,len<=4611686018427387904,0<=c/\c<=4294967295] }
       | _=>none
     | none=>none
   | _,_=>none
 | _=>none
def aKk:Sum:=aK aB 100 GC
theorem aDo (Γ:Env) (hg:Γ.aU=aB):aH Tryz.prog Γ 47 aKk:=by
 refine aT hg fun vs T c hd hc=>?_
 unfold GC at hd
 split at hd
 case h_2=>cases hd
 split at hd
 case h_2=>cases hd
 split at hd
 case h_2=>cases hd
 split at hd
 case h_2=>cases hd
 cases hd
 exact (HQ _ _ _ _ _ _ _ _ (hc _ (by simp)) (hc _ (by simp)) (hc _ (by simp)) (hc _ (by simp)) (hc _ (by simp))).words (by rw [hg];rfl) (fun _=>rfl) (fun _ _ h=>h) (fun _=>rfl) rfl rfl
namespace M
def nonce (N:Int):List Int:=[0,0,0,0,IntKind.u8.wrap (cE IntKind.u64 N 0),IntKind.u8.wrap (cE IntKind.u64 N 8),IntKind.u8.wrap (cE IntKind.u64 N 16),IntKind.u8.wrap (cE IntKind.u64 N 24),IntKind.u8.wrap (cE IntKind.u64 N 32),IntKind.u8.wrap (cE IntKind.u64 N 40),IntKind.u8.wrap (cE IntKind.u64 N 48),IntKind.u8.wrap (cE IntKind.u64 N 56)]
def once (key:List Int) (N:Int):List Int:=cP key (nonce N) 0 0 32 (List.replicate 32 0)
def le (N:Int) (j:Nat):Int:=IntKind.u8.wrap (cE IntKind.u64 N ((8*j:Nat):Int))
def qH (n:Int):Int:=(IntKind.i64.wrap (16-n.tmod 16)).tmod 16
def bS (n:Int):Nat:=(qH n).toNat
def Fb (a n:Int):List Int:=[le (IntKind.u64.wrap a) 0,le (IntKind.u64.wrap a) 1,le (IntKind.u64.wrap a) 2,le (IntKind.u64.wrap a) 3,le (IntKind.u64.wrap a) 4,le (IntKind.u64.wrap a) 5,le (IntKind.u64.wrap a) 6,le (IntKind.u64.wrap a) 7,le (IntKind.u64.wrap n) 0,le (IntKind.u64.wrap n) 1,le (IntKind.u64.wrap n) 2,le (IntKind.u64.wrap n) 3,le (IntKind.u64.wrap n) 4,le (IntKind.u64.wrap n) 5,le (IntKind.u64.wrap n) 6,le (IntKind.u64.wrap n) 7]
def QD (n:Int):List Int:=List.take (bS n) (List.drop 0 (List.replicate (bS n) 0))
def Af (ad:List Int) (la:Nat) (c:List Int) (n:Nat):List Int:=ad++(QD la++(c++(QD n++List.take 16 (List.drop 0 (Fb la n)))))
theorem dW (key:List Int) (N:Int):(once key N).length=32:=by unfold once;rw [fX];rfl
end M
def Dx:List SV:=[.int true .i64 0,.raw .nilFunc,.raw .nilFunc,.raw .nilFunc,.raw .nilFunc,.raw .nilFunc,.raw .nilFunc]
theorem aWm (N:Int) :
 aR (env fF 22) Tryz.f58 true [] 400 [.int false .u64 N] (fun l=>look l []) 100 100 =
 some {val:=.agg [.int true .u8 0,.int true .u8 0,.int true .u8 0,.int true .u8 0,.int false .u8 (IntKind.u8.wrap (cE IntKind.u64 N 0)),.int false .u8 (IntKind.u8.wrap (cE IntKind.u64 N 8)),.int false .u8 (IntKind.u8.wrap (cE IntKind.u64 N 16)),.int false .u8 (IntKind.u8.wrap (cE IntKind.u64 N 24)),.int false .u8 (IntKind.u8.wrap (cE IntKind.u64 N 32)),.int false .u8 (IntKind.u8.wrap (cE IntKind.u64 N 40)),.int false .u8 (IntKind.u8.wrap (cE IntKind.u64 N 48)),.int false .u8 (IntKind.u8.wrap (cE IntKind.u64 N 56))]}:=by kernel_rfl
theorem kC:∀ f S,fF f=some S->∀ Γ:Env,Γ.aU=aB->aH Tryz.prog Γ f S:=fun f S h Γ _=>lA f S h Γ
theorem UM (N:Int):aD Tryz.prog (env fF 22) 58 [.int false .u64 N] (fun l=>look l []) 100 100 { val:=.ai .u8 (M.nonce N) }:=
 ((aY (bH fF 22) (bJ fF kC 22) mix Tryz.func58 (by kernel_rfl) true [] 400:aH Tryz.prog (env fF 22) 58 _).call (aWm N) (by simp)).re rfl (fun _=>rfl) trivial trivial
def DT (vs:List SV) (_:bA):Option Canon:=match vs with
 | [.int _ .u64 N]=>some { eR:=[.int false .u64 N],T0:=[],vl:=[],e0:={ val:=.ai .u8 (M.nonce N) } }
 | _=>none
theorem aOv (Γ:Env) (hg:Γ.aU=aB):aH Tryz.prog Γ 58 (aK aB 100 DT):=by
 refine aT hg fun vs T c hd hc=>?_
 unfold DT at hd
 split at hd
 case h_2=>cases hd
 cases hd
 exact (UM _).words (by rw [hg];rfl) (fun _=>rfl) (fun _ _ h=>h) (fun _=>rfl) rfl rfl
noncomputable def Vr:Nat->Option Sum:=eE (eE fF 47 aKk) 58 (aK aB 100 DT)
theorem Ib:∀ f S,Vr f=some S->∀ Γ:Env,Γ.aU=aB->aH Tryz.prog Γ f S:=bI (bI kC 47 _ aDo) 58 _ aOv
theorem aWk (key:List Int) (N:Int) :
 aR (env Vr 22) Tryz.f56 true [] 400 [.agg Dx,.ai .u8 key,.int false .u64 N] (fun l=>look l wE) 100 100 =
 sh (M.once key N) fun z0=>
 sh (0:Int) fun z1=>
 some {bV:=[z0.length=32,z0.length=32,z0.length=32,key.length=32,(M.nonce N).length=12,32<=32,32<=4611686018427387904,z1<=0/\z1<=4294967295,key=key,z1=0,M.nonce N=M.nonce N,0=0,32=32,32=32,List.replicate 32 z1=List.replicate 32 0/\(38:TypeId)=38,(M.nonce N).length=12,key.length=32,N=N,key.length=32],val:=.ai .u8 z0}:=by kernel_rfl
theorem UL {key:List Int} (hk:key.length=32) (N:Int):aD Tryz.prog (env Vr 22) 56 [.agg Dx,.ai .u8 key,.int false .u64 N] (fun l=>look l wE) 100 100 { val:=.ai .u8 (M.once key N) }:=
 ((aY (bH Vr 22) (bJ Vr Ib 22) mix Tryz.func56 (by kernel_rfl) true [] 400:aH Tryz.prog (env Vr 22) 56 _).call (aWk key N) (aA ⟨M.dW _ _,M.dW _ _,M.dW _ _,hk,rfl,by omega,by omega,by omega,rfl,rfl,rfl,rfl,rfl,rfl,⟨rfl,rfl⟩,rfl,hk,rfl,hk,trivial⟩)).re rfl (fun _=>rfl) trivial trivial
def DN (vs:List SV) (_:bA):Option Canon:=match vs with
 | [.agg (.int true .i64 0::_),ks,.int _ .u64 N]=>match cY ks with
   | some (.u8,k)=>some { eR:=[.agg Dx,.ai .u8 k,.int false .u64 N],T0:=wE,vl:=[],e0:={ val:=.ai .u8 (M.once k N) },conds:=[k.length=32] }
   | _=>none
 | _=>none
theorem aOp (Γ:Env) (hg:Γ.aU=aB):aH Tryz.prog Γ 56 (aK aB 100 DN):=by
 refine aT hg fun vs T c hd hc=>?_
 unfold DN at hd
 split at hd
 case h_2=>cases hd
 split at hd
 case h_2=>cases hd
 cases hd
 exact (UL (hc _ (by simp)) _).words (by rw [hg];rfl) (fun _=>rfl) (fun _ _ h=>h) (fun _=>rfl) rfl rfl
theorem aWx (N:Int) :
 aR (env fF 22) Tryz.f87 true [] 400 [.int false .u64 N] (fun l=>look l []) 100 100 =
 some {val:=.aI 100 true 0 8 8,new:=[.own [.int false .u8 (M.le N 0),.int false .u8 (M.le N 1),.int false .u8 (M.le N 2),.int false .u8 (M.le N 3),.int false .u8 (M.le N 4),.int false .u8 (M.le N 5),.int false .u8 (M.le N 6),.int false .u8 (M.le N 7)] 5]}:=by kernel_rfl
theorem UZ (N:Int):aD Tryz.prog (env fF 22) 87 [.int false .u64 N] (fun l=>look l []) 100 100 { val:=.aI 100 true 0 8 8,new:=[.own [.int false .u8 (M.le N 0),.int false .u8 (M.le N 1),.int false .u8 (M.le N 2),.int false .u8 (M.le N 3),.int false .u8 (M.le N 4),.int false .u8 (M.le N 5),.int false .u8 (M.le N 6),.int false .u8 (M.le N 7)] 5] }:=
 (aY (bH fF 22) (bJ fF kC 22) mix Tryz.func87 (by kernel_rfl) true [] 400:aH Tryz.prog (env fF 22) 87 _).call (aWx N) (by simp)
def Ss (vs:List SV) (_:bA):Option Canon:=match vs with
 | [.int _ .u64 N]=>some { eR:=[.int false .u64 N],T0:=[],vl:=[],e0:={ val:=.aI 100 true 0 8 8,new:=[.own [.int false .u8 (M.le N 0),.int false .u8 (M.le N 1),.int false .u8 (M.le N 2),.int false .u8 (M.le N 3),.int false .u8 (M.le N 4),.int false .u8 (M.le N 5),.int false .u8 (M.le N 6),.int false .u8 (M.le N 7)] 5] } }
 | _=>none
theorem aBa (Γ:Env) (hg:Γ.aU=aB):aH Tryz.prog Γ 87 (aK aB 100 Ss):=by
 refine aT hg fun vs T c hd hc=>?_
 unfold Ss at hd
 split at hd
 case h_2=>cases hd
 cases hd
 exact (UZ _).words (by rw [hg];rfl) (fun _=>rfl) (fun _ _ h=>h) (fun _=>rfl) rfl rfl
theorem aZf (n:Int) :
 aR (env fF 22) Tryz.f88 true [] 400 [.int false .i64 n] (fun l=>look l []) 100 100 =
 some {bV:=[0<=M.qH n/\M.qH n<=M.qH n/\1*M.qH n<=281474976710656/\M.qH n<9223372036854775808],val:=.aI 100 false 0 (M.bS n) (M.bS n),new:=[.ints .u8 (List.replicate (M.bS n) 0) 5]}:=by kernel_rfl
theorem M.rM (n:Int) (h:0<=n/\n<=1073741824):M.qH n=(16-n%16)%16/\0<=M.qH n/\M.qH n<16:=by
 have e:M.qH n=(16-n%16)%16:=by
  unfold M.qH
  rw [Int.tmod_eq_emod_of_nonneg h.1,IntWalk.i64_in _ ⟨by omega,by omega⟩,Int.tmod_eq_emod_of_nonneg (by omega)]
 rw [e];omega
theorem XB {n:Int} (h:0<=n/\n<=1073741824):aD Tryz.prog (env fF 22) 88 [.int false .i64 n] (fun l=>look l []) 100 100 { val:=.aI 100 false 0 (M.bS n) (M.bS n),new:=[.ints .u8 (List.replicate (M.bS n) 0) 5] }:=
 ((aY (bH fF 22) (bJ fF kC 22) mix Tryz.func88 (by kernel_rfl) true [] 400:aH Tryz.prog (env fF 22) 88 _).call (aZf n) (aA ⟨by have:=M.rM n h;omega,trivial⟩)).re rfl (fun _=>rfl) ⟨rfl,trivial⟩ trivial
def Sz (vs:List SV) (_:bA):Option Canon:=match vs with
 | [.int _ .i64 n]=>some { eR:=[.int false .i64 n],T0:=[],vl:=[],e0:={ val:=.aI 100 false 0 (M.bS n) (M.bS n),new:=[.ints .u8 (List.replicate (M.bS n) 0) 5] },conds:=[0<=n/\n<=1073741824] }
 | _=>none
theorem aBr (Γ:Env) (hg:Γ.aU=aB):aH Tryz.prog Γ 88 (aK aB 100 Sz):=by
 refine aT hg fun vs T c hd hc=>?_
 unfold Sz at hd
 split at hd
 case h_2=>cases hd
 cases hd
 exact (XB (hc _ (by simp))).words (by rw [hg];rfl) (fun _=>rfl) (fun _ _ h=>h) (fun _=>rfl) rfl rfl
noncomputable def aMk:Nat->Option Sum:=eE (eE (eE (eE Vr 56 (aK aB 100 DN)) 48 (aK aB 100 Sl)) 87 (aK aB 100 Ss)) 88 (aK aB 100 Sz)
theorem XJ:∀ f S,aMk f=some S->∀ Γ:Env,Γ.aU=aB->aH Tryz.prog Γ f S:=bI (bI (bI (bI Ib 56 _ aOp) 48 _ GL) 87 _ aBa) 88 _ aBr
noncomputable def ΓP:Env:=env aMk 22
def ZQ (t:List UInt8):SB:=.eY [.raw (.string ⟨t.toArray⟩)]
def Kg:List (Nat × SB):=[(0,.eY [.jS 367 (.ptr 40 true 0)]),(2,.eY [.jS 367 (.ptr 42 true 0)]),(3,.eY [.jS 367 (.ptr 43 true 0)]),(4,.eY [.jS 367 (.ptr 44 true 0)]),(5,.eY [.jS 367 (.ptr 45 true 0)]),(8,.eY [.jS 367 (.ptr 48 true 0)]),(17,.eY [.int true .i64 40]),(18,.eY [.int true .i64 40])]++wE
def Vz (key:List Int) (N:Int) (la lb cb:Nat) (n:Int):List SV:=[.agg Dx,.ai .u8 key,.int false .u64 N,.dX 63 la,.aI 62 false 0 lb cb,.int false .i64 n]
def Oa (ad bs:List Int) (t:TypeId):bA:=fun l=>look l ([(62,.ints .u8 bs t),(63,.dK .u8 ad)]++Kg)
noncomputable def seM (ad bs:List Int) (t:TypeId) (k:Nat) (cf:Cf) (K:List Fr) (s:St):Option jA:=cA ΓP (aC 100 (Oa ad bs t)) 100 Tryz.f32.ntmps [] 400 k cf K s
def iN:Nat->Code->Code
 | 0,c=>c
 | n+1,.seq _ y=>iN n y
 | _,c=>c
def aKy (la lb cb n:Nat):List (Nat × SV):=[(3,.dX 63 la),(4,.aI 62 false 0 lb cb),(5,.int false .i64 (n:Int)),(6,.ptr 100 true 0),(14,.aI 62 false 0 n n),(15,.ptr 101 true 0)]
def aLa (cs ok:List Int) (t:TypeId):List (Nat × SB):=[(62,.ints .u8 cs t),(100,.own Dx 36),(101,.ints .u8 ok 38)]
def aKx (lb cb n:Nat):List (Nat × SV):=[(4,.aI 62 false 0 lb cb),(5,.int false .i64 (n:Int)),(16,.ptr 100 true 0)]
def aKz (cs tg:List Int) (t:TypeId):List (Nat × SB):=[(62,.ints .u8 cs t),(100,.ints .u8 tg 105)]
theorem aUx (key ad bs cs ok:List Int) (N:Int) (la lb cb n:Nat) (t:TypeId) :
 (cL 100 Tryz.f32.ntmps (aC 100 (Oa ad bs t)) [] (aKy la lb cb n) (aLa cs ok t) 102 [62] [] (seM ad bs t 25 (.go (codeOf Tryz.f32)) [] ((gU (Vz key N la lb cb (n:Int)) 100).hint [false,false,false]))) =
 sh (↑n:Int) fun z0=>
 sh (0:Nat) fun z1=>
 sh (0:Int) fun z2=>
 sh (32:Nat) fun z3=>
 sh (1:Int) fun z4=>
 some (.go (iN 5 (codeOf Tryz.f32)),[],[key.length=z3,(M.nonce N).length=(12:Nat),z1+(z0.toNat-z1)<=bs.length,z0.toNat-z1<=(4611686018427387904:Nat),z2<=z4/\z4<=(4294967295:Int),key=key,z4=z4,M.nonce N=M.nonce N,z1=z1+z1,z0.toNat-z1=z0.toNat-z1,z0.toNat-z1=z0.toNat-z1,bs=bs/\t=t,(M.nonce N).length=(12:Nat),key.length=z3,N=N,key.length=z3,(M.once key N).length=z3,key.length=z3,key=key,N=N,key.length=z3,z2<=z0/\z0<=(↑cb:Int)/\z2<=z0/\z0<=z0/\z2<=z2/\z2<=z0,decide (IntKind.i64.wrap ((↑lb:Int)-z0)<(16:Int))=false,decide (z0>(↑lb:Int))=false,decide (z0<z2)=false,la=la,z1=z1,lb=lb,cb=cb,z0=z0,z1=z1,z0.toNat-z1=n,z0.toNat-z1=n,cP key (M.nonce N) 1 0 n bs=cs/\t=t,M.once key N=ok/\(38:Nat)=(38:TypeId)]):=by kernel_rfl
theorem aUw (ad bs cs ok tg:List Int) (la lb cb n:Nat) (t:TypeId) :
 (cL 100 Tryz.f32.ntmps (aC 100 (Oa ad bs t)) [] (aKx lb cb n) (aKz cs tg t) 101 [62] [] (seM ad bs t 3 (.go (iN 5 (codeOf Tryz.f32))) [] ((aN (aKy la lb cb n) (aLa cs ok t) 102 [62] []).hint []))) =
 sh (0:Nat) fun z5=>
 sh (↑la:Int) fun z3=>
 sh (IntKind.u64.wrap z3) fun z1=>
 sh (1:Nat) fun cH=>
 sh (2:Nat) fun cO=>
 sh (3:Nat) fun dJ=>
 sh (4:Nat) fun eG=>
 sh (5:Nat) fun fE=>
 sh (6:Nat) fun iI=>
 sh (7:Nat) fun eT=>
 sh (↑n:Int) fun z4=>
 sh (IntKind.u64.wrap z4) fun z2=>
 sh (List.drop z5 [M.le z1 z5,M.le z1 cH,M.le z1 cO,M.le z1 dJ,M.le z1 eG,M.le z1 fE,M.le z1 iI,M.le z1 eT,M.le z2 z5,M.le z2 cH,M.le z2 cO,M.le z2 dJ,M.le z2 eG,M.le z2 fE,M.le z2 iI,M.le z2 eT]) fun z0=>
 sh (M.Af ad la (List.take n (List.drop 0 cs)) n) fun z6=>
 sh (M.bS z3) fun jL=>
 sh (0:Int) fun oH=>
 sh (List.replicate jL oH) fun z7=>
 sh (M.bS z4) fun oC=>
 sh (List.replicate oC oH) fun z8=>
 sh (16:Nat) fun z9=>
 sh (List.drop z5 z7) fun kR=>
 sh (List.drop z5 cs) fun lW=>
 sh (List.drop z5 z8) fun kQ=>
 sh (M.tag ok z6) fun qE=>
 some (.go (iN 6 (codeOf Tryz.f32)),[],[qE.length=z9,qE.length=z9,qE.length=z9,ok.length=(32:Nat),bG ok,bG z6,z6.length<=(1073741824:Nat),z6.length%z9=z5,z5+M.bS z3<=z7.length/\M.bS z3<=M.bS z3,z5+n<=cs.length/\n<=n,z5+M.bS z4<=z8.length/\M.bS z4<=M.bS z4,z9<=[M.le z1 z5,M.le z1 cH,M.le z1 cO,M.le z1 dJ,M.le z1 eG,M.le z1 fE,M.le z1 iI,M.le z1 eT,M.le z2 z5,M.le z2 cH,M.le z2 cO,M.le z2 dJ,M.le z2 eG,M.le z2 fE,M.le z2 iI,M.le z2 eT].length/\z5<=z5,ok=ok,la=la,ad.length=ad.length,z5=z5,M.bS z3=M.bS z3,M.bS z3=M.bS z3,z5+M.bS z3<=z7.length/\M.bS z3<=M.bS z3,(List.take jL kR).length=(List.take jL kR).length,z5=z5,n=n,n=n,z5+n<=cs.length/\n<=n,(List.take n lW).length=(List.take n lW).length,z5=z5,M.bS z4=M.bS z4,M.bS z4=M.bS z4,z5+M.bS z4<=z8.length/\M.bS z4<=M.bS z4,(List.take oC kQ).length=(List.take oC kQ).length,z9=z9,z9<=[M.le z1 z5,M.le z1 cH,M.le z1 cO,M.le z1 dJ,M.le z1 eG,M.le z1 fE,M.le z1 iI,M.le z1 eT,M.le z2 z5,M.le z2 cH,M.le z2 cO,M.le z2 dJ,M.le z2 eG,M.le z2 fE,M.le z2 iI,M.le z2 eT].length/\z5<=z5,(List.take z9 z0).length=(List.take z9 z0).length,ad=ad,List.take jL kR=List.take jL kR,z5+M.bS z3<=z7.length/\M.bS z3<=M.bS z3,List.take n lW=List.take n lW,z5+n<=cs.length/\n<=n,List.take oC kQ=List.take oC kQ,z5+M.bS z4<=z8.length/\M.bS z4<=M.bS z4,List.take z9 z0=List.take z9 z0,z9<=[M.le z1 z5,M.le z1 cH,M.le z1 cO,M.le z1 dJ,M.le z1 eG,M.le z1 fE,M.le z1 iI,M.le z1 eT,M.le z2 z5,M.le z2 cH,M.le z2 cO,M.le z2 dJ,M.le z2 eG,M.le z2 fE,M.le z2 iI,M.le z2 eT].length/\z5<=z5,ok.length=(32:Nat),oH<=z4/\z4<=(1073741824:Int),z4=z4,oH<=z3/\z3<=(1073741824:Int),z3=z3,IntKind.u64.wrap z4=IntKind.u64.wrap z4,IntKind.u64.wrap z3=IntKind.u64.wrap z3,ok.length=(32:Nat),z5=z5,lb=lb,cb=cb,z4=z4,cs=cs/\t=t,M.tag ok z6=tg/\(105:Nat)=(105:TypeId)]):=by kernel_rfl
theorem aUv (ad bs cs tg:List Int) (lb cb n:Nat) (t:TypeId) :
 fA ΓP (Oa ad bs t) 100 100 Tryz.f32 [] (seM ad bs t 400 (.go (iN 6 (codeOf Tryz.f32))) [] ((aN (aKx lb cb n) (aKz cs tg t) 101 [62] []).hint [])) =
 sh (↑n:Int) fun z2=>
 sh (z2+(16:Int)) fun z0=>
 sh (0:Nat) fun z3=>
 sh (List.take (16:Nat) (List.drop z3 tg)) fun z1=>
 sh (IntKind.i64.wrap z0) fun z4=>
 some {bV:=[z1.length<=z4.toNat-z2.toNat/\(if IntKind.i64.wrap z0=z2 then z3 else z3+z2.toNat*(1:Nat))+z1.length<=cs.length,(16:Nat)<=tg.length,(0:Int)<=IntKind.i64.wrap z0/\IntKind.i64.wrap z0<=(↑cb:Int)/\(0:Int)<=IntKind.i64.wrap z0/\IntKind.i64.wrap z0<=IntKind.i64.wrap z0/\(0:Int)<=z2/\z2<=IntKind.i64.wrap z0],val:=SV.eD [SV.int false IntKind.i64 z4,SV.raw Value.nilIface],wr:=[(62,SB.ints IntKind.u8 (List.take (if IntKind.i64.wrap z0=z2 then z3 else z3+z2.toNat*(1:Nat)) cs++List.take (16:Nat) (List.drop z3 tg)++List.drop ((if IntKind.i64.wrap z0=z2 then z3 else z3+z2.toNat*(1:Nat))+z1.length) cs) t)]}:=by kernel_rfl
theorem zT (x:Int):Bt (IntKind.u8.wrap x):=by
 rw [IntKind.wrap_u8]
 exact ⟨Int.emod_nonneg _ (by decide),Int.emod_lt_of_pos _ (by decide)⟩
theorem aKa (x y:Int):Bt (gB .u8 x y):=zT _
namespace M
theorem rQ (key nonce:List Int) (c:Int) (off n:Nat) {xs:List Int} (h:bG xs):bG (cP key nonce c off n xs):=by
 intro x hx
 simp only [cP,List.mem_map] at hx
 obtain ⟨m,_,rfl⟩:=hx
 split
 .exact aKa _ _
 .exact h.get _
theorem rK (n:Nat):bG (List.replicate n (0:Int)):=by
 intro x hx
 rw [(List.mem_replicate.1 hx).2]
 exact ⟨by decide,by decide⟩
theorem qT (key:List Int) (N:Int):bG (once key N):=rQ _ _ _ _ _ (rK 32)
theorem jZ {a b:List Int} (ha:bG a) (hb:bG b):bG (a++b):=fun x hx=>by
 rcases List.mem_append.1 hx with h | h
 .exact ha x h
 .exact hb x h
theorem kM {a:List Int} (n:Nat) (ha:bG a):bG (a.take n):=fun x hx=>ha x (List.mem_of_mem_take hx)
theorem pL (key data:List Int):(tag key data).length=16:=by simp [tag,Dy]
theorem RL (key data:List Int):bG (tag key data):=fun x hx=>by
 simp only [tag,Dy,List.mem_map] at hx
 obtain ⟨m,_,rfl⟩:=hx
 exact zT _
theorem Ub {n:Nat} (h:n<=1073741824):bS (n:Int)=(16-n%16)%16:=by
 obtain ⟨e,h0,h1⟩:=rM (n:Int) ⟨by omega,by omega⟩
 unfold bS;rw [e];omega
theorem Ua (n:Int):QD n=List.replicate (bS n) 0:=by
 unfold QD
 rw [List.drop_zero,List.take_of_length_le (by simp)]
theorem Xq (a n:Int):bG (Fb a n):=by
 intro x hx
 simp only [Fb,List.mem_cons,List.not_mem_nil,or_false] at hx
 rcases hx with rfl | rfl | rfl | rfl | rfl | rfl | rfl | rfl | rfl | rfl | rfl | rfl | rfl | rfl | rfl | rfl <;> exact zT _
theorem Px (ad:List Int) (la:Nat) (c:List Int) (n:Nat):Af ad la c n=ad++(List.replicate (bS la) 0++(c++(List.replicate (bS n) 0++Fb la n))):=by
 unfold Af
 rw [Ua,Ua]
 rfl
theorem Hz {ad c:List Int} {la n:Nat} (ha:bG ad) (hc:bG c) (cX:ad.length=la) (hn:c.length=n) (bCk:la<=500000000) (Oe:n<=500000000) :
 bG (Af ad la c n)/\(Af ad la c n).length<=1073741824/\(Af ad la c n).length%16=0:=by
 have Vp:(Fb (la:Int) (n:Int)).length=16:=rfl
 have p1:=Ub (n:=la) (by omega)
 have p2:=Ub (n:=n) (by omega)
 rw [Px]
 refine ⟨jZ ha (jZ (rK _) (jZ hc (jZ (rK _) (Xq _ _)))),?_,?_⟩
 .simp only [List.length_append,List.length_replicate,Vp,cX,hn];omega
 .simp only [List.length_append,List.length_replicate,Vp,cX,hn];omega
def xX (key:List Int) (N:Int) (ad bs:List Int) (n:Nat):List Int:=
 (cP key (nonce N) 1 0 n bs).take n++tag (once key N) (Af ad ad.length ((cP key (nonce N) 1 0 n bs).take n) n)++(cP key (nonce N) 1 0 n bs).drop (n+16)
end M
def seE (key:List Int) (N:Int) (ad bs:List Int) (n:Nat) (t:TypeId):bR:={ val:=.eD [.int false .i64 ((n+16:Nat):Int),.raw .nilIface],wr:=[(62,.ints .u8 (M.xX key N ad bs n) t)] }
theorem Ho:cG Tryz.prog ΓP:=bH _ 22
theorem Hp:bX Tryz.prog ΓP:=bJ _ XJ 22
theorem TQ {key ad bs:List Int} {N:Int} {lb cb n:Nat} {t:TypeId} (hk:key.length=32) (ha:bG ad) (AS:bG bs) (cX:ad.length<=500000000) (hn:n+16<=lb) (hl:lb<=cb) (hb:lb<=bs.length) (PH:cb<=500000000) :
 aD Tryz.prog ΓP 32 (Vz key N ad.length lb cb n) (Oa ad bs t) 100 100 (seE key N ad bs n t):=by
 refine bU Ho Hp Tryz.func32 (by kernel_rfl) rfl (Nat.le_of_ble_eq_true (by kernel_rfl)) rfl [] ?_
 intro w0 Mx V0 Q bQ H
 have aM:=Ho
 have aE:=Hp
 have w1:IntKind.i64.wrap ((lb:Int)-(n:Int))=(lb:Int)-n:=IntWalk.i64_in _ ⟨by omega,by omega⟩
 have w2:IntKind.i64.wrap ((n:Int)+16)=((n+16:Nat):Int):=by rw [IntWalk.i64_in _ ⟨by omega,by omega⟩];omega
 have Jt:(cP key (M.nonce N) 1 0 n bs).length=bs.length:=fX _ _ _ _ _ _
 have hx:=M.rQ key (M.nonce N) 1 0 n AS
 have ZE:=M.dW key N
 have hoB:=M.qT key N
 have rF:=M.pL (M.once key N) (M.Af ad ad.length ((cP key (M.nonce N) 1 0 n bs).take n) n)
 have Lk:M.xX key N ad bs n=(cP key (M.nonce N) 1 0 n bs).take n++M.tag (M.once key N) (M.Af ad ad.length ((cP key (M.nonce N) 1 0 n bs).take n) n)++(cP key (M.nonce N) 1 0 n bs).drop (n+16):=rfl
 have d1:decide ((lb:Int)-(n:Int)<16)=false:=decide_eq_false (by omega)
 have d2:decide ((n:Int)>(lb:Int))=false:=decide_eq_false (by omega)
 have d3:decide ((n:Int)<0)=false:=decide_eq_false (by omega)
 refine G.cL aM aE mix bQ [false,false,false] (aUx key ad bs (cP key (M.nonce N) 1 0 n bs) (M.once key N) N ad.length lb cb n t) (aA ?_) ?_
 .simp only [aO,w1]
  repeat' apply And.intro
  all_goals first | rfl | assumption | omega | trivial | exact Nat.le_refl _
 generalize nK:cP key (M.nonce N) 1 0 n bs=cs at *
 generalize oW:M.once key N=ok at *
 have hd0:List.drop 0 cs=cs:=rfl
 have oY:(cs.take n).length=n:=by rw [List.length_take];omega
 obtain ⟨f1,f2,f3⟩:=M.Hz (la:=ad.length) (n:=n) ha (M.kM n hx) rfl oY cX (by omega)
 generalize htg:M.tag ok (M.Af ad ad.length (cs.take n) n)=tg at *
 refine G.cL aM aE mix bQ [] (aUw ad bs cs ok tg ad.length lb cb n t) (aA ?_) ?_
 .simp only [aO,hd0,htg,List.length_replicate]
  repeat' apply And.intro
  all_goals first | rfl | assumption | omega | trivial | exact Nat.le_refl _
 have e1:(if ((n+16:Nat):Int)=(n:Int) then 0 else 0+(n:Int).toNat*1)=n:=by rw [if_neg (by omega)];omega
 have e1':(if ((n+16:Nat):Int)=(n:Int) then 0 else 0+n*1)=n:=by rw [if_neg (by omega)];omega
 have e2:List.take 16 (List.drop 0 tg)=tg:=by rw [List.drop_zero,List.take_of_length_le (by omega)]
 refine G.eX (cl:=[]) aM aE mix [] H (aUv ad bs cs tg lb cb n t) (aA ?_) ?_ rfl ?_
 .simp only [aO,w2,e2,Int.toNat_natCast,e1']
  repeat' apply And.intro
  all_goals first | rfl | assumption | omega | trivial | exact Nat.le_refl _
 .show SV.eD [.int false .i64 (IntKind.i64.wrap ((n:Int)+16)),.raw .nilIface]=_
  rw [w2];rfl
 .show [(62,SB.ints .u8 _ t)]=[(62,SB.ints .u8 _ t)]
  rw [w2,e1,e2,rF,Lk]
def FK:Code->Code
 | .seq (.seq _ c) _=>c
 | c=>c
noncomputable def opM (ad bs:List Int) (t:TypeId) (k:Nat) (cf:Cf) (K:List Fr) (s:St):Option jA:=cA ΓP (aC 100 (Oa ad bs t)) 100 Tryz.f33.ntmps [] 400 k cf K s
def BI:List SV:=[.fn (.func 61) [] [.ptr 102 true 0,.ptr 103 true 0]]
def aAt (N:Int) (la lb cb n m:Nat):List (Nat × SV):=[(2,.int false .u64 N),(3,.dX 63 la),(4,.aI 62 false 0 lb cb),(5,.int false .i64 (n:Int)),(6,.ptr 100 true 0),(7,.ptr 101 true 0),(12,.int true .i64 0),(13,.ptr 102 true 0),(14,.int false .i64 (m:Int)),(15,.ptr 103 true 0),(16,.ptr 104 true 0)]
def aAs (key ok bs:List Int) (m:Nat) (t:TypeId):List (Nat × SB):=[(62,.ints .u8 bs t),(100,.own Dx 36),(101,.ints .u8 key 38),(102,.own [.raw .nilIface] 55),(103,.own [.aI 62 false 0 m m] 47),(104,.ints .u8 ok 38)]
def DL (N:Int) (m:Nat) (b:Bool):List (Nat × SV):=[(2,.int false .u64 N),(6,.ptr 100 true 0),(7,.ptr 101 true 0),(12,.int true .i64 0),(13,.ptr 102 true 0),(14,.int false .i64 (m:Int)),(15,.ptr 103 true 0),(55,.bool false b)]
def DK (key bs:List Int) (m:Nat) (t:TypeId):List (Nat × SB):=[(62,.ints .u8 bs t),(100,.own Dx 36),(101,.ints .u8 key 38),(102,.own [.raw .nilIface] 55),(103,.own [.aI 62 false 0 m m] 47)]
theorem aWj (key ad bs ok:List Int) (N:Int) (la lb cb n m:Nat) (t:TypeId) :
 (cL 100 Tryz.f33.ntmps (aC 100 (Oa ad bs t)) [] (aAt N la lb cb n m) (aAs key ok bs m t) 105 [62] BI (opM ad bs t 28 (.go (codeOf Tryz.f33)) [] ((gU (Vz key N la lb cb (n:Int)) 100).hint [false,false,false]))) =
 sh (↑n:Int) fun z1=>
 sh (z1-(16:Int)) fun z0=>
 sh (0:Int) fun z2=>
 sh (0:Nat) fun z3=>
 sh (IntKind.i64.wrap z0) fun z4=>
 some (.go (iN 6 (codeOf Tryz.f33)),[],[(M.once key N).length=(32:Nat),key.length=(32:Nat),key=key,N=N,key.length=(32:Nat),z2<=IntKind.i64.wrap z0/\IntKind.i64.wrap z0<=(↑cb:Int)/\z2<=IntKind.i64.wrap z0/\IntKind.i64.wrap z0<=IntKind.i64.wrap z0/\z2<=z2/\z2<=IntKind.i64.wrap z0,decide (z1<(16:Int))=false,decide (z1>(↑lb:Int))=false,decide (z1<z2)=false,N=N,la=la,z3=z3,lb=lb,cb=cb,z1=z1,IntKind.i64.wrap z0=(↑m:Int),bs=bs/\t=t,key=key/\(38:Nat)=(38:TypeId),z3=z3,z4.toNat-z3=m,z4.toNat-z3=m,M.once key N=ok/\(38:Nat)=(38:TypeId)]):=by kernel_rfl
theorem aWi (key ad bs ok:List Int) (N:Int) (la lb cb n m:Nat) (t:TypeId) (b:Bool) :
 (cL 100 Tryz.f33.ntmps (aC 100 (Oa ad bs t)) [] (DL N m b) (DK key bs m t) 104 [62] BI (opM ad bs t 4 (.go (iN 6 (codeOf Tryz.f33))) [] ((aN (aAt N la lb cb n m) (aAs key ok bs m t) 105 [62] BI).hint []))) =
 sh (0:Nat) fun z4=>
 sh (↑la:Int) fun z5=>
 sh (IntKind.u64.wrap z5) fun z1=>
 sh (1:Nat) fun dJ=>
 sh (2:Nat) fun eG=>
 sh (3:Nat) fun fE=>
 sh (4:Nat) fun iI=>
 sh (5:Nat) fun eT=>
 sh (6:Nat) fun kR=>
 sh (7:Nat) fun lW=>
 sh (↑m:Int) fun z3=>
 sh (IntKind.u64.wrap z3) fun z2=>
 sh (List.drop z4 [M.le z1 z4,M.le z1 dJ,M.le z1 eG,M.le z1 fE,M.le z1 iI,M.le z1 eT,M.le z1 kR,M.le z1 lW,M.le z2 z4,M.le z2 dJ,M.le z2 eG,M.le z2 fE,M.le z2 iI,M.le z2 eT,M.le z2 kR,M.le z2 lW]) fun z0=>
 sh (↑n:Int) fun cO=>
 sh (List.drop (if cO=z3 then z4 else z4+z3.toNat*dJ) bs) fun z6=>
 sh (M.bS z5) fun oH=>
 sh (0:Int) fun qE=>
 sh (List.replicate oH qE) fun z7=>
 sh (M.bS z3) fun tM=>
 sh (List.replicate tM qE) fun z8=>
 sh (M.Af ad la (List.take m (List.drop 0 bs)) m) fun z9=>
 sh (16:Nat) fun cH=>
 sh (List.drop z4 z7) fun kQ=>
 sh (List.drop z4 bs) fun jL=>
 sh (List.drop z4 z8) fun oC=>
 sh (List.take cH z6) fun vY=>
 sh (32:Nat) fun zV=>
 some (.go (FK (iN 6 (codeOf Tryz.f33))),[.seq (iN 7 (codeOf Tryz.f33))],[(M.tag ok z9).length=cH/\vY.length=cH,vY.length=cH,ok.length=zV,bG ok,bG z9,z9.length<=(1073741824:Nat),z9.length%cH=z4,z4+M.bS z5<=z7.length/\M.bS z5<=M.bS z5,z4+m<=bs.length/\m<=m,z4+M.bS z3<=z8.length/\M.bS z3<=M.bS z3,cH<=[M.le z1 z4,M.le z1 dJ,M.le z1 eG,M.le z1 fE,M.le z1 iI,M.le z1 eT,M.le z1 kR,M.le z1 lW,M.le z2 z4,M.le z2 dJ,M.le z2 eG,M.le z2 fE,M.le z2 iI,M.le z2 eT,M.le z2 kR,M.le z2 lW].length/\z4<=z4,ok=ok,la=la,ad.length=ad.length,z4=z4,M.bS z5=M.bS z5,M.bS z5=M.bS z5,z4+M.bS z5<=z7.length/\M.bS z5<=M.bS z5,(List.take oH kQ).length=(List.take oH kQ).length,z4=z4,m=m,m=m,z4+m<=bs.length/\m<=m,(List.take m jL).length=(List.take m jL).length,z4=z4,M.bS z3=M.bS z3,M.bS z3=M.bS z3,z4+M.bS z3<=z8.length/\M.bS z3<=M.bS z3,(List.take tM oC).length=(List.take tM oC).length,cH=cH,cH<=[M.le z1 z4,M.le z1 dJ,M.le z1 eG,M.le z1 fE,M.le z1 iI,M.le z1 eT,M.le z1 kR,M.le z1 lW,M.le z2 z4,M.le z2 dJ,M.le z2 eG,M.le z2 fE,M.le z2 iI,M.le z2 eT,M.le z2 kR,M.le z2 lW].length/\z4<=z4,(List.take cH z0).length=(List.take cH z0).length,ad=ad,List.take oH kQ=List.take oH kQ,z4+M.bS z5<=z7.length/\M.bS z5<=M.bS z5,List.take m jL=List.take m jL,z4+m<=bs.length/\m<=m,List.take tM oC=List.take tM oC,z4+M.bS z3<=z8.length/\M.bS z3<=M.bS z3,List.take cH z0=List.take cH z0,cH<=[M.le z1 z4,M.le z1 dJ,M.le z1 eG,M.le z1 fE,M.le z1 iI,M.le z1 eT,M.le z1 kR,M.le z1 lW,M.le z2 z4,M.le z2 dJ,M.le z2 eG,M.le z2 fE,M.le z2 iI,M.le z2 eT,M.le z2 kR,M.le z2 lW].length/\z4<=z4,ok.length=zV,vY.length=cH,ok.length=zV,qE<=z3/\z3<=(1073741824:Int),z3=z3,qE<=z5/\z5<=(1073741824:Int),z5=z5,IntKind.u64.wrap z3=IntKind.u64.wrap z3,IntKind.u64.wrap z5=IntKind.u64.wrap z5,(if cO=z3 then z4 else z4+z3.toNat*dJ)+cH<=bs.length,cH<=cO.toNat-z3.toNat,qE<=cO/\cO<=(↑cb:Int)/\qE<=cO/\cO<=cO/\qE<=z3/\z3<=cO,ok.length=zV,N=N,z3=z3,(!decide (M.tag ok z9=List.take cH z6))=b,bs=bs/\t=t,key=key/\(38:TypeId)=(38:TypeId),z4=z4,m=m,m=m]):=by kernel_rfl
theorem aWh (key ad bs:List Int) (N:Int) (m:Nat) (t:TypeId) (b:Bool) :
 fA ΓP (Oa ad bs t) 100 100 Tryz.f33 [] (opM ad bs t 400 (.go (FK (iN 6 (codeOf Tryz.f33)))) [.seq (iN 7 (codeOf Tryz.f33))] ((aN (DL N m b) (DK key bs m t) 104 [62] BI).hint [true])) =
 some {bV:=[(0:Nat)+m<=bs.length,b=true],val:=SV.eD [SV.int true IntKind.i64 (0:Int),SV.jS 367 (SV.ptr 48 true 0)],wr:=[(62,SB.ints IntKind.u8 (List.take (0:Nat) bs++List.replicate m (0:Int)++List.drop ((0:Nat)+m) bs) t)]}:=by kernel_rfl
theorem aWg (key ad bs:List Int) (N:Int) (m:Nat) (t:TypeId) (b:Bool) :
 fA ΓP (Oa ad bs t) 100 100 Tryz.f33 [] (opM ad bs t 400 (.go (FK (iN 6 (codeOf Tryz.f33)))) [.seq (iN 7 (codeOf Tryz.f33))] ((aN (DL N m b) (DK key bs m t) 104 [62] BI).hint [false])) =
 sh (0:Nat) fun z0=>
 sh (1:Int) fun z1=>
 some {bV:=[key.length=(32:Nat),(M.nonce N).length=(12:Nat),z0+m<=bs.length,m<=(4611686018427387904:Nat),(0:Int)<=z1/\z1<=(4294967295:Int),key=key,z1=z1,M.nonce N=M.nonce N,z0=z0,m=m,m=m,bs=bs/\t=t,(M.nonce N).length=(12:Nat),key.length=(32:Nat),N=N,key.length=(32:Nat),b=false],val:=SV.eD [SV.int false IntKind.i64 (↑m:Int),SV.raw Value.nilIface],wr:=[(62,SB.ints IntKind.u8 (List.map (fun m_1=>if z0<=m_1/\m_1<z0+m then gB IntKind.u8 (bs.getD m_1 (0:Int)) (Wf key (M.nonce N) z1 (m_1-z0)) else bs.getD m_1 (0:Int)) (List.range bs.length)) t)]}:=by kernel_rfl
def BZ (f:Nat):Option Sum:=match Nat.beq f 114 with
 | true=>some rbS
 | false=>fF f
theorem XK (f:Nat) (S:Sum) (h:BZ f=some S) (Γ:Env) (hg:Γ.aU=aB):aH Tryz.prog Γ f S:=by
 unfold BZ at h
 split at h
 .rename_i hb;have:=Nat.eq_of_beq_eq_true hb;subst this;cases h;exact aOh Γ hg
 .exact lA f S h Γ
noncomputable def Dw:Env:=env BZ 4
def QA (key nonce:List Int) (c:Int) (n:Nat):List SV:=[.ai .u8 key,.int false .u32 c,.ai .u8 nonce,.dX 61 n]
def Zo (xs:List Int):bA:=fun l=>look l [(61,.dK .u8 xs)]
noncomputable def aAj:Option jA:=cA Dw (aC 100 (Zo [])) 100 Tryz.f79.ntmps [4] 0 400 (.go (codeOf Tryz.f79)) [] (gU (QA [] [] 0 0) 100)
noncomputable def Ht:Code:=match aAj with
 | some ⟨.go (.loop L),_,_⟩=>L
 | _=>.skip
noncomputable def aLb:List Fr:=match aAj with
 | some ⟨_,K,_⟩=>K
 | _=>[]
def Hc (c i:Int) (n:Nat):List (Nat × SV):=[(1,.int false .u32 c),(3,.dX 61 n),(4,.ptr 100 true 0),(6,.ptr 101 true 0),(9,.buf 103),(10,.ptr 102 true 0),(11,.int false .i64 i)]
def Hb (key nonce bB out:List Int):List (Nat × SB):=[(100,.ints .u8 key 38),(101,.ints .u8 nonce 102),(102,.ints .u8 bB 125),(103,.cD .u8 out 5)]
theorem aVd (key nonce xs bB out:List Int) (c i:Int) (n:Nat) :
 (gD 100 (aC 100 (Zo xs)) [(9,.u8,5)] (Hc c i n) (Hb key nonce bB out) 104 [] [] (cA Dw (aC 100 (Zo xs)) 100 Tryz.f79.ntmps [4] 0 400 (.go (codeOf Tryz.f79)) [] ((gU (QA key nonce c n) 100).hint []))) =
 some (.go (.loop Ht),aLb,[c=c,n=n,0=i,key=key/\38=38,nonce=nonce/\102=102,0::0::0::0::0::0::0::0::0::0::0::0::0::0::0::0::0::0::0::0::0::0::0::0::0::0::0::0::0::0::0::0::0::0::0::0::0::0::0::0::0::0::0::0::0::0::0::0::0::0::0::0::0::0::0::0::0::0::(fun x=>0::x) ((fun x=>0::x) ((fun x=>0::x) ((fun x=>0::x) ((fun x=>0::x) ((fun x=>0::x) [])))))=bB/\125=125,[]=out]):=by kernel_rfl
theorem aVc (key nonce xs bB tW out jB:List Int) (c i i':Int) (n:Nat) :
 gD 100 (aC 100 (Zo xs)) [] (Hc c i' n) (Hb key nonce tW jB) 104 [] [] (cA Dw (aC 100 (Zo xs)) 100 Tryz.f79.ntmps [4] 0 400 (.go Ht) [] ((aN (Hc c i n) (Hb key nonce bB out) 104 [] []).hint [true,true])) =
 sh ((IntKind.i64.wrap (IntKind.i64.wrap c+IntKind.i64.wrap (i.tdiv 64))).tmod 4294967296) fun z0=>
 sh (IntKind.u32.wrap z0) fun z3=>
 sh (R.block key nonce z3) fun z1=>
 sh (z1.getD (0+(i.tmod 64).toNat*1+0) 0) fun z2=>
 some (Cf.at Ex.normal,[],[(out.length+[gB IntKind.u8 (xs.getD i.toNat 0) z2].length)*1<=140737488355328,0+(i.tmod 64).toNat*1+1<=z1.length,0<=i.tmod 64/\i.tmod 64<64,i.toNat<xs.length,0<=i/\i<(↑n:Int),z1.length=64/\bB.length=64,key.length=32,nonce.length=12,key=key,IntKind.u32.wrap z0=IntKind.u32.wrap z0,nonce=nonce,nonce.length=12,key.length=32,(i.tmod 64==0)=true,decide (i<(↑n:Int))=true,c=c,n=n,IntKind.i64.wrap (i+1)=i',key=key/\38=38,nonce=nonce/\102=102,R.block key nonce z3=tW/\125=125,out++[gB IntKind.u8 (xs.getD i.toNat 0) z2]=jB]):=by kernel_rfl
theorem aVb (key nonce xs bB tW out jB:List Int) (c i i':Int) (n:Nat) :
 gD 100 (aC 100 (Zo xs)) [] (Hc c i' n) (Hb key nonce tW jB) 104 [] [] (cA Dw (aC 100 (Zo xs)) 100 Tryz.f79.ntmps [4] 0 400 (.go Ht) [] ((aN (Hc c i n) (Hb key nonce bB out) 104 [] []).hint [true,false])) =
 sh (bB.getD (0+(i.tmod 64).toNat*1+0) 0) fun z0=>
 some (Cf.at Ex.normal,[],[(out.length+[gB IntKind.u8 (xs.getD i.toNat 0) z0].length)*1<=140737488355328,0+(i.tmod 64).toNat*1+1<=bB.length,0<=i.tmod 64/\i.tmod 64<64,i.toNat<xs.length,0<=i/\i<(↑n:Int),(i.tmod 64==0)=false,decide (i<(↑n:Int))=true,c=c,n=n,IntKind.i64.wrap (i+1)=i',key=key/\38=38,nonce=nonce/\102=102,bB=tW/\125=125,out++[gB IntKind.u8 (xs.getD i.toNat 0) z0]=jB]):=by kernel_rfl
theorem aVa (key nonce xs bB out:List Int) (c i:Int) (n:Nat) :
 gD 100 (aC 100 (Zo xs)) [] (Hc c i n) (Hb key nonce bB out) 104 [] [] (cA Dw (aC 100 (Zo xs)) 100 Tryz.f79.ntmps [4] 0 400 (.go Ht) [] ((aN (Hc c i n) (Hb key nonce bB out) 104 [] []).hint [false])) =
 some (Cf.at (Ex.exit 0),[],[decide (i<(↑n:Int))=false,c=c,n=n,i=i,key=key/\38=38,nonce=nonce/\102=102,bB=bB/\125=125,out=out]):=by kernel_rfl
theorem aUz (key nonce xs bB out:List Int) (c i:Int) (n:Nat) :
 rZ Dw (Zo xs) 100 100 Tryz.f79 (cA Dw (aC 100 (Zo xs)) 100 Tryz.f79.ntmps [4] 0 400 (.at (.exit 0)) aLb ((aN (Hc c i n) (Hb key nonce bB out) 104 [] []).hint [])) =
 some {val:=SV.buf 100,new:=[SB.cD IntKind.u8 out 5]}:=by kernel_rfl
theorem sF (key nonce:List Int) (c:Int):(R.block key nonce c).length=64:=by simp [R.block,R.out]
def R.at (key nonce:List Int) (c:Int) (i:Nat):Int:=(R.block key nonce (IntKind.u32.wrap (c+(i/64:Nat)))).getD (i%64) 0
def R.xor (key nonce:List Int) (c:Int) (n:Nat) (xs:List Int):List Int:=(List.range n).map fun i=>gB .u8 (xs.getD i 0) (R.at key nonce c i)
theorem R.Lx (key nonce:List Int) (c:Int) (n:Nat) (xs:List Int):R.xor key nonce c n xs++[gB .u8 (xs.getD n 0) (R.at key nonce c n)]=R.xor key nonce c (n+1) xs:=by
 simp [R.xor,List.range_succ]
theorem R.Ct (key nonce:List Int) (c:Int) (n:Nat) (xs:List Int):(R.xor key nonce c n xs).length=n:=by simp [R.xor]
theorem TT (key nonce xs:List Int) (c:Int) (hk:key.length=32) (hn:nonce.length=12) (hl:xs.length<=1073741824) (hc:W c) :
 aD Tryz.prog Dw 79 (QA key nonce c xs.length) (Zo xs) 100 100 { val:=.buf 100,new:=[.cD .u8 (R.xor key nonce c xs.length xs) 5] }:=by
 have aM:cG Tryz.prog Dw:=bH BZ 4
 have aE:bX Tryz.prog Dw:=bJ BZ XK 4
 refine bU aM aE Tryz.func79 (by kernel_rfl) rfl (Nat.le_of_ble_eq_true (by kernel_rfl)) rfl [] ?_
 intro w0 M V0 Q hb H
 refine G.gD aM aE mix hb [] (aVd key nonce xs (List.replicate 64 0) [] c 0 xs.length) (aA (by simp [aO])) ?_
 refine G.loop (fun r s=>∃ (i:Nat) (bB:List Int),i<=xs.length/\r=xs.length-i/\bB.length=64/\(i%64≠0->bB=R.block key nonce (IntKind.u32.wrap (c+(i/64:Nat)))) /\
  s=aN (Hc c i xs.length) (Hb key nonce bB (R.xor key nonce c i xs)) 104 [] []) (r0:=xs.length)
  ⟨0,List.replicate 64 0,Nat.zero_le _,rfl,by simp,fun h=>absurd rfl h,rfl⟩ ?_
 rintro r s ⟨i,bB,hi,rfl,Gs,gA,rfl⟩
 have Zw:((i:Int)).tmod 64=((i%64:Nat):Int):=by rw [Int.tmod_eq_emod_of_nonneg (by omega)];omega
 have tO:IntKind.i64.wrap ((i:Int)+1)=((i+1:Nat):Int):=by rw [IntWalk.i64_in _ (by omega)];omega
 have oY:IntKind.u32.wrap ((IntKind.i64.wrap (IntKind.i64.wrap c+IntKind.i64.wrap ((i:Int).tdiv 64))).tmod 4294967296)=IntKind.u32.wrap (c+(i/64:Nat)):=by
  unfold W at hc
  rw [Int.tdiv_eq_ediv_of_nonneg (by omega),IntWalk.i64_in c (by omega),IntWalk.i64_in ((i:Int)/64) (by omega),IntWalk.i64_in _ (by omega),Int.tmod_eq_emod_of_nonneg (by omega),IntKind.wrap_u32,IntKind.wrap_u32]
  omega
 by_cases cK:i<xs.length
 .by_cases h64:i%64=0
  .refine G.eK aM aE mix hb [true,true] (aVc key nonce xs bB (R.block key nonce (IntKind.u32.wrap (c+(i/64:Nat)))) (R.xor key nonce c i xs) (R.xor key nonce c (i+1) xs) c i ((i+1:Nat):Int) xs.length) (aA ?_) (xs.length-(i+1)) (by omega) ⟨i+1,_,cK,rfl,sF _ _ _,fun _=>by rw [show (i+1)/64=i/64 from by omega],rfl⟩
   simp only [aO,oY,Zw,tO,sF,R.Ct,hk,hn,Gs,Int.toNat_natCast,Nat.mul_one,Nat.add_zero,Nat.zero_add,List.length_cons,List.length_nil,and_true,true_and]
   refine ⟨by omega,by omega,by omega,by omega,by omega,by rw [h64];rfl,by simpa using cK,?_⟩
   rw [<- R.Lx];rfl
  .refine G.eK aM aE mix hb [true,false] (aVb key nonce xs bB bB (R.xor key nonce c i xs) (R.xor key nonce c (i+1) xs) c i ((i+1:Nat):Int) xs.length) (aA ?_) (xs.length-(i+1)) (by omega) ⟨i+1,bB,cK,rfl,Gs,fun h=>by rw [gA h64];congr 4;omega,rfl⟩
   simp only [aO,Zw,tO,R.Ct,Gs,Int.toNat_natCast,Nat.mul_one,Nat.add_zero,Nat.zero_add,List.length_cons,List.length_nil,and_true,true_and]
   refine ⟨by omega,by omega,by omega,by omega,by omega,by simpa using by omega,by simpa using cK,?_⟩
   rw [<- R.Lx,gA h64];rfl
 .have hil:i=xs.length:=by omega
  subst hil
  refine G.gD aM aE mix hb [false] (aVa key nonce xs bB _ c _ _) (aA (by simp [aO])) (G.leave (by simp) ?_)
  exact G.fin aM aE mix [] H (aUz key nonce xs bB _ c _ _) (by simp) rfl rfl rfl
def aAk (vs:List SV) (T:bA):Option Canon:=match vs with
 | [ks,.int _ .u32 c,ns,d]=>match cY ks,cY ns,fG T .u8 d with
   | some (.u8,k),some (.u8,n),some (ob,xs)=>some { eR:=QA k n c xs.length,T0:=[(61,.dK .u8 xs)],vl:=[(61,.arg 3)],e0:={ val:=.buf 100,new:=[.cD .u8 (R.xor k n c xs.length xs) 5] },conds:=[k.length=32,n.length=12,xs.length<=1073741824,W c]++ob }
   | _,_,_=>none
 | _=>none
def rxS:Sum:=aK aB 100 aAk
theorem aOe (Γ:Env) (hg:Γ.aU=aB):aH Tryz.prog Γ 79 rxS:=by
 refine aT hg fun vs T c hd hc=>?_
 unfold aAk at hd
 split at hd
 case h_2=>cases hd
 split at hd
 case h_2=>cases hd
 cases hd
 exact (TT _ _ _ _ (hc _ (by simp)) (hc _ (by simp)) (hc _ (by simp)) (hc _ (by simp))).words (by rw [hg];rfl) (fun _=>rfl) (fun _ _ h=>h) (fun _=>rfl) rfl rfl
theorem Uv:∀ f S,fF f=some S->∀ Γ:Env,Γ.aU=aB->aH Tryz.prog Γ f S:=fun f S h Γ _=>lA f S h Γ
def ifE (b:Bool):bR:={ val:=.agg [.int true .i64 1,.int false .i64 (if b then 1 else 0)] }
theorem VN (b:Bool):aD Tryz.prog (env fF 22) 117 [.bool false b] (fun l=>look l []) 100 100 (ifE b):=by
 have h:aH Tryz.prog (env fF 22) 117 (aR (env fF 22) Tryz.f117 true [b] 400):=aY (bH fF 22) (bJ fF Uv 22) mix Tryz.func117 (by kernel_rfl) true [b] 400
 cases b
 .exact (h.call (e:={ bV:=[false=false],val:=.agg [.int true .i64 1,.int true .i64 0] }) (by kernel_rfl) (by simp)).re rfl (fun _=>rfl) trivial trivial
 .exact (h.call (e:={ bV:=[true=true],val:=.agg [.int true .i64 1,.int true .i64 1] }) (by kernel_rfl) (by simp)).re rfl (fun _=>rfl) trivial trivial
def EF (vs:List SV) (_:bA):Option Canon:=match vs with
 | [.bool _ b]=>some { eR:=[.bool false b],T0:=[],vl:=[],e0:=ifE b }
 | _=>none
theorem aPx (Γ:Env) (hg:Γ.aU=aB):aH Tryz.prog Γ 117 (aK aB 100 EF):=by
 refine aT hg fun vs T c hd hc=>?_
 unfold EF at hd
 split at hd
 case h_2=>cases hd
 cases hd
 exact (VN _).words (by rw [hg];rfl) (fun _=>rfl) (fun _ _ h=>h) (fun _=>rfl) rfl rfl
noncomputable def CB:Nat->Option Sum:=eE fF 117 (aK aB 100 EF)
theorem zS:∀ f S,CB f=some S->∀ Γ:Env,Γ.aU=aB->aH Tryz.prog Γ f S:=bI Uv 117 _ aPx
noncomputable def Γi:Env:=env CB 22
theorem qN:cG Tryz.prog Γi:=bH _ 22
theorem qO:bX Tryz.prog Γi:=bJ _ zS 22
def vX:bA:=fun l=>look l []
noncomputable def OD (k:Nat) (cf:Cf) (K:List Fr) (s:St):Option jA:=cA Γi (aC 100 vX) 100 Tryz.f83.ntmps [3,7] 0 k cf K s
noncomputable def lF (r:Option jA):Code:=match r with
 | some ⟨.go (.loop L),_,_⟩=>L
 | _=>.skip
noncomputable def rG (r:Option jA):List Fr:=match r with
 | some ⟨_,K,_⟩=>K
 | _=>[]
noncomputable def aMp:Option jA:=OD 400 (.go (codeOf Tryz.f83)) [] (gU [.int false .i64 0] 100)
noncomputable def aCw:Code:=lF aMp
noncomputable def aCy:List Fr:=rG aMp
noncomputable def aMo:Option jA:=OD 400 (.at (.exit 0)) aCy (aN [(0,.int false .i64 0),(3,.buf 100),(4,.int false .i64 0)] [(100,.bO 2 0 165)] 101 [] [])
noncomputable def aCv:Code:=lF aMo
noncomputable def aCx:List Fr:=rG aMo
def sR (n i:Int):List (Nat × SV):=[(0,.int false .i64 n),(3,.buf 100),(4,.int false .i64 i)]
def iG (c:Nat):List (Nat × SB):=[(100,.bO 2 c 165)]
theorem aZx (n i:Int) (c:Nat) :
 (cL 100 Tryz.f83.ntmps (aC 100 vX) [.BJ 3 2 165] (sR n i) (iG c) 101 [] [] (OD 400 (.go (codeOf Tryz.f83)) [] ((gU [.int false .i64 n] 100).hint []))) =
 some (.go (.loop aCw),aCy,[n=n,(0:Int)=i,(0:Nat)=c]):=by kernel_rfl
theorem aZw (n i i':Int) (c c':Nat) :
 cL 100 Tryz.f83.ntmps (aC 100 vX) [] (sR n i') (iG c') 101 [] [] (OD 400 (.go aCw) [] ((aN (sR n i) (iG c) 101 [] []).hint [true])) =
 some (Cf.at Ex.normal,[],[(c+(3:Nat))*(16:Nat)<=(140737488355328:Nat)/\c+(3:Nat)<=(9223372036854775807:Nat),true=true,decide (IntKind.i64.wrap (n-i)>=(256:Int))=true,n=n,IntKind.i64.wrap (i+(256:Int))=i',c+(3:Nat)=c']):=by kernel_rfl
theorem aZv (n i:Int) (c:Nat) :
 cL 100 Tryz.f83.ntmps (aC 100 vX) [] (sR n i) (iG c) 101 [] [] (OD 400 (.go aCw) [] ((aN (sR n i) (iG c) 101 [] []).hint [false])) =
 some (Cf.at (Ex.exit 0),[],[decide (IntKind.i64.wrap (n-i)>=(256:Int))=false,n=n,i=i,c=c]):=by kernel_rfl
theorem aZu (n i:Int) (c c':Nat) :
 (cL 100 Tryz.f83.ntmps (aC 100 vX) [] (sR n i) (iG c') 101 [] [] (OD 400 (.at (.exit 0)) aCy ((aN (sR n i) (iG c) 101 [] []).hint []))) =
 some (.go (.loop aCv),aCx,[(c+(1:Nat))*(16:Nat)<=(140737488355328:Nat)/\c+(1:Nat)<=(9223372036854775807:Nat),false=false,n=n,i=i,c+(1:Nat)=c']):=by kernel_rfl
theorem aZt (n i i':Int) (c c':Nat) :
 cL 100 Tryz.f83.ntmps (aC 100 vX) [] (sR n i') (iG c') 101 [] [] (OD 400 (.go aCv) [] ((aN (sR n i) (iG c) 101 [] []).hint [true])) =
 some (Cf.at Ex.normal,[],[(c+(3:Nat))*(16:Nat)<=(140737488355328:Nat)/\c+(3:Nat)<=(9223372036854775807:Nat),true=true,decide (IntKind.i64.wrap (n-i)>=(64:Int))=true,n=n,IntKind.i64.wrap (i+(64:Int))=i',c+(3:Nat)=c']):=by kernel_rfl
theorem aZs (n i:Int) (c:Nat) :
 cL 100 Tryz.f83.ntmps (aC 100 vX) [] (sR n i) (iG c) 101 [] [] (OD 400 (.go aCv) [] ((aN (sR n i) (iG c) 101 [] []).hint [false])) =
 some (Cf.at (Ex.exit 2),[],[decide (IntKind.i64.wrap (n-i)>=(64:Int))=false,n=n,i=i,c=c]):=by kernel_rfl
theorem aZr (n i:Int) (c:Nat) :
 fA Γi vX 100 100 Tryz.f83 [] (OD 400 (.at (.exit 2)) aCx ((aN (sR n i) (iG c) 101 [] []).hint [true])) =
 sh (2:Nat) fun z0=>
 sh (9223372036854775807:Nat) fun z1=>
 sh (140737488355328:Nat) fun z2=>
 some {bV:=[(c+z0+z0)*(16:Nat)<=z2/\c+z0+z0<=z1,decide (IntKind.i64.wrap (n-i)>(0:Int))=true,(c+z0)*(16:Nat)<=z2/\c+z0<=z1,decide (IntKind.i64.wrap (n-i)>(0:Int))=decide (IntKind.i64.wrap (n-i)>(0:Int)),false=false],val:=SV.buf 100,new:=[SB.bO 2 (c+z0+z0) 165]}:=by kernel_rfl
theorem aZq (n i:Int) (c:Nat) :
 fA Γi vX 100 100 Tryz.f83 [] (OD 400 (.at (.exit 2)) aCx ((aN (sR n i) (iG c) 101 [] []).hint [false])) =
 some {bV:=[decide (IntKind.i64.wrap (n-i)>(0:Int))=false,(c+(2:Nat))*(16:Nat)<=(140737488355328:Nat)/\c+(2:Nat)<=(9223372036854775807:Nat),decide (IntKind.i64.wrap (n-i)>(0:Int))=decide (IntKind.i64.wrap (n-i)>(0:Int)),false=false],val:=SV.buf 100,new:=[SB.bO 2 (c+(2:Nat)) 165]}:=by kernel_rfl
noncomputable def ZP (k:Nat) (cf:Cf) (K:List Fr) (s:St):Option jA:=cA Γi (aC 100 vX) 100 Tryz.f120.ntmps [14] 0 k cf K s
noncomputable def aMn:Option jA:=ZP 400 (.go (codeOf Tryz.f120)) [] ((gU [.int false .i64 0,.int false .i64 0] 100).hint [false])
noncomputable def ewL:Code:=lF aMn
noncomputable def ewK:List Fr:=rG aMn
def At (u n:Int):List (Nat × SV):=[(0,.int false .i64 u),(1,.int false .i64 n),(6,.buf 100)]
theorem aZp (u n u' n':Int) (c:Nat) :
 (cL 100 Tryz.f120.ntmps (aC 100 vX) [] (At u' n') (iG c) 101 [] [] (ZP 400 (.go (codeOf Tryz.f120)) [] ((gU [.int false .i64 u,.int false .i64 n] 100).hint [false]))) =
 some (.go (.loop ewL),ewK,[decide (u>(0:Int))=false,(16:Nat)<=(140737488355328:Nat)/\(1:Nat)<=(9223372036854775807:Nat),decide (u>(0:Int))=decide (u>(0:Int)),u=u',n=n',(1:Nat)=c]):=by kernel_rfl
theorem aZo (u n u' n':Int) (c:Nat) :
 (cL 100 Tryz.f120.ntmps (aC 100 vX) [] (At u' n') (iG c) 101 [] [] (ZP 400 (.go (codeOf Tryz.f120)) [] ((gU [.int false .i64 u,.int false .i64 n] 100).hint [true,true,false]))) =
 sh (IntKind.i64.wrap (u+n)==(16:Int)) fun z0=>
 sh (9223372036854775807:Nat) fun z1=>
 sh (140737488355328:Nat) fun z2=>
 some (.go (.loop ewL),ewK,[z0=false,(64:Nat)<=z2/\(4:Nat)<=z1,z0=z0,(48:Nat)<=z2/\(3:Nat)<=z1,decide (IntKind.i64.wrap ((16:Int)-u)>n)=true,decide (u>(0:Int))=true,(16:Nat)<=z2/\(1:Nat)<=z1,decide (u>(0:Int))=decide (u>(0:Int)),IntKind.i64.wrap (u+n)=u',IntKind.i64.wrap (n-n)=n',(4:Nat)=c]):=by kernel_rfl
theorem aZn (u n u' n':Int) (c:Nat) :
 (cL 100 Tryz.f120.ntmps (aC 100 vX) [] (At u' n') (iG c) 101 [] [] (ZP 400 (.go (codeOf Tryz.f120)) [] ((gU [.int false .i64 u,.int false .i64 n] 100).hint [true,false,true]))) =
 sh ((16:Int)-u) fun z3=>
 sh (IntKind.i64.wrap (u+IntKind.i64.wrap z3)==(16:Int)) fun z0=>
 sh (9223372036854775807:Nat) fun z1=>
 sh (140737488355328:Nat) fun z2=>
 sh (0:Int) fun z4=>
 some (.go (.loop ewL),ewK,[(96:Nat)<=z2/\(6:Nat)<=z1,z0=true,(64:Nat)<=z2/\(4:Nat)<=z1,z0=z0,(48:Nat)<=z2/\(3:Nat)<=z1,decide (IntKind.i64.wrap z3>n)=false,decide (u>z4)=true,(16:Nat)<=z2/\(1:Nat)<=z1,decide (u>z4)=decide (u>z4),z4=u',IntKind.i64.wrap (n-IntKind.i64.wrap z3)=n',(6:Nat)=c]):=by kernel_rfl
theorem aZm (u n n':Int) (c c':Nat) :
 cL 100 Tryz.f120.ntmps (aC 100 vX) [] (At u n') (iG c') 101 [] [] (ZP 400 (.go ewL) [] ((aN (At u n) (iG c) 101 [] []).hint [true])) =
 sh (1:Nat) fun z0=>
 sh (9223372036854775807:Nat) fun z1=>
 sh (140737488355328:Nat) fun z2=>
 some (Cf.at Ex.normal,[],[(c+z0+(2:Nat))*(16:Nat)<=z2/\c+z0+(2:Nat)<=z1,(c+z0)*(16:Nat)<=z2/\c+z0<=z1,true=true,decide (n>=(16:Int))=true,u=u,IntKind.i64.wrap (n-(16:Int))=n',c+z0+(2:Nat)=c']):=by kernel_rfl
theorem aZl (u n:Int) (c:Nat) :
 cL 100 Tryz.f120.ntmps (aC 100 vX) [] (At u n) (iG c) 101 [] [] (ZP 400 (.go ewL) [] ((aN (At u n) (iG c) 101 [] []).hint [false])) =
 some (Cf.at (Ex.exit 0),[],[decide (n>=(16:Int))=false,u=u,n=n,c=c]):=by kernel_rfl
theorem aZk (u n:Int) (c:Nat) :
 fA Γi vX 100 100 Tryz.f120 [] (ZP 400 (.at (.exit 0)) ewK ((aN (At u n) (iG c) 101 [] []).hint [true])) =
 some {bV:=[decide (n>(0:Int))=true,(c+(2:Nat))*(16:Nat)<=(140737488355328:Nat)/\c+(2:Nat)<=(9223372036854775807:Nat),decide (n>(0:Int))=decide (n>(0:Int)),false=false],val:=SV.eD [SV.buf 100,SV.int false IntKind.i64 n],new:=[SB.bO 2 (c+(2:Nat)) 165]}:=by kernel_rfl
theorem aZj (u n:Int) (c:Nat) :
 fA Γi vX 100 100 Tryz.f120 [] (ZP 400 (.at (.exit 0)) ewK ((aN (At u n) (iG c) 101 [] []).hint [false])) =
 some {bV:=[decide (n>(0:Int))=false,(c+(2:Nat))*(16:Nat)<=(140737488355328:Nat)/\c+(2:Nat)<=(9223372036854775807:Nat),decide (n>(0:Int))=decide (n>(0:Int)),false=false],val:=SV.eD [SV.buf 100,SV.int false IntKind.i64 u],new:=[SB.bO 2 (c+(2:Nat)) 165]}:=by kernel_rfl
theorem aZz (u:Int) :
 aR Γi Tryz.f121 true [true] 400 [.int false .i64 u] vX 100 100 =
 sh (9223372036854775807:Nat) fun z0=>
 sh (140737488355328:Nat) fun z1=>
 some {bV:=[(64:Nat)<=z1/\(4:Nat)<=z0,(32:Nat)<=z1/\(2:Nat)<=z0,decide (u>(0:Int))=true,(16:Nat)<=z1/\(1:Nat)<=z0,decide (u>(0:Int))=decide (u>(0:Int))],val:=SV.buf 100,new:=[SB.bO 2 4 165]}:=by kernel_rfl
theorem aZy (u:Int) :
 aR Γi Tryz.f121 true [false] 400 [.int false .i64 u] vX 100 100 =
 some {bV:=[decide (u>(0:Int))=false,(16:Nat)<=(140737488355328:Nat)/\(1:Nat)<=(9223372036854775807:Nat),decide (u>(0:Int))=decide (u>(0:Int))],val:=SV.buf 100,new:=[SB.bO 2 1 165]}:=by kernel_rfl
namespace M
def Oi (n:Nat):Nat:=3*(n/256)+1+3*(n%256/64)+2+(if n%64=0 then 0 else 2)
def wM (u n:Nat):Nat:=min (16-u) n
def wU (u n:Nat):Nat:=if u=0 then 0 else if u+wM u n=16 then 0 else u+wM u n
def wN (u n:Nat):Nat:=if u=0 then n else n-wM u n
def wC (u n:Nat):Nat:=(if u=0 then 1 else if u+wM u n=16 then 6 else 4)+3*(wN u n/16)+2
def wH (u n:Nat):Nat:=if wN u n%16=0 then wU u n else wN u n%16
theorem Ic (n:Nat):Oi n<=n+16:=by unfold Oi;split <;> omega
theorem ZW (u n:Nat) (h:u<16):wH u n<16:=by
 unfold wH wU wM
 repeat' split
 all_goals omega
theorem ZX (u n:Nat):wC u n<=n+16:=by
 unfold wC wN
 repeat' split
 all_goals omega
end M
theorem bD {x:Int} {n:Nat} (h:x=(n:Int)) (hn:n<=9223372036854775807):IntKind.i64.wrap x=(n:Int):=by
 rw [h,IntWalk.i64_in _ ⟨by omega,by omega⟩]
theorem XV {n:Nat} (hn:n<=1073741824):aD Tryz.prog Γi 83 [.int false .i64 (n:Int)] vX 100 100 { val:=.buf 100,new:=[.bO 2 (M.Oi n) 165] }:=by
 refine bU qN qO Tryz.func83 (by kernel_rfl) rfl (Nat.le_of_ble_eq_true (by kernel_rfl)) rfl [] ?_
 intro w0 Mx V0 Q hb H
 have aM:=qN
 have aE:=qO
 refine G.cL aM aE mix hb [] (aZx n 0 0) (aA ⟨rfl,rfl,rfl,trivial⟩) ?_
 refine G.loop (fun r s=>∃ k:Nat,256*k<=n/\r=n-256*k/\s=aN (sR n ((256*k:Nat):Int)) (iG (3*k)) 101 [] []) (r0:=n) ⟨0,by omega,rfl,rfl⟩ ?_
 rintro r s ⟨k,hk,rfl,rfl⟩
 have w1:IntKind.i64.wrap ((n:Int)-((256*k:Nat):Int))=((n-256*k:Nat):Int):=bD (by omega) (by omega)
 by_cases h:256<=n-256*k
 .refine G.jV aM aE mix hb [true] (aZw n _ ((256*(k+1):Nat):Int) (3*k) (3*(k+1))) (aA ?_) (n-256*(k+1)) (by omega) ⟨k+1,by omega,rfl,rfl⟩
  simp only [aO,w1]
  exact ⟨by omega,trivial,decide_eq_true (by omega),trivial,bD (by omega) (by omega),by omega,trivial⟩
 have e1:k=n/256:=by omega
 refine G.cL aM aE mix hb [false] (aZv n _ _) (aA ?_) (G.leave (by simp) ?_)
 .simp only [aO,w1]
  exact ⟨decide_eq_false (by omega),trivial,trivial,trivial,trivial⟩
 refine G.cL aM aE mix hb [] (aZu n _ _ (3*k+1)) (aA ⟨by omega,rfl,rfl,rfl,rfl,trivial⟩) ?_
 refine G.loop (fun r s=>∃ j:Nat,256*k+64*j<=n/\r=n-64*j/\s=aN (sR n ((256*k+64*j:Nat):Int)) (iG (3*k+1+3*j)) 101 [] []) (r0:=n) ⟨0,by omega,rfl,rfl⟩ ?_
 rintro r s ⟨j,hj,rfl,rfl⟩
 have w2:IntKind.i64.wrap ((n:Int)-((256*k+64*j:Nat):Int))=((n-256*k-64*j:Nat):Int):=bD (by omega) (by omega)
 by_cases h2:64<=n-256*k-64*j
 .refine G.jV aM aE mix hb [true] (aZt n _ ((256*k+64*(j+1):Nat):Int) _ (3*k+1+3*(j+1))) (aA ?_) (n-64*(j+1)) (by omega) ⟨j+1,by omega,rfl,rfl⟩
  simp only [aO,w2]
  exact ⟨by omega,trivial,decide_eq_true (by omega),trivial,bD (by omega) (by omega),by omega,trivial⟩
 have e2:j=n%256/64:=by omega
 refine G.cL aM aE mix hb [false] (aZs n _ _) (aA ?_) (G.leave (by simp) ?_)
 .simp only [aO,w2]
  exact ⟨decide_eq_false (by omega),trivial,trivial,trivial,trivial⟩
 by_cases h3:n%64=0
 .refine G.eX (cl:=[]) aM aE mix [false] H (aZq n _ _) (aA ?_) rfl ?_ rfl
  .simp only [aO,w2]
   exact ⟨decide_eq_false (by omega),by omega,trivial,trivial,trivial⟩
  .have:M.Oi n=3*k+1+3*j+2:=by unfold M.Oi;rw [if_pos h3];omega
   rw [this]
 .refine G.eX (cl:=[]) aM aE mix [true] H (aZr n _ _) (aA ?_) rfl ?_ rfl
  .simp only [aO,w2]
   exact ⟨by omega,decide_eq_true (by omega),by omega,trivial,trivial,trivial⟩
  .have:M.Oi n=3*k+1+3*j+2+2:=by unfold M.Oi;rw [if_neg h3];omega
   rw [this]
theorem XU {u n:Nat} (hu:u<16) (hn:n<=1073741824):aD Tryz.prog Γi 120 [.int false .i64 (u:Int),.int false .i64 (n:Int)] vX 100 100 { val:=.eD [.buf 100,.int false .i64 (M.wH u n:Int)],new:=[.bO 2 (M.wC u n) 165] }:=by
 refine bU qN qO Tryz.func120 (by kernel_rfl) rfl (Nat.le_of_ble_eq_true (by kernel_rfl)) rfl [] ?_
 intro w0 Mx V0 Q hb H
 have aM:=qN
 have aE:=qO
 have rest:G Tryz.prog Γi w0 Mx (aC 100 vX) Tryz.f120.ntmps 100 V0 (.go (.loop ewL)) ewK (aN (At ((M.wU u n:Nat):Int) ((M.wN u n:Nat):Int)) (iG (if u=0 then 1 else if u+M.wM u n=16 then 6 else 4)) 101 [] []) Q:=by
  have hN:M.wN u n<=n:=by unfold M.wN;split <;> omega
  have hC:M.wC u n=(if u=0 then 1 else if u+M.wM u n=16 then 6 else 4)+3*(M.wN u n/16)+2:=rfl
  have wA:(if u=0 then 1 else if u+M.wM u n=16 then 6 else 4)<=6:=by (repeat' split) <;> omega
  have hH:M.wH u n=if M.wN u n%16=0 then M.wU u n else M.wN u n%16:=rfl
  generalize (if u=0 then 1 else if u+M.wM u n=16 then 6 else 4)=c0 at *
  generalize M.wU u n=u1 at *
  generalize M.wN u n=n1 at *
  refine G.loop (fun r s=>∃ k:Nat,16*k<=n1/\r=n1-16*k/\s=aN (At (u1:Int) ((n1-16*k:Nat):Int)) (iG (c0+3*k)) 101 [] []) (r0:=n1) ⟨0,by omega,rfl,rfl⟩ ?_
  rintro r s ⟨k,hk,rfl,rfl⟩
  by_cases h:16<=n1-16*k
  .refine G.jV aM aE mix hb [true] (aZm _ _ ((n1-16*(k+1):Nat):Int) _ (c0+3*(k+1))) (aA ?_) (n1-16*(k+1)) (by omega) ⟨k+1,by omega,rfl,rfl⟩
   exact ⟨by omega,by omega,rfl,decide_eq_true (by omega),rfl,bD (by omega) (by omega),by omega,trivial⟩
  have e1:k=n1/16:=by omega
  refine G.cL aM aE mix hb [false] (aZl _ _ _) (aA ⟨decide_eq_false (by omega),rfl,rfl,rfl,trivial⟩) (G.leave (by simp) ?_)
  by_cases h3:n1%16=0
  .refine G.eX (cl:=[]) aM aE mix [false] H (aZj _ _ _) (aA ⟨decide_eq_false (by omega),by omega,rfl,rfl,trivial⟩) ?_ ?_ rfl
   .rw [hH,if_pos h3]
   .rw [hC,e1]
  .refine G.eX (cl:=[]) aM aE mix [true] H (aZk _ _ _) (aA ⟨decide_eq_true (by omega),by omega,rfl,rfl,trivial⟩) ?_ ?_ rfl
   .rw [hH,if_neg h3]
    have:n1-16*k=n1%16:=by omega
    rw [this]
   .rw [hC,e1]
 by_cases h0:u=0
 .subst h0
  refine G.cL aM aE mix hb [false] (aZp _ _ ((M.wU 0 n:Nat):Int) ((M.wN 0 n:Nat):Int) 1) (aA ⟨decide_eq_false (by omega),by omega,rfl,rfl,rfl,rfl,trivial⟩) rest
 have w1:IntKind.i64.wrap ((16:Int)-(u:Int))=((16-u:Nat):Int):=bD (by omega) (by omega)
 rw [if_neg h0] at rest
 have hU:M.wU u n=if u+M.wM u n=16 then 0 else u+M.wM u n:=by unfold M.wU;rw [if_neg h0]
 have hN:M.wN u n=n-M.wM u n:=by unfold M.wN;rw [if_neg h0]
 by_cases h1:n<16-u
 .have hm:M.wM u n=n:=by unfold M.wM;omega
  rw [hm] at hU hN rest
  rw [if_neg (by omega)] at hU rest
  have w2:IntKind.i64.wrap ((u:Int)+(n:Int))=((u+n:Nat):Int):=bD (by omega) (by omega)
  have b2:((((u+n:Nat):Int))==(16:Int))=false:=by simpa using by omega
  refine G.cL aM aE mix hb [true,true,false] (aZo _ _ ((M.wU u n:Nat):Int) ((M.wN u n:Nat):Int) 4) (aA ?_) rest
  simp only [aO,w1,w2,b2,hU,hN]
  exact ⟨trivial,by omega,trivial,by omega,decide_eq_true (by omega),decide_eq_true (by omega),by omega,trivial,trivial,bD (by omega) (by omega),trivial,trivial⟩
 .have hm:M.wM u n=16-u:=by unfold M.wM;omega
  rw [hm] at hU hN rest
  rw [if_pos (by omega)] at hU rest
  have w2:IntKind.i64.wrap ((u:Int)+((16-u:Nat):Int))=16:=by rw [IntWalk.i64_in _ ⟨by omega,by omega⟩];omega
  refine G.cL aM aE mix hb [true,false,true] (aZn _ _ ((M.wU u n:Nat):Int) ((M.wN u n:Nat):Int) 6) (aA ?_) rest
  simp only [aO,w1,w2,hU,hN]
  exact ⟨by omega,by decide,by omega,trivial,by omega,decide_eq_false (by omega),decide_eq_true (by omega),by omega,trivial,rfl,bD (by omega) (by omega),trivial,trivial⟩
theorem XW {u:Nat} (hu:u<16):aD Tryz.prog Γi 121 [.int false .i64 (u:Int)] vX 100 100 { val:=.buf 100,new:=[.bO 2 (if u=0 then 1 else 4) 165] }:=by
 by_cases h:u=0
 .subst h
  exact ((aY qN qO mix Tryz.func121 (by kernel_rfl) true [false] 400:aH Tryz.prog Γi 121 _).call (aZy ((0:Nat):Int)) (aA ⟨by decide,by omega,rfl,trivial⟩)).words rfl (fun _=>rfl) (fun _ _ h=>h) (fun _=>rfl) rfl rfl
 .rw [if_neg h]
  exact ((aY qN qO mix Tryz.func121 (by kernel_rfl) true [true] 400:aH Tryz.prog Γi 121 _).call (aZz (u:Int)) (aA ⟨by omega,by omega,decide_eq_true (by omega),by omega,rfl,trivial⟩)).words rfl (fun _=>rfl) (fun _ _ h=>h) (fun _=>rfl) rfl rfl
def ER (vs:List SV) (_:bA):Option Canon:=match vs with
 | [.int _ .i64 n]=>some { eR:=[.int false .i64 (n.toNat:Int)],T0:=[],vl:=[],e0:={ val:=.buf 100,new:=[.bO 2 (M.Oi n.toNat) 165] },conds:=[n.toNat<=1073741824] }
 | _=>none
theorem aIu (Γ:Env) (hg:Γ.aU=aB):aH Tryz.prog Γ 83 (aK aB 100 ER):=by
 refine aT hg fun vs T c hd hc=>?_
 unfold ER at hd
 split at hd
 case h_2=>cases hd
 cases hd
 exact (XV (hc _ (by simp))).words (by rw [hg];rfl) (fun _=>rfl) (fun _ _ h=>h) (fun _=>rfl) rfl rfl
def EP (vs:List SV) (_:bA):Option Canon:=match vs with
 | [.int _ .i64 u,.int _ .i64 n]=>some { eR:=[.int false .i64 (u.toNat:Int),.int false .i64 (n.toNat:Int)],T0:=[],vl:=[],e0:={ val:=.eD [.buf 100,.int false .i64 (M.wH u.toNat n.toNat:Int)],new:=[.bO 2 (M.wC u.toNat n.toNat) 165] },conds:=[u.toNat<16,n.toNat<=1073741824] }
 | _=>none
theorem aIt (Γ:Env) (hg:Γ.aU=aB):aH Tryz.prog Γ 120 (aK aB 100 EP):=by
 refine aT hg fun vs T c hd hc=>?_
 unfold EP at hd
 split at hd
 case h_2=>cases hd
 cases hd
 exact (XU (hc _ (by simp)) (hc _ (by simp))).words (by rw [hg];rfl) (fun _=>rfl) (fun _ _ h=>h) (fun _=>rfl) rfl rfl
def ES (vs:List SV) (_:bA):Option Canon:=match vs with
 | [.int _ .i64 u]=>some { eR:=[.int false .i64 (u.toNat:Int)],T0:=[],vl:=[],e0:={ val:=.buf 100,new:=[.bO 2 (if u.toNat=0 then 1 else 4) 165] },conds:=[u.toNat<16] }
 | _=>none
theorem aIv (Γ:Env) (hg:Γ.aU=aB):aH Tryz.prog Γ 121 (aK aB 100 ES):=by
 refine aT hg fun vs T c hd hc=>?_
 unfold ES at hd
 split at hd
 case h_2=>cases hd
 cases hd
 exact (XW (hc _ (by simp))).words (by rw [hg];rfl) (fun _=>rfl) (fun _ _ h=>h) (fun _=>rfl) rfl rfl
noncomputable def Hi:Nat->Option Sum:=eE (eE (eE CB 83 (aK aB 100 ER)) 120 (aK aB 100 EP)) 121 (aK aB 100 ES)
theorem Iz:∀ f S,Hi f=some S->∀ Γ:Env,Γ.aU=aB->aH Tryz.prog Γ f S:=bI (bI (bI zS 83 _ aIu) 120 _ aIt) 121 _ aIv
section
variable {w0 w:World} {M:Nat->Prop} {V:bF} {T:bA} {lab:Nat}
theorem aG.mvx (h:aG w0 M V T w) (hf:V.fresh lab) (kE:∀ k,lab<=k->T k=none) {l sz n:Nat} {el:TypeId} (hl:T l=some (.bO sz n el)) {lb:Nat} {cs:List SV} {ty:TypeId} {i:Nat}
 (hb:T lb=some (.own cs ty)) (hi:cs[i]?=some (.buf l)) (dP:l≠lb) (v:SV) :
 ∃ V',V.ext lab V'/\aG w0 M V' (fL T lab { val:=v,new:=[.bO sz n el],wr:=[(l,.gone),(lb,.own (cs.set i (.buf lab)) ty)] }) w:=by
 obtain ⟨us,Gm,u,ws,hσ,cN,iX⟩:=h.ok l _ hl
 obtain ⟨ys,sJ,b2,kV,PE⟩:=h.ok lb _ hb
 have cK:l<lab:=Nat.lt_of_not_le fun q=>by rw [kE l q] at hl;cases hl
 have QK:lb<lab:=Nat.lt_of_not_le fun q=>by rw [kE lb q] at hb;cases hb
 have bW:=bF.dU hf lab (Nat.le_refl _) (by omega) u
 have e2:(V.bL lab u).σ lab=some u:=by simp [bF.bL]
 refine ⟨_,bW,?_⟩
 have qJ:aJ (V.bL lab u) (cs.set i (.buf lab))=some ys:=by
  have gL:aJ (V.bL lab u) cs=some ys:=dI bW.1 sJ
  obtain ⟨x,oV,Ju⟩:=eF gL i _ hi
  simp only [den,bW.1.2 _ _ hσ,Option.some.injEq] at Ju
  exact qV (by rw [<- Ju];simp [den,e2]) cs ys i gL oV
 refine h.step (N:=fun q=>if q=lab then some (.bO sz n el) else if q=l then some .gone else if q=lb then some (.own (cs.set i (.buf lab)) ty) else none) bW.1 (fun q C hk=>?_) (fun q C hk=>?_) (fun q C p hk hp=>?_) (fun q C q' C' p Ks hk jK ho hp=>?_) (Nat.le_refl _) (fun _ _ _=>rfl) rfl rfl rfl
 .simp only [fL,bR.fM,iE,List.cons_append,List.nil_append] at hk
  by_cases k1:l=q
  .subst k1
   rw [aL] at hk
   left
   simp only [if_neg (show ¬ l=lab by omega),if_true]
   simpa using hk
  .rw [aF k1] at hk
   by_cases k2:lb=q
   .subst k2
    rw [aL] at hk
    left
    simp only [if_neg (show ¬ lb=lab by omega),if_neg (fun q=>dP (Eq.symm q)),if_true]
    simpa using hk
   .rw [aF k2] at hk
    by_cases k3:lab=q
    .subst k3;rw [aL] at hk;left;simpa using hk
    .rw [aF k3] at hk
     right
     simp only [look] at hk
     exact ⟨by rw [if_neg (fun q=>k3 q.symm),if_neg (fun q=>k1 q.symm),if_neg (fun q=>k2 q.symm)],hk⟩
 .by_cases k1:q=lab
  .rw [if_pos k1] at hk
   cases hk
   subst k1
   exact ⟨[],rfl,u,ws,e2,cN,iX⟩
  .rw [if_neg k1] at hk
   by_cases k2:q=l
   .rw [if_pos k2] at hk;cases hk;exact ⟨[],rfl,trivial⟩
   .rw [if_neg k2] at hk
    by_cases k3:q=lb
    .rw [if_pos k3] at hk
     cases hk
     subst k3
     exact ⟨ys,qJ,b2,bW.1.1 _ _ kV,PE⟩
    .rw [if_neg k3] at hk;cases hk
 .by_cases k1:q=lab
  .rw [if_pos k1] at hk
   cases hk
   subst k1
   simp only [SB.bB,e2,Option.bind_some] at hp
   right;left
   exact ⟨l,_,hl,rfl,by simp [SB.bB,hσ,hp],by simp [if_neg (show ¬ l=q by omega)]⟩
  .rw [if_neg k1] at hk
   by_cases k2:q=l
   .rw [if_pos k2] at hk;cases hk;cases hp
   .rw [if_neg k2] at hk
    by_cases k3:q=lb
    .rw [if_pos k3] at hk
     cases hk
     subst k3
     simp only [SB.bB,bW.1.1 _ _ kV,Option.map_some,Option.some.injEq] at hp
     subst hp
     right;left
     exact ⟨q,_,hb,rfl,by simp [SB.bB,kV],by simp [if_neg k1,if_neg k2]⟩
    .rw [if_neg k3] at hk;cases hk
 .have bB:∀ q C p,(if q=lab then some (SB.bO sz n el) else if q=l then some .gone else if q=lb then some (.own (cs.set i (.buf lab)) ty) else none)=some C->C.bB (V.bL lab u) q=some p->(q=lab/\u.ownBlock=some p)\/(q=lb/\p=b2):=by
   intro q C p hk hp
   by_cases k1:q=lab
   .rw [if_pos k1] at hk
    cases hk
    subst k1
    simp only [SB.bB,e2,Option.bind_some] at hp
    exact .inl ⟨rfl,hp⟩
   .rw [if_neg k1] at hk
    by_cases k2:q=l
    .rw [if_pos k2] at hk;cases hk;cases hp
    .rw [if_neg k2] at hk
     by_cases k3:q=lb
     .rw [if_pos k3] at hk
      cases hk
      subst k3
      simp only [SB.bB,bW.1.1 _ _ kV,Option.map_some,Option.some.injEq] at hp
      exact .inr ⟨rfl,hp.symm⟩
     .rw [if_neg k3] at hk;cases hk
  have pT:u.ownBlock≠some b2:=fun e=>h.kF l _ lb _ b2 dP hl hb rfl (by simp [SB.bB,hσ,e]) (by simp [SB.bB,kV])
  intro Vm
  rcases bB q C p hk hp with ⟨r1,r2⟩ | ⟨r1,r2⟩ <;> rcases bB q' C' p jK Vm with ⟨r3,r4⟩ | ⟨r3,r4⟩
  .omega
  .exact pT (r4 ▸ r2)
  .exact pT (r2 ▸ r4)
  .omega
theorem aG.gF (hT:aG w0 M V T w) (hf:V.fresh lab) (kE:∀ k,lab<=k->T k=none) {l:Nat} {k:IntKind} {xs:List Int} {el:TypeId} (hl:T l=some (.cD k xs el)) {x:Value} (hx:den V (.buf l)=some x) :
 ∃ V',V.ext lab V'/\den V' (.dX lab xs.length)=some x/\aG w0 M V' (fL T lab { val:=.dX lab xs.length,new:=[.dK k xs],wr:=[(l,.gone)] }) w:=by
 simp only [den] at hx
 obtain ⟨us,Gm,u,hσ,cN⟩:=hT.ok l _ hl
 rw [hx] at hσ
 cases hσ
 cases Gm
 have cK:l<lab:=Nat.lt_of_not_le fun q=>by rw [kE l q] at hl;cases hl
 have bW:=bF.dU hf lab (Nat.le_refl _) (by omega) x
 have e2:(V.bL lab x).σ lab=some x:=by simp [bF.bL]
 have aLr:yR xs.length x=some x/\Hl w k x xs:=by
  rcases cN.2 with ⟨rfl,h0⟩ | ⟨b,cap,cur,rfl,_,hh,hle,sP,nK,eQ⟩
  .have:xs=[]:=List.length_eq_zero_iff.1 h0
   subst this
   exact ⟨rfl,.inl ⟨.nil,rfl⟩⟩
  .refine ⟨by simp [yR,hle],.inr ⟨b,0,cap,rfl,(Array.getElem?_eq_some_iff.1 hh).1,hle,fun j u hj=>?_⟩⟩
   rw [Nat.mul_one] at eQ
   have cK:j<xs.length:=by
    have:=(List.getElem?_eq_some_iff.1 hj).1
    simpa using this
   have h3:cur[j]?=some u:=by
    rw [<- Array.getElem?_toList]
    rw [<- eQ,List.getElem?_take,if_pos cK] at hj
    exact hj
   simp only [World.cell?,hh,Nat.zero_add]
   exact h3
 refine ⟨_,bW,by simp [den,e2,aLr.1],?_⟩
 refine hT.step (N:=fun m=>if m=lab then some (.dK k xs) else if m=l then some .gone else none) bW.1 (fun m C hm=>?_) (fun m C hm=>?_) (fun m C q hm hq=>?_) (fun m C m' C' q dP hm vV yL _=>?_) (Nat.le_refl _) (fun _ _ _=>rfl) rfl rfl rfl
 .simp only [fL,bR.fM,iE,List.cons_append,List.nil_append] at hm
  by_cases k1:l=m
  .subst k1
   rw [aL] at hm
   left
   simp only [if_neg (show ¬ l=lab by omega),if_true]
   simpa using hm
  .rw [aF k1] at hm
   by_cases k3:lab=m
   .subst k3;rw [aL] at hm;left;simpa using hm
   .rw [aF k3] at hm
    right
    simp only [look] at hm
    exact ⟨by rw [if_neg (fun q=>k3 q.symm),if_neg (fun q=>k1 q.symm)],hm⟩
 .by_cases e:m=lab
  .subst e
   rw [if_pos rfl] at hm
   cases hm
   exact ⟨_,rfl,x,e2,aLr.2⟩
  .rw [if_neg e] at hm
   by_cases e':m=l
   .rw [if_pos e'] at hm;cases hm;exact ⟨[],rfl,trivial⟩
   .rw [if_neg e'] at hm;cases hm
 .by_cases e:m=lab
  .subst e
   rw [if_pos rfl] at hm
   cases hm
   simp only [SB.bB,e2,Option.bind_some] at hq
   refine .inr (.inl ⟨l,_,hl,rfl,by simp [SB.bB,hx,hY hq],by simp [if_neg (show ¬ l=m by omega)]⟩)
  .rw [if_neg e] at hm
   by_cases e':m=l
   .rw [if_pos e'] at hm;cases hm;cases hq
   .rw [if_neg e'] at hm;cases hm
 .by_cases e:m=lab
  .rw [if_pos e] at hm;cases hm;cases yL
  .rw [if_neg e] at hm
   by_cases e':m=l
   .rw [if_pos e'] at hm;cases hm;cases yL
   .rw [if_neg e'] at hm;cases hm
end
noncomputable def mvC (F0 N:Nat) (B:bA) (t i:Nat) (s:St):Option St:=match s.g.get t with
 | some (.ptr lb true 0)=>match s.T B lb with
   | some (.own cs ty)=>match cs[i]? with
     | some (.buf l)=>match s.T B l with
       | some (.bO sz n el)=>match Nat.beq l lb with
         | false=>s.step F0 N none { val:=.raw undef,new:=[.bO sz n el],wr:=[(l,.gone),(lb,.own (cs.set i (.buf s.nx)) ty)] } s.nx (s.nx+8)
         | true=>none
       | _=>none
     | _=>none
   | _=>none
 | _=>none
noncomputable def Oc (F0 N:Nat) (B:bA) (t i:Nat) (s:St):St:=match mvC F0 N B t i s with
 | some s'=>s'
 | none=>s
noncomputable def roC (F0 N:Nat) (B:bA) (t:Nat) (s:St):Option St:=match s.g.get t with
 | some (.buf l)=>match s.T B l with
   | some (.cD k xs _)=>s.step F0 N (some t) { val:=.dX s.nx xs.length,new:=[.dK k xs],wr:=[(l,.gone)] } s.nx (s.nx+8)
   | _=>none
 | _=>none
noncomputable def OP (F0 N:Nat) (B:bA) (t:Nat) (s:St):St:=match roC F0 N B t s with
 | some s'=>s'
 | none=>s
section
variable {P:Program} {Γ:Env} {w0:World} {M:Nat->Prop} {B:bA} {N F0:Nat} {V0:bF}
theorem Inv.mvC {t i:Nat} {s s':St} (h:Sx.mvC F0 N B t i s=some s') {V:bF} {a:Act} {w:World} (hi:Inv P Γ w0 M B N F0 V0 s V a w):∃ V',Inv P Γ w0 M B N F0 V0 s' V' a w:=by
 unfold Sx.mvC at h
 split at h
 case h_2=>cases h
 rename_i lb _
 split at h
 case h_2=>cases h
 rename_i cs ty hb
 split at h
 case h_2=>cases h
 rename_i l hc
 split at h
 case h_2=>cases h
 rename_i sz n el hl
 split at h
 case h_2=>cases h
 rename_i oF
 obtain ⟨V',hV,hT⟩:=aG.mvx hi.fM hi.top.fresh hi.hi hl hb hc (fun e=>by subst e;rw [Nat.beq_refl] at oF;cases oF) (.raw undef)
 exact ⟨V',hi.step (x:=undef) h (Nat.le_refl _) (Nat.le_refl _) hV (fun h=>by cases h) hT⟩
theorem G.mv (t i:Nat) {cf:Cf} {K:List Fr} {s:St} {Q:Exit->Act->World->Prop} (hG:G P Γ w0 M B N F0 V0 cf K (Oc F0 N B t i s) Q):G P Γ w0 M B N F0 V0 cf K s Q:=by
 intro V a w hi
 unfold Oc at hG
 split at hG
 .rename_i s' h
  obtain ⟨V',fZ⟩:=hi.mvC h
  exact hG V' a w fZ
 .exact hG V a w hi
theorem Inv.roC {t:Nat} {s s':St} (h:Sx.roC F0 N B t s=some s') {V:bF} {a:Act} {w:World} (hi:Inv P Γ w0 M B N F0 V0 s V a w):∃ V',Inv P Γ w0 M B N F0 V0 s' V' a w:=by
 unfold Sx.roC at h
 split at h
 case h_2=>cases h
 rename_i l ht
 split at h
 case h_2=>cases h
 rename_i k xs el hl
 obtain ⟨V',hV,hx,hT⟩:=aG.gF hi.fM hi.top.fresh hi.hi hl (hi.tmp t _ ht)
 have:=hi.step (x:=a.eval (.tmp t)) h (Nat.le_refl _) (Nat.le_refl _) hV (fun _=>hx) hT
 rw [Act.oR] at this
 exact ⟨V',this⟩
theorem G.ro (t:Nat) {cf:Cf} {K:List Fr} {s:St} {Q:Exit->Act->World->Prop} (hG:G P Γ w0 M B N F0 V0 cf K (OP F0 N B t s) Q):G P Γ w0 M B N F0 V0 cf K s Q:=by
 intro V a w hi
 unfold OP at hG
 split at hG
 .rename_i s' h
  obtain ⟨V',fZ⟩:=hi.roC h
  exact hG V' a w fZ
 .exact hG V a w hi
end
def Dz:bA:=fun l=>look l []
theorem aTk (N:Int) :
 aR (env fF 22) Tryz.f80 true [] 400 [.int false .u64 N] Dz 100 100 =
 sh (256:Int) fun z1=>
 sh (IntKind.u64.wrap (N.tdiv z1)) fun z6=>
 sh (IntKind.u64.wrap (z6.tdiv z1)) fun z2=>
 sh (IntKind.u64.wrap (z2.tdiv z1)) fun z4=>
 sh (IntKind.u64.wrap (z4.tdiv z1)) fun z0=>
 sh (IntKind.u64.wrap (z0.tdiv z1)) fun z5=>
 sh (IntKind.u64.wrap (z5.tdiv z1)) fun z3=>
 sh (0:Int) fun z7=>
 some {val:=SV.agg [SV.int true IntKind.u8 z7,SV.int true IntKind.u8 z7,SV.int true IntKind.u8 z7,SV.int true IntKind.u8 z7,SV.int false IntKind.u8 (IntKind.u8.wrap (N.tmod z1)),SV.int false IntKind.u8 (IntKind.u8.wrap (z6.tmod z1)),SV.int false IntKind.u8 (IntKind.u8.wrap (z2.tmod z1)),SV.int false IntKind.u8 (IntKind.u8.wrap (z4.tmod z1)),SV.int false IntKind.u8 (IntKind.u8.wrap (z0.tmod z1)),SV.int false IntKind.u8 (IntKind.u8.wrap (z5.tmod z1)),SV.int false IntKind.u8 (IntKind.u8.wrap (z3.tmod z1)),SV.int false IntKind.u8 (IntKind.u8.wrap ((IntKind.u64.wrap (z3.tdiv z1)).tmod z1))]}:=by kernel_rfl
namespace M
def tR (N:Int):Prop:=0<=N/\N<18446744073709551616
theorem lP (N:Int) (h:tR N) (x:Int) (j:Nat) (hx:x=N/256^j) (hj:j<8):IntKind.u8.wrap (x.tmod 256)=IntKind.u8.wrap (cE .u64 N ((8*j:Nat):Int))/\IntKind.u64.wrap (x.tdiv 256)=N/256^(j+1):=by
 obtain ⟨h0,h1⟩:=h
 have hP:(0:Int)<256^j:=Int.pow_pos (by decide)
 have gE:0<=x:=by rw [hx];exact Int.ediv_nonneg h0 (by omega)
 have gL:x<=N:=by rw [hx];exact Int.ediv_le_self _ h0
 have e1:cE .u64 N ((8*j:Nat):Int)=x:=by
  unfold cE
  have hb:IntKind.u64.bits=64:=rfl
  rw [hb,Int.toNat_natCast,Nat.min_eq_left (by omega),Int.fdiv_eq_ediv_of_nonneg _ (by exact Int.le_of_lt (Int.pow_pos (by decide))),hx,Int.pow_mul]
  rfl
 refine ⟨?_,?_⟩
 .rw [e1,IntKind.wrap_u8,IntKind.wrap_u8,Int.tmod_eq_emod_of_nonneg gE];omega
 .rw [Int.tdiv_eq_ediv_of_nonneg gE,IntWalk.u64_in _ ⟨by omega,by omega⟩,Int.pow_succ,hx,Int.ediv_ediv_of_nonneg (by omega)]
end M
theorem RC {N:Int} (h:M.tR N):aD Tryz.prog (env fF 22) 80 [.int false .u64 N] Dz 100 100 { val:=.ai .u8 (M.nonce N) }:=by
 have hs:aH Tryz.prog (env fF 22) 80 (aR (env fF 22) Tryz.f80 true [] 400):=aY (bH fF 22) (bJ fF kC 22) mix Tryz.func80 (by kernel_rfl) true [] 400
 obtain ⟨a0,b0⟩:=M.lP N h N 0 (by simp) (by omega)
 obtain ⟨a1,b1⟩:=M.lP N h _ 1 b0 (by omega)
 obtain ⟨a2,b2⟩:=M.lP N h _ 2 b1 (by omega)
 obtain ⟨a3,b3⟩:=M.lP N h _ 3 b2 (by omega)
 obtain ⟨a4,b4⟩:=M.lP N h _ 4 b3 (by omega)
 obtain ⟨a5,b5⟩:=M.lP N h _ 5 b4 (by omega)
 obtain ⟨a6,b6⟩:=M.lP N h _ 6 b5 (by omega)
 obtain ⟨a7,_⟩:=M.lP N h _ 7 b6 (by omega)
 have key:=aTk N;try simp only [sh] at key
 rw [a0,a1,a2,a3,a4,a5,a6,a7] at key
 exact (hs.call key (by simp)).words rfl (fun _=>rfl) (fun _ _ h=>h) (fun _=>rfl) rfl rfl
def CJ (vs:List SV) (_:bA):Option Canon:=match vs with
 | [.int _ .u64 N]=>some { eR:=[.int false .u64 N],T0:=[],vl:=[],e0:={ val:=.ai .u8 (M.nonce N) },conds:=[M.tR N] }
 | _=>none
theorem aNa (Γ:Env) (hg:Γ.aU=aB):aH Tryz.prog Γ 80 (aK aB 100 CJ):=by
 refine aT hg fun vs T c hd hc=>?_
 unfold CJ at hd
 split at hd
 case h_2=>cases hd
 cases hd
 exact (RC (hc _ (by simp))).words (by rw [hg];rfl) (fun _=>rfl) (fun _ _ h=>h) (fun _=>rfl) rfl rfl
noncomputable def aCs:Nat->Option Sum:=eE (eE (eE fF 79 rxS) 80 (aK aB 100 CJ)) 116 (aK aB 100 CL)
theorem Uq:∀ f S,aCs f=some S->∀ Γ:Env,Γ.aU=aB->aH Tryz.prog Γ f S:=bI (bI (bI kC 79 _ aOe) 80 _ aNa) 116 _ aNl
noncomputable def ΓW:Env:=env aCs 22
theorem Hm:cG Tryz.prog ΓW:=bH _ 22
theorem Hn:bX Tryz.prog ΓW:=bJ _ Uq 22
noncomputable def roM (st:List Nat) (cf:Cf) (K:List Fr) (s:St):Option jA:=cA ΓW (aC 100 Dz) 100 Tryz.f82.ntmps st 100 2000 cf K s
noncomputable def roR:Option jA:=roM [4] (.go (codeOf Tryz.f82)) [] (gU [.ai .u8 [],.int false .u64 0] 100)
noncomputable def roL:Code:=lF roR
noncomputable def roK:List Fr:=rG roR
def aLd:List (Nat × SV):=[(4,.ptr 100 true 0),(5,.ptr 101 true 0),(6,.buf 102),(7,.int true .i64 0)]
def aLc (out:List Int):List (Nat × SB):=[(100,.own (List.replicate 32 (.int true .u8 0)) 38),(101,.own (List.replicate 32 (.int true .u8 0)) 38),(102,.cD .u8 out 5)]
theorem aVj (key out:List Int) (N:Int) :
 (cL 100 Tryz.f82.ntmps (aC 100 Dz) [] aLd (aLc out) 103 [] [] (roM [4] (.go (codeOf Tryz.f82)) [] ((gU [.ai .u8 key,.int false .u64 N] 100).hint []))) =
 sh (0:Int) fun z1=>
 sh (List.drop (0:Nat) [z1,z1,z1,z1,z1,z1,z1,z1,z1,z1,z1,z1,z1,z1,z1,z1,z1,z1,z1,z1,z1,z1,z1,z1,z1,z1,z1,z1,z1,z1,z1,z1]) fun z0=>
 sh (32:Nat) fun z2=>
 some (.go (.loop roL),roK,[key.length=z2,(M.nonce N).length=(12:Nat),z2<=(1073741824:Nat),W z1,z2<=z2/\z2<=z2,key=key,z1=z1,M.nonce N=M.nonce N,z2<=z2/\z2<=z2,z2=z2,List.take z2 z0=List.take z2 z0,z2<=z2/\z2<=z2,M.tR N,N=N,key.length=z2,R.xor key (M.nonce N) z1 z2 (List.take z2 z0)=out]):=by kernel_rfl
theorem aVi (out:List Int) :
 fA ΓW Dz 100 100 Tryz.f82 [] (roM [] (.go (.loop roL)) roK ((OP 100 Tryz.f82.ntmps (aC 100 Dz) 6 (aN aLd (aLc out) 103 [] [])).hint [])) =
 sh (↑out.length:Int) fun z0=>
 sh (0:Int) fun z1=>
 some {bV:=[(31:Nat)<out.length,z1<=(31:Int)/\(31:Int)<z0,(30:Nat)<out.length,z1<=(30:Int)/\(30:Int)<z0,(29:Nat)<out.length,z1<=(29:Int)/\(29:Int)<z0,(28:Nat)<out.length,z1<=(28:Int)/\(28:Int)<z0,(27:Nat)<out.length,z1<=(27:Int)/\(27:Int)<z0,(26:Nat)<out.length,z1<=(26:Int)/\(26:Int)<z0,(25:Nat)<out.length,z1<=(25:Int)/\(25:Int)<z0,(24:Nat)<out.length,z1<=(24:Int)/\(24:Int)<z0,(23:Nat)<out.length,z1<=(23:Int)/\(23:Int)<z0,(22:Nat)<out.length,z1<=(22:Int)/\(22:Int)<z0,(21:Nat)<out.length,z1<=(21:Int)/\(21:Int)<z0,(20:Nat)<out.length,z1<=(20:Int)/\(20:Int)<z0,(19:Nat)<out.length,z1<=(19:Int)/\(19:Int)<z0,(18:Nat)<out.length,z1<=(18:Int)/\(18:Int)<z0,(17:Nat)<out.length,z1<=(17:Int)/\(17:Int)<z0,(16:Nat)<out.length,z1<=(16:Int)/\(16:Int)<z0,(15:Nat)<out.length,z1<=(15:Int)/\(15:Int)<z0,(14:Nat)<out.length,z1<=(14:Int)/\(14:Int)<z0,(13:Nat)<out.length,z1<=(13:Int)/\(13:Int)<z0,(12:Nat)<out.length,z1<=(12:Int)/\(12:Int)<z0,(11:Nat)<out.length,z1<=(11:Int)/\(11:Int)<z0,(10:Nat)<out.length,z1<=(10:Int)/\(10:Int)<z0,(9:Nat)<out.length,z1<=(9:Int)/\(9:Int)<z0,(8:Nat)<out.length,z1<=(8:Int)/\(8:Int)<z0,(7:Nat)<out.length,z1<=(7:Int)/\(7:Int)<z0,(6:Nat)<out.length,z1<=(6:Int)/\(6:Int)<z0,(5:Nat)<out.length,z1<=(5:Int)/\(5:Int)<z0,(4:Nat)<out.length,z1<=(4:Int)/\(4:Int)<z0,(3:Nat)<out.length,z1<=(3:Int)/\(3:Int)<z0,(2:Nat)<out.length,z1<=(2:Int)/\(2:Int)<z0,(1:Nat)<out.length,z1<=(1:Int)/\(1:Int)<z0,(0:Nat)<out.length,z1<=z1/\z1<z0],val:=SV.agg [SV.int false IntKind.u8 (out.getD (0:Nat) z1),SV.int false IntKind.u8 (out.getD (1:Nat) z1),SV.int false IntKind.u8 (out.getD (2:Nat) z1),SV.int false IntKind.u8 (out.getD (3:Nat) z1),SV.int false IntKind.u8 (out.getD (4:Nat) z1),SV.int false IntKind.u8 (out.getD (5:Nat) z1),SV.int false IntKind.u8 (out.getD (6:Nat) z1),SV.int false IntKind.u8 (out.getD (7:Nat) z1),SV.int false IntKind.u8 (out.getD (8:Nat) z1),SV.int false IntKind.u8 (out.getD (9:Nat) z1),SV.int false IntKind.u8 (out.getD (10:Nat) z1),SV.int false IntKind.u8 (out.getD (11:Nat) z1),SV.int false IntKind.u8 (out.getD (12:Nat) z1),SV.int false IntKind.u8 (out.getD (13:Nat) z1),SV.int false IntKind.u8 (out.getD (14:Nat) z1),SV.int false IntKind.u8 (out.getD (15:Nat) z1),SV.int false IntKind.u8 (out.getD (16:Nat) z1),SV.int false IntKind.u8 (out.getD (17:Nat) z1),SV.int false IntKind.u8 (out.getD (18:Nat) z1),SV.int false IntKind.u8 (out.getD (19:Nat) z1),SV.int false IntKind.u8 (out.getD (20:Nat) z1),SV.int false IntKind.u8 (out.getD (21:Nat) z1),SV.int false IntKind.u8 (out.getD (22:Nat) z1),SV.int false IntKind.u8 (out.getD (23:Nat) z1),SV.int false IntKind.u8 (out.getD (24:Nat) z1),SV.int false IntKind.u8 (out.getD (25:Nat) z1),SV.int false IntKind.u8 (out.getD (26:Nat) z1),SV.int false IntKind.u8 (out.getD (27:Nat) z1),SV.int false IntKind.u8 (out.getD (28:Nat) z1),SV.int false IntKind.u8 (out.getD (29:Nat) z1),SV.int false IntKind.u8 (out.getD (30:Nat) z1),SV.int false IntKind.u8 (out.getD (31:Nat) z1)]}:=by kernel_rfl
def PY (key:List Int) (la ls:Nat):List SV:=[.ai .u8 key,.dX 61 la,.dX 62 ls]
def sH (ad sl:List Int):bA:=fun l=>look l [(61,.dK .u8 ad),(62,.dK .u8 sl)]
noncomputable def Jy (ad sl:List Int) (cf:Cf) (K:List Fr) (s:St):Option jA:=cA ΓW (aC 100 (sH ad sl)) 100 Tryz.f81.ntmps [4,9,14,20] 100 400 cf K s
def aUh (la ls:Nat):List (Nat × SV):=[(1,.dX 61 la),(2,.dX 62 ls),(3,.ptr 100 true 0),(6,.ptr 101 true 0),(7,.buf 102)]
def nV (j:Nat) (la ls:Nat) (i:Int):List (Nat × SV):=(j,.int false .i64 i)::aUh la ls
def Aj (m j:Nat) (la ls:Nat) (x i:Int):List (Nat × SV):=(m,.int false .i64 x)::nV j la ls i
def iT (key out:List Int):List (Nat × SB):=[(100,.ints .u8 key 38),(101,.own (List.replicate 16 (.int true .u8 0)) 105),(102,.cD .u8 out 5)]
noncomputable def Vx:Option jA:=Jy [] [] (.go (codeOf Tryz.f81)) [] (gU (PY [] 0 0) 100)
noncomputable def Vv:Option jA:=Jy [] [] (.at (.exit 0)) (rG Vx) (aN (nV 8 0 0 0) (iT [] []) 103 [] [])
noncomputable def Vu:Option jA:=Jy [] [] (.at (.exit 2)) (rG Vv) (aN (nV 9 0 0 0) (iT [] []) 103 [] [])
noncomputable def AY:Option jA:=Jy [] [] (.at (.exit 4)) (rG Vu) (aN (Aj 10 11 0 0 0 0) (iT [] []) 103 [] [])
theorem aUg (key ad sl out:List Int) (la ls:Nat) (i:Int) :
 (cL 100 Tryz.f81.ntmps (aC 100 (sH ad sl)) [] (nV 8 la ls i) (iT key out) 103 [] [] (Jy ad sl (.go (codeOf Tryz.f81)) [] ((gU (PY key la ls) 100).hint []))) =
 some (.go (.loop (lF Vx)),rG Vx,[((0:Nat)+ad.length)*(1:Nat)<=(140737488355328:Nat),(0:Int)=i,la=la,ls=ls,key=key/\(38:Nat)=(38:TypeId),[]++ad=out]):=by kernel_rfl
theorem aUf (key ad sl out jB:List Int) (la ls:Nat) (i i':Int) :
 cL 100 Tryz.f81.ntmps (aC 100 (sH ad sl)) [] (nV 8 la ls i') (iT key jB) 103 [] [] (Jy ad sl (.go (lF Vx)) [] ((aN (nV 8 la ls i) (iT key out) 103 [] []).hint [true])) =
 some (Cf.at Ex.normal,[],[(out.length+(1:Nat))*(1:Nat)<=(140737488355328:Nat),decide (i<(IntKind.i64.wrap ((16:Int)-(↑la:Int).tmod (16:Int))).tmod (16:Int))=true,IntKind.i64.wrap (i+(1:Int))=i',la=la,ls=ls,key=key/\(38:TypeId)=(38:TypeId),out++[(0:Int)]=jB]):=by kernel_rfl
theorem aUe (key ad sl out:List Int) (la ls:Nat) (i:Int) :
 cL 100 Tryz.f81.ntmps (aC 100 (sH ad sl)) [] (nV 8 la ls i) (iT key out) 103 [] [] (Jy ad sl (.go (lF Vx)) [] ((aN (nV 8 la ls i) (iT key out) 103 [] []).hint [false])) =
 some (Cf.at (Ex.exit 0),[],[decide (i<(IntKind.i64.wrap ((16:Int)-(↑la:Int).tmod (16:Int))).tmod (16:Int))=false,i=i,la=la,ls=ls,key=key/\(38:TypeId)=(38:TypeId),out=out]):=by kernel_rfl
theorem aUd (key ad sl out jB:List Int) (la ls:Nat) (i i':Int) :
 (cL 100 Tryz.f81.ntmps (aC 100 (sH ad sl)) [] (nV 9 la ls i') (iT key jB) 103 [] [] (Jy ad sl (.at (.exit 0)) (rG Vx) ((aN (nV 8 la ls i) (iT key out) 103 [] []).hint []))) =
 some (.go (.loop (lF Vv)),rG Vv,[(out.length+sl.length)*(1:Nat)<=(140737488355328:Nat),(0:Int)=i',la=la,ls=ls,key=key/\(38:TypeId)=(38:TypeId),out++sl=jB]):=by kernel_rfl
theorem aUc (key ad sl out jB:List Int) (la ls:Nat) (i i':Int) :
 cL 100 Tryz.f81.ntmps (aC 100 (sH ad sl)) [] (nV 9 la ls i') (iT key jB) 103 [] [] (Jy ad sl (.go (lF Vv)) [] ((aN (nV 9 la ls i) (iT key out) 103 [] []).hint [true])) =
 some (Cf.at Ex.normal,[],[(out.length+(1:Nat))*(1:Nat)<=(140737488355328:Nat),decide (i<(IntKind.i64.wrap ((16:Int)-(↑ls:Int).tmod (16:Int))).tmod (16:Int))=true,IntKind.i64.wrap (i+(1:Int))=i',la=la,ls=ls,key=key/\(38:TypeId)=(38:TypeId),out++[(0:Int)]=jB]):=by kernel_rfl
theorem aUb (key ad sl out:List Int) (la ls:Nat) (i:Int) :
 cL 100 Tryz.f81.ntmps (aC 100 (sH ad sl)) [] (nV 9 la ls i) (iT key out) 103 [] [] (Jy ad sl (.go (lF Vv)) [] ((aN (nV 9 la ls i) (iT key out) 103 [] []).hint [false])) =
 some (Cf.at (Ex.exit 2),[],[decide (i<(IntKind.i64.wrap ((16:Int)-(↑ls:Int).tmod (16:Int))).tmod (16:Int))=false,i=i,la=la,ls=ls,key=key/\(38:TypeId)=(38:TypeId),out=out]):=by kernel_rfl
theorem aUa (key ad sl out:List Int) (la ls:Nat) (i i' x:Int) :
 (cL 100 Tryz.f81.ntmps (aC 100 (sH ad sl)) [] (Aj 10 11 la ls x i') (iT key out) 103 [] [] (Jy ad sl (.at (.exit 2)) (rG Vv) ((aN (nV 9 la ls i) (iT key out) 103 [] []).hint []))) =
 some (.go (.loop (lF Vu)),rG Vu,[(↑la:Int)=x,(0:Int)=i',la=la,ls=ls,key=key/\(38:TypeId)=(38:TypeId),out=out]):=by kernel_rfl
theorem aTz (key ad sl out jB:List Int) (la ls:Nat) (i i' x x':Int) :
 cL 100 Tryz.f81.ntmps (aC 100 (sH ad sl)) [] (Aj 10 11 la ls x' i') (iT key jB) 103 [] [] (Jy ad sl (.go (lF Vu)) [] ((aN (Aj 10 11 la ls x i) (iT key out) 103 [] []).hint [true])) =
 some (Cf.at Ex.normal,[],[(out.length+[IntKind.u8.wrap (x.tmod (256:Int))].length)*(1:Nat)<=(140737488355328:Nat),decide (i<(8:Int))=true,IntKind.i64.wrap (x.tdiv (256:Int))=x',IntKind.i64.wrap (i+(1:Int))=i',la=la,ls=ls,key=key/\(38:TypeId)=(38:TypeId),out++[IntKind.u8.wrap (x.tmod (256:Int))]=jB]):=by kernel_rfl
theorem aTy (key ad sl out:List Int) (la ls:Nat) (i x:Int) :
 cL 100 Tryz.f81.ntmps (aC 100 (sH ad sl)) [] (nV 11 la ls i) (iT key out) 103 [] [] (Jy ad sl (.go (lF Vu)) [] ((aN (Aj 10 11 la ls x i) (iT key out) 103 [] []).hint [false])) =
 some (Cf.at (Ex.exit 4),[],[decide (i<(8:Int))=false,i=i,la=la,ls=ls,key=key/\(38:TypeId)=(38:TypeId),out=out]):=by kernel_rfl
theorem aTx (key ad sl out:List Int) (la ls:Nat) (i i' x:Int) :
 (cL 100 Tryz.f81.ntmps (aC 100 (sH ad sl)) [] (Aj 12 13 la ls x i') (iT key out) 103 [] [] (Jy ad sl (.at (.exit 4)) (rG Vu) ((aN (nV 11 la ls i) (iT key out) 103 [] []).hint []))) =
 some (.go (.loop (lF AY)),rG AY,[(↑ls:Int)=x,(0:Int)=i',la=la,ls=ls,key=key/\(38:TypeId)=(38:TypeId),out=out]):=by kernel_rfl
theorem aTw (key ad sl out jB:List Int) (la ls:Nat) (i i' x x':Int) :
 cL 100 Tryz.f81.ntmps (aC 100 (sH ad sl)) [] (Aj 12 13 la ls x' i') (iT key jB) 103 [] [] (Jy ad sl (.go (lF AY)) [] ((aN (Aj 12 13 la ls x i) (iT key out) 103 [] []).hint [true])) =
 some (Cf.at Ex.normal,[],[(out.length+[IntKind.u8.wrap (x.tmod (256:Int))].length)*(1:Nat)<=(140737488355328:Nat),decide (i<(8:Int))=true,IntKind.i64.wrap (x.tdiv (256:Int))=x',IntKind.i64.wrap (i+(1:Int))=i',la=la,ls=ls,key=key/\(38:TypeId)=(38:TypeId),out++[IntKind.u8.wrap (x.tmod (256:Int))]=jB]):=by kernel_rfl
theorem aTv (key ad sl out:List Int) (la ls:Nat) (i x:Int) :
 cL 100 Tryz.f81.ntmps (aC 100 (sH ad sl)) [] (nV 13 la ls i) (iT key out) 103 [] [] (Jy ad sl (.go (lF AY)) [] ((aN (Aj 12 13 la ls x i) (iT key out) 103 [] []).hint [false])) =
 some (Cf.at (Ex.exit 6),[],[decide (i<(8:Int))=false,i=i,la=la,ls=ls,key=key/\(38:TypeId)=(38:TypeId),out=out]):=by kernel_rfl
theorem aTu (key ad sl out:List Int) (la ls:Nat) (i:Int) :
 fA ΓW (sH ad sl) 100 100 Tryz.f81 [] (Jy ad sl (.at (.exit 6)) (rG AY) ((aN (nV 13 la ls i) (iT key out) 103 [] []).hint [])) =
 sh (M.tag key out) fun z0=>
 some {bV:=[z0.length=(16:Nat),z0.length=(16:Nat),key.length=(32:Nat),bG key,bG out,out.length<=(1073741824:Nat),key=key,out.length=out.length,out=out,key.length=(32:Nat)],val:=SV.ai IntKind.u8 z0}:=by kernel_rfl
theorem aKi (x:Int):W (IntKind.u32.wrap x):=by
 unfold W
 rw [IntKind.wrap_u32]
 exact ⟨Int.emod_nonneg _ (by decide),Int.emod_lt_of_pos _ (by decide)⟩
namespace M
theorem xL (N:Int):bG (nonce N):=by
 intro x hx
 simp only [nonce,List.mem_cons,List.not_mem_nil,or_false] at hx
 rcases hx with rfl | rfl | rfl | rfl | rfl | rfl | rfl | rfl | rfl | rfl | rfl | rfl
 all_goals first | exact ⟨by decide,by decide⟩ | exact zT _
theorem xor_eq {key nonce:List Int} (c:Int) (hk:bG key) (hn:bG nonce) (xs:List Int):R.xor key nonce c xs.length xs=cP key nonce c 0 xs.length xs:=by
 unfold R.xor cP
 refine List.map_congr_left fun m hm=>?_
 have hm:m<xs.length:=by simpa using hm
 rw [if_pos ⟨Nat.zero_le _,by omega⟩,Nat.sub_zero]
 unfold R.at Wf
 rw [MZ hk hn (aKi _)]
theorem HK {la:Nat} (cX:la<=1073741824) (k:Nat) (hk:k<8):IntKind.u8.wrap (((la:Int)/256^k).tmod 256)=le (IntKind.u64.wrap la) k/\IntKind.i64.wrap (((la:Int)/256^k).tdiv 256)=(la:Int)/256^(k+1):=by
 have hw:IntKind.u64.wrap (la:Int)=la:=IntWalk.u64_in _ ⟨by omega,by omega⟩
 have hP:(0:Int)<256^k:=Int.pow_pos (by decide)
 have h0:0<=(la:Int)/256^k:=Int.ediv_nonneg (by omega) (by omega)
 have h1:(la:Int)/256^k<=la:=Int.ediv_le_self _ (by omega)
 refine ⟨?_,?_⟩
 .rw [hw];exact (lP (la:Int) ⟨by omega,by omega⟩ _ k rfl hk).1
 .rw [Int.tdiv_eq_ediv_of_nonneg h0,IntWalk.i64_in _ ⟨by omega,by omega⟩,Int.pow_succ,Int.ediv_ediv_of_nonneg (by omega)]
theorem Ms (a n:Int):Fb a n=(List.range 8).map (le (IntKind.u64.wrap a))++(List.range 8).map (le (IntKind.u64.wrap n)):=rfl
end M
theorem TV {key:List Int} {N:Int} (hk:key.length=32) (hb:bG key) (hN:M.tR N):aD Tryz.prog ΓW 82 [.ai .u8 key,.int false .u64 N] Dz 100 100 { val:=.ai .u8 (M.once key N) }:=by
 have ZE:=M.dW key N
 have hx:M.once key N=R.xor key (M.nonce N) 0 32 (List.replicate 32 0):=(M.xor_eq 0 hb (M.xL N) (List.replicate 32 0)).symm
 have main:aD Tryz.prog ΓW 82 [.ai .u8 key,.int false .u64 N] Dz 100 100 { val:=.agg (cQ .u8 32 (M.once key N)) }:=by
  refine bU Hm Hn Tryz.func82 (by kernel_rfl) rfl (Nat.le_of_ble_eq_true (by kernel_rfl)) rfl [] ?_
  intro w0 Mx V0 Q bQ H
  have aM:=Hm
  have aE:=Hn
  refine G.cL aM aE mix bQ [] (aVj key (M.once key N) N) (aA ?_) (G.ro 6 ?_)
  .rw [hx]
   obtain ⟨hN0,hN1⟩:=hN
   simp only [aO]
   repeat' apply And.intro
   all_goals first | rfl | assumption | omega | trivial
  refine G.eX (cl:=[]) aM aE mix [] H (aVi (M.once key N)) (aA ?_) rfl rfl rfl
  rw [ZE]
  simp only [aO]
  repeat' apply And.intro
  all_goals first | omega | trivial
 exact main.words rfl (fun _=>rfl) (fun _ _ h=>h) (fun V=>cF V ZE) rfl rfl
def DA (vs:List SV) (_:bA):Option Canon:=match vs with
 | [ks,.int _ .u64 N]=>match cY ks with
   | some (.u8,k)=>some { eR:=[.ai .u8 k,.int false .u64 N],T0:=[],vl:=[],e0:={ val:=.ai .u8 (M.once k N) },conds:=[k.length=32,bG k,M.tR N] }
   | _=>none
 | _=>none
theorem aOg (Γ:Env) (hg:Γ.aU=aB):aH Tryz.prog Γ 82 (aK aB 100 DA):=by
 refine aT hg fun vs T c hd hc=>?_
 unfold DA at hd
 split at hd
 case h_2=>cases hd
 split at hd
 case h_2=>cases hd
 cases hd
 exact (TV (hc _ (by simp)) (hc _ (by simp)) (hc _ (by simp))).words (by rw [hg];rfl) (fun _=>rfl) (fun _ _ h=>h) (fun _=>rfl) rfl rfl
theorem RM {key ad sl:List Int} (hk:key.length=32) (hb:bG key) (ha:bG ad) (hs:bG sl) (cX:ad.length<=500000000) (AN:sl.length<=500000000) :
 aD Tryz.prog ΓW 81 (PY key ad.length sl.length) (sH ad sl) 100 100 { val:=.ai .u8 (M.tag key (M.Af ad ad.length sl sl.length)) }:=by
 refine bU Hm Hn Tryz.func81 (by kernel_rfl) rfl (Nat.le_of_ble_eq_true (by kernel_rfl)) rfl [] ?_
 intro w0 Mx V0 Q bQ H
 have aM:=Hm
 have aE:=Hn
 obtain ⟨_,p0,p1⟩:=M.rM (ad.length:Int) ⟨by omega,by omega⟩
 obtain ⟨_,q0,q1⟩:=M.rM (sl.length:Int) ⟨by omega,by omega⟩
 have pe:(IntKind.i64.wrap ((16:Int)-(ad.length:Int).tmod (16:Int))).tmod (16:Int)=(M.bS (ad.length:Int):Int):=by
  show M.qH (ad.length:Int)=((M.qH (ad.length:Int)).toNat:Int)
  omega
 have qe:(IntKind.i64.wrap ((16:Int)-(sl.length:Int).tmod (16:Int))).tmod (16:Int)=(M.bS (sl.length:Int):Int):=by
  show M.qH (sl.length:Int)=((M.qH (sl.length:Int)).toNat:Int)
  omega
 have pl:M.bS (ad.length:Int)<16:=by unfold M.bS;omega
 have ql:M.bS (sl.length:Int)<16:=by unfold M.bS;omega
 have hf:=M.Hz (la:=ad.length) (n:=sl.length) ha hs rfl rfl cX AN
 rw [M.Px,M.Ms] at hf
 rw [M.Px,M.Ms] at H
 generalize M.bS (ad.length:Int)=np at *
 generalize M.bS (sl.length:Int)=nq at *
 have sn:∀ (k:Nat),List.replicate (k+1) (0:Int)=List.replicate k 0++[0]:=fun k=>List.replicate_succ'
 refine G.cL aM aE mix bQ [] (aUg key ad sl ad _ _ 0) (aA ?_) ?_
 .simp only [aO,List.nil_append]
  exact ⟨by omega,trivial,trivial,trivial,⟨trivial,trivial⟩,trivial,trivial⟩
 refine G.loop (fun r s=>∃ k:Nat,k<=np/\r=np-k/\s=aN (nV 8 ad.length sl.length (k:Int)) (iT key (ad++List.replicate k 0)) 103 [] []) (r0:=np) ⟨0,by omega,rfl,by rw [List.replicate_zero,List.append_nil];rfl⟩ ?_
 rintro r s ⟨k,hk1,rfl,rfl⟩
 by_cases h:k<np
 .refine G.jV aM aE mix bQ [true] (aUf key ad sl _ (ad++List.replicate (k+1) 0) _ _ _ ((k+1:Nat):Int)) (aA ?_) (np-(k+1)) (by omega) ⟨k+1,by omega,rfl,rfl⟩
  simp only [aO,pe,List.length_append,List.length_replicate]
  exact ⟨by omega,decide_eq_true (by omega),bD (by omega) (by omega),trivial,trivial,⟨trivial,trivial⟩,by rw [sn,List.append_assoc],trivial⟩
 have e1:k=np:=by omega
 subst e1
 refine G.cL aM aE mix bQ [false] (aUe key ad sl _ _ _ _) (aA ?_) (G.leave (by simp) ?_)
 .simp only [aO,pe]
  exact ⟨decide_eq_false (by omega),trivial,trivial,trivial,⟨trivial,trivial⟩,trivial,trivial⟩
 refine G.cL aM aE mix bQ [] (aUd key ad sl _ (ad++(List.replicate k 0++sl)) _ _ _ 0) (aA ?_) ?_
 .simp only [aO,List.length_append,List.length_replicate]
  exact ⟨by omega,trivial,trivial,trivial,⟨trivial,trivial⟩,by rw [List.append_assoc],trivial⟩
 refine G.loop (fun r s=>∃ m:Nat,m<=nq/\r=nq-m/\s=aN (nV 9 ad.length sl.length (m:Int)) (iT key (ad++(List.replicate k 0++(sl++List.replicate m 0)))) 103 [] []) (r0:=nq) ⟨0,by omega,rfl,by rw [List.replicate_zero,List.append_nil];rfl⟩ ?_
 rintro r s ⟨m,hm1,rfl,rfl⟩
 by_cases h2:m<nq
 .refine G.jV aM aE mix bQ [true] (aUc key ad sl _ (ad++(List.replicate k 0++(sl++List.replicate (m+1) 0))) _ _ _ ((m+1:Nat):Int)) (aA ?_) (nq-(m+1)) (by omega) ⟨m+1,by omega,rfl,rfl⟩
  simp only [aO,qe,List.length_append,List.length_replicate]
  exact ⟨by omega,decide_eq_true (by omega),bD (by omega) (by omega),trivial,trivial,⟨trivial,trivial⟩,by rw [sn];simp only [List.append_assoc],trivial⟩
 have e2:m=nq:=by omega
 subst e2
 refine G.cL aM aE mix bQ [false] (aUb key ad sl _ _ _ _) (aA ?_) (G.leave (by simp) ?_)
 .simp only [aO,qe]
  exact ⟨decide_eq_false (by omega),trivial,trivial,trivial,⟨trivial,trivial⟩,trivial,trivial⟩
 have Gs:(ad++(List.replicate k 0++(sl++List.replicate m 0))).length<=1000000100:=by simp only [List.length_append,List.length_replicate];omega
 have hfe:ad++(List.replicate k 0++(sl++(List.replicate m 0++((List.range 8).map (M.le (IntKind.u64.wrap (ad.length:Int)))++(List.range 8).map (M.le (IntKind.u64.wrap (sl.length:Int)))))))=(ad++(List.replicate k 0++(sl++List.replicate m 0)))++((List.range 8).map (M.le (IntKind.u64.wrap (ad.length:Int)))++(List.range 8).map (M.le (IntKind.u64.wrap (sl.length:Int)))):=by simp only [List.append_assoc]
 rw [hfe] at hf H
 generalize ad++(List.replicate k 0++(sl++List.replicate m 0))=base at *
 have rs:∀ (N:Int) (j:Nat),(List.range (j+1)).map (M.le N)=(List.range j).map (M.le N)++[M.le N j]:=fun N j=>by rw [List.range_succ,List.map_append];rfl
 refine G.cL aM aE mix bQ [] (aUa key ad sl _ _ _ _ 0 ((ad.length:Int)/256^0)) (aA ?_) ?_
 .simp only [aO]
  exact ⟨by omega,trivial,trivial,trivial,⟨trivial,trivial⟩,trivial,trivial⟩
 refine G.loop (fun r s=>∃ j:Nat,j<=8/\r=8-j/\s=aN (Aj 10 11 ad.length sl.length ((ad.length:Int)/256^j) (j:Int)) (iT key (base++(List.range j).map (M.le (IntKind.u64.wrap (ad.length:Int))))) 103 [] []) (r0:=8) ⟨0,by omega,rfl,by simp only [List.range_zero,List.map_nil,List.append_nil];rfl⟩ ?_
 rintro r s ⟨j,hj1,rfl,rfl⟩
 by_cases h3:j<8
 .obtain ⟨b1,b2⟩:=M.HK (la:=ad.length) (by omega) j h3
  refine G.jV aM aE mix bQ [true] (aTz key ad sl _ (base++(List.range (j+1)).map (M.le (IntKind.u64.wrap (ad.length:Int)))) _ _ _ ((j+1:Nat):Int) _ ((ad.length:Int)/256^(j+1))) (aA ?_) (8-(j+1)) (by omega) ⟨j+1,by omega,rfl,rfl⟩
  simp only [aO,b1,b2,List.length_append,List.length_map,List.length_range,List.length_singleton]
  exact ⟨by omega,decide_eq_true (by omega),trivial,bD (by omega) (by omega),trivial,trivial,⟨trivial,trivial⟩,by rw [rs,List.append_assoc],trivial⟩
 have e3:j=8:=by omega
 subst e3
 refine G.cL aM aE mix bQ [false] (aTy key ad sl _ _ _ _ _) (aA ?_) (G.leave (by simp) ?_)
 .simp only [aO]
  exact ⟨decide_eq_false (by omega),trivial,trivial,trivial,⟨trivial,trivial⟩,trivial,trivial⟩
 have bCl:(base++(List.range 8).map (M.le (IntKind.u64.wrap (ad.length:Int)))).length<=1000000108:=by simp only [List.length_append,List.length_map,List.length_range];omega
 rw [<- List.append_assoc] at hf H
 generalize base++(List.range 8).map (M.le (IntKind.u64.wrap (ad.length:Int)))=aDh at *
 refine G.cL aM aE mix bQ [] (aTx key ad sl _ _ _ _ 0 ((sl.length:Int)/256^0)) (aA ?_) ?_
 .simp only [aO]
  exact ⟨by omega,trivial,trivial,trivial,⟨trivial,trivial⟩,trivial,trivial⟩
 refine G.loop (fun r s=>∃ j:Nat,j<=8/\r=8-j/\s=aN (Aj 12 13 ad.length sl.length ((sl.length:Int)/256^j) (j:Int)) (iT key (aDh++(List.range j).map (M.le (IntKind.u64.wrap (sl.length:Int))))) 103 [] []) (r0:=8) ⟨0,by omega,rfl,by simp only [List.range_zero,List.map_nil,List.append_nil];rfl⟩ ?_
 rintro r s ⟨j,hj1,rfl,rfl⟩
 by_cases h3:j<8
 .obtain ⟨b1,b2⟩:=M.HK (la:=sl.length) (by omega) j h3
  refine G.jV aM aE mix bQ [true] (aTw key ad sl _ (aDh++(List.range (j+1)).map (M.le (IntKind.u64.wrap (sl.length:Int)))) _ _ _ ((j+1:Nat):Int) _ ((sl.length:Int)/256^(j+1))) (aA ?_) (8-(j+1)) (by omega) ⟨j+1,by omega,rfl,rfl⟩
  simp only [aO,b1,b2,List.length_append,List.length_map,List.length_range,List.length_singleton]
  exact ⟨by omega,decide_eq_true (by omega),trivial,bD (by omega) (by omega),trivial,trivial,⟨trivial,trivial⟩,by rw [rs,List.append_assoc],trivial⟩
 have e3:j=8:=by omega
 subst e3
 refine G.cL aM aE mix bQ [false] (aTv key ad sl _ _ _ _ _) (aA ?_) (G.leave (by simp) ?_)
 .simp only [aO]
  exact ⟨decide_eq_false (by omega),trivial,trivial,trivial,⟨trivial,trivial⟩,trivial,trivial⟩
 generalize aDh++(List.range 8).map (M.le (IntKind.u64.wrap (sl.length:Int)))=all at *
 have rF:=M.pL key all
 refine G.eX (cl:=[]) aM aE mix [] H (aTu key ad sl all _ _ _) (aA ?_) rfl rfl rfl
 exact ⟨rF,rF,hk,hb,hf.1,hf.2.1,rfl,rfl,rfl,hk,trivial⟩
def CM (vs:List SV) (T:bA):Option Canon:=match vs with
 | [ks,a,b]=>match cY ks,fG T .u8 a,fG T .u8 b with
   | some (.u8,k),some (oa,ad),some (ob,sl)=>some { eR:=PY k ad.length sl.length,T0:=[(61,.dK .u8 ad),(62,.dK .u8 sl)],vl:=[(61,.arg 1),(62,.arg 2)],e0:={ val:=.ai .u8 (M.tag k (M.Af ad ad.length sl sl.length)) },conds:=[k.length=32,bG k,bG ad,bG sl,ad.length<=500000000,sl.length<=500000000]++(oa++ob) }
   | _,_,_=>none
 | _=>none
theorem aNm (Γ:Env) (hg:Γ.aU=aB):aH Tryz.prog Γ 81 (aK aB 100 CM):=by
 refine aT hg fun vs T c hd hc=>?_
 unfold CM at hd
 split at hd
 case h_2=>cases hd
 split at hd
 case h_2=>cases hd
 cases hd
 exact (RM (hc _ (by simp)) (hc _ (by simp)) (hc _ (by simp)) (hc _ (by simp)) (hc _ (by simp)) (hc _ (by simp))).words (by rw [hg];rfl) (fun _=>rfl) (fun _ _ h=>h) (fun _=>rfl) rfl rfl
noncomputable def aMi:Nat->Option Sum:=eE (eE aCs 82 (aK aB 100 DA)) 81 (aK aB 100 CM)
theorem XH:∀ f S,aMi f=some S->∀ Γ:Env,Γ.aU=aB->aH Tryz.prog Γ f S:=bI (bI Uq 82 _ aOg) 81 _ aNm
noncomputable def Gw:Env:=env aMi 22
theorem zH:cG Tryz.prog Gw:=bH _ 22
theorem zI:bX Tryz.prog Gw:=bJ _ XH 22
def Km (key:List Int) (N:Int) (la lp:Nat):List SV:=[.ai .u8 key,.int false .u64 N,.dX 61 la,.dX 62 lp]
noncomputable def rsM (ad pl:List Int) (st:List Nat) (cf:Cf) (K:List Fr) (s:St):Option jA:=cA Gw (aC 100 (sH ad pl)) 100 Tryz.f53.ntmps st 100 2000 cf K s
def BD (i:Int):List (Nat × SV):=[(9,.buf 100),(10,.ptr 101 true 0),(11,.int false .i64 i)]
def BC (out tg:List Int):List (Nat × SB):=[(100,.cD .u8 out 5),(101,.ints .u8 tg 105)]
noncomputable def rsR:Option jA:=rsM [] [] [4] (.go (codeOf Tryz.f53)) [] (gU (Km [] 0 0 0) 100)
theorem aVh (key ad pl out tg:List Int) (N i:Int) (la lp:Nat) :
 (cL 100 Tryz.f53.ntmps (aC 100 (sH ad pl)) [] (BD i) (BC out tg) 102 [] [] (rsM ad pl [4] (.go (codeOf Tryz.f53)) [] ((gU (Km key N la lp) 100).hint []))) =
 sh (M.nonce N) fun z3=>
 sh (1:Int) fun z1=>
 sh (R.xor key z3 z1 pl.length pl) fun z0=>
 sh (M.once key N) fun z2=>
 sh (M.Af ad ad.length z0 z0.length) fun z4=>
 sh (32:Nat) fun z5=>
 some (.go (.loop (lF rsR)),rG rsR,[(M.tag z2 z4).length=(16:Nat),z2.length=z5,bG z2,bG ad,bG z0,ad.length<=(500000000:Nat),z0.length<=(500000000:Nat),M.once key N=M.once key N,la=la,ad.length=ad.length,z0.length=z0.length,ad=ad,R.xor key z3 z1 pl.length pl=R.xor key z3 z1 pl.length pl,key.length=z5,bG key,M.tR N,key=key,N=N,key.length=z5,key.length=z5,z3.length=(12:Nat),pl.length<=(1073741824:Nat),W z1,key=key,z1=z1,M.nonce N=M.nonce N,lp=lp,pl.length=pl.length,pl=pl,M.tR N,N=N,key.length=z5,(0:Int)=i,R.xor key z3 z1 pl.length pl=out,M.tag z2 z4=tg/\(105:Nat)=(105:TypeId)]):=by kernel_rfl
theorem aVg (ad pl out jB tg:List Int) (i i':Int) :
 cL 100 Tryz.f53.ntmps (aC 100 (sH ad pl)) [] (BD i') (BC jB tg) 102 [] [] (rsM ad pl [4] (.go (lF rsR)) [] ((aN (BD i) (BC out tg) 102 [] []).hint [true])) =
 sh (1:Nat) fun z1=>
 sh ((0:Nat)+i.toNat*z1+0) fun z0=>
 some (Cf.at Ex.normal,[],[(out.length+[tg.getD z0 (0:Int)].length)*z1<=(140737488355328:Nat),(0:Nat)+i.toNat*z1+z1<=tg.length,(0:Int)<=i/\i<(16:Int),decide (i<(16:Int))=true,IntKind.i64.wrap (i+(1:Int))=i',out++[tg.getD z0 (0:Int)]=jB,tg=tg/\(105:TypeId)=(105:TypeId)]):=by kernel_rfl
theorem aVf (ad pl out tg:List Int) (i:Int) :
 cL 100 Tryz.f53.ntmps (aC 100 (sH ad pl)) [] [(9,.buf 100)] [(100,.cD .u8 out 5)] 101 [] [] (rsM ad pl [4] (.go (lF rsR)) [] ((aN (BD i) (BC out tg) 102 [] []).hint [false])) =
 some (Cf.at (Ex.exit 0),[],[decide (i<(16:Int))=false,out=out]):=by kernel_rfl
theorem aVe (ad pl out:List Int) :
 fA Gw (sH ad pl) 100 100 Tryz.f53 [] (rsM ad pl [4] (.at (.exit 0)) (rG rsR) ((aN [(9,.buf 100)] [(100,.cD .u8 out 5)] 101 [] []).hint [])) =
 some {val:=SV.buf 100,new:=[SB.cD IntKind.u8 out 5]}:=by kernel_rfl
noncomputable def OR (ad sl:List Int) (cf:Cf) (K:List Fr) (s:St):Option jA:=cA Gw (aC 100 (sH ad sl)) 100 Tryz.f77.ntmps [7] 100 2000 cf K s
def sN (N:Int) (ls m:Nat) (b:Bool) (i:Int):List (Nat × SV):=[(1,.int false .u64 N),(3,.dX 62 ls),(4,.ptr 100 true 0),(8,.raw (.slice none 0 0)),(10,.int false .i64 (m:Int)),(11,.ptr 101 true 0),(12,.bool true b),(13,.int false .i64 i)]
def sM (key tg:List Int):List (Nat × SB):=[(100,.ints .u8 key 38),(101,.ints .u8 tg 105)]
noncomputable def OQ:Option jA:=OR [] [] (.go (codeOf Tryz.f77)) [] ((gU (Km [] 0 0 0) 100).hint [false])
theorem aVx (key ad sl tg:List Int) (N i:Int) (la ls m:Nat) :
 (cL 100 Tryz.f77.ntmps (aC 100 (sH ad sl)) [] (sN N ls m true i) (sM key tg) 102 [] [] (OR ad sl (.go (codeOf Tryz.f77)) [] ((gU (Km key N la ls) 100).hint [false]))) =
 sh ((↑ls:Int)-(16:Int)) fun z1=>
 sh (IntKind.i64.wrap z1) fun z4=>
 sh (0:Nat) fun z8=>
 sh (z4.toNat-z8) fun z2=>
 sh (List.drop z8 sl) fun z3=>
 sh (List.take z2 z3) fun z0=>
 sh (M.once key N) fun z5=>
 sh (M.Af ad ad.length z0 z0.length) fun z6=>
 sh (0:Int) fun z7=>
 some (.go (.loop (lF OQ)),rG OQ,[(M.tag z5 z6).length=(16:Nat),z5.length=(32:Nat),bG z5,bG ad,bG z0,ad.length<=(500000000:Nat),z0.length<=(500000000:Nat),M.once key N=M.once key N,la=la,ad.length=ad.length,z4.toNat-z8=z4.toNat-z8,z0.length=z0.length,ad=ad,List.take z2 z3=List.take z2 z3,z7<=z7/\z7<=IntKind.i64.wrap z1/\IntKind.i64.wrap z1<=(↑ls:Int),key.length=(32:Nat),bG key,M.tR N,key=key,N=N,key.length=(32:Nat),decide (IntKind.i64.wrap z1<z7)=false,N=N,ls=ls,IntKind.i64.wrap z1=(↑m:Int),z7=i,key=key/\(38:Nat)=(38:TypeId),M.tag z5 z6=tg/\(105:Nat)=(105:TypeId)]):=by kernel_rfl
theorem aVw (key ad sl tg:List Int) (N i i':Int) (ls m:Nat) :
 cL 100 Tryz.f77.ntmps (aC 100 (sH ad sl)) [] (sN N ls m true i') (sM key tg) 102 [] [] (OR ad sl (.go (lF OQ)) [] ((aN (sN N ls m true i) (sM key tg) 102 [] []).hint [true])) =
 sh (↑m:Int) fun z0=>
 sh (IntKind.i64.wrap (z0+i)) fun z1=>
 sh (0:Int) fun z2=>
 some (Cf.at Ex.normal,[],[z1.toNat<sl.length,z2<=IntKind.i64.wrap (z0+i)/\IntKind.i64.wrap (z0+i)<(↑ls:Int),(0:Nat)+i.toNat*(1:Nat)+(1:Nat)<=tg.length,z2<=i/\i<(16:Int),decide (i<(16:Int))=true,N=N,ls=ls,z0=z0,(tg.getD ((0:Nat)+i.toNat*(1:Nat)+0) z2==sl.getD z1.toNat z2)=true,IntKind.i64.wrap (i+(1:Int))=i',key=key/\(38:TypeId)=(38:TypeId),tg=tg/\(105:TypeId)=(105:TypeId)]):=by kernel_rfl
theorem aVv (key ad sl tg:List Int) (N i i':Int) (ls m:Nat) :
 cL 100 Tryz.f77.ntmps (aC 100 (sH ad sl)) [] (sN N ls m false i') (sM key tg) 102 [] [] (OR ad sl (.go (lF OQ)) [] ((aN (sN N ls m true i) (sM key tg) 102 [] []).hint [true])) =
 sh (↑m:Int) fun z0=>
 sh (IntKind.i64.wrap (z0+i)) fun z1=>
 sh (0:Int) fun z2=>
 some (Cf.at Ex.normal,[],[z1.toNat<sl.length,z2<=IntKind.i64.wrap (z0+i)/\IntKind.i64.wrap (z0+i)<(↑ls:Int),(0:Nat)+i.toNat*(1:Nat)+(1:Nat)<=tg.length,z2<=i/\i<(16:Int),decide (i<(16:Int))=true,N=N,ls=ls,z0=z0,(tg.getD ((0:Nat)+i.toNat*(1:Nat)+0) z2==sl.getD z1.toNat z2)=false,IntKind.i64.wrap (i+(1:Int))=i',key=key/\(38:TypeId)=(38:TypeId),tg=tg/\(105:TypeId)=(105:TypeId)]):=by kernel_rfl
theorem aVu (key ad sl tg:List Int) (N i i':Int) (ls m:Nat) :
 cL 100 Tryz.f77.ntmps (aC 100 (sH ad sl)) [] (sN N ls m false i') (sM key tg) 102 [] [] (OR ad sl (.go (lF OQ)) [] ((aN (sN N ls m false i) (sM key tg) 102 [] []).hint [true])) =
 some (Cf.at Ex.normal,[],[decide (i<(16:Int))=true,N=N,ls=ls,(↑m:Int)=(↑m:Int),IntKind.i64.wrap (i+(1:Int))=i',key=key/\(38:TypeId)=(38:TypeId),tg=tg/\(105:TypeId)=(105:TypeId)]):=by kernel_rfl
theorem aVt (key ad sl tg:List Int) (N i:Int) (ls m:Nat) :
 cL 100 Tryz.f77.ntmps (aC 100 (sH ad sl)) [] (sN N ls m true i) (sM key tg) 102 [] [] (OR ad sl (.go (lF OQ)) [] ((aN (sN N ls m true i) (sM key tg) 102 [] []).hint [false])) =
 some (Cf.at (Ex.exit 0),[],[decide (i<(16:Int))=false,N=N,ls=ls,(↑m:Int)=(↑m:Int),i=i,key=key/\(38:TypeId)=(38:TypeId),tg=tg/\(105:TypeId)=(105:TypeId)]):=by kernel_rfl
theorem aVs (key ad sl tg:List Int) (N i:Int) (ls m:Nat) :
 cL 100 Tryz.f77.ntmps (aC 100 (sH ad sl)) [] (sN N ls m false i) (sM key tg) 102 [] [] (OR ad sl (.go (lF OQ)) [] ((aN (sN N ls m false i) (sM key tg) 102 [] []).hint [false])) =
 some (Cf.at (Ex.exit 0),[],[decide (i<(16:Int))=false,N=N,ls=ls,(↑m:Int)=(↑m:Int),i=i,key=key/\(38:TypeId)=(38:TypeId),tg=tg/\(105:TypeId)=(105:TypeId)]):=by kernel_rfl
theorem aVr (key ad sl tg:List Int) (N i:Int) (ls m:Nat) :
 fA Gw (sH ad sl) 100 100 Tryz.f77 [] (OR ad sl (.at (.exit 0)) (rG OQ) ((aN (sN N ls m true i) (sM key tg) 102 [] []).hint [])) =
 sh (↑m:Int) fun z3=>
 sh (0:Nat) fun z5=>
 sh (z3.toNat-z5) fun z1=>
 sh (List.drop z5 sl) fun z2=>
 sh (List.take z1 z2) fun z0=>
 sh (1:Int) fun z4=>
 some {bV:=[key.length=(32:Nat),(M.nonce N).length=(12:Nat),z0.length<=(1073741824:Nat),W z4,key=key,z4=z4,M.nonce N=M.nonce N,z3.toNat-z5=z3.toNat-z5,z0.length=z0.length,List.take z1 z2=List.take z1 z2,(0:Int)<=(0:Int)/\(0:Int)<=z3/\z3<=(↑ls:Int),M.tR N,N=N,key.length=(32:Nat)],val:=SV.eD [SV.buf 100,SV.bool true true],new:=[SB.cD IntKind.u8 (R.xor key (M.nonce N) z4 z0.length z0) 5]}:=by kernel_rfl
theorem aVq (key ad sl tg:List Int) (N i:Int) (ls m:Nat) :
 fA Gw (sH ad sl) 100 100 Tryz.f77 [] (OR ad sl (.at (.exit 0)) (rG OQ) ((aN (sN N ls m false i) (sM key tg) 102 [] []).hint [])) =
 some {val:=SV.eD [SV.raw (Value.slice none (0:Nat) (0:Nat)),SV.bool true false]}:=by kernel_rfl
def Vy (la lb:Nat):List SV:=[.dX 61 la,.dX 62 lb]
def NG (xs ys:List Int):bA:=fun l=>look l [(61,.dK .u8 xs),(62,.dK .u8 ys)]
noncomputable def YV (xs ys:List Int) (k:Nat) (cf:Cf) (K:List Fr) (s:St):Option jA:=cA Γi (aC 100 (NG xs ys)) 100 Tryz.f34.ntmps [4] 0 k cf K s
def Kl (la lb:Nat) (i:Int):List (Nat × SV):=[(0,.dX 61 la),(1,.dX 62 lb),(5,.int false .i64 i)]
noncomputable def smR:Option jA:=YV [] [] 400 (.go (codeOf Tryz.f34)) [] ((gU (Vy 0 0) 100).hint [false])
noncomputable def smL:Code:=lF smR
noncomputable def smK:List Fr:=rG smR
theorem aUr (xs ys:List Int) (la lb:Nat) (i:Int) :
 (cL 100 Tryz.f34.ntmps (aC 100 (NG xs ys)) [] (Kl la lb i) [] 100 [] [] (YV xs ys 400 (.go (codeOf Tryz.f34)) [] ((gU (Vy la lb) 100).hint [false]))) =
 some (.go (.loop smL),smK,[((↑la:Int) != (↑lb:Int))=false,la=la,lb=lb,(0:Int)=i]):=by kernel_rfl
theorem aUl (xs ys:List Int) (la lb:Nat) :
 fA Γi (NG xs ys) 100 100 Tryz.f34 [] (YV xs ys 400 (.go (codeOf Tryz.f34)) [] ((gU (Vy la lb) 100).hint [true])) =
 some {bV:=[((↑la:Int) != (↑lb:Int))=true],val:=SV.bool true false}:=by kernel_rfl
theorem aUq (xs ys:List Int) (la lb:Nat) (i i':Int) :
 cL 100 Tryz.f34.ntmps (aC 100 (NG xs ys)) [] (Kl la lb i') [] 100 [] [] (YV xs ys 400 (.go smL) [] ((aN (Kl la lb i) [] 100 [] []).hint [true,false])) =
 sh (0:Int) fun z0=>
 some (Cf.at Ex.normal,[],[(xs.getD i.toNat z0 != ys.getD i.toNat z0)=false,i.toNat<ys.length,z0<=i/\i<(↑lb:Int),i.toNat<xs.length,z0<=i/\i<(↑la:Int),decide (i<(↑la:Int))=true,la=la,lb=lb,IntKind.i64.wrap (i+(1:Int))=i']):=by kernel_rfl
theorem aUn (xs ys:List Int) (la lb:Nat) (i:Int) :
 cL 100 Tryz.f34.ntmps (aC 100 (NG xs ys)) [] [(4,.bool true false)] [] 100 [] [] (YV xs ys 400 (.go smL) [] ((aN (Kl la lb i) [] 100 [] []).hint [true,true])) =
 sh (0:Int) fun z0=>
 some (Cf.at Ex.ret,[],[(xs.getD i.toNat z0 != ys.getD i.toNat z0)=true,i.toNat<ys.length,z0<=i/\i<(↑lb:Int),i.toNat<xs.length,z0<=i/\i<(↑la:Int),decide (i<(↑la:Int))=true]):=by kernel_rfl
theorem aUm (xs ys:List Int) :
 fA Γi (NG xs ys) 100 100 Tryz.f34 [] (YV xs ys 400 (.at .ret) smK ((aN [(4,.bool true false)] [] 100 [] []).hint [])) =
 some {val:=SV.bool true false}:=by kernel_rfl
theorem aUp (xs ys:List Int) (la lb:Nat) (i:Int) :
 cL 100 Tryz.f34.ntmps (aC 100 (NG xs ys)) [] (Kl la lb i) [] 100 [] [] (YV xs ys 400 (.go smL) [] ((aN (Kl la lb i) [] 100 [] []).hint [false])) =
 some (Cf.at (Ex.exit 0),[],[decide (i<(↑la:Int))=false,la=la,lb=lb,i=i]):=by kernel_rfl
theorem aUo (xs ys:List Int) (la lb:Nat) (i:Int) :
 fA Γi (NG xs ys) 100 100 Tryz.f34 [] (YV xs ys 400 (.at (.exit 0)) smK ((aN (Kl la lb i) [] 100 [] []).hint [])) =
 some {val:=SV.bool true true}:=by kernel_rfl
theorem xJ {xs:List Int} {i:Nat} (h:i<xs.length):xs.take (i+1)=xs.take i++[xs.getD i 0]:=by
 rw [List.take_add_one,List.getD_eq_getElem?_getD,List.getElem?_eq_getElem h];rfl
theorem aEs (xs ys:List Int) (hl:xs.length<=1073741824) (sB:ys.length<=1073741824) {b:Bool} (hxy:decide (xs=ys)=b):aD Tryz.prog Γi 34 (Vy xs.length ys.length) (NG xs ys) 100 100 { val:=.bool true b }:=by
 refine bU qN qO Tryz.func34 (by kernel_rfl) rfl (Nat.le_of_ble_eq_true (by kernel_rfl)) rfl [] ?_
 intro w0 Mx V0 Q hb H
 have aM:=qN
 have aE:=qO
 by_cases dP:xs.length≠ys.length
 .refine G.eX (cl:=[]) aM aE mix [true] H (aUl xs ys _ _) (aA ?_) ?_ rfl rfl
  .simp only [aO]
   repeat' apply And.intro
   all_goals first | rfl | trivial | omega | (simp;omega)
  .have:decide (xs=ys)=false:=decide_eq_false (fun e=>dP (by rw [e]))
   rw [<- hxy,this]
 have dP:xs.length=ys.length:=Decidable.of_not_not dP
 refine G.cL aM aE mix hb [false] (aUr xs ys _ _ 0) (aA ?_) ?_
 .simp only [aO]
  repeat' apply And.intro
  all_goals first | rfl | trivial | omega | (simp;omega)
 refine G.loop (fun r s=>∃ k:Nat,k<=xs.length/\r=xs.length-k/\xs.take k=ys.take k/\s=aN (Kl xs.length ys.length (k:Int)) [] 100 [] []) (r0:=xs.length) ⟨0,by omega,rfl,rfl,rfl⟩ ?_
 rintro r s ⟨k,hk,rfl,he,rfl⟩
 by_cases h:k<xs.length
 .have ex:=xJ h
  have ey:=xJ (xs:=ys) (i:=k) (by omega)
  by_cases hd:xs.getD k 0=ys.getD k 0
  .refine G.jV aM aE mix hb [true,false] (aUq xs ys _ _ _ ((k+1:Nat):Int)) (aA ?_) (xs.length-(k+1)) (by omega) ⟨k+1,by omega,rfl,by rw [ex,ey,he,hd],rfl⟩
   simp only [aO,Int.toNat_natCast,Nat.mul_one,Nat.zero_add,Nat.add_zero]
   repeat' apply And.intro
   all_goals first | rfl | trivial | omega | exact decide_eq_true (by omega) | (rw [hd];simp;done) | exact bD (by omega) (by omega) | (simp;omega)
  .refine G.cL aM aE mix hb [true,true] (aUn xs ys _ _ _) (aA ?_) (G.leave (by simp) ?_)
   .simp only [aO,Int.toNat_natCast,Nat.mul_one,Nat.zero_add,Nat.add_zero]
    repeat' apply And.intro
    all_goals first | rfl | trivial | omega | exact decide_eq_true (by omega) | exact bD (by omega) (by omega) | (simp;omega) | simpa using hd
   .refine G.eX (cl:=[]) aM aE mix [] H (aUm xs ys) (aA (by simp [aO])) ?_ rfl rfl
    have:decide (xs=ys)=false:=decide_eq_false (fun e=>hd (by rw [e]))
    rw [<- hxy,this]
 have e:k=xs.length:=by omega
 subst e
 refine G.cL aM aE mix hb [false] (aUp xs ys _ _ _) (aA ?_) (G.leave (by simp) ?_)
 .simp only [aO]
  repeat' apply And.intro
  all_goals first | rfl | trivial | omega | exact decide_eq_false (by omega)
 refine G.eX (cl:=[]) aM aE mix [] H (aUo xs ys _ _ _) (aA (by simp [aO])) ?_ rfl rfl
 have:decide (xs=ys)=true:=decide_eq_true (by
  have h1:xs.take xs.length=xs:=List.take_length
  have h2:ys.take xs.length=ys:=by rw [dP];exact List.take_length
  rw [<- h1,he,h2])
 rw [<- hxy,this]
theorem RP (xs ys:List Int) (hl:xs.length<=1073741824) (sB:ys.length<=1073741824):aD Tryz.prog Γi 34 (Vy xs.length ys.length) (NG xs ys) 100 100 { val:=.bool false (decide (xs=ys)) }:=
 (aEs xs ys hl sB rfl).words rfl (fun _=>rfl) (fun _ _ h=>h) (fun _=>rfl) rfl rfl
def Sk (vs:List SV) (T:bA):Option Canon:=match vs with
 | [a,b]=>match fG T .u8 a,fG T .u8 b with
   | some (oa,xs),some (ob,ys)=>some { eR:=Vy xs.length ys.length,T0:=[(61,.dK .u8 xs),(62,.dK .u8 ys)],vl:=[(61,.arg 0),(62,.arg 1)],e0:={ val:=.bool false (decide (xs=ys)) },conds:=[xs.length<=1073741824,ys.length<=1073741824]++(oa++ob) }
   | _,_=>none
 | _=>none
theorem GK (Γ:Env) (hg:Γ.aU=aB):aH Tryz.prog Γ 34 (aK aB 100 Sk):=by
 refine aT hg fun vs T c hd hc=>?_
 unfold Sk at hd
 split at hd
 case h_2=>cases hd
 split at hd
 case h_2=>cases hd
 cases hd
 exact (RP _ _ (hc _ (by simp)) (hc _ (by simp))).words (by rw [hg];rfl) (fun _=>rfl) (fun _ _ h=>h) (fun _=>rfl) rfl rfl
namespace M
def gI (key:List Int) (N:Int) (ad c:List Int):List Int:=tag (once key N) (Af ad ad.length c c.length)
def gW (key:List Int) (N:Int) (pl:List Int):List Int:=cP key (nonce N) 1 0 pl.length pl
def gJ (key:List Int) (N:Int) (ad pl:List Int):List Int:=gW key N pl++gI key N ad (gW key N pl)
theorem lR (key:List Int) (N:Int) (ad c:List Int):(gI key N ad c).length=16:=pL _ _
theorem fH (key:List Int) (N:Int) (pl:List Int):(gW key N pl).length=pl.length:=fX _ _ _ _ _ _
theorem Ly (key:List Int) (N:Int) {pl:List Int} (h:bG pl):bG (gW key N pl):=rQ _ _ _ _ _ h
theorem lS (key:List Int) (N:Int) (ad pl:List Int):(gJ key N ad pl).length=pl.length+16:=by
 unfold gJ;rw [List.length_append,fH,lR]
theorem Wz (key:List Int) (N:Int) (ad:List Int) {pl:List Int} (h:bG pl):bG (gJ key N ad pl):=jZ (Ly _ _ h) (RL _ _)
theorem drop_eq {a sl:List Int} {m:Nat} (ha:a.length=16) (hs:sl.length=m+16):(∀ j,j<16->a.getD j 0=sl.getD (m+j) 0)<->a=sl.drop m:=by
 constructor
 .intro h
  apply List.ext_getElem
  .rw [List.length_drop];omega
  .intro j h1 h2
   have:=h j (by omega)
   rw [List.getD_eq_getElem?_getD,List.getD_eq_getElem?_getD,List.getElem?_eq_getElem h1,List.getElem?_eq_getElem (show m+j<sl.length by omega)] at this
   rw [List.getElem_drop]
   exact this
 .intro h j hj
  rw [h,List.getD_eq_getElem?_getD,List.getD_eq_getElem?_getD,List.getElem?_drop]
end M
theorem TU {key ad pl:List Int} {N:Int} (hk:key.length=32) (hb:bG key) (hN:M.tR N) (ha:bG ad) (hp:bG pl) (cX:ad.length<=500000000) (hlp:pl.length<=500000000) :
 aD Tryz.prog Gw 53 (Km key N ad.length pl.length) (sH ad pl) 100 100 { val:=.buf 100,new:=[.cD .u8 (M.gJ key N ad pl) 5] }:=by
 refine bU zH zI Tryz.func53 (by kernel_rfl) rfl (Nat.le_of_ble_eq_true (by kernel_rfl)) rfl [] ?_
 intro w0 Mx V0 Q bQ H
 have aM:=zH
 have aE:=zI
 have hx:R.xor key (M.nonce N) 1 pl.length pl=M.gW key N pl:=M.xor_eq 1 hb (M.xL N) pl
 have Jt:=M.fH key N pl
 have hxb:=M.Ly key N hp
 have ZE:=M.dW key N
 have hoB:=M.qT key N
 have rF:=M.lR key N ad (M.gW key N pl)
 have htg:M.tag (M.once key N) (M.Af ad ad.length (M.gW key N pl) (M.gW key N pl).length)=M.gI key N ad (M.gW key N pl):=rfl
 have Lk:M.gJ key N ad pl=M.gW key N pl++M.gI key N ad (M.gW key N pl):=rfl
 rw [Lk] at H
 obtain ⟨hN0,hN1⟩:=id hN
 have hW:W 1:=⟨by decide,by decide⟩
 refine G.cL aM aE mix bQ [] (aVh key ad pl (M.gW key N pl) (M.gI key N ad (M.gW key N pl)) N 0 _ _) (aA ?_) ?_
 .rw [hx]
  simp only [aO,htg]
  repeat' apply And.intro
  all_goals first | rfl | assumption | omega | trivial | exact Nat.le_refl _
 generalize M.gI key N ad (M.gW key N pl)=tg at *
 generalize M.gW key N pl=xs at *
 refine G.loop (fun r s=>∃ k:Nat,k<=16/\r=16-k/\s=aN (BD (k:Int)) (BC (xs++tg.take k) tg) 102 [] []) (r0:=16) ⟨0,by omega,rfl,by rw [List.take_zero,List.append_nil];rfl⟩ ?_
 rintro r s ⟨k,hk1,rfl,rfl⟩
 by_cases h:k<16
 .refine G.jV aM aE mix bQ [true] (aVg ad pl _ (xs++tg.take (k+1)) tg _ ((k+1:Nat):Int)) (aA ?_) (16-(k+1)) (by omega) ⟨k+1,by omega,rfl,rfl⟩
  simp only [aO,Int.toNat_natCast,Nat.mul_one,Nat.zero_add,Nat.add_zero,List.length_append,List.length_take,List.length_singleton]
  exact ⟨by omega,by omega,by omega,decide_eq_true (by omega),bD (by omega) (by omega),by rw [xJ (by omega),List.append_assoc],⟨trivial,trivial⟩,trivial⟩
 have e1:k=16:=by omega
 subst e1
 have e2:tg.take 16=tg:=List.take_of_length_le (by omega)
 rw [e2]
 refine G.cL aM aE mix bQ [false] (aVf ad pl _ tg _) (aA ⟨by decide,rfl,trivial⟩) (G.leave (by simp) ?_)
 exact G.eX (cl:=[]) aM aE mix [] H (aVe ad pl _) (aA (by simp [aO])) rfl rfl rfl
def qpE (key:List Int) (N:Int) (sl:List Int) (b:Bool):bR:=match b with
 | true=>{ val:=.eD [.buf 100,.bool true true],new:=[.cD .u8 (M.gW key N (sl.take (sl.length-16))) 5] }
 | false=>{ val:=.eD [.raw (.slice none 0 0),.bool true false] }
theorem UC {key ad sl:List Int} {N:Int} (b:Bool) (hk:key.length=32) (hb:bG key) (hN:M.tR N) (ha:bG ad) (hs:bG sl) (cX:ad.length<=500000000) (AN:sl.length<=500000000) (hm:16<=sl.length)
 (hd:decide (M.gI key N ad (sl.take (sl.length-16))=sl.drop (sl.length-16))=b) :
 aD Tryz.prog Gw 77 (Km key N ad.length sl.length) (sH ad sl) 100 100 (qpE key N sl b):=by
 refine bU zH zI Tryz.func77 (by kernel_rfl) rfl (Nat.le_of_ble_eq_true (by kernel_rfl)) rfl [] ?_
 intro w0 Mx V0 Q bQ H
 have aM:=zH
 have aE:=zI
 obtain ⟨m,hml⟩:∃ m,m=sl.length-16:=⟨_,rfl⟩
 have Dk:sl.length=m+16:=by omega
 have rF:=M.lR key N ad (sl.take m)
 have oY:(sl.take m).length=m:=by rw [List.length_take];omega
 have htg:M.tag (M.once key N) (M.Af ad ad.length (sl.take m) m)=M.gI key N ad (sl.take m):=by unfold M.gI;rw [oY]
 have hde:=M.drop_eq rF Dk
 rw [<- hml] at hd
 have hx:R.xor key (M.nonce N) 1 m (sl.take m)=M.gW key N (sl.take m):=by
  have:=M.xor_eq (key:=key) (nonce:=M.nonce N) 1 hb (M.xL N) (sl.take m)
  rw [oY] at this
  unfold M.gW
  rw [oY]
  exact this
 have hoB:=M.qT key N
 have ZE:=M.dW key N
 have hcB:=M.kM m hs
 have w1:IntKind.i64.wrap ((sl.length:Int)-16)=(m:Int):=bD (by omega) (by omega)
 obtain ⟨hN0,hN1⟩:=id hN
 have hW:W 1:=⟨by decide,by decide⟩
 refine G.cL aM aE mix bQ [false] (aVx key ad sl (M.gI key N ad (sl.take m)) N 0 _ _ m) (aA ?_) ?_
 .simp only [aO,w1,Int.toNat_natCast,Nat.sub_zero,List.drop_zero,oY,htg]
  repeat' apply And.intro
  all_goals first | rfl | assumption | omega | trivial | exact Nat.le_refl _ | exact decide_eq_false (by omega)
 generalize M.gI key N ad (sl.take m)=tg at *
 refine G.loop (fun r s=>∃ k:Nat,k<=16/\r=16-k/\(((∀ j,j<k->tg.getD j 0=sl.getD (m+j) 0)/\s=aN (sN N sl.length m true (k:Int)) (sM key tg) 102 [] [])\/((∃ j,j<16/\tg.getD j 0≠sl.getD (m+j) 0)/\s=aN (sN N sl.length m false (k:Int)) (sM key tg) 102 [] []))) (r0:=16) ⟨0,by omega,rfl,.inl ⟨fun j hj=>by omega,rfl⟩⟩ ?_
 rintro r s ⟨k,hk1,rfl,vZ⟩
 by_cases h:k<16
 .have w2:IntKind.i64.wrap ((m:Int)+(k:Int))=((m+k:Nat):Int):=bD (by omega) (by omega)
  rcases vZ with ⟨h0,rfl⟩ | ⟨h0,rfl⟩
  .by_cases he:tg.getD k 0=sl.getD (m+k) 0
   .refine G.jV aM aE mix bQ [true] (aVw key ad sl tg N _ ((k+1:Nat):Int) _ m) (aA ?_) (16-(k+1)) (by omega) ⟨k+1,by omega,rfl,.inl ⟨fun j hj=>?_,rfl⟩⟩
    .simp only [aO,w2,Int.toNat_natCast,Nat.mul_one,Nat.zero_add,Nat.add_zero]
     exact ⟨by omega,by omega,by omega,by omega,decide_eq_true (by omega),trivial,trivial,trivial,by rw [he];simp,bD (by omega) (by omega),⟨trivial,trivial⟩,⟨trivial,trivial⟩,trivial⟩
    .by_cases hjk:j=k
     .subst hjk;exact he
     .exact h0 j (by omega)
   .refine G.jV aM aE mix bQ [true] (aVv key ad sl tg N _ ((k+1:Nat):Int) _ m) (aA ?_) (16-(k+1)) (by omega) ⟨k+1,by omega,rfl,.inr ⟨⟨k,h,he⟩,rfl⟩⟩
    simp only [aO,w2,Int.toNat_natCast,Nat.mul_one,Nat.zero_add,Nat.add_zero]
    exact ⟨by omega,by omega,by omega,by omega,decide_eq_true (by omega),trivial,trivial,trivial,by simpa using he,bD (by omega) (by omega),⟨trivial,trivial⟩,⟨trivial,trivial⟩,trivial⟩
  .refine G.jV aM aE mix bQ [true] (aVu key ad sl tg N _ ((k+1:Nat):Int) _ m) (aA ?_) (16-(k+1)) (by omega) ⟨k+1,by omega,rfl,.inr ⟨h0,rfl⟩⟩
   exact ⟨decide_eq_true (by omega),rfl,rfl,rfl,bD (by omega) (by omega),⟨rfl,rfl⟩,⟨rfl,rfl⟩,trivial⟩
 have e1:k=16:=by omega
 subst e1
 rcases vZ with ⟨h0,rfl⟩ | ⟨h0,rfl⟩
 .have hbt:b=true:=by rw [<- hd];exact decide_eq_true (hde.1 h0)
  subst hbt
  refine G.cL aM aE mix bQ [false] (aVt key ad sl tg N _ _ m) (aA ⟨by decide,rfl,rfl,rfl,rfl,⟨rfl,rfl⟩,⟨rfl,rfl⟩,trivial⟩) (G.leave (by simp) ?_)
  refine G.eX (cl:=[]) aM aE mix [] H (aVr key ad sl tg N _ _ m) (aA ?_) rfl ?_ rfl
  .simp only [aO,Int.toNat_natCast,Nat.sub_zero,List.drop_zero,oY]
   repeat' apply And.intro
   all_goals first | rfl | assumption | omega | trivial | exact Nat.le_refl _
  .show [SB.cD .u8 _ 5]=[SB.cD .u8 _ 5]
   simp only [Int.toNat_natCast,Nat.sub_zero,List.drop_zero]
   rw [<- hml,<- hx,oY]
 .have hbt:b=false:=by
   rw [<- hd]
   refine decide_eq_false fun e=>?_
   obtain ⟨j,hj,dP⟩:=h0
   exact dP (hde.2 e j hj)
  subst hbt
  refine G.cL aM aE mix bQ [false] (aVs key ad sl tg N _ _ m) (aA ⟨by decide,rfl,rfl,rfl,rfl,⟨rfl,rfl⟩,⟨rfl,rfl⟩,trivial⟩) (G.leave (by simp) ?_)
  exact G.eX (cl:=[]) aM aE mix [] H (aVq key ad sl tg N _ _ m) (aA (by simp [aO])) rfl rfl rfl
def CZ (vs:List SV) (T:bA):Option Canon:=match vs with
 | [ks,.int _ .u64 N,a,p]=>match cY ks,fG T .u8 a,fG T .u8 p with
   | some (.u8,k),some (oa,ad),some (op,pl)=>some { eR:=Km k N ad.length pl.length,T0:=[(61,.dK .u8 ad),(62,.dK .u8 pl)],vl:=[(61,.arg 2),(62,.arg 3)],e0:={ val:=.buf 100,new:=[.cD .u8 (M.gJ k N ad pl) 5] },conds:=[k.length=32,bG k,M.tR N,bG ad,bG pl,ad.length<=500000000,pl.length<=500000000]++(oa++op) }
   | _,_,_=>none
 | _=>none
theorem aFz (Γ:Env) (hg:Γ.aU=aB):aH Tryz.prog Γ 53 (aK aB 100 CZ):=by
 refine aT hg fun vs T c hd hc=>?_
 unfold CZ at hd
 split at hd
 case h_2=>cases hd
 split at hd
 case h_2=>cases hd
 cases hd
 exact (TU (hc _ (by simp)) (hc _ (by simp)) (hc _ (by simp)) (hc _ (by simp)) (hc _ (by simp)) (hc _ (by simp)) (hc _ (by simp))).words (by rw [hg];rfl) (fun _=>rfl) (fun _ _ h=>h) (fun _=>rfl) rfl rfl
def DC (b:Bool) (vs:List SV) (T:bA):Option Canon:=match vs with
 | [ks,.int _ .u64 N,a,p]=>match cY ks,fG T .u8 a,fG T .u8 p with
   | some (.u8,k),some (oa,ad),some (op,sl)=>some { eR:=Km k N ad.length sl.length,T0:=[(61,.dK .u8 ad),(62,.dK .u8 sl)],vl:=[(61,.arg 2),(62,.arg 3)],e0:=qpE k N sl b,conds:=[k.length=32,bG k,M.tR N,bG ad,bG sl,ad.length<=500000000,sl.length<=500000000,16<=sl.length,decide (M.gI k N ad (sl.take (sl.length-16))=sl.drop (sl.length-16))=b]++(oa++op) }
   | _,_,_=>none
 | _=>none
theorem aGg (b:Bool) (Γ:Env) (hg:Γ.aU=aB):aH Tryz.prog Γ 77 (aK aB 100 (DC b)):=by
 refine aT hg fun vs T c hd hc=>?_
 unfold DC at hd
 split at hd
 case h_2=>cases hd
 split at hd
 case h_2=>cases hd
 cases hd
 exact (UC b (hc _ (by simp)) (hc _ (by simp)) (hc _ (by simp)) (hc _ (by simp)) (hc _ (by simp)) (hc _ (by simp)) (hc _ (by simp)) (hc _ (by simp)) (hc _ (by simp))).words (by rw [hg];rfl) (fun _=>rfl) (fun _ _ h=>h) (fun _=>rfl) rfl rfl
def opE (key:List Int) (N:Int) (bs:List Int) (m:Nat) (t:TypeId) (b:Bool):bR:=match b with
 | true=>{ val:=.eD [.int false .i64 (m:Int),.raw .nilIface],wr:=[(62,.ints .u8 (cP key (M.nonce N) 1 0 m bs) t)] }
 | false=>{ val:=.eD [.int true .i64 0,.jS 367 (.ptr 48 true 0)],wr:=[(62,.ints .u8 (List.replicate m 0++bs.drop m) t)] }
theorem UK {key ad bs:List Int} {N:Int} {lb cb m:Nat} {t:TypeId} (b:Bool) (hk:key.length=32) (ha:bG ad) (AS:bG bs) (cX:ad.length<=500000000) (hn:m+16<=lb) (hl:lb<=cb) (hb:lb<=bs.length) (PH:cb<=500000000)
 (hd:decide (M.gI key N ad (bs.take m)=(bs.drop m).take 16)=b) :
 aD Tryz.prog ΓP 33 (Vz key N ad.length lb cb ((m+16:Nat):Int)) (Oa ad bs t) 100 100 (opE key N bs m t b):=by
 refine bU Ho Hp Tryz.func33 (by kernel_rfl) rfl (Nat.le_of_ble_eq_true (by kernel_rfl)) rfl [] ?_
 intro w0 Mx V0 Q bQ H
 have aM:=Ho
 have aE:=Hp
 have w1:IntKind.i64.wrap (((m+16:Nat):Int)-16)=(m:Int):=bD (by omega) (by omega)
 have ZE:=M.dW key N
 have hoB:=M.qT key N
 have d1:decide (((m+16:Nat):Int)<16)=false:=decide_eq_false (by omega)
 have d2:decide (((m+16:Nat):Int)>(lb:Int))=false:=decide_eq_false (by omega)
 have d3:decide (((m+16:Nat):Int)<0)=false:=decide_eq_false (by omega)
 have oY:(bs.take m).length=m:=by rw [List.length_take];omega
 have aXq:M.tag (M.once key N) (M.Af ad ad.length (bs.take m) m)=M.gI key N ad (bs.take m):=by unfold M.gI;rw [oY]
 refine G.cL aM aE mix bQ [false,false,false] (aWj key ad bs (M.once key N) N ad.length lb cb (m+16) m t) (aA ?_) ?_
 .simp only [aO,w1,Int.toNat_natCast,Nat.sub_zero]
  repeat' apply And.intro
  all_goals first | rfl | assumption | omega | trivial | exact Nat.le_refl _
 obtain ⟨f1,f2,f3⟩:=M.Hz (la:=ad.length) (n:=m) ha (M.kM m AS) rfl oY cX (by omega)
 have rF:=M.lR key N ad (bs.take m)
 have NX:((bs.drop m).take 16).length=16:=by rw [List.length_take,List.length_drop];omega
 generalize M.once key N=ok at *
 have e1:(if ((m+16:Nat):Int)=(m:Int) then 0 else 0+m*1)=m:=by rw [if_neg (by omega)];omega
 have hd0:List.drop 0 bs=bs:=rfl
 refine G.cL aM aE mix bQ [] (aWi key ad bs ok N ad.length lb cb (m+16) m t (!b)) (aA ?_) ?_
 .simp only [aO,Int.toNat_natCast,e1,hd0,aXq,rF,NX,hd,List.length_replicate]
  repeat' apply And.intro
  all_goals first | rfl | assumption | omega | trivial | exact Nat.le_refl _
 cases b
 .refine G.eX (cl:=[]) aM aE mix [true] H (aWh key ad bs N m t _) (aA ⟨by omega,rfl,trivial⟩) rfl rfl ?_
  show [(62,SB.ints .u8 _ t)]=[(62,SB.ints .u8 _ t)]
  simp only [List.take_zero,List.nil_append,Nat.zero_add]
 .refine G.eX (cl:=[]) aM aE mix [false] H (aWg key ad bs N m t _) (aA ?_) rfl rfl rfl
  simp only [aO]
  repeat' apply And.intro
  all_goals first | rfl | assumption | omega | trivial | exact Nat.le_refl _
def Wp:List (Nat × Wu):=[(40,.lab 40 0),(42,.lab 42 0),(43,.lab 43 0),(44,.lab 44 0),(45,.lab 45 0),(48,.lab 48 0)]
def CW (vs:List SV) (T:bA):Option Canon:=match vs with
 | [.agg (.int true .i64 0::_),ks,.int _ .u64 N,a,.aI L _ 0 lb cb,.int _ .i64 n]=>match cY ks,fG T .u8 a,T L with
   | some (.u8,k),some (oa,ad),some B=>match Lh B with
     | some (.u8,bs,t)=>some { eR:=Vz k N ad.length lb cb (n.toNat:Int),T0:=[(62,.ints .u8 bs t),(63,.dK .u8 ad)]++Kg,vl:=(62,.lab L 0)::(63,.arg 3)::Wp,e0:=seE k N ad bs n.toNat t,conds:=[k.length=32,bG ad,bG bs,ad.length<=500000000,n.toNat+16<=lb,lb<=cb,lb<=bs.length,cb<=500000000]++oa }
     | _=>none
   | _,_,_=>none
 | _=>none
theorem aFw (Γ:Env) (hg:Γ.aU=aB):aH Tryz.prog Γ 32 (aK aB 100 CW):=by
 refine aT hg fun vs T c hd hc=>?_
 unfold CW at hd
 split at hd
 case h_2=>cases hd
 split at hd
 case h_2=>cases hd
 split at hd
 case h_2=>cases hd
 cases hd
 exact (TQ (hc _ (by simp)) (hc _ (by simp)) (hc _ (by simp)) (hc _ (by simp)) (hc _ (by simp)) (hc _ (by simp)) (hc _ (by simp)) (hc _ (by simp))).words (by rw [hg];rfl) (fun _=>rfl) (fun _ _ h=>h) (fun _=>rfl) rfl rfl
def DM (b:Bool) (vs:List SV) (T:bA):Option Canon:=match vs with
 | [.agg (.int true .i64 0::_),ks,.int _ .u64 N,a,.aI L _ 0 lb cb,.int _ .i64 n]=>match cY ks,fG T .u8 a,T L with
   | some (.u8,k),some (oa,ad),some B=>match Lh B with
     | some (.u8,bs,t)=>some { eR:=Vz k N ad.length lb cb ((n.toNat-16+16:Nat):Int),T0:=[(62,.ints .u8 bs t),(63,.dK .u8 ad)]++Kg,vl:=(62,.lab L 0)::(63,.arg 3)::Wp,e0:=opE k N bs (n.toNat-16) t b,conds:=[k.length=32,bG ad,bG bs,ad.length<=500000000,n.toNat-16+16<=lb,lb<=cb,lb<=bs.length,cb<=500000000,decide (M.gI k N ad (bs.take (n.toNat-16))=(bs.drop (n.toNat-16)).take 16)=b]++oa }
     | _=>none
   | _,_,_=>none
 | _=>none
theorem aGn (b:Bool) (Γ:Env) (hg:Γ.aU=aB):aH Tryz.prog Γ 33 (aK aB 100 (DM b)):=by
 refine aT hg fun vs T c hd hc=>?_
 unfold DM at hd
 split at hd
 case h_2=>cases hd
 split at hd
 case h_2=>cases hd
 split at hd
 case h_2=>cases hd
 cases hd
 exact (UK b (hc _ (by simp)) (hc _ (by simp)) (hc _ (by simp)) (hc _ (by simp)) (hc _ (by simp)) (hc _ (by simp)) (hc _ (by simp)) (hc _ (by simp)) (hc _ (by simp))).words (by rw [hg];rfl) (fun _=>rfl) (fun _ _ h=>h) (fun _=>rfl) rfl rfl
def eoT (ps:List Int):bA:=fun l=>look l [(62,.oD .i64 ps)]
noncomputable def eoM (ps:List Int) (k:Nat) (cf:Cf) (K:List Fr) (s:St):Option jA:=cA (env Hi 22) (aC 100 (eoT ps)) 100 Tryz.f84.ntmps [4] 0 k cf K s
def QV:List SV:=[.aI 62 true 0 5 5]
def Pm (u i:Int):List (Nat × SV):=[(0,.aI 62 true 0 5 5),(3,.buf 100),(4,.int false .i64 u),(5,.int false .i64 i)]
noncomputable def eoR:Option jA:=eoM [] 400 (.go (codeOf Tryz.f84)) [] (gU QV 100)
noncomputable def eoL:Code:=lF eoR
noncomputable def eoK:List Fr:=rG eoR
theorem bAe (ps:List Int) (u i:Int) (c:Nat) :
 (cL 100 Tryz.f84.ntmps (aC 100 (eoT ps)) [.BJ 3 2 165] (Pm u i) (iG c) 101 [] [] (eoM ps 400 (.go (codeOf Tryz.f84)) [] ((gU QV 100).hint []))) =
 some (.go (.loop eoL),eoK,[(0:Int)=u,(0:Int)=i,(0:Nat)=c]):=by kernel_rfl
theorem bAd (ps:List Int) (u i u' i':Int) (c c':Nat) :
 cL 100 Tryz.f84.ntmps (aC 100 (eoT ps)) [] (Pm u' i') (iG c') 101 [] [] (eoM ps 400 (.go eoL) [] ((aN (Pm u i) (iG c) 101 [] []).hint [true])) =
 sh ((0:Nat)+i.toNat*(1:Nat)+0) fun z1=>
 sh (ps.getD z1 (0:Int)) fun z0=>
 sh (2:Nat) fun z2=>
 sh (9223372036854775807:Nat) fun z3=>
 sh (140737488355328:Nat) fun z4=>
 some (Cf.at Ex.normal,[],[(c+z2+M.wC u.toNat z0.toNat)*(16:Nat)<=z4/\c+z2+M.wC u.toNat z0.toNat<=z3,u.toNat<(16:Nat),z0.toNat<=(1073741824:Nat),u=(↑u.toNat:Int),ps.getD z1 (0:Int)=(↑z0.toNat:Int),(0:Nat)+i.toNat*(1:Nat)+(1:Nat)<=ps.length,(0:Int)<=i/\i<(5:Int),(c+z2)*(16:Nat)<=z4/\c+z2<=z3,true=true,decide (i<(5:Int))=true,(↑(M.wH u.toNat z0.toNat):Int)=u',IntKind.i64.wrap (i+(1:Int))=i',c+z2+M.wC u.toNat z0.toNat=c']):=by kernel_rfl
theorem bAc (ps:List Int) (u i:Int) (c:Nat) :
 cL 100 Tryz.f84.ntmps (aC 100 (eoT ps)) [] (Pm u i) (iG c) 101 [] [] (eoM ps 400 (.go eoL) [] ((aN (Pm u i) (iG c) 101 [] []).hint [false])) =
 some (Cf.at (Ex.exit 0),[],[decide (i<(5:Int))=false,u=u,i=i,c=c]):=by kernel_rfl
theorem bAb (ps:List Int) (u i:Int) (c:Nat) :
 fA (env Hi 22) (eoT ps) 100 100 Tryz.f84 [] (eoM ps 400 (.at (.exit 0)) eoK ((aN (Pm u i) (iG c) 101 [] []).hint [])) =
 sh (1:Nat) fun z0=>
 sh (9223372036854775807:Nat) fun z1=>
 sh (140737488355328:Nat) fun z2=>
 some {bV:=[(c+z0+if u.toNat=(0:Nat) then z0 else (4:Nat))*(16:Nat)<=z2/\(c+z0+if u.toNat=(0:Nat) then z0 else (4:Nat))<=z1,u.toNat<(16:Nat),u=(↑u.toNat:Int),(c+z0)*(16:Nat)<=z2/\c+z0<=z1,false=false],val:=SV.buf 100,new:=[SB.bO 2 (c+z0+if u.toNat=(0:Nat) then z0 else (4:Nat)) 165]}:=by kernel_rfl
namespace M
def Gt (ps:List Int):Nat->Nat × Nat
 | 0=>(0,0)
 | j+1=>(wH (Gt ps j).1 (ps.getD j 0).toNat,(Gt ps j).2+2+wC (Gt ps j).1 (ps.getD j 0).toNat)
def Sc (ps:List Int):Nat:=(Gt ps 5).2+1+(if (Gt ps 5).1=0 then 1 else 4)
theorem Qb {ps:List Int} (h:∀ j,(ps.getD j 0).toNat<=1073741824):∀ j,(Gt ps j).1<16/\(Gt ps j).2<=1073741842*j
 | 0=>by simp [Gt]
 | j+1=>by
   obtain ⟨h1,h2⟩:=Qb h j
   have h3:=ZW (Gt ps j).1 (ps.getD j 0).toNat h1
   have h4:=ZX (Gt ps j).1 (ps.getD j 0).toNat
   have h5:=h j
   simp only [Gt]
   omega
theorem Bx {ps:List Int} (h:∀ j,(ps.getD j 0).toNat<=1073741824):Sc ps<=5368709220:=by
 have:=(Qb h 5).2
 unfold Sc
 split <;> omega
end M
theorem XZ {ps:List Int} (hl:ps.length=5) (h0:∀ j,0<=ps.getD j 0) (hp:∀ j,(ps.getD j 0).toNat<=1073741824) :
 aD Tryz.prog (env Hi 22) 84 QV (eoT ps) 100 100 { val:=.buf 100,new:=[.bO 2 (M.Sc ps) 165] }:=by
 refine bU (bH Hi 22) (bJ Hi Iz 22) Tryz.func84 (by kernel_rfl) rfl (Nat.le_of_ble_eq_true (by kernel_rfl)) rfl [] ?_
 intro w0 Mx V0 Q hb H
 have aM:=bH Hi 22
 have aE:=bJ Hi Iz 22
 refine G.cL aM aE mix hb [] (bAe ps 0 0 0) (aA ⟨rfl,rfl,rfl,trivial⟩) ?_
 refine G.loop (fun r s=>∃ k:Nat,k<=5/\r=5-k/\s=aN (Pm ((M.Gt ps k).1:Int) (k:Int)) (iG (M.Gt ps k).2) 101 [] []) (r0:=5) ⟨0,by omega,rfl,rfl⟩ ?_
 rintro r s ⟨k,hk,rfl,rfl⟩
 obtain ⟨b1,b2⟩:=M.Qb hp k
 by_cases h:k<5
 .have h3:=M.ZW (M.Gt ps k).1 (ps.getD k 0).toNat b1
  have h4:=M.ZX (M.Gt ps k).1 (ps.getD k 0).toNat
  have h5:=hp k
  have h6:=h0 k
  refine G.jV aM aE mix hb [true] (bAd ps _ _ ((M.Gt ps (k+1)).1:Int) ((k+1:Nat):Int) _ (M.Gt ps (k+1)).2) (aA ?_) (5-(k+1)) (by omega) ⟨k+1,by omega,rfl,rfl⟩
  simp only [aO,Int.toNat_natCast,Nat.mul_one,Nat.zero_add,Nat.add_zero]
  refine ⟨by omega,b1,h5,trivial,by omega,by omega,by omega,by omega,trivial,decide_eq_true (by omega),?_⟩
  repeat' apply And.intro
  all_goals first | rfl | trivial | omega | exact bD (by omega) (by omega)
 have e:k=5:=by omega
 subst e
 refine G.cL aM aE mix hb [false] (bAc ps _ _ _) (aA ⟨by decide,rfl,rfl,rfl,trivial⟩) (G.leave (by simp) ?_)
 have b3:=M.Bx hp
 have e3:M.Sc ps=(M.Gt ps 5).2+1+(if (M.Gt ps 5).1=0 then 1 else 4):=rfl
 refine G.eX (cl:=[]) aM aE mix [] H (bAb ps _ _ _) (aA ?_) rfl ?_ rfl
 .simp only [aO,Int.toNat_natCast]
  exact ⟨by omega,b1,trivial,by omega,trivial,trivial⟩
 .simp only [Int.toNat_natCast,<- e3]
def EV (vs:List SV) (T:bA):Option Canon:=match vs with
 | [.aI L _ 0 5 5]=>match T L with
   | some B=>match Lh B with
     | some (.i64,ps,_)=>some { eR:=QV,T0:=[(62,.oD .i64 ps)],vl:=[(62,.lab L 0)],e0:={ val:=.buf 100,new:=[.bO 2 (M.Sc ps) 165] },conds:=[ps.length=5,∀ j,0<=ps.getD j 0,∀ j,(ps.getD j 0).toNat<=1073741824] }
     | _=>none
   | none=>none
 | _=>none
theorem aIz (Γ:Env) (hg:Γ.aU=aB):aH Tryz.prog Γ 84 (aK aB 100 EV):=by
 refine aT hg fun vs T c hd hc=>?_
 unfold EV at hd
 split at hd
 case h_2=>cases hd
 split at hd
 case h_2=>cases hd
 split at hd
 case h_2=>cases hd
 cases hd
 exact (XZ (hc _ (by simp)) (hc _ (by simp)) (hc _ (by simp))).words (by rw [hg];rfl) (fun _=>rfl) (fun _ _ h=>h) (fun _=>rfl) rfl rfl
noncomputable def qA:Nat->Option Sum:=eE Hi 84 (aK aB 100 EV)
theorem Ja:∀ f S,qA f=some S->∀ Γ:Env,Γ.aU=aB->aH Tryz.prog Γ f S:=bI Iz 84 _ aIz
theorem bAa (a n:Int) :
 aR (env qA 22) Tryz.f55 true [] 400 [.int false .i64 a,.int false .i64 n] vX 100 100 =
 sh (16:Int) fun z0=>
 sh (IntKind.i64.wrap (z0-a.tmod z0)) fun z1=>
 sh (IntKind.i64.wrap (z0-n.tmod z0)) fun z2=>
 sh (5:Nat) fun z5=>
 sh (z5+M.Oi n.toNat+M.Sc [a,z1.tmod z0,n,z2.tmod z0,z0]) fun z3=>
 sh (1073741824:Nat) fun z4=>
 sh (9223372036854775807:Nat) fun z6=>
 sh (140737488355328:Nat) fun z7=>
 some {bV:=[z3*(16:Nat)<=z7/\z5+M.Oi n.toNat+M.Sc [a,z1.tmod z0,n,z2.tmod z0,z0]<=z6,[a,z1.tmod z0,n,z2.tmod z0,z0].length=z5,∀ (j:Nat),(0:Int)<=((fun ns=>(IntKind.i64,ns)) ((fun x=>a::x) ((fun x=>z1.tmod z0::x) ((fun x=>n::x) ((fun x=>z2.tmod z0::x) ((fun x=>z0::x) [])))))).snd.getD j (0:Int),∀ (j:Nat),(((fun ns=>(IntKind.i64,ns)) ((fun x=>a::x) ((fun x=>z1.tmod z0::x) ((fun x=>n::x) ((fun x=>z2.tmod z0::x) ((fun x=>z0::x) [])))))).snd.getD j (0:Int)).toNat<=z4,[a,z1.tmod z0,n,z2.tmod z0,z0]=[a,z1.tmod z0,n,z2.tmod z0,z0],(z5+M.Oi n.toNat)*(16:Nat)<=z7/\z5+M.Oi n.toNat<=z6,n.toNat<=z4,n=(↑n.toNat:Int),(32:Nat)<=z4,(32:Int)=(32:Int)],val:=SV.buf 100,new:=[SB.bO 2 z3 165]}:=by kernel_rfl
theorem eq_1 (a n:Int) (b:Bool) :
 aR (env qA 22) Tryz.f78 true [false,true] 400 [.int false .i64 a,.int false .i64 n,.bool false b] vX 100 100 =
 sh (16:Int) fun z2=>
 sh (IntKind.i64.wrap (z2-a.tmod z2)) fun z3=>
 sh (IntKind.i64.wrap (n-z2)) fun z4=>
 sh (IntKind.i64.wrap (z2-z4.tmod z2)) fun z1=>
 sh (M.Sc [a,z3.tmod z2,IntKind.i64.wrap (n-z2),z1.tmod z2,z2]+(1:Nat)) fun z0=>
 sh (9223372036854775807:Nat) fun z5=>
 sh (140737488355328:Nat) fun z6=>
 sh (5:Nat) fun z7=>
 sh (1073741824:Nat) fun z8=>
 sh (z7+z0+M.Oi z4.toNat) fun z9=>
 some {bV:=[z9*(16:Nat)<=z6/\z7+z0+M.Oi z4.toNat<=z5,z4.toNat<=z8,IntKind.i64.wrap (n-z2)=(↑z4.toNat:Int),b=true,(z7+z0)*(16:Nat)<=z6/\z7+z0<=z5,z0*(16:Nat)<=z6/\M.Sc [a,z3.tmod z2,IntKind.i64.wrap (n-z2),z1.tmod z2,z2]+(1:Nat)<=z5,b=b,[a,z3.tmod z2,IntKind.i64.wrap (n-z2),z1.tmod z2,z2].length=z7,∀ (j:Nat),(0:Int)<=((fun ns=>(IntKind.i64,ns)) ((fun x=>a::x) ((fun x=>z3.tmod z2::x) ((fun x=>IntKind.i64.wrap (n-z2)::x) ((fun x=>z1.tmod z2::x) ((fun x=>z2::x) [])))))).snd.getD j (0:Int),∀ (j:Nat),(((fun ns=>(IntKind.i64,ns)) ((fun x=>a::x) ((fun x=>z3.tmod z2::x) ((fun x=>IntKind.i64.wrap (n-z2)::x) ((fun x=>z1.tmod z2::x) ((fun x=>z2::x) [])))))).snd.getD j (0:Int)).toNat<=z8,[a,z3.tmod z2,IntKind.i64.wrap (n-z2),z1.tmod z2,z2]=[a,z3.tmod z2,IntKind.i64.wrap (n-z2),z1.tmod z2,z2],decide (n<z2)=false,(32:Nat)<=z8,(32:Int)=(32:Int)],val:=SV.buf 100,new:=[SB.bO 2 z9 165]}:=by kernel_rfl
theorem eq_2 (a n:Int) (b:Bool) :
 aR (env qA 22) Tryz.f78 true [false,false] 400 [.int false .i64 a,.int false .i64 n,.bool false b] vX 100 100 =
 sh (16:Int) fun z2=>
 sh (IntKind.i64.wrap (z2-(IntKind.i64.wrap (n-z2)).tmod z2)) fun z0=>
 sh (IntKind.i64.wrap (z2-a.tmod z2)) fun z3=>
 sh (M.Sc [a,z3.tmod z2,IntKind.i64.wrap (n-z2),z0.tmod z2,z2]+(1:Nat)) fun z1=>
 sh (9223372036854775807:Nat) fun z4=>
 sh (140737488355328:Nat) fun z5=>
 sh (5:Nat) fun z6=>
 some {bV:=[b=false,(z6+z1)*(16:Nat)<=z5/\z6+z1<=z4,z1*(16:Nat)<=z5/\M.Sc [a,z3.tmod z2,IntKind.i64.wrap (n-z2),z0.tmod z2,z2]+(1:Nat)<=z4,b=b,[a,z3.tmod z2,IntKind.i64.wrap (n-z2),z0.tmod z2,z2].length=z6,∀ (j:Nat),(0:Int)<=((fun ns=>(IntKind.i64,ns)) ((fun x=>a::x) ((fun x=>z3.tmod z2::x) ((fun x=>IntKind.i64.wrap (n-z2)::x) ((fun x=>z0.tmod z2::x) ((fun x=>z2::x) [])))))).snd.getD j (0:Int),∀ (j:Nat),(((fun ns=>(IntKind.i64,ns)) ((fun x=>a::x) ((fun x=>z3.tmod z2::x) ((fun x=>IntKind.i64.wrap (n-z2)::x) ((fun x=>z0.tmod z2::x) ((fun x=>z2::x) [])))))).snd.getD j (0:Int)).toNat<=(1073741824:Nat),[a,z3.tmod z2,IntKind.i64.wrap (n-z2),z0.tmod z2,z2]=[a,z3.tmod z2,IntKind.i64.wrap (n-z2),z0.tmod z2,z2],decide (n<z2)=false,(32:Nat)<=(1073741824:Nat),(32:Int)=(32:Int)],val:=SV.buf 100,new:=[SB.bO 2 (z6+z1) 165]}:=by kernel_rfl
namespace M
def ZK (a n:Nat):List Int:=[(a:Int),qH a,(n:Int),qH n,16]
def OE (a n:Nat):Nat:=5+Oi n+Sc (ZK a n)
def rV (a n:Nat) (b:Bool):Nat:=if b then 5+(Sc (ZK a n)+1)+Oi n else 5+(Sc (ZK a n)+1)
theorem Ia {a n:Nat} (ha:a<=1000000000) (hn:n<=1000000000):(∀ j,0<=(ZK a n).getD j 0)/\(∀ j,((ZK a n).getD j 0).toNat<=1073741824):=by
 obtain ⟨_,p1,p2⟩:=rM (a:Int) ⟨by omega,by omega⟩
 obtain ⟨_,q1,q2⟩:=rM (n:Int) ⟨by omega,by omega⟩
 refine ⟨fun j=>?_,fun j=>?_⟩ <;> rcases j with _ | _ | _ | _ | _ | j <;> simp [ZK] <;> omega
theorem Ig {a n:Nat} (ha:a<=1000000000) (hn:n<=1000000000):OE a n<=10000000000:=by
 have h1:=Bx (Ia ha hn).2
 have h2:=Ic n
 unfold OE;omega
theorem qQ {a n:Nat} (b:Bool) (ha:a<=1000000000) (hn:n<=1000000000):rV a n b<=10000000000:=by
 have h1:=Bx (Ia ha hn).2
 have h2:=Ic n
 unfold rV;split <;> omega
end M
theorem XX {a n:Nat} (ha:a<=1000000000) (hn:n<=1000000000):aD Tryz.prog (env qA 22) 55 [.int false .i64 (a:Int),.int false .i64 (n:Int)] vX 100 100 { val:=.buf 100,new:=[.bO 2 (M.OE a n) 165] }:=by
 obtain ⟨h0,hp⟩:=M.Ia ha hn
 have h1:=M.Bx hp
 have h2:=M.Ic n
 have hfr:M.ZK a n=[(a:Int),(IntKind.i64.wrap ((16:Int)-(a:Int).tmod (16:Int))).tmod (16:Int),(n:Int),(IntKind.i64.wrap ((16:Int)-(n:Int).tmod (16:Int))).tmod (16:Int),(16:Int)]:=rfl
 have hs:aH Tryz.prog (env qA 22) 55 (aR (env qA 22) Tryz.f55 true [] 400):=aY (bH qA 22) (bJ qA Ja 22) mix Tryz.func55 (by kernel_rfl) true [] 400
 have key:=bAa (a:Int) (n:Int);try simp only [sh] at key
 simp only [Int.toNat_natCast,<- hfr] at key
 have hc:=hs.call key (aA ?_)
 .exact hc.words rfl (fun _=>rfl) (fun _ _ h=>h) (fun _=>rfl) rfl rfl
 exact ⟨by omega,rfl,h0,hp,trivial,by omega,by omega,trivial,by omega,trivial,trivial⟩
theorem XY {a n:Nat} (b:Bool) (ha:a<=1000000000) (hn:n<=1000000000):aD Tryz.prog (env qA 22) 78 [.int false .i64 (a:Int),.int false .i64 ((n+16:Nat):Int),.bool false b] vX 100 100 { val:=.buf 100,new:=[.bO 2 (M.rV a n b) 165] }:=by
 obtain ⟨h0,hp⟩:=M.Ia ha hn
 have h1:=M.Bx hp
 have h2:=M.Ic n
 have w1:IntKind.i64.wrap (((n+16:Nat):Int)-16)=(n:Int):=bD (by omega) (by omega)
 have hfr:M.ZK a n=[(a:Int),(IntKind.i64.wrap ((16:Int)-(a:Int).tmod (16:Int))).tmod (16:Int),(n:Int),(IntKind.i64.wrap ((16:Int)-(n:Int).tmod (16:Int))).tmod (16:Int),(16:Int)]:=rfl
 cases b
 .have hs:aH Tryz.prog (env qA 22) 78 (aR (env qA 22) Tryz.f78 true [false,false] 400):=aY (bH qA 22) (bJ qA Ja 22) mix Tryz.func78 (by kernel_rfl) true [false,false] 400
  have key:=eq_2 (a:Int) ((n+16:Nat):Int) false;try simp only [sh] at key
  simp only [w1,<- hfr] at key
  have hc:=hs.call key (aA ?_)
  .exact hc.words rfl (fun _=>rfl) (fun _ _ h=>h) (fun _=>rfl) rfl rfl
  exact ⟨trivial,by omega,by omega,trivial,rfl,h0,hp,trivial,decide_eq_false (by omega),by omega,trivial,trivial⟩
 .have hs:aH Tryz.prog (env qA 22) 78 (aR (env qA 22) Tryz.f78 true [false,true] 400):=aY (bH qA 22) (bJ qA Ja 22) mix Tryz.func78 (by kernel_rfl) true [false,true] 400
  have key:=eq_1 (a:Int) ((n+16:Nat):Int) true;try simp only [sh] at key
  simp only [w1,Int.toNat_natCast,<- hfr] at key
  have hc:=hs.call key (aA ?_)
  .exact hc.words rfl (fun _=>rfl) (fun _ _ h=>h) (fun _=>rfl) rfl rfl
  exact ⟨by omega,by omega,trivial,trivial,by omega,by omega,trivial,rfl,h0,hp,trivial,decide_eq_false (by omega),by omega,trivial,trivial⟩
def ET (vs:List SV) (_:bA):Option Canon:=match vs with
 | [.int _ .i64 a,.int _ .i64 n]=>some { eR:=[.int false .i64 (a.toNat:Int),.int false .i64 (n.toNat:Int)],T0:=[],vl:=[],e0:={ val:=.buf 100,new:=[.bO 2 (M.OE a.toNat n.toNat) 165] },conds:=[a.toNat<=1000000000,n.toNat<=1000000000] }
 | _=>none
theorem aIw (Γ:Env) (hg:Γ.aU=aB):aH Tryz.prog Γ 55 (aK aB 100 ET):=by
 refine aT hg fun vs T c hd hc=>?_
 unfold ET at hd
 split at hd
 case h_2=>cases hd
 cases hd
 exact (XX (hc _ (by simp)) (hc _ (by simp))).words (by rw [hg];rfl) (fun _=>rfl) (fun _ _ h=>h) (fun _=>rfl) rfl rfl
def EU (vs:List SV) (_:bA):Option Canon:=match vs with
 | [.int _ .i64 a,.int _ .i64 n,.bool _ b]=>some { eR:=[.int false .i64 (a.toNat:Int),.int false .i64 ((n.toNat-16+16:Nat):Int),.bool false b],T0:=[],vl:=[],e0:={ val:=.buf 100,new:=[.bO 2 (M.rV a.toNat (n.toNat-16) b) 165] },conds:=[a.toNat<=1000000000,n.toNat-16<=1000000000] }
 | _=>none
theorem aIx (Γ:Env) (hg:Γ.aU=aB):aH Tryz.prog Γ 78 (aK aB 100 EU):=by
 refine aT hg fun vs T c hd hc=>?_
 unfold EU at hd
 split at hd
 case h_2=>cases hd
 cases hd
 exact (XY _ (hc _ (by simp)) (hc _ (by simp))).words (by rw [hg];rfl) (fun _=>rfl) (fun _ _ h=>h) (fun _=>rfl) rfl rfl
noncomputable def exD (b:Bool):Nat->Option Sum:=eE (eE (eE (eE (eE (eE (eE CB 34 (aK aB 100 Sk)) 55 (aK aB 100 ET)) 78 (aK aB 100 EU)) 53 (aK aB 100 CZ)) 77 (aK aB 100 (DC b))) 32 (aK aB 100 CW)) 33 (aK aB 100 (DM b))
theorem HH (b:Bool):∀ f S,exD b f=some S->∀ Γ:Env,Γ.aU=aB->aH Tryz.prog Γ f S:=
 bI (bI (bI (bI (bI (bI (bI zS 34 _ GK) 55 _ aIw) 78 _ aIx) 53 _ aFz) 77 _ (aGg b)) 32 _ aFw) 33 _ (aGn b)
noncomputable def Ls (ex:Nat->Option Sum):List (Nat × List Bool)->Nat->Option Sum
 | []=>ex
 | (f,h)::r=>Ax (Ls ex r) f h
theorem vJ {ex:Nat->Option Sum} (hex:∀ f S,ex f=some S->∀ Γ:Env,Γ.aU=aB->aH Tryz.prog Γ f S):∀ l:List (Nat × List Bool),∀ f S,Ls ex l f=some S->∀ Γ:Env,Γ.aU=aB->aH Tryz.prog Γ f S
 | []=>hex
 | (f,h)::r=>lQ (vJ hex r) f h
noncomputable def ΓD (b:Bool) (hs:List (Nat × List Bool)):Env:=env (Ls (exD b) hs) 22
theorem cR (b:Bool) (hs:List (Nat × List Bool)):cG Tryz.prog (ΓD b hs):=bH _ 22
theorem cS (b:Bool) (hs:List (Nat × List Bool)):bX Tryz.prog (ΓD b hs):=bJ _ (vJ (HH b) hs) 22
def Zn (non:Int) (key:List Int) (has:Bool):List SV:=.int false .u64 non::(Dx++(cQ .u8 32 key++[.bool false has]))
def Om (key:List Int) (has:Bool) (non:Int) (l:Nat):List SV:=cQ .u8 32 key++[.bool false has,.int false .u64 non,.buf l]
def pP (kind:Int) (xk:List Int) (num:Int) (la lb:Nat) (n:Int):List SV:=.int false .i64 kind::(cQ .u8 32 xk++[.int false .u64 num,.dX 63 la,.dX 64 lb,.int false .i64 n])
def pQ (key:List Int) (has:Bool) (non:Int) (kind:Int) (xk:List Int) (num:Int) (la lb:Nat) (n:Int):List SV:=[.ptr 60 true 0,.agg (Om key has non 65),.agg (pP kind xk num la lb n)]
def ZR:List (Nat × SB):=[(40,ZQ [112,105,110,116,108,101,58,32,97,114,103,117,109,101,110,116]),(42,ZQ [112,105,110,116,108,101,58,32,110,111,32,114,111,111,109]),(43,ZQ [112,105,110,116,108,101,58,32,110,111,32,110,117,109,98,101,114,32,108,101,102,116]),(44,ZQ [112,105,110,116,108,101,58,32,116,111,111,32,115,104,111,114,116]),(45,ZQ [112,105,110,116,108,101,58,32,107,101,121,115]),(48,ZQ [112,105,110,116,108,101,58,32,110,111,116,32,97,117,116,104,101,110,116,105,99])]
def dT (key:List Int) (has:Bool) (non:Int) (ad bs:List Int) (lg:Nat):bA:=fun l=>look l ([(60,.own (Zn non key has) 40),(63,.dK .u8 ad),(64,.dK .u8 bs),(65,.bO 2 lg 165)]++(ZR++Kg))
noncomputable def dM (b:Bool) (hs:List (Nat × List Bool)) (T:bA) (k:Nat) (cf:Cf) (K:List Fr) (s:St):Option jA:=cA (ΓD b hs) (aC 100 T) 100 Tryz.f8.ntmps [] 400 k cf K s
noncomputable def gO:Code:=iN 7 (codeOf Tryz.f8)
def qD (er:SV) (e:Int) (w:SV) (la lb:Nat) (n' m':Int):List (Nat × SV):=[(0,.ptr 60 true 0),(4,.ptr 100 true 0),(5,.ptr 101 true 0),(6,.ptr 102 true 0),(9,.aI 103 false 0 (la+3) (la+3)),(11,.aI 104 false 0 (lb+3) (lb+3)),(12,w),(13,.int false .i64 n'),(14,.int false .i64 m'),(15,.int true .i64 e),(16,er)]
def zR:List SV:=List.replicate 32 (.int true .u8 0)++[.bool true false,.int true .u64 0,.raw (.slice none 0 0)]
def gN (aX:List Int) (aW:Bool) (aV:Int) (l:Nat) (stx:List SV) (aw bw:List Int) (wb lb:SB):List (Nat × SB):=[(60,.own (Zn aV aX aW) 40),(65,lb),(100,.own (Om aX aW aV l) 43),(101,.own stx 49),(102,.own zR 43),(103,.ints .u8 aw 5),(104,.ints .u8 bw 5),(105,wb)]
namespace M
def lX (l:Nat) (xs:List Int):List Int:=List.take ((0:Nat)+xs.length) (List.take (0:Nat) (List.replicate (IntKind.i64.wrap ((↑l:Int)+(3:Int))).toNat (0:Int))++xs++List.drop ((0:Nat)+xs.length) (List.replicate (IntKind.i64.wrap ((↑l:Int)+(3:Int))).toNat (0:Int)))++[(171:Int),(171:Int),(171:Int)]++List.drop ((0:Nat)+xs.length+(3:Nat)) (List.take (0:Nat) (List.replicate (IntKind.i64.wrap ((↑l:Int)+(3:Int))).toNat (0:Int))++xs++List.drop ((0:Nat)+xs.length) (List.replicate (IntKind.i64.wrap ((↑l:Int)+(3:Int))).toNat (0:Int)))
def Eo (la lb:Nat) (ad bs:List Int):List Prop:=
 sh (↑lb:Int) fun cO=>
 sh (cO+(3:Int)) fun z4=>
 sh (IntKind.i64.wrap z4) fun z0=>
 sh (↑la:Int) fun dJ=>
 sh (dJ+(3:Int)) fun z5=>
 sh (IntKind.i64.wrap z5) fun z1=>
 sh (0:Int) fun z2=>
 sh (0:Nat) fun z3=>
 sh (List.replicate z0.toNat z2) fun z6=>
 sh (List.replicate z1.toNat z2) fun z7=>
 sh (↑z0.toNat:Int) fun z8=>
 sh (↑z1.toNat:Int) fun z9=>
 sh (3:Nat) fun cH=>
 sh (9223372036854775808:Int) fun eG=>
 sh (281474976710656:Int) fun fE=>
 [z2<=z8/\z8<=z8/\z2<=cO/\cO<=z8/\z2<=z2/\z2<=cO,z0.toNat=(List.take z3 z6++bs++List.drop (z3+bs.length) z6).length/\z3+bs.length+cH<=z0.toNat,z0.toNat=z6.length/\z3+bs.length<=z0.toNat,z2<=z2/\z2<=IntKind.i64.wrap z4/\(1:Int)*IntKind.i64.wrap z4<=fE/\IntKind.i64.wrap z4<eG,z2<=z9/\z9<=z9/\z2<=dJ/\dJ<=z9/\z2<=z2/\z2<=dJ,z1.toNat=(List.take z3 z7++ad++List.drop (z3+ad.length) z7).length/\z3+ad.length+cH<=z1.toNat,z1.toNat=z7.length/\z3+ad.length<=z1.toNat,z2<=z2/\z2<=IntKind.i64.wrap z5/\(1:Int)*IntKind.i64.wrap z5<=fE/\IntKind.i64.wrap z5<eG,z3=z3,z3+ad.length+cH=la+cH,z1.toNat=la+cH,z3=z3,z3+bs.length+cH=lb+cH,z0.toNat=lb+cH]
end M
def mX (aX:List Int) (aW:Bool) (aV:Int) (lg:Nat) (la lb:Nat) (ad aw bw bs:List Int) (n' m':Int):bR:=
 sh (0:Nat) fun z0=>
 sh (↑la:Int) fun z1=>
 sh (↑lb:Int) fun z2=>
 sh (↑(la+(3:Nat)):Int) fun z3=>
 sh (↑(lb+(3:Nat)):Int) fun z4=>
 sh (0:Int) fun z5=>
 sh (1:Nat) fun z6=>
 sh (z1.toNat-z0) fun z7=>
 sh (z2.toNat-z0) fun z8=>
 sh (List.drop z0 aw) fun z9=>
 sh (List.drop z0 bw) fun cH=>
 sh (1073741824:Nat) fun cO=>
 sh (2:Int) fun dJ=>
 sh (1:Int) fun eG=>
 sh (171:Int) fun fE=>
 sh (List.take z8 cH) fun iI=>
 sh (List.take z7 z9) fun eT=>
 sh (IntKind.i64.wrap (z1+dJ)) fun kR=>
 sh (IntKind.i64.wrap (z1+eG)) fun lW=>
 sh (IntKind.i64.wrap (z2+dJ)) fun kQ=>
 sh (IntKind.i64.wrap (z2+eG)) fun jL=>
 {bV:=[(aV==aV)=true,(aw.getD (z0+kR.toNat*z6+0) z5==fE)=true,z0+kR.toNat*z6+z6<=aw.length,z5<=IntKind.i64.wrap (z1+dJ)/\IntKind.i64.wrap (z1+dJ)<z3,(aw.getD (z0+lW.toNat*z6+0) z5==fE)=true,z0+lW.toNat*z6+z6<=aw.length,z5<=IntKind.i64.wrap (z1+eG)/\IntKind.i64.wrap (z1+eG)<z3,(aw.getD (z0+z1.toNat*z6+0) z5==fE)=true,z0+z1.toNat*z6+z6<=aw.length,z5<=z1/\z1<z3,decide (List.take z7 z9=ad)=true,eT.length<=cO,ad.length<=cO,z0+z7<=aw.length/\z1.toNat-z0<=z3.toNat-z0,z0=z0,z1.toNat-z0=z1.toNat-z0,z3.toNat-z0=z3.toNat-z0,z0+z7<=aw.length/\z1.toNat-z0<=z3.toNat-z0,eT.length=eT.length,la=la,ad.length=ad.length,List.take z7 z9=List.take z7 z9,z0+z7<=aw.length/\z1.toNat-z0<=z3.toNat-z0,ad=ad,z5<=z3/\z3<=z3/\z5<=z1/\z1<=z3/\z5<=z5/\z5<=z1,(z3==IntKind.i64.wrap (z1+(3:Int)))=true,(bw.getD (z0+kQ.toNat*z6+0) z5==fE)=true,z0+kQ.toNat*z6+z6<=bw.length,z5<=IntKind.i64.wrap (z2+dJ)/\IntKind.i64.wrap (z2+dJ)<z4,(bw.getD (z0+jL.toNat*z6+0) z5==fE)=true,z0+jL.toNat*z6+z6<=bw.length,z5<=IntKind.i64.wrap (z2+eG)/\IntKind.i64.wrap (z2+eG)<z4,(bw.getD (z0+z2.toNat*z6+0) z5==fE)=true,z0+z2.toNat*z6+z6<=bw.length,z5<=z2/\z2<z4,decide (List.take z8 cH=bs)=true,iI.length<=cO,bs.length<=cO,z0+z8<=bw.length/\z2.toNat-z0<=z4.toNat-z0,z0=z0,z2.toNat-z0=z2.toNat-z0,z4.toNat-z0=z4.toNat-z0,z0+z8<=bw.length/\z2.toNat-z0<=z4.toNat-z0,iI.length=iI.length,lb=lb,bs.length=bs.length,List.take z8 cH=List.take z8 cH,z0+z8<=bw.length/\z2.toNat-z0<=z4.toNat-z0,bs=bs,z5<=z4/\z4<=z4/\z5<=z2/\z2<=z4/\z5<=z5/\z5<=z2,(z4==IntKind.i64.wrap (z2+(3:Int)))=true,(n'==m')=true],val:=SV.eD [SV.agg (Om aX aW (aV) (100)),SV.bool false (aW==aW)],new:=[SB.bO 2 lg 165],wr:=[(60,SB.own (Zn (aV) aX aW) 40),(65,SB.gone)]}
def Bn (aX:List Int) (aW:Bool) (aV:Int) (lg:Nat) (la lb:Nat) (ad aw bw want:List Int) (n' m':Int):bR:=
 sh (↑want.length:Int) fun z0=>
 sh (0:Nat) fun z1=>
 sh (↑la:Int) fun z2=>
 sh (↑(la+(3:Nat)):Int) fun z3=>
 sh (↑(lb+(3:Nat)):Int) fun z4=>
 sh (0:Int) fun z5=>
 sh (1:Nat) fun z6=>
 sh (z2.toNat-z1) fun z7=>
 sh (z0.toNat-z1) fun z8=>
 sh (List.drop z1 aw) fun z9=>
 sh (List.drop z1 bw) fun cH=>
 sh (1073741824:Nat) fun cO=>
 sh (2:Int) fun dJ=>
 sh (1:Int) fun eG=>
 sh (171:Int) fun fE=>
 sh (List.take z8 cH) fun iI=>
 sh (List.take z7 z9) fun eT=>
 sh (IntKind.i64.wrap (z2+dJ)) fun kR=>
 sh (IntKind.i64.wrap (z2+eG)) fun lW=>
 sh (IntKind.i64.wrap (z0+dJ)) fun kQ=>
 sh (IntKind.i64.wrap (z0+eG)) fun jL=>
 {bV:=[(aV==aV)=true,(aw.getD (z1+kR.toNat*z6+0) z5==fE)=true,z1+kR.toNat*z6+z6<=aw.length,z5<=IntKind.i64.wrap (z2+dJ)/\IntKind.i64.wrap (z2+dJ)<z3,(aw.getD (z1+lW.toNat*z6+0) z5==fE)=true,z1+lW.toNat*z6+z6<=aw.length,z5<=IntKind.i64.wrap (z2+eG)/\IntKind.i64.wrap (z2+eG)<z3,(aw.getD (z1+z2.toNat*z6+0) z5==fE)=true,z1+z2.toNat*z6+z6<=aw.length,z5<=z2/\z2<z3,decide (List.take z7 z9=ad)=true,eT.length<=cO,ad.length<=cO,z1+z7<=aw.length/\z2.toNat-z1<=z3.toNat-z1,z1=z1,z2.toNat-z1=z2.toNat-z1,z3.toNat-z1=z3.toNat-z1,z1+z7<=aw.length/\z2.toNat-z1<=z3.toNat-z1,eT.length=eT.length,la=la,ad.length=ad.length,List.take z7 z9=List.take z7 z9,z1+z7<=aw.length/\z2.toNat-z1<=z3.toNat-z1,ad=ad,z5<=z3/\z3<=z3/\z5<=z2/\z2<=z3/\z5<=z5/\z5<=z2,(z3==IntKind.i64.wrap (z2+(3:Int)))=true,(bw.getD (z1+kQ.toNat*z6+0) z5==fE)=true,z1+kQ.toNat*z6+z6<=bw.length,z5<=IntKind.i64.wrap (z0+dJ)/\IntKind.i64.wrap (z0+dJ)<z4,(bw.getD (z1+jL.toNat*z6+0) z5==fE)=true,z1+jL.toNat*z6+z6<=bw.length,z5<=IntKind.i64.wrap (z0+eG)/\IntKind.i64.wrap (z0+eG)<z4,(bw.getD (z1+z0.toNat*z6+0) z5==fE)=true,z1+z0.toNat*z6+z6<=bw.length,z5<=z0/\z0<z4,decide (List.take z8 cH=want)=true,iI.length<=cO,want.length<=cO,z1+z8<=bw.length/\z0.toNat-z1<=z4.toNat-z1,z1=z1,z0.toNat-z1=z0.toNat-z1,z4.toNat-z1=z4.toNat-z1,z1+z8<=bw.length/\z0.toNat-z1<=z4.toNat-z1,iI.length=iI.length,want.length=want.length,want.length=want.length,List.take z8 cH=List.take z8 cH,z1+z8<=bw.length/\z0.toNat-z1<=z4.toNat-z1,want=want,z5<=z4/\z4<=z4/\z5<=z0/\z0<=z4/\z5<=z5/\z5<=z0,(z4==IntKind.i64.wrap (z0+(3:Int)))=true,(n'==m')=true],val:=SV.eD [SV.agg (Om aX aW (aV) (100)),SV.bool false (aW==aW)],new:=[SB.bO 2 lg 165],wr:=[(60,SB.own (Zn (aV) aX aW) 40),(65,SB.gone)]}
namespace M
def t3:List Int:=[171,171,171]
def Js (xs:List Int):List Int:=(List.range 32).map fun i=>xs.getD i 0
theorem nZ {xs:List Int} (h:xs.length=32):Js xs=xs:=by
 unfold Js
 apply List.ext_getElem
 .simp [h]
 .intro j h1 h2
  simp only [List.getElem_map,List.getElem_range]
  rw [List.getD_eq_getElem?_getD,List.getElem?_eq_getElem h2];rfl
def gV (xs ys:List Int):List Prop:=(List.range 32).map fun i=>xs.getD i 0=ys.getD i 0
theorem fJ {xs ys:List Int} (h:xs=ys):∀ q∈gV xs ys,q:=by
 subst h
 intro q hq
 simp only [gV,List.mem_map] at hq
 obtain ⟨i,_,rfl⟩:=hq
 trivial
theorem nM {a b:List Prop} (ha:∀ q∈a,q) (hb:∀ q∈b,q):∀ q∈a++b,q:=fun q hq=>by
 rcases List.mem_append.1 hq with h | h
 .exact ha q h
 .exact hb q h
theorem ME {a b:List Int} (hl:a.length=b.length) (h:∀ j,j<a.length->a.getD j 0=b.getD j 0):a=b:=by
 apply List.ext_getElem hl
 intro j h1 h2
 have:=h j h1
 rw [List.getD_eq_getElem?_getD,List.getD_eq_getElem?_getD,List.getElem?_eq_getElem h1,List.getElem?_eq_getElem h2] at this
 exact this
theorem Ei {a b:List Int} {j:Nat} (h:j<a.length):(a++b).getD j 0=a.getD j 0:=by
 rw [List.getD_eq_getElem?_getD,List.getD_eq_getElem?_getD,List.getElem?_append_left h]
theorem sG {a b:List Int} {j:Nat} (h:a.length<=j):(a++b).getD j 0=b.getD (j-a.length) 0:=by
 rw [List.getD_eq_getElem?_getD,List.getD_eq_getElem?_getD,List.getElem?_append_right h]
theorem Ge {a:List Int} {n j:Nat} (h:j<n):(a.take n).getD j 0=a.getD j 0:=by
 rw [List.getD_eq_getElem?_getD,List.getD_eq_getElem?_getD,List.getElem?_take,if_pos h]
theorem Yn {a:List Int} {n j:Nat}:(a.drop n).getD j 0=a.getD (n+j) 0:=by
 rw [List.getD_eq_getElem?_getD,List.getD_eq_getElem?_getD,List.getElem?_drop]
theorem yE (key:List Int) (N:Int) {n:Nat} {bs:List Int} (h:n<=bs.length):cP key (nonce N) 1 0 n bs=gW key N (bs.take n)++bs.drop n:=by
 have hl:(bs.take n).length=n:=by rw [List.length_take];omega
 apply ME
 .rw [fX,List.length_append,fH,List.length_drop,hl];omega
 .intro j hj
  rw [fX] at hj
  rw [xI _ _ _ _ _ _ hj]
  by_cases hjn:j<n
  .rw [if_pos ⟨Nat.zero_le _,by omega⟩,Ei (by rw [fH];omega)]
   unfold gW
   rw [xI _ _ _ _ _ _ (by omega),if_pos ⟨Nat.zero_le _,by omega⟩,Ge hjn]
  .rw [if_neg (by omega),sG (by rw [fH];omega),fH,hl,Yn]
   congr 1;omega
theorem Tv (key:List Int) (N:Int) (ad:List Int) {n:Nat} {bs t:List Int} (h:n+16<=bs.length):xX key N ad (bs++t) n=(gJ key N ad (bs.take n)++bs.drop (n+16))++t:=by
 have hl:(bs.take n).length=n:=by rw [List.length_take];omega
 have ht:(bs++t).take n=bs.take n:=List.take_append_of_le_length (by omega)
 have hx:cP key (nonce N) 1 0 n (bs++t)=gW key N (bs.take n)++(bs++t).drop n:=by
  rw [yE key N (by rw [List.length_append];omega),ht]
 have Jt:(gW key N (bs.take n)).length=n:=by rw [fH,hl]
 have e1:(gW key N (bs.take n)++(bs++t).drop n).take n=gW key N (bs.take n):=by rw [List.take_append_of_le_length (by omega),List.take_of_length_le (by omega)]
 have e2:(gW key N (bs.take n)++(bs++t).drop n).drop (n+16)=bs.drop (n+16)++t:=by
  rw [List.drop_append,Jt,List.drop_eq_nil_of_le (by omega),List.nil_append,List.drop_drop,show n+(n+16-n)=n+16 from by omega,List.drop_append_of_le_length h]
 unfold xX gJ gI
 rw [hx,e1,e2,Jt]
 simp only [List.append_assoc]
theorem Ud (key:List Int) (N:Int) {m:Nat} {bs t:List Int} (h:m<=bs.length):cP key (nonce N) 1 0 m (bs++t)=(gW key N (bs.take m)++bs.drop m)++t:=by
 rw [yE key N (by rw [List.length_append];omega),List.take_append_of_le_length h,List.drop_append_of_le_length h,List.append_assoc]
theorem zero_eq {m:Nat} {bs t:List Int} (h:m<=bs.length):List.replicate m (0:Int)++(bs++t).drop m=(List.replicate m 0++bs.drop m)++t:=by
 rw [List.drop_append_of_le_length h,List.append_assoc]
theorem It (xs:List Int):List.take (0+xs.length) (List.take 0 (List.replicate (xs.length+3) (0:Int))++xs++List.drop (0+xs.length) (List.replicate (xs.length+3) 0))++[171,171,171]++List.drop (0+xs.length+3) (List.take 0 (List.replicate (xs.length+3) (0:Int))++xs++List.drop (0+xs.length) (List.replicate (xs.length+3) 0))=xs++t3:=by
 rw [Nat.zero_add,List.take_zero,List.nil_append,List.take_append_of_le_length (Nat.le_refl _),List.take_length,List.drop_append,List.drop_eq_nil_of_le (show xs.length<=xs.length+3 by omega),List.nil_append,List.drop_drop,
  List.drop_eq_nil_of_le (by simp),List.append_nil]
 rfl
theorem Cd (xs:List Int):(List.take 0 (List.replicate (xs.length+3) (0:Int))++xs++List.drop (0+xs.length) (List.replicate (xs.length+3) 0)).length=xs.length+3:=by
 simp
theorem wX (xs:List Int):(xs++t3).getD xs.length 0=171/\(xs++t3).getD (xs.length+1) 0=171/\(xs++t3).getD (xs.length+2) 0=171:=by
 refine ⟨?_,?_,?_⟩ <;> rw [sG (by omega)]
 .rw [Nat.sub_self];rfl
 .rw [Nat.add_sub_cancel_left];rfl
 .rw [Nat.add_sub_cancel_left];rfl
theorem lL (xs:List Int):List.take xs.length (List.drop 0 (xs++t3))=xs:=by
 rw [List.drop_zero,List.take_append_of_le_length (Nat.le_refl _),List.take_length]
theorem kY (xs:List Int):(xs++t3).length=xs.length+3:=by rw [List.length_append];rfl
theorem wY {xs:List Int} (h:bG xs):bG (xs++t3):=jZ h (fun x hx=>by
 simp only [t3,List.mem_cons,List.not_mem_nil,or_false] at hx
 rcases hx with rfl | rfl | rfl <;> exact ⟨by decide,by decide⟩)
end M
def Dg (aX:List Int) (aW:Bool) (aV:Int) (dY:Nat):bR:={ val:=.eD [.agg (Om aX aW aV 100),.bool false (aW==aW)],new:=[.bO 2 dY 165],wr:=[(60,.own (Zn aV aX aW) 40),(65,.gone)] }
def dE (aX:List Int) (aW:Bool) (aV:Int) (dY:Nat):bR:={ val:=.eD [.agg (Om aX aW aV 100),.bool true true],new:=[.bO 2 dY 165],wr:=[(60,.own (Zn aV aX aW) 40),(65,.gone)] }
theorem aD.dE {Γ:Env} {vs:List SV} {T:bA} {aX:List Int} {aW:Bool} {aV:Int} {dY:Nat} (h:aD Tryz.prog Γ 8 vs T 100 100 (Dg aX aW aV dY)) {Γ':Env} (hg:Γ'.aU=Γ.aU):aD Tryz.prog Γ' 8 vs T 100 100 (dE aX aW aV dY):=
 h.words hg (fun _=>rfl) (fun _ _ h=>h) (fun V=>by simp [Dg,Sx.dE,den,aJ]) rfl rfl
theorem M.oX {xs:List Int} (h:xs.length<=200000):IntKind.i64.wrap ((xs.length:Int)+3)=((xs.length+3:Nat):Int):=bD (by omega) (by omega)
theorem M.cW {xs:List Int} (h:xs.length<=200000):M.lX xs.length xs=xs++M.t3:=by
 unfold M.lX
 rw [M.oX h,Int.toNat_natCast]
 exact M.It xs
theorem M.gH {ad bs:List Int} (ha:ad.length<=200000) (hb:bs.length<=200000):∀ q∈M.Eo ad.length bs.length ad bs,q:=by
 refine aA ?_
 simp only [M.Eo,M.oX ha,M.oX hb,Int.toNat_natCast,aO,List.length_replicate,M.Cd]
 repeat' apply And.intro
 all_goals first | omega | trivial
theorem pX {p:Prop} [Decidable p] (h:p):(!decide p)=false:=by rw [decide_eq_true h];rfl
theorem pW {p:Prop} [Decidable p] (h:¬p):(!decide p)=true:=by rw [decide_eq_false h];rfl
theorem pZ {b:Bool} (h:b=true):(!b)=false:=by rw [h];rfl
theorem pY {b:Bool} (h:b=false):(!b)=true:=by rw [h];rfl
theorem iC {a b:Int} (h:a=b):(a==b)=true:=by simpa using h
theorem jR {a b:Int} (h:a≠b):(a==b)=false:=by simpa using h
theorem gY {aX:List Int} {aW:Bool} {aV:Int} {lg:Nat} {ad bs:List Int} {n' m':Int} (cX:ad.length<=200000) (dH:bs.length<=200000) (h:n'=m') :
 aO (mX aX aW aV lg ad.length bs.length ad (ad++M.t3) (bs++M.t3) bs n' m').bV:=by
 have wa:IntKind.i64.wrap ((ad.length:Int)+3)=((ad.length+3:Nat):Int):=bD (by omega) (by omega)
 have wa1:IntKind.i64.wrap ((ad.length:Int)+1)=((ad.length+1:Nat):Int):=bD (by omega) (by omega)
 have wa2:IntKind.i64.wrap ((ad.length:Int)+2)=((ad.length+2:Nat):Int):=bD (by omega) (by omega)
 have wb:IntKind.i64.wrap ((bs.length:Int)+3)=((bs.length+3:Nat):Int):=bD (by omega) (by omega)
 have wb1:IntKind.i64.wrap ((bs.length:Int)+1)=((bs.length+1:Nat):Int):=bD (by omega) (by omega)
 have wb2:IntKind.i64.wrap ((bs.length:Int)+2)=((bs.length+2:Nat):Int):=bD (by omega) (by omega)
 obtain ⟨ga,ga1,ga2⟩:=M.wX ad
 obtain ⟨gb,gb1,gb2⟩:=M.wX bs
 have ta:=M.lL ad
 have tb:=M.lL bs
 have la:=M.kY ad
 have lb:=M.kY bs
 simp only [sh,mX,aO,wa,wa1,wa2,wb,wb1,wb2,Int.toNat_natCast,Nat.sub_zero,Nat.mul_one,Nat.zero_add,Nat.add_zero,ga,ga1,ga2,gb,gb1,gb2,ta,tb,la,lb,h]
 repeat' apply And.intro
 all_goals first | omega | trivial | rfl | exact iC rfl | simp
theorem uH {aX:List Int} {aW:Bool} {aV:Int} {lg:Nat} {ad want:List Int} {n' m':Int} {lw:Nat} (hlw:want.length=lw) (cX:ad.length<=200000) (dH:lw<=200000) (h:n'=m') :
 aO (Bn aX aW aV lg ad.length lw ad (ad++M.t3) (want++M.t3) want n' m').bV:=by
 subst hlw
 have wa:IntKind.i64.wrap ((ad.length:Int)+3)=((ad.length+3:Nat):Int):=bD (by omega) (by omega)
 have wa1:IntKind.i64.wrap ((ad.length:Int)+1)=((ad.length+1:Nat):Int):=bD (by omega) (by omega)
 have wa2:IntKind.i64.wrap ((ad.length:Int)+2)=((ad.length+2:Nat):Int):=bD (by omega) (by omega)
 have wb:IntKind.i64.wrap ((want.length:Int)+3)=((want.length+3:Nat):Int):=bD (by omega) (by omega)
 have wb1:IntKind.i64.wrap ((want.length:Int)+1)=((want.length+1:Nat):Int):=bD (by omega) (by omega)
 have wb2:IntKind.i64.wrap ((want.length:Int)+2)=((want.length+2:Nat):Int):=bD (by omega) (by omega)
 obtain ⟨ga,ga1,ga2⟩:=M.wX ad
 obtain ⟨gb,gb1,gb2⟩:=M.wX want
 have ta:=M.lL ad
 have tb:=M.lL want
 have la:=M.kY ad
 have lb:=M.kY want
 simp only [sh,Bn,aO,wa,wa1,wa2,wb,wb1,wb2,Int.toNat_natCast,Nat.sub_zero,Nat.mul_one,Nat.zero_add,Nat.add_zero,ga,ga1,ga2,gb,gb1,gb2,ta,tb,la,lb,h]
 repeat' apply And.intro
 all_goals first | omega | trivial | rfl | exact iC rfl | simp
theorem aSw (key aX:List Int) (has aW:Bool) (non aV:Int) (ad bs:List Int) (lg dY:Nat) (kind:Int) (xk:List Int) (num:Int) (la lb:Nat) (n n' m':Int) (aw bw want:List Int):(cL 100 Tryz.f8.ntmps (aC 100 (dT key has non ad bs lg)) [.Jw 12] (qD (.raw .nilIface) (0) (.dX 105 lb) la lb n' m') (gN aX aW aV 65 (pP kind xk num la lb n) aw bw (.dK .u8 bs) (.bO 2 lg 165)) 106 [60,65] [] (dM true [(17,[true,true,true,true])] (dT key has non ad bs lg) 46 (.go (codeOf Tryz.f8)) [] ((gU (pQ key has non kind xk num la lb n) 100).hint [false,false,false,false,false])))=some (.go gO,[],[(kind==(5:Int))=false,(kind==(4:Int))=false,(kind==(3:Int))=false,(kind==(2:Int))=false,(kind==(1:Int))=false]++(M.Eo la lb ad bs++([lb=lb,(0:Int)=n',(0:Int)=m',non=aV]++(M.gV key aX++([has=aW,lg=lg]++(M.gV key aX++([has=aW,non=aV,kind=kind]++(M.gV xk xk++([num=num,la=la,lb=lb,n=n,M.lX la ad=aw/\(5:Nat)=(5:TypeId),M.lX lb bs=bw/\(5:Nat)=(5:TypeId),bs=bs]))))))))):=by kernel_rfl
theorem aSv (key aX:List Int) (has aW:Bool) (non aV:Int) (ad bs:List Int) (lg dY:Nat) (kind:Int) (xk:List Int) (num:Int) (la lb:Nat) (n n' m':Int) (aw bw want:List Int):fA (ΓD true [(17,[true,true,true,true])]) (dT key has non ad bs lg) 100 100 Tryz.f8 [] (dM true [(17,[true,true,true,true])] (dT key has non ad bs lg) 400 (.go gO) [] ((Oc 100 Tryz.f8.ntmps (aC 100 (dT key has non ad bs lg)) 4 34 (aN (qD (.raw .nilIface) (0) (.dX 105 lb) la lb n' m') (gN aX aW aV 65 (pP kind xk num la lb n) aw bw (.dK .u8 bs) (.bO 2 lg 165)) 106 [60,65] [])).hint [true,true]))=some (mX aX aW aV lg la lb ad aw bw bs n' m'):=by kernel_rfl
theorem aSu (key aX:List Int) (has aW:Bool) (non aV:Int) (ad bs:List Int) (lg dY:Nat) (kind:Int) (xk:List Int) (num:Int) (la lb:Nat) (n n' m':Int) (aw bw want:List Int) :
 (cL 100 Tryz.f8.ntmps (aC 100 (dT key has non ad bs lg)) [.Jw 12] (qD (.raw .nilIface) (0) (.dX 105 lb) la lb n' m') (gN aX aW aV 65 (pP kind xk num la lb n) aw bw (.dK .u8 bs) (.bO 2 lg 165)) 106 [60,65] [] (dM true [(17,[true,true,true,true])] (dT key has non ad bs lg) 33 (.go (codeOf Tryz.f8)) [] ((gU (pQ key has non kind xk num la lb n) 100).hint [true]))) =
 sh (0:Int) fun z0=>
 some (.go gO,[],[(kind==(1:Int))=true]++(M.Eo la lb ad bs++([lb=lb,z0=n',z0=m',z0=aV]++(M.gV xk aX++([true=aW,lg=lg]++(M.gV xk aX++([true=aW,z0=aV,kind=kind]++(M.gV xk xk++([num=num,la=la,lb=lb,n=n,M.lX la ad=aw/\(5:Nat)=(5:TypeId),M.lX lb bs=bw/\(5:Nat)=(5:TypeId),bs=bs]))))))))):=by kernel_rfl
theorem aSt (key aX:List Int) (has aW:Bool) (non aV:Int) (ad bs:List Int) (lg dY:Nat) (kind:Int) (xk:List Int) (num:Int) (la lb:Nat) (n n' m':Int) (aw bw want:List Int):fA (ΓD true [(17,[true,true,true,true])]) (dT key has non ad bs lg) 100 100 Tryz.f8 [] (dM true [(17,[true,true,true,true])] (dT key has non ad bs lg) 400 (.go gO) [] ((Oc 100 Tryz.f8.ntmps (aC 100 (dT key has non ad bs lg)) 4 34 (aN (qD (.raw .nilIface) (0) (.dX 105 lb) la lb n' m') (gN aX aW aV 65 (pP kind xk num la lb n) aw bw (.dK .u8 bs) (.bO 2 lg 165)) 106 [60,65] [])).hint [true,true]))=some (mX aX aW aV lg la lb ad aw bw bs n' m'):=by kernel_rfl
theorem aSs (key aX:List Int) (has aW:Bool) (non aV:Int) (ad bs:List Int) (lg dY:Nat) (kind:Int) (xk:List Int) (num:Int) (la lb:Nat) (n n' m':Int) (aw bw want:List Int):(cL 100 Tryz.f8.ntmps (aC 100 (dT key has non ad bs lg)) [.Jw 12] (qD (.raw .nilIface) (0) (.dX 105 lb) la lb n' m') (gN aX aW aV 65 (pP kind xk num la lb n) aw bw (.dK .u8 bs) (.bO 2 lg 165)) 106 [60,65] [] (dM true [(17,[true,true,true,true])] (dT key has non ad bs lg) 37 (.go (codeOf Tryz.f8)) [] ((gU (pQ key has non kind xk num la lb n) 100).hint [false,true])))=some (.go gO,[],[(kind==(2:Int))=true,(kind==(1:Int))=false]++(M.Eo la lb ad bs++([lb=lb,(0:Int)=n',(0:Int)=m',num=aV]++(M.gV key aX++([has=aW,lg=lg]++(M.gV key aX++([has=aW,num=aV,kind=kind]++(M.gV xk xk++([num=num,la=la,lb=lb,n=n,M.lX la ad=aw/\(5:Nat)=(5:TypeId),M.lX lb bs=bw/\(5:Nat)=(5:TypeId),bs=bs]))))))))):=by kernel_rfl
theorem aSr (key aX:List Int) (has aW:Bool) (non aV:Int) (ad bs:List Int) (lg dY:Nat) (kind:Int) (xk:List Int) (num:Int) (la lb:Nat) (n n' m':Int) (aw bw want:List Int):fA (ΓD true [(17,[true,true,true,true])]) (dT key has non ad bs lg) 100 100 Tryz.f8 [] (dM true [(17,[true,true,true,true])] (dT key has non ad bs lg) 400 (.go gO) [] ((Oc 100 Tryz.f8.ntmps (aC 100 (dT key has non ad bs lg)) 4 34 (aN (qD (.raw .nilIface) (0) (.dX 105 lb) la lb n' m') (gN aX aW aV 65 (pP kind xk num la lb n) aw bw (.dK .u8 bs) (.bO 2 lg 165)) 106 [60,65] [])).hint [true,true]))=some (mX aX aW aV lg la lb ad aw bw bs n' m'):=by kernel_rfl
theorem aSc (key aX:List Int) (has aW:Bool) (non aV:Int) (ad bs:List Int) (lg dY:Nat) (kind:Int) (xk:List Int) (num:Int) (la lb:Nat) (n n' m':Int) (aw bw want:List Int):(cL 100 Tryz.f8.ntmps (aC 100 (dT key has non ad bs lg)) [.Jw 12] (qD (.jS 367 (.ptr 45 true 0)) (14) (.dX 105 lb) la lb n' m') (gN aX aW aV 65 (pP kind xk num la lb n) aw bw (.dK .u8 bs) (.bO 2 lg 165)) 106 [60,65] [] (dM true [(17,[true,true,true,true]),(14,[true]),(28,[true])] (dT key has non ad bs lg) 49 (.go (codeOf Tryz.f8)) [] ((gU (pQ key has non kind xk num la lb n) 100).hint [false,false,false,false,true])))=some (.go gO,[],[(!has)=true,(!has)=true,(kind==(5:Int))=true,(kind==(4:Int))=false,(kind==(3:Int))=false,(kind==(2:Int))=false,(kind==(1:Int))=false]++(M.Eo la lb ad bs++([lb=lb,(0:Int)=n',(0:Int)=m',non=aV]++(M.gV key aX++([has=aW,lg=lg]++(M.gV key aX++([has=aW,non=aV,kind=kind]++(M.gV xk xk++([num=num,la=la,lb=lb,n=n,M.lX la ad=aw/\(5:Nat)=(5:TypeId),M.lX lb bs=bw/\(5:Nat)=(5:TypeId),bs=bs]))))))))):=by kernel_rfl
theorem aSb (key aX:List Int) (has aW:Bool) (non aV:Int) (ad bs:List Int) (lg dY:Nat) (kind:Int) (xk:List Int) (num:Int) (la lb:Nat) (n n' m':Int) (aw bw want:List Int):fA (ΓD true [(17,[true,true,true,true]),(14,[true]),(28,[true])]) (dT key has non ad bs lg) 100 100 Tryz.f8 [] (dM true [(17,[true,true,true,true]),(14,[true]),(28,[true])] (dT key has non ad bs lg) 400 (.go gO) [] ((Oc 100 Tryz.f8.ntmps (aC 100 (dT key has non ad bs lg)) 4 34 (aN (qD (.jS 367 (.ptr 45 true 0)) (14) (.dX 105 lb) la lb n' m') (gN aX aW aV 65 (pP kind xk num la lb n) aw bw (.dK .u8 bs) (.bO 2 lg 165)) 106 [60,65] [])).hint [true,true]))=some (mX aX aW aV lg la lb ad aw bw bs n' m'):=by kernel_rfl
set_option maxHeartbeats 1000000 in
theorem bBf {key ad bs xk:List Int} {has:Bool} {non num kind n:Int} {lg:Nat} (cX:ad.length<=200000) (dH:bs.length<=200000) (h1:kind≠1) (h2:kind≠2) (h3:kind≠3) (h4:kind≠4) (h5:kind≠5) :
 aD Tryz.prog (ΓD true [(17,[true,true,true,true])]) 8 (pQ key has non kind xk num ad.length bs.length n) (dT key has non ad bs lg) 100 100 (Dg (key) has (non) (lg)):=by
 refine bU (cR true [(17,[true,true,true,true])]) (cS true [(17,[true,true,true,true])]) Tryz.func8 (by kernel_rfl) rfl (Nat.le_of_ble_eq_true (by kernel_rfl)) rfl [] ?_
 intro w0 Mx V0 Q bQ H
 have aM:=cR true [(17,[true,true,true,true])]
 have aE:=cS true [(17,[true,true,true,true])]
 refine G.cL aM aE mix bQ [false,false,false,false,false] (aSw key (key) has (has) non (non) ad bs lg (lg) kind xk num ad.length bs.length n (0) (0) (ad++M.t3) ((bs)++M.t3) (bs)) ?_ (G.mv 4 34 ?_)
 .simp only [Nat.sub_zero,Nat.zero_add,Nat.add_zero,Nat.mul_one,List.drop_zero,List.take_zero,List.nil_append,Int.toNat_natCast,M.cW cX,M.cW dH,M.oX cX,M.oX dH,List.length_replicate]
  repeat' (first | exact M.fJ rfl | exact M.gH cX dH | refine M.nM ?_ ?_)
  all_goals refine aA ?_
  all_goals simp only [aO]
  all_goals repeat' apply And.intro
  all_goals first | omega | (with_reducible assumption) | (with_reducible exact True.intro) | ((with_reducible refine decide_eq_true ?_);omega) | ((with_reducible refine decide_eq_false ?_);omega) | ((with_reducible refine iC ?_);omega) | ((with_reducible refine jR ?_);omega) | ((with_reducible refine pX ?_);omega) | ((with_reducible refine pW ?_);omega) | (with_reducible exact pZ hh) | (with_reducible exact pY hh) | with_reducible rfl | (simp only [decide_eq_false_iff_not,decide_eq_true_eq,Bool.not_eq_false',Bool.not_eq_true'];omega) | skip
 refine G.eX (cl:=[]) aM aE mix [true,true] H (aSv key (key) has (has) non (non) ad bs lg (lg) kind xk num ad.length bs.length n (0) (0) (ad++M.t3) ((bs)++M.t3) (bs)) (aA ?_) rfl rfl rfl
 exact gY cX dH rfl
set_option maxHeartbeats 1000000 in
theorem bBe {key ad bs xk:List Int} {has:Bool} {non num kind n:Int} {lg:Nat} (cX:ad.length<=200000) (dH:bs.length<=200000) (h1:kind=1) :
 aD Tryz.prog (ΓD true [(17,[true,true,true,true])]) 8 (pQ key has non kind xk num ad.length bs.length n) (dT key has non ad bs lg) 100 100 (Dg (xk) true (0) (lg)):=by
 refine bU (cR true [(17,[true,true,true,true])]) (cS true [(17,[true,true,true,true])]) Tryz.func8 (by kernel_rfl) rfl (Nat.le_of_ble_eq_true (by kernel_rfl)) rfl [] ?_
 intro w0 Mx V0 Q bQ H
 have aM:=cR true [(17,[true,true,true,true])]
 have aE:=cS true [(17,[true,true,true,true])]
 refine G.cL aM aE mix bQ [true] (aSu key (xk) has (true) non (0) ad bs lg (lg) kind xk num ad.length bs.length n (0) (0) (ad++M.t3) ((bs)++M.t3) (bs)) ?_ (G.mv 4 34 ?_)
 .simp only [Nat.sub_zero,Nat.zero_add,Nat.add_zero,Nat.mul_one,List.drop_zero,List.take_zero,List.nil_append,Int.toNat_natCast,M.cW cX,M.cW dH,M.oX cX,M.oX dH,List.length_replicate]
  repeat' (first | exact M.fJ rfl | exact M.gH cX dH | refine M.nM ?_ ?_)
  all_goals refine aA ?_
  all_goals simp only [aO]
  all_goals repeat' apply And.intro
  all_goals first | omega | (with_reducible assumption) | (with_reducible exact True.intro) | ((with_reducible refine decide_eq_true ?_);omega) | ((with_reducible refine decide_eq_false ?_);omega) | ((with_reducible refine iC ?_);omega) | ((with_reducible refine jR ?_);omega) | ((with_reducible refine pX ?_);omega) | ((with_reducible refine pW ?_);omega) | (with_reducible exact pZ hh) | (with_reducible exact pY hh) | with_reducible rfl | (simp only [decide_eq_false_iff_not,decide_eq_true_eq,Bool.not_eq_false',Bool.not_eq_true'];omega) | skip
 refine G.eX (cl:=[]) aM aE mix [true,true] H (aSt key (xk) has (true) non (0) ad bs lg (lg) kind xk num ad.length bs.length n (0) (0) (ad++M.t3) ((bs)++M.t3) (bs)) (aA ?_) rfl rfl rfl
 exact gY cX dH rfl
set_option maxHeartbeats 1000000 in
theorem bBd {key ad bs xk:List Int} {has:Bool} {non num kind n:Int} {lg:Nat} (cX:ad.length<=200000) (dH:bs.length<=200000) (h1:kind=2) :
 aD Tryz.prog (ΓD true [(17,[true,true,true,true])]) 8 (pQ key has non kind xk num ad.length bs.length n) (dT key has non ad bs lg) 100 100 (Dg (key) has (num) (lg)):=by
 refine bU (cR true [(17,[true,true,true,true])]) (cS true [(17,[true,true,true,true])]) Tryz.func8 (by kernel_rfl) rfl (Nat.le_of_ble_eq_true (by kernel_rfl)) rfl [] ?_
 intro w0 Mx V0 Q bQ H
 have aM:=cR true [(17,[true,true,true,true])]
 have aE:=cS true [(17,[true,true,true,true])]
 refine G.cL aM aE mix bQ [false,true] (aSs key (key) has (has) non (num) ad bs lg (lg) kind xk num ad.length bs.length n (0) (0) (ad++M.t3) ((bs)++M.t3) (bs)) ?_ (G.mv 4 34 ?_)
 .simp only [Nat.sub_zero,Nat.zero_add,Nat.add_zero,Nat.mul_one,List.drop_zero,List.take_zero,List.nil_append,Int.toNat_natCast,M.cW cX,M.cW dH,M.oX cX,M.oX dH,List.length_replicate]
  repeat' (first | exact M.fJ rfl | exact M.gH cX dH | refine M.nM ?_ ?_)
  all_goals refine aA ?_
  all_goals simp only [aO]
  all_goals repeat' apply And.intro
  all_goals first | omega | (with_reducible assumption) | (with_reducible exact True.intro) | ((with_reducible refine decide_eq_true ?_);omega) | ((with_reducible refine decide_eq_false ?_);omega) | ((with_reducible refine iC ?_);omega) | ((with_reducible refine jR ?_);omega) | ((with_reducible refine pX ?_);omega) | ((with_reducible refine pW ?_);omega) | (with_reducible exact pZ hh) | (with_reducible exact pY hh) | with_reducible rfl | (simp only [decide_eq_false_iff_not,decide_eq_true_eq,Bool.not_eq_false',Bool.not_eq_true'];omega) | skip
 refine G.eX (cl:=[]) aM aE mix [true,true] H (aSr key (key) has (has) non (num) ad bs lg (lg) kind xk num ad.length bs.length n (0) (0) (ad++M.t3) ((bs)++M.t3) (bs)) (aA ?_) rfl rfl rfl
 exact gY cX dH rfl
set_option maxHeartbeats 1000000 in
theorem bAv {key ad bs xk:List Int} {has:Bool} {non num kind n:Int} {lg:Nat} (cX:ad.length<=200000) (dH:bs.length<=200000) (h1:kind=5) (hh:has=false) :
 aD Tryz.prog (ΓD true [(17,[true,true,true,true]),(14,[true]),(28,[true])]) 8 (pQ key has non kind xk num ad.length bs.length n) (dT key has non ad bs lg) 100 100 (Dg (key) has (non) (lg)):=by
 refine bU (cR true [(17,[true,true,true,true]),(14,[true]),(28,[true])]) (cS true [(17,[true,true,true,true]),(14,[true]),(28,[true])]) Tryz.func8 (by kernel_rfl) rfl (Nat.le_of_ble_eq_true (by kernel_rfl)) rfl [] ?_
 intro w0 Mx V0 Q bQ H
 have aM:=cR true [(17,[true,true,true,true]),(14,[true]),(28,[true])]
 have aE:=cS true [(17,[true,true,true,true]),(14,[true]),(28,[true])]
 refine G.cL aM aE mix bQ [false,false,false,false,true] (aSc key (key) has (has) non (non) ad bs lg (lg) kind xk num ad.length bs.length n (0) (0) (ad++M.t3) ((bs)++M.t3) (bs)) ?_ (G.mv 4 34 ?_)
 .simp only [Nat.sub_zero,Nat.zero_add,Nat.add_zero,Nat.mul_one,List.drop_zero,List.take_zero,List.nil_append,Int.toNat_natCast,M.cW cX,M.cW dH,M.oX cX,M.oX dH,List.length_replicate]
  repeat' (first | exact M.fJ rfl | exact M.gH cX dH | refine M.nM ?_ ?_)
  all_goals refine aA ?_
  all_goals simp only [aO]
  all_goals repeat' apply And.intro
  all_goals first | omega | (with_reducible assumption) | (with_reducible exact True.intro) | ((with_reducible refine decide_eq_true ?_);omega) | ((with_reducible refine decide_eq_false ?_);omega) | ((with_reducible refine iC ?_);omega) | ((with_reducible refine jR ?_);omega) | ((with_reducible refine pX ?_);omega) | ((with_reducible refine pW ?_);omega) | (with_reducible exact pZ hh) | (with_reducible exact pY hh) | with_reducible rfl | (simp only [decide_eq_false_iff_not,decide_eq_true_eq,Bool.not_eq_false',Bool.not_eq_true'];omega) | skip
 refine G.eX (cl:=[]) aM aE mix [true,true] H (aSb key (key) has (has) non (non) ad bs lg (lg) kind xk num ad.length bs.length n (0) (0) (ad++M.t3) ((bs)++M.t3) (bs)) (aA ?_) rfl rfl rfl
 exact gY cX dH rfl
theorem aRx (key aX:List Int) (has aW:Bool) (non aV:Int) (ad bs:List Int) (lg dY:Nat) (kind:Int) (xk:List Int) (num:Int) (la lb:Nat) (n n' m':Int) (aw bw want:List Int) :
 (cL 100 Tryz.f8.ntmps (aC 100 (dT key has non ad bs lg)) [.Jw 12] (qD (.jS 367 (.ptr 40 true 0)) (1) (.dX 105 lb) la lb n' m') (gN aX aW aV 65 (pP kind xk num la lb n) aw bw (.dK .u8 bs) (.bO 2 lg 165)) 106 [60,65] [] (dM true [(17,[true,true,true,true]),(12,[]),(26,[true]),(30,[false])] (dT key has non ad bs lg) 41 (.go (codeOf Tryz.f8)) [] ((gU (pQ key has non kind xk num la lb n) 100).hint [false,false,true]))) =
 sh (0:Int) fun z0=>
 some (.go gO,[],[decide (n<z0)=true,decide (n>=z0)=false,(kind==(3:Int))=true,(kind==(2:Int))=false,(kind==(1:Int))=false]++(M.Eo la lb ad bs++([lb=lb,z0=n',z0=m',non=aV]++(M.gV key aX++([has=aW,lg=lg]++(M.gV key aX++([has=aW,non=aV,kind=kind]++(M.gV xk xk++([num=num,la=la,lb=lb,n=n,M.lX la ad=aw/\(5:Nat)=(5:TypeId),M.lX lb bs=bw/\(5:Nat)=(5:TypeId),bs=bs]))))))))):=by kernel_rfl
theorem aRw (key aX:List Int) (has aW:Bool) (non aV:Int) (ad bs:List Int) (lg dY:Nat) (kind:Int) (xk:List Int) (num:Int) (la lb:Nat) (n n' m':Int) (aw bw want:List Int):fA (ΓD true [(17,[true,true,true,true]),(12,[]),(26,[true]),(30,[false])]) (dT key has non ad bs lg) 100 100 Tryz.f8 [] (dM true [(17,[true,true,true,true]),(12,[]),(26,[true]),(30,[false])] (dT key has non ad bs lg) 400 (.go gO) [] ((Oc 100 Tryz.f8.ntmps (aC 100 (dT key has non ad bs lg)) 4 34 (aN (qD (.jS 367 (.ptr 40 true 0)) (1) (.dX 105 lb) la lb n' m') (gN aX aW aV 65 (pP kind xk num la lb n) aw bw (.dK .u8 bs) (.bO 2 lg 165)) 106 [60,65] [])).hint [true,true]))=some (mX aX aW aV lg la lb ad aw bw bs n' m'):=by kernel_rfl
theorem aRv (key aX:List Int) (has aW:Bool) (non aV:Int) (ad bs:List Int) (lg dY:Nat) (kind:Int) (xk:List Int) (num:Int) (la lb:Nat) (n n' m':Int) (aw bw want:List Int) :
 (cL 100 Tryz.f8.ntmps (aC 100 (dT key has non ad bs lg)) [.Jw 12] (qD (.jS 367 (.ptr 40 true 0)) (1) (.dX 105 lb) la lb n' m') (gN aX aW aV 65 (pP kind xk num la lb n) aw bw (.dK .u8 bs) (.bO 2 lg 165)) 106 [60,65] [] (dM true [(17,[true,true,true,true]),(12,[true]),(26,[false,true]),(30,[true])] (dT key has non ad bs lg) 41 (.go (codeOf Tryz.f8)) [] ((gU (pQ key has non kind xk num la lb n) 100).hint [false,false,true]))) =
 sh (0:Int) fun z0=>
 some (.go gO,[],[decide (n>(↑lb:Int))=true,decide (n<z0)=false,(!decide (n<=(↑((↑lb:Int).toNat-(0:Nat)):Int)))=true,decide (n>=z0)=true,(kind==(3:Int))=true,(kind==(2:Int))=false,(kind==(1:Int))=false]++(M.Eo la lb ad bs++([lb=lb,z0=n',z0=m',non=aV]++(M.gV key aX++([has=aW,lg=lg]++(M.gV key aX++([has=aW,non=aV,kind=kind]++(M.gV xk xk++([num=num,la=la,lb=lb,n=n,M.lX la ad=aw/\(5:Nat)=(5:TypeId),M.lX lb bs=bw/\(5:Nat)=(5:TypeId),bs=bs]))))))))):=by kernel_rfl
theorem aRu (key aX:List Int) (has aW:Bool) (non aV:Int) (ad bs:List Int) (lg dY:Nat) (kind:Int) (xk:List Int) (num:Int) (la lb:Nat) (n n' m':Int) (aw bw want:List Int):fA (ΓD true [(17,[true,true,true,true]),(12,[true]),(26,[false,true]),(30,[true])]) (dT key has non ad bs lg) 100 100 Tryz.f8 [] (dM true [(17,[true,true,true,true]),(12,[true]),(26,[false,true]),(30,[true])] (dT key has non ad bs lg) 400 (.go gO) [] ((Oc 100 Tryz.f8.ntmps (aC 100 (dT key has non ad bs lg)) 4 34 (aN (qD (.jS 367 (.ptr 40 true 0)) (1) (.dX 105 lb) la lb n' m') (gN aX aW aV 65 (pP kind xk num la lb n) aw bw (.dK .u8 bs) (.bO 2 lg 165)) 106 [60,65] [])).hint [true,true]))=some (mX aX aW aV lg la lb ad aw bw bs n' m'):=by kernel_rfl
theorem aRt (key aX:List Int) (has aW:Bool) (non aV:Int) (ad bs:List Int) (lg dY:Nat) (kind:Int) (xk:List Int) (num:Int) (la lb:Nat) (n n' m':Int) (aw bw want:List Int) :
 (cL 100 Tryz.f8.ntmps (aC 100 (dT key has non ad bs lg)) [] (qD (.raw .nilIface) (0) (.buf 105) la lb n' m') (gN aX aW aV 65 (pP kind xk num la lb n) aw bw (.cD .u8 want 5) (.bO 2 lg 165)) 106 [60,65] [] (dM true [(17,[true,true,true,true]),(12,[false,true]),(26,[false,false,false]),(51,[true]),(30,[true])] (dT key has non ad bs lg) 41 (.go (codeOf Tryz.f8)) [] ((gU (pQ key has non kind xk num la lb n) 100).hint [false,false,true]))) =
 sh (0:Nat) fun z3=>
 sh (List.take z3 []++List.take (n.toNat-z3) (List.drop z3 bs)) fun z0=>
 sh (↑z0.length:Int) fun z1=>
 sh (↑lb:Int) fun z2=>
 sh (140737488355328:Nat) fun z4=>
 sh (0:Int) fun z5=>
 sh (List.drop z1.toNat bs) fun z6=>
 sh (z2.toNat-z1.toNat) fun z7=>
 some (.go gO,[],[((List.take z3 []++z0).length+(List.take z7 z6).length)*(1:Nat)<=z4,z5<=z1/\z1<=z2/\z2<=z2,(z3+z0.length)*(1:Nat)<=z4,(z3+(List.take (n.toNat-z3) (List.drop z3 bs)).length)*(1:Nat)<=z4,(!has)=true,z5<=z5/\z5<=n/\n<=z2,has=false,decide (n>z2)=false,decide (n<z5)=false,(!has)=true,(!decide (n<=(↑(z2.toNat-z3):Int)))=false,decide (n>=z5)=true,(kind==(3:Int))=true,(kind==(2:Int))=false,(kind==(1:Int))=false]++(M.Eo la lb ad bs++([n=n',z1=m',non=aV]++(M.gV key aX++([has=aW,lg=lg]++(M.gV key aX++([has=aW,non=aV,kind=kind]++(M.gV xk xk++([num=num,la=la,lb=lb,n=n,M.lX la ad=aw/\(5:Nat)=(5:TypeId),M.lX lb bs=bw/\(5:Nat)=(5:TypeId),List.take z3 []++z0++List.take z7 z6=want]))))))))):=by kernel_rfl
theorem aRs (key aX:List Int) (has aW:Bool) (non aV:Int) (ad bs:List Int) (lg dY:Nat) (kind:Int) (xk:List Int) (num:Int) (la lb:Nat) (n n' m':Int) (aw bw want:List Int):fA (ΓD true [(17,[true,true,true,true]),(12,[false,true]),(26,[false,false,false]),(51,[true]),(30,[true])]) (dT key has non ad bs lg) 100 100 Tryz.f8 [] (dM true [(17,[true,true,true,true]),(12,[false,true]),(26,[false,false,false]),(51,[true]),(30,[true])] (dT key has non ad bs lg) 400 (.go gO) [] ((Oc 100 Tryz.f8.ntmps (aC 100 (dT key has non ad bs lg)) 4 34 (OP 100 Tryz.f8.ntmps (aC 100 (dT key has non ad bs lg)) 12 (aN (qD (.raw .nilIface) (0) (.buf 105) la lb n' m') (gN aX aW aV 65 (pP kind xk num la lb n) aw bw (.cD .u8 want 5) (.bO 2 lg 165)) 106 [60,65] []))).hint [true,true]))=some (Bn aX aW aV lg la lb ad aw bw want n' m'):=by kernel_rfl
theorem aRr (key aX:List Int) (has aW:Bool) (non aV:Int) (ad bs:List Int) (lg dY:Nat) (kind:Int) (xk:List Int) (num:Int) (la lb:Nat) (n n' m':Int) (aw bw want:List Int) :
 (cL 100 Tryz.f8.ntmps (aC 100 (dT key has non ad bs lg)) [.Jw 12] (qD (.jS 367 (.ptr 42 true 0)) (2) (.dX 105 lb) la lb n' m') (gN aX aW aV 65 (pP kind xk num la lb n) aw bw (.dK .u8 bs) (.bO 2 lg 165)) 106 [60,65] [] (dM true [(17,[true,true,true,true]),(12,[false,false,true]),(26,[false,false,true,true]),(30,[true])] (dT key has non ad bs lg) 41 (.go (codeOf Tryz.f8)) [] ((gU (pQ key has non kind xk num la lb n) 100).hint [false,false,true]))) =
 sh (↑lb:Int) fun z1=>
 sh (↑(z1.toNat-(0:Nat)):Int) fun z0=>
 sh (0:Int) fun z2=>
 some (.go gO,[],[decide (IntKind.i64.wrap (z1-n)<(16:Int))=true,has=true,decide (n>z1)=false,decide (n<z2)=false,decide (IntKind.i64.wrap (z0-n)<(16:Int))=true,(!has)=false,(!decide (n<=z0))=false,decide (n>=z2)=true,(kind==(3:Int))=true,(kind==(2:Int))=false,(kind==(1:Int))=false]++(M.Eo la lb ad bs++([lb=lb,z2=n',z2=m',non=aV]++(M.gV key aX++([has=aW,lg=lg]++(M.gV key aX++([has=aW,non=aV,kind=kind]++(M.gV xk xk++([num=num,la=la,lb=lb,n=n,M.lX la ad=aw/\(5:Nat)=(5:TypeId),M.lX lb bs=bw/\(5:Nat)=(5:TypeId),bs=bs]))))))))):=by kernel_rfl
theorem aRq (key aX:List Int) (has aW:Bool) (non aV:Int) (ad bs:List Int) (lg dY:Nat) (kind:Int) (xk:List Int) (num:Int) (la lb:Nat) (n n' m':Int) (aw bw want:List Int):fA (ΓD true [(17,[true,true,true,true]),(12,[false,false,true]),(26,[false,false,true,true]),(30,[true])]) (dT key has non ad bs lg) 100 100 Tryz.f8 [] (dM true [(17,[true,true,true,true]),(12,[false,false,true]),(26,[false,false,true,true]),(30,[true])] (dT key has non ad bs lg) 400 (.go gO) [] ((Oc 100 Tryz.f8.ntmps (aC 100 (dT key has non ad bs lg)) 4 34 (aN (qD (.jS 367 (.ptr 42 true 0)) (2) (.dX 105 lb) la lb n' m') (gN aX aW aV 65 (pP kind xk num la lb n) aw bw (.dK .u8 bs) (.bO 2 lg 165)) 106 [60,65] [])).hint [true,true]))=some (mX aX aW aV lg la lb ad aw bw bs n' m'):=by kernel_rfl
theorem aRp (key aX:List Int) (has aW:Bool) (non aV:Int) (ad bs:List Int) (lg dY:Nat) (kind:Int) (xk:List Int) (num:Int) (la lb:Nat) (n n' m':Int) (aw bw want:List Int) :
 (cL 100 Tryz.f8.ntmps (aC 100 (dT key has non ad bs lg)) [.Jw 12] (qD (.jS 367 (.ptr 43 true 0)) (5) (.dX 105 lb) la lb n' m') (gN aX aW aV 65 (pP kind xk num la lb n) aw bw (.dK .u8 bs) (.bO 2 lg 165)) 106 [60,65] [] (dM true [(17,[true,true,true,true]),(12,[false,false,false,true]),(26,[false,false,true,false]),(51,[false,true]),(30,[true])] (dT key has non ad bs lg) 41 (.go (codeOf Tryz.f8)) [] ((gU (pQ key has non kind xk num la lb n) 100).hint [false,false,true]))) =
 sh (↑lb:Int) fun z3=>
 sh (↑(z3.toNat-(0:Nat)):Int) fun z0=>
 sh (0:Int) fun z1=>
 sh (non==(18446744073709551615:Int)) fun z2=>
 some (.go gO,[],[z2=true,(!has)=false,z1<=z1/\z1<=n/\n<=z3,decide (IntKind.i64.wrap (z3-n)<(16:Int))=false,has=true,decide (n>z3)=false,decide (n<z1)=false,z2=true,decide (IntKind.i64.wrap (z0-n)<(16:Int))=false,(!has)=false,(!decide (n<=z0))=false,decide (n>=z1)=true,(kind==(3:Int))=true,(kind==(2:Int))=false,(kind==(1:Int))=false]++(M.Eo la lb ad bs++([lb=lb,z1=n',z1=m',non=aV]++(M.gV key aX++([has=aW,lg=lg]++(M.gV key aX++([has=aW,non=aV,kind=kind]++(M.gV xk xk++([num=num,la=la,lb=lb,n=n,M.lX la ad=aw/\(5:Nat)=(5:TypeId),M.lX lb bs=bw/\(5:Nat)=(5:TypeId),bs=bs]))))))))):=by kernel_rfl
theorem aRo (key aX:List Int) (has aW:Bool) (non aV:Int) (ad bs:List Int) (lg dY:Nat) (kind:Int) (xk:List Int) (num:Int) (la lb:Nat) (n n' m':Int) (aw bw want:List Int):fA (ΓD true [(17,[true,true,true,true]),(12,[false,false,false,true]),(26,[false,false,true,false]),(51,[false,true]),(30,[true])]) (dT key has non ad bs lg) 100 100 Tryz.f8 [] (dM true [(17,[true,true,true,true]),(12,[false,false,false,true]),(26,[false,false,true,false]),(51,[false,true]),(30,[true])] (dT key has non ad bs lg) 400 (.go gO) [] ((Oc 100 Tryz.f8.ntmps (aC 100 (dT key has non ad bs lg)) 4 34 (aN (qD (.jS 367 (.ptr 43 true 0)) (5) (.dX 105 lb) la lb n' m') (gN aX aW aV 65 (pP kind xk num la lb n) aw bw (.dK .u8 bs) (.bO 2 lg 165)) 106 [60,65] [])).hint [true,true]))=some (mX aX aW aV lg la lb ad aw bw bs n' m'):=by kernel_rfl
theorem aRn (key aX:List Int) (has aW:Bool) (non aV:Int) (ad bs:List Int) (lg dY:Nat) (kind:Int) (xk:List Int) (num:Int) (la lb:Nat) (n n' m':Int) (aw bw want:List Int) :
 (cL 100 Tryz.f8.ntmps (aC 100 (dT key has non ad bs lg)) [] (qD (.raw .nilIface) (0) (.buf 105) la lb n' m') (gN aX aW aV 106 (pP kind xk num la lb n) aw bw (.cD .u8 want 5) (.gone)++[(106,.bO 2 dY 165)]) 107 [60,65] [] (dM true [(17,[true,true,true,true]),(12,[false,false,false,false]),(26,[false,false,true,false]),(51,[false,false]),(30,[true])] (dT key has non ad bs lg) 41 (.go (codeOf Tryz.f8)) [] ((gU (pQ key has non kind xk num la lb n) 100).hint [false,false,true]))) =
 sh (0:Nat) fun z1=>
 sh (n.toNat-z1) fun iI=>
 sh (List.drop z1 bs) fun lW=>
 sh (List.take iI lW) fun z0=>
 sh (M.Js key) fun z9=>
 sh (M.gJ z9 non ad z0) fun tM=>
 sh (↑tM.length:Int) fun z2=>
 sh (↑la:Int) fun z6=>
 sh (z6.toNat-z1) fun cO=>
 sh (M.lX la ad) fun dJ=>
 sh (List.drop z1 dJ) fun kR=>
 sh (List.take cO kR) fun z3=>
 sh (↑(IntKind.i64.wrap (z6+(3:Int))).toNat:Int) fun z4=>
 sh (↑lb:Int) fun z5=>
 sh (↑(IntKind.i64.wrap (z5+(3:Int))).toNat:Int) fun z7=>
 sh (↑iI:Int) fun z8=>
 sh (140737488355328:Nat) fun cH=>
 sh (500000000:Nat) fun eG=>
 sh (non==(18446744073709551615:Int)) fun fE=>
 sh (0:Int) fun eT=>
 sh (9223372036854775807:Nat) fun kQ=>
 sh (↑(z5.toNat-z1):Int) fun jL=>
 sh (16:Nat) fun oC=>
 sh (List.drop z2.toNat bs) fun qE=>
 sh (M.lX lb bs) fun oH=>
 sh (z5.toNat-z2.toNat) fun vY=>
 sh (5:Nat) fun zV=>
 some (.go gO,[],[((List.take z1 []++M.gJ z9 non ad z0).length+(List.take vY qE).length)*(1:Nat)<=cH,eT<=z2/\z2<=z5/\z5<=z5,(z1+tM.length)*(1:Nat)<=cH,(z1+lg+M.OE z6.toNat z8.toNat)*oC<=cH/\z1+lg+M.OE z6.toNat z8.toNat<=kQ,(z1+lg)*oC<=cH/\z1+lg<=kQ,z6.toNat<=(1000000000:Nat),z8.toNat<=(1000000000:Nat),z6=(↑z6.toNat:Int),z8=(↑z8.toNat:Int),z9.length=(32:Nat),bG z9,M.tR non,bG ad,bG z0,ad.length<=eG,z0.length<=eG,z9=z9,non=non,la=la,ad.length=ad.length,n.toNat-z1=n.toNat-z1,z0.length=z0.length,ad=ad,List.take iI lW=List.take iI lW,fE=false,(!has)=false,eT<=eT/\eT<=n/\n<=z5,decide (IntKind.i64.wrap (z5-n)<(16:Int))=false,has=true,decide (n>z5)=false,decide (n<eT)=false,z9.length=(32:Nat),bG z3,bG oH,z3.length<=eG,n.toNat+oC<=z5.toNat-z1,z5.toNat-z1<=z7.toNat-z1,z5.toNat-z1<=oH.length,z7.toNat-z1<=eG,z1+cO<=dJ.length/\z6.toNat-z1<=z4.toNat-z1,z9=z9,non=non,z1=z1,z6.toNat-z1=z6.toNat-z1,z4.toNat-z1=z4.toNat-z1,z1+cO<=dJ.length/\z6.toNat-z1<=z4.toNat-z1,z3.length=z3.length,z1=z1,z5.toNat-z1=z5.toNat-z1,z7.toNat-z1=z7.toNat-z1,n=(↑n.toNat:Int),M.lX lb bs=M.lX lb bs/\zV=zV,List.take cO kR=List.take cO kR,z1+cO<=dJ.length/\z6.toNat-z1<=z4.toNat-z1,fE=false,decide (IntKind.i64.wrap (jL-n)<(16:Int))=false,(!has)=false,(!decide (n<=jL))=false,decide (n>=eT)=true,(kind==(3:Int))=true,(kind==(2:Int))=false,(kind==(1:Int))=false]++(M.Eo la lb ad bs++([(↑(n.toNat+oC):Int)=n',z2=m',IntKind.u64.wrap (non+(1:Int))=aV]++(M.gV key aX++([has=aW]++(M.gV key aX++([has=aW,IntKind.u64.wrap (non+(1:Int))=aV,kind=kind]++(M.gV xk xk++([num=num,la=la,lb=lb,n=n,M.lX la ad=aw/\zV=(5:TypeId),M.xX z9 non z3 oH n.toNat=bw/\zV=(5:TypeId),List.take z1 []++M.gJ z9 non ad z0++List.take vY qE=want,z1+lg+M.OE z6.toNat z8.toNat=dY]))))))))):=by kernel_rfl
theorem aRm (key aX:List Int) (has aW:Bool) (non aV:Int) (ad bs:List Int) (lg dY:Nat) (kind:Int) (xk:List Int) (num:Int) (la lb:Nat) (n n' m':Int) (aw bw want:List Int):fA (ΓD true [(17,[true,true,true,true]),(12,[false,false,false,false]),(26,[false,false,true,false]),(51,[false,false]),(30,[true])]) (dT key has non ad bs lg) 100 100 Tryz.f8 [] (dM true [(17,[true,true,true,true]),(12,[false,false,false,false]),(26,[false,false,true,false]),(51,[false,false]),(30,[true])] (dT key has non ad bs lg) 400 (.go gO) [] ((OP 100 Tryz.f8.ntmps (aC 100 (dT key has non ad bs lg)) 12 (aN (qD (.raw .nilIface) (0) (.buf 105) la lb n' m') (gN aX aW aV 106 (pP kind xk num la lb n) aw bw (.cD .u8 want 5) (.gone)++[(106,.bO 2 dY 165)]) 107 [60,65] [])).hint [true,true]))=some (Bn aX aW aV dY la lb ad aw bw want n' m'):=by kernel_rfl
set_option maxHeartbeats 1000000 in
theorem bAt {key ad bs xk:List Int} {has:Bool} {non num kind n:Int} {lg:Nat} (cX:ad.length<=200000) (dH:bs.length<=200000) (h1:kind=3) (hn:n<0) :
 aD Tryz.prog (ΓD true [(17,[true,true,true,true]),(12,[]),(26,[true]),(30,[false])]) 8 (pQ key has non kind xk num ad.length bs.length n) (dT key has non ad bs lg) 100 100 (Dg (key) has (non) (lg)):=by
 refine bU (cR true [(17,[true,true,true,true]),(12,[]),(26,[true]),(30,[false])]) (cS true [(17,[true,true,true,true]),(12,[]),(26,[true]),(30,[false])]) Tryz.func8 (by kernel_rfl) rfl (Nat.le_of_ble_eq_true (by kernel_rfl)) rfl [] ?_
 intro w0 Mx V0 Q bQ H
 have aM:=cR true [(17,[true,true,true,true]),(12,[]),(26,[true]),(30,[false])]
 have aE:=cS true [(17,[true,true,true,true]),(12,[]),(26,[true]),(30,[false])]
 refine G.cL aM aE mix bQ [false,false,true] (aRx key (key) has (has) non (non) ad bs lg (lg) kind xk num ad.length bs.length n (0) (0) (ad++M.t3) ((bs)++M.t3) (bs)) ?_ (G.mv 4 34 ?_)
 .simp only [Nat.sub_zero,Nat.zero_add,Nat.add_zero,Nat.mul_one,List.drop_zero,List.take_zero,List.nil_append,Int.toNat_natCast,M.cW cX,M.cW dH,M.oX cX,M.oX dH,List.length_replicate]
  repeat' (first | exact M.fJ rfl | exact M.gH cX dH | refine M.nM ?_ ?_)
  all_goals refine aA ?_
  all_goals simp only [aO]
  all_goals repeat' apply And.intro
  all_goals first | omega | (with_reducible assumption) | (with_reducible exact True.intro) | ((with_reducible refine decide_eq_true ?_);omega) | ((with_reducible refine decide_eq_false ?_);omega) | ((with_reducible refine iC ?_);omega) | ((with_reducible refine jR ?_);omega) | ((with_reducible refine pX ?_);omega) | ((with_reducible refine pW ?_);omega) | (with_reducible exact pZ hh) | (with_reducible exact pY hh) | with_reducible rfl | (simp only [decide_eq_false_iff_not,decide_eq_true_eq,Bool.not_eq_false',Bool.not_eq_true'];omega) | skip
 refine G.eX (cl:=[]) aM aE mix [true,true] H (aRw key (key) has (has) non (non) ad bs lg (lg) kind xk num ad.length bs.length n (0) (0) (ad++M.t3) ((bs)++M.t3) (bs)) (aA ?_) rfl rfl rfl
 exact gY cX dH rfl
set_option maxHeartbeats 1000000 in
theorem bAs {key ad bs xk:List Int} {has:Bool} {non num kind n:Int} {lg:Nat} (cX:ad.length<=200000) (dH:bs.length<=200000) (h1:kind=3) (hn:0<=n) (hn2:(bs.length:Int)<n) :
 aD Tryz.prog (ΓD true [(17,[true,true,true,true]),(12,[true]),(26,[false,true]),(30,[true])]) 8 (pQ key has non kind xk num ad.length bs.length n) (dT key has non ad bs lg) 100 100 (Dg (key) has (non) (lg)):=by
 refine bU (cR true [(17,[true,true,true,true]),(12,[true]),(26,[false,true]),(30,[true])]) (cS true [(17,[true,true,true,true]),(12,[true]),(26,[false,true]),(30,[true])]) Tryz.func8 (by kernel_rfl) rfl (Nat.le_of_ble_eq_true (by kernel_rfl)) rfl [] ?_
 intro w0 Mx V0 Q bQ H
 have aM:=cR true [(17,[true,true,true,true]),(12,[true]),(26,[false,true]),(30,[true])]
 have aE:=cS true [(17,[true,true,true,true]),(12,[true]),(26,[false,true]),(30,[true])]
 refine G.cL aM aE mix bQ [false,false,true] (aRv key (key) has (has) non (non) ad bs lg (lg) kind xk num ad.length bs.length n (0) (0) (ad++M.t3) ((bs)++M.t3) (bs)) ?_ (G.mv 4 34 ?_)
 .simp only [Nat.sub_zero,Nat.zero_add,Nat.add_zero,Nat.mul_one,List.drop_zero,List.take_zero,List.nil_append,Int.toNat_natCast,M.cW cX,M.cW dH,M.oX cX,M.oX dH,List.length_replicate]
  repeat' (first | exact M.fJ rfl | exact M.gH cX dH | refine M.nM ?_ ?_)
  all_goals refine aA ?_
  all_goals simp only [aO]
  all_goals repeat' apply And.intro
  all_goals first | omega | (with_reducible assumption) | (with_reducible exact True.intro) | ((with_reducible refine decide_eq_true ?_);omega) | ((with_reducible refine decide_eq_false ?_);omega) | ((with_reducible refine iC ?_);omega) | ((with_reducible refine jR ?_);omega) | ((with_reducible refine pX ?_);omega) | ((with_reducible refine pW ?_);omega) | (with_reducible exact pZ hh) | (with_reducible exact pY hh) | with_reducible rfl | (simp only [decide_eq_false_iff_not,decide_eq_true_eq,Bool.not_eq_false',Bool.not_eq_true'];omega) | skip
 refine G.eX (cl:=[]) aM aE mix [true,true] H (aRu key (key) has (has) non (non) ad bs lg (lg) kind xk num ad.length bs.length n (0) (0) (ad++M.t3) ((bs)++M.t3) (bs)) (aA ?_) rfl rfl rfl
 exact gY cX dH rfl
set_option maxHeartbeats 1000000 in
theorem bAr {key ad bs xk:List Int} {has:Bool} {non num kind:Int} {lg m:Nat} (cX:ad.length<=200000) (dH:bs.length<=200000) (h1:kind=3) (hh:has=false) (hm:m<=bs.length) :
 aD Tryz.prog (ΓD true [(17,[true,true,true,true]),(12,[false,true]),(26,[false,false,false]),(51,[true]),(30,[true])]) 8 (pQ key has non kind xk num ad.length bs.length (m:Int)) (dT key has non ad bs lg) 100 100 (Dg (key) has (non) (lg)):=by
 refine bU (cR true [(17,[true,true,true,true]),(12,[false,true]),(26,[false,false,false]),(51,[true]),(30,[true])]) (cS true [(17,[true,true,true,true]),(12,[false,true]),(26,[false,false,false]),(51,[true]),(30,[true])]) Tryz.func8 (by kernel_rfl) rfl (Nat.le_of_ble_eq_true (by kernel_rfl)) rfl [] ?_
 intro w0 Mx V0 Q bQ H
 have aM:=cR true [(17,[true,true,true,true]),(12,[false,true]),(26,[false,false,false]),(51,[true]),(30,[true])]
 have aE:=cS true [(17,[true,true,true,true]),(12,[false,true]),(26,[false,false,false]),(51,[true]),(30,[true])]
 have oY:(bs.take m).length=m:=by rw [List.length_take];omega
 have rF:List.take (bs.length-m) (List.drop m bs)=List.drop m bs:=List.take_of_length_le (by rw [List.length_drop];omega)
 have Od:List.take m bs++List.drop m bs=bs:=List.take_append_drop m bs
 have rY:(List.drop m bs).length=bs.length-m:=List.length_drop
 have ws:IntKind.i64.wrap ((bs.length:Int)-(m:Int))=((bs.length-m:Nat):Int):=bD (by omega) (by omega)
 refine G.cL aM aE mix bQ [false,false,true] (aRt key (key) has (has) non (non) ad bs lg (lg) kind xk num ad.length bs.length (m:Int) (m) (m) (ad++M.t3) ((bs)++M.t3) (bs)) ?_ (G.ro 12 (G.mv 4 34 ?_))
 .simp only [Nat.sub_zero,Nat.zero_add,Nat.add_zero,Nat.mul_one,List.drop_zero,List.take_zero,List.nil_append,Int.toNat_natCast,M.cW cX,M.cW dH,M.oX cX,M.oX dH,List.length_replicate,oY,rF,Od,ws,rY]
  repeat' (first | exact M.fJ rfl | exact M.gH cX dH | refine M.nM ?_ ?_)
  all_goals refine aA ?_
  all_goals simp only [aO]
  all_goals repeat' apply And.intro
  all_goals first | omega | (with_reducible assumption) | (with_reducible exact True.intro) | ((with_reducible refine decide_eq_true ?_);omega) | ((with_reducible refine decide_eq_false ?_);omega) | ((with_reducible refine iC ?_);omega) | ((with_reducible refine jR ?_);omega) | ((with_reducible refine pX ?_);omega) | ((with_reducible refine pW ?_);omega) | (with_reducible exact pZ hh) | (with_reducible exact pY hh) | with_reducible rfl | (simp only [decide_eq_false_iff_not,decide_eq_true_eq,Bool.not_eq_false',Bool.not_eq_true'];omega) | skip
 refine G.eX (cl:=[]) aM aE mix [true,true] H (aRs key (key) has (has) non (non) ad bs lg (lg) kind xk num ad.length bs.length (m:Int) (m) (m) (ad++M.t3) ((bs)++M.t3) (bs)) (aA ?_) rfl rfl rfl
 exact uH (by simp only [List.length_append,List.length_replicate,oY,rF,Od,ws,rY];first | done | omega) cX dH rfl
set_option maxHeartbeats 1000000 in
theorem bAq {key ad bs xk:List Int} {has:Bool} {non num kind:Int} {lg m:Nat} (cX:ad.length<=200000) (dH:bs.length<=200000) (h1:kind=3) (hh:has=true) (NT:bs.length<m+16) (hm:m<=bs.length) :
 aD Tryz.prog (ΓD true [(17,[true,true,true,true]),(12,[false,false,true]),(26,[false,false,true,true]),(30,[true])]) 8 (pQ key has non kind xk num ad.length bs.length (m:Int)) (dT key has non ad bs lg) 100 100 (Dg (key) has (non) (lg)):=by
 refine bU (cR true [(17,[true,true,true,true]),(12,[false,false,true]),(26,[false,false,true,true]),(30,[true])]) (cS true [(17,[true,true,true,true]),(12,[false,false,true]),(26,[false,false,true,true]),(30,[true])]) Tryz.func8 (by kernel_rfl) rfl (Nat.le_of_ble_eq_true (by kernel_rfl)) rfl [] ?_
 intro w0 Mx V0 Q bQ H
 have aM:=cR true [(17,[true,true,true,true]),(12,[false,false,true]),(26,[false,false,true,true]),(30,[true])]
 have aE:=cS true [(17,[true,true,true,true]),(12,[false,false,true]),(26,[false,false,true,true]),(30,[true])]
 have oY:(bs.take m).length=m:=by rw [List.length_take];omega
 have rF:List.take (bs.length-m) (List.drop m bs)=List.drop m bs:=List.take_of_length_le (by rw [List.length_drop];omega)
 have Od:List.take m bs++List.drop m bs=bs:=List.take_append_drop m bs
 have rY:(List.drop m bs).length=bs.length-m:=List.length_drop
 have ws:IntKind.i64.wrap ((bs.length:Int)-(m:Int))=((bs.length-m:Nat):Int):=bD (by omega) (by omega)
 refine G.cL aM aE mix bQ [false,false,true] (aRr key (key) has (has) non (non) ad bs lg (lg) kind xk num ad.length bs.length (m:Int) (0) (0) (ad++M.t3) ((bs)++M.t3) (bs)) ?_ (G.mv 4 34 ?_)
 .simp only [Nat.sub_zero,Nat.zero_add,Nat.add_zero,Nat.mul_one,List.drop_zero,List.take_zero,List.nil_append,Int.toNat_natCast,M.cW cX,M.cW dH,M.oX cX,M.oX dH,List.length_replicate,oY,rF,Od,ws,rY]
  repeat' (first | exact M.fJ rfl | exact M.gH cX dH | refine M.nM ?_ ?_)
  all_goals refine aA ?_
  all_goals simp only [aO]
  all_goals repeat' apply And.intro
  all_goals first | omega | (with_reducible assumption) | (with_reducible exact True.intro) | ((with_reducible refine decide_eq_true ?_);omega) | ((with_reducible refine decide_eq_false ?_);omega) | ((with_reducible refine iC ?_);omega) | ((with_reducible refine jR ?_);omega) | ((with_reducible refine pX ?_);omega) | ((with_reducible refine pW ?_);omega) | (with_reducible exact pZ hh) | (with_reducible exact pY hh) | with_reducible rfl | (simp only [decide_eq_false_iff_not,decide_eq_true_eq,Bool.not_eq_false',Bool.not_eq_true'];omega) | skip
 refine G.eX (cl:=[]) aM aE mix [true,true] H (aRq key (key) has (has) non (non) ad bs lg (lg) kind xk num ad.length bs.length (m:Int) (0) (0) (ad++M.t3) ((bs)++M.t3) (bs)) (aA ?_) rfl rfl rfl
 exact gY cX dH rfl
set_option maxHeartbeats 1000000 in
theorem bAp {key ad bs xk:List Int} {has:Bool} {non num kind:Int} {lg m:Nat} (cX:ad.length<=200000) (dH:bs.length<=200000) (h1:kind=3) (hh:has=true) (NT:m+16<=bs.length) (hl:non=18446744073709551615) (hm:m<=bs.length) :
 aD Tryz.prog (ΓD true [(17,[true,true,true,true]),(12,[false,false,false,true]),(26,[false,false,true,false]),(51,[false,true]),(30,[true])]) 8 (pQ key has non kind xk num ad.length bs.length (m:Int)) (dT key has non ad bs lg) 100 100 (Dg (key) has (non) (lg)):=by
 refine bU (cR true [(17,[true,true,true,true]),(12,[false,false,false,true]),(26,[false,false,true,false]),(51,[false,true]),(30,[true])]) (cS true [(17,[true,true,true,true]),(12,[false,false,false,true]),(26,[false,false,true,false]),(51,[false,true]),(30,[true])]) Tryz.func8 (by kernel_rfl) rfl (Nat.le_of_ble_eq_true (by kernel_rfl)) rfl [] ?_
 intro w0 Mx V0 Q bQ H
 have aM:=cR true [(17,[true,true,true,true]),(12,[false,false,false,true]),(26,[false,false,true,false]),(51,[false,true]),(30,[true])]
 have aE:=cS true [(17,[true,true,true,true]),(12,[false,false,false,true]),(26,[false,false,true,false]),(51,[false,true]),(30,[true])]
 have oY:(bs.take m).length=m:=by rw [List.length_take];omega
 have rF:List.take (bs.length-m) (List.drop m bs)=List.drop m bs:=List.take_of_length_le (by rw [List.length_drop];omega)
 have Od:List.take m bs++List.drop m bs=bs:=List.take_append_drop m bs
 have rY:(List.drop m bs).length=bs.length-m:=List.length_drop
 have ws:IntKind.i64.wrap ((bs.length:Int)-(m:Int))=((bs.length-m:Nat):Int):=bD (by omega) (by omega)
 refine G.cL aM aE mix bQ [false,false,true] (aRp key (key) has (has) non (non) ad bs lg (lg) kind xk num ad.length bs.length (m:Int) (0) (0) (ad++M.t3) ((bs)++M.t3) (bs)) ?_ (G.mv 4 34 ?_)
 .simp only [Nat.sub_zero,Nat.zero_add,Nat.add_zero,Nat.mul_one,List.drop_zero,List.take_zero,List.nil_append,Int.toNat_natCast,M.cW cX,M.cW dH,M.oX cX,M.oX dH,List.length_replicate,oY,rF,Od,ws,rY]
  repeat' (first | exact M.fJ rfl | exact M.gH cX dH | refine M.nM ?_ ?_)
  all_goals refine aA ?_
  all_goals simp only [aO]
  all_goals repeat' apply And.intro
  all_goals first | omega | (with_reducible assumption) | (with_reducible exact True.intro) | ((with_reducible refine decide_eq_true ?_);omega) | ((with_reducible refine decide_eq_false ?_);omega) | ((with_reducible refine iC ?_);omega) | ((with_reducible refine jR ?_);omega) | ((with_reducible refine pX ?_);omega) | ((with_reducible refine pW ?_);omega) | (with_reducible exact pZ hh) | (with_reducible exact pY hh) | with_reducible rfl | (simp only [decide_eq_false_iff_not,decide_eq_true_eq,Bool.not_eq_false',Bool.not_eq_true'];omega) | skip
 refine G.eX (cl:=[]) aM aE mix [true,true] H (aRo key (key) has (has) non (non) ad bs lg (lg) kind xk num ad.length bs.length (m:Int) (0) (0) (ad++M.t3) ((bs)++M.t3) (bs)) (aA ?_) rfl rfl rfl
 exact gY cX dH rfl
set_option maxHeartbeats 1000000 in
theorem bAo {key ad bs xk:List Int} {has:Bool} {non num kind:Int} {lg m:Nat} (cX:ad.length<=200000) (dH:bs.length<=200000) (h1:kind=3) (hh:has=true) (NT:m+16<=bs.length) (hl:non≠18446744073709551615) (hm:m<=bs.length) (hk:key.length=32) (Gr:bG key) (vU:M.tR non) (Vo:bG ad) (pT:bG bs) (NU:lg<=7900000000000) :
 aD Tryz.prog (ΓD true [(17,[true,true,true,true]),(12,[false,false,false,false]),(26,[false,false,true,false]),(51,[false,false]),(30,[true])]) 8 (pQ key has non kind xk num ad.length bs.length (m:Int)) (dT key has non ad bs lg) 100 100 (Dg (key) has (non+1) (lg+M.OE ad.length m)):=by
 refine bU (cR true [(17,[true,true,true,true]),(12,[false,false,false,false]),(26,[false,false,true,false]),(51,[false,false]),(30,[true])]) (cS true [(17,[true,true,true,true]),(12,[false,false,false,false]),(26,[false,false,true,false]),(51,[false,false]),(30,[true])]) Tryz.func8 (by kernel_rfl) rfl (Nat.le_of_ble_eq_true (by kernel_rfl)) rfl [] ?_
 intro w0 Mx V0 Q bQ H
 have aM:=cR true [(17,[true,true,true,true]),(12,[false,false,false,false]),(26,[false,false,true,false]),(51,[false,false]),(30,[true])]
 have aE:=cS true [(17,[true,true,true,true]),(12,[false,false,false,false]),(26,[false,false,true,false]),(51,[false,false]),(30,[true])]
 have oY:(bs.take m).length=m:=by rw [List.length_take];omega
 have rF:List.take (bs.length-m) (List.drop m bs)=List.drop m bs:=List.take_of_length_le (by rw [List.length_drop];omega)
 have Od:List.take m bs++List.drop m bs=bs:=List.take_append_drop m bs
 have rY:(List.drop m bs).length=bs.length-m:=List.length_drop
 have ws:IntKind.i64.wrap ((bs.length:Int)-(m:Int))=((bs.length-m:Nat):Int):=bD (by omega) (by omega)
 have Ad:=M.nZ hk
 have AT:=M.wY Vo
 have hbt:=M.wY pT
 have ta:=M.lL ad
 have YZ:=M.kY ad
 have YY:=M.kY bs
 simp only [Nat.sub_zero,Nat.zero_add,Nat.add_zero,Nat.mul_one,List.drop_zero,List.take_zero,List.nil_append] at ta
 have hN0:=vU.1
 have hN1:=vU.2
 have hes:=M.Ig (a:=ad.length) (n:=m) (by omega) (by omega)
 have aLx:=M.qQ (a:=ad.length) (n:=m) true (by omega) (by omega)
 have aLy:=M.qQ (a:=ad.length) (n:=m) false (by omega) (by omega)
 have wn:IntKind.u64.wrap (non+1)=non+1:=IntWalk.u64_in _ ⟨by omega,by omega⟩
 have Dk:=M.lS key non ad (bs.take m)
 rw [oY] at Dk
 have hse:=M.Tv key non ad (t:=M.t3) NT
 have aLq:List.take (bs.length-(m+16)) (List.drop (m+16) bs)=List.drop (m+16) bs:=List.take_of_length_le (by rw [List.length_drop];omega)
 have aMa:=M.kM m pT
 have NX:(List.drop (m+16) bs).length=bs.length-(m+16):=List.length_drop
 have YR:IntKind.i64.wrap ((m:Int)+16)=((m+16:Nat):Int):=bD (by omega) (by omega)
 refine G.cL aM aE mix bQ [false,false,true] (aRn key (key) has (has) non (non+1) ad bs lg (lg+M.OE ad.length m) kind xk num ad.length bs.length (m:Int) (((m+16:Nat):Int)) (((m+16:Nat):Int)) (ad++M.t3) ((M.gJ key non ad (bs.take m)++bs.drop (m+16))++M.t3) (M.gJ key non ad (bs.take m)++bs.drop (m+16))) ?_ (G.ro 12 ?_)
 .simp only [Nat.sub_zero,Nat.zero_add,Nat.add_zero,Nat.mul_one,List.drop_zero,List.take_zero,List.nil_append,Int.toNat_natCast,M.cW cX,M.cW dH,M.oX cX,M.oX dH,List.length_replicate,oY,rF,Od,ws,rY,Ad,ta,YZ,YY,Dk,hse,aLq,wn,YR,NX]
  repeat' (first | exact M.fJ rfl | exact M.gH cX dH | refine M.nM ?_ ?_)
  all_goals refine aA ?_
  all_goals simp only [aO]
  all_goals repeat' apply And.intro
  all_goals first | omega | (with_reducible assumption) | (with_reducible exact True.intro) | ((with_reducible refine decide_eq_true ?_);omega) | ((with_reducible refine decide_eq_false ?_);omega) | ((with_reducible refine iC ?_);omega) | ((with_reducible refine jR ?_);omega) | ((with_reducible refine pX ?_);omega) | ((with_reducible refine pW ?_);omega) | (with_reducible exact pZ hh) | (with_reducible exact pY hh) | with_reducible rfl | (simp only [decide_eq_false_iff_not,decide_eq_true_eq,Bool.not_eq_false',Bool.not_eq_true'];omega) | skip
 refine G.eX (cl:=[]) aM aE mix [true,true] H (aRm key (key) has (has) non (non+1) ad bs lg (lg+M.OE ad.length m) kind xk num ad.length bs.length (m:Int) (((m+16:Nat):Int)) (((m+16:Nat):Int)) (ad++M.t3) ((M.gJ key non ad (bs.take m)++bs.drop (m+16))++M.t3) (M.gJ key non ad (bs.take m)++bs.drop (m+16))) (aA ?_) rfl rfl rfl
 exact uH (by simp only [List.length_append,List.length_replicate,oY,rF,Od,ws,rY,Ad,ta,YZ,YY,Dk,hse,aLq,wn,YR,NX];first | done | omega) cX dH rfl
theorem aSq (key aX:List Int) (has aW:Bool) (non aV:Int) (ad bs:List Int) (lg dY:Nat) (kind:Int) (xk:List Int) (num:Int) (la lb:Nat) (n n' m':Int) (aw bw want:List Int) :
 (cL 100 Tryz.f8.ntmps (aC 100 (dT key has non ad bs lg)) [.Jw 12] (qD (.jS 367 (.ptr 40 true 0)) (1) (.dX 105 lb) la lb n' m') (gN aX aW aV 65 (pP kind xk num la lb n) aw bw (.dK .u8 bs) (.bO 2 lg 165)) 106 [60,65] [] (dM true [(17,[true,true,true,true]),(13,[]),(27,[true]),(30,[false])] (dT key has non ad bs lg) 45 (.go (codeOf Tryz.f8)) [] ((gU (pQ key has non kind xk num la lb n) 100).hint [false,false,false,true]))) =
 sh (0:Int) fun z0=>
 some (.go gO,[],[decide (n<z0)=true,decide (n>=z0)=false,(kind==(4:Int))=true,(kind==(3:Int))=false,(kind==(2:Int))=false,(kind==(1:Int))=false]++(M.Eo la lb ad bs++([lb=lb,z0=n',z0=m',non=aV]++(M.gV key aX++([has=aW,lg=lg]++(M.gV key aX++([has=aW,non=aV,kind=kind]++(M.gV xk xk++([num=num,la=la,lb=lb,n=n,M.lX la ad=aw/\(5:Nat)=(5:TypeId),M.lX lb bs=bw/\(5:Nat)=(5:TypeId),bs=bs]))))))))):=by kernel_rfl
theorem aSp (key aX:List Int) (has aW:Bool) (non aV:Int) (ad bs:List Int) (lg dY:Nat) (kind:Int) (xk:List Int) (num:Int) (la lb:Nat) (n n' m':Int) (aw bw want:List Int):fA (ΓD true [(17,[true,true,true,true]),(13,[]),(27,[true]),(30,[false])]) (dT key has non ad bs lg) 100 100 Tryz.f8 [] (dM true [(17,[true,true,true,true]),(13,[]),(27,[true]),(30,[false])] (dT key has non ad bs lg) 400 (.go gO) [] ((Oc 100 Tryz.f8.ntmps (aC 100 (dT key has non ad bs lg)) 4 34 (aN (qD (.jS 367 (.ptr 40 true 0)) (1) (.dX 105 lb) la lb n' m') (gN aX aW aV 65 (pP kind xk num la lb n) aw bw (.dK .u8 bs) (.bO 2 lg 165)) 106 [60,65] [])).hint [true,true]))=some (mX aX aW aV lg la lb ad aw bw bs n' m'):=by kernel_rfl
theorem aSo (key aX:List Int) (has aW:Bool) (non aV:Int) (ad bs:List Int) (lg dY:Nat) (kind:Int) (xk:List Int) (num:Int) (la lb:Nat) (n n' m':Int) (aw bw want:List Int) :
 (cL 100 Tryz.f8.ntmps (aC 100 (dT key has non ad bs lg)) [.Jw 12] (qD (.jS 367 (.ptr 40 true 0)) (1) (.dX 105 lb) la lb n' m') (gN aX aW aV 65 (pP kind xk num la lb n) aw bw (.dK .u8 bs) (.bO 2 lg 165)) 106 [60,65] [] (dM true [(17,[true,true,true,true]),(13,[true]),(27,[false,true]),(30,[true])] (dT key has non ad bs lg) 45 (.go (codeOf Tryz.f8)) [] ((gU (pQ key has non kind xk num la lb n) 100).hint [false,false,false,true]))) =
 sh (0:Int) fun z0=>
 some (.go gO,[],[decide (n>(↑lb:Int))=true,decide (n<z0)=false,(!decide (n<=(↑((↑lb:Int).toNat-(0:Nat)):Int)))=true,decide (n>=z0)=true,(kind==(4:Int))=true,(kind==(3:Int))=false,(kind==(2:Int))=false,(kind==(1:Int))=false]++(M.Eo la lb ad bs++([lb=lb,z0=n',z0=m',non=aV]++(M.gV key aX++([has=aW,lg=lg]++(M.gV key aX++([has=aW,non=aV,kind=kind]++(M.gV xk xk++([num=num,la=la,lb=lb,n=n,M.lX la ad=aw/\(5:Nat)=(5:TypeId),M.lX lb bs=bw/\(5:Nat)=(5:TypeId),bs=bs]))))))))):=by kernel_rfl
theorem aSn (key aX:List Int) (has aW:Bool) (non aV:Int) (ad bs:List Int) (lg dY:Nat) (kind:Int) (xk:List Int) (num:Int) (la lb:Nat) (n n' m':Int) (aw bw want:List Int):fA (ΓD true [(17,[true,true,true,true]),(13,[true]),(27,[false,true]),(30,[true])]) (dT key has non ad bs lg) 100 100 Tryz.f8 [] (dM true [(17,[true,true,true,true]),(13,[true]),(27,[false,true]),(30,[true])] (dT key has non ad bs lg) 400 (.go gO) [] ((Oc 100 Tryz.f8.ntmps (aC 100 (dT key has non ad bs lg)) 4 34 (aN (qD (.jS 367 (.ptr 40 true 0)) (1) (.dX 105 lb) la lb n' m') (gN aX aW aV 65 (pP kind xk num la lb n) aw bw (.dK .u8 bs) (.bO 2 lg 165)) 106 [60,65] [])).hint [true,true]))=some (mX aX aW aV lg la lb ad aw bw bs n' m'):=by kernel_rfl
theorem aSm (key aX:List Int) (has aW:Bool) (non aV:Int) (ad bs:List Int) (lg dY:Nat) (kind:Int) (xk:List Int) (num:Int) (la lb:Nat) (n n' m':Int) (aw bw want:List Int) :
 (cL 100 Tryz.f8.ntmps (aC 100 (dT key has non ad bs lg)) [] (qD (.raw .nilIface) (0) (.buf 105) la lb n' m') (gN aX aW aV 65 (pP kind xk num la lb n) aw bw (.cD .u8 want 5) (.bO 2 lg 165)) 106 [60,65] [] (dM true [(17,[true,true,true,true]),(13,[false,true]),(27,[false,false]),(52,[true]),(30,[true])] (dT key has non ad bs lg) 45 (.go (codeOf Tryz.f8)) [] ((gU (pQ key has non kind xk num la lb n) 100).hint [false,false,false,true]))) =
 sh (0:Nat) fun z3=>
 sh (List.take z3 []++List.take (n.toNat-z3) (List.drop z3 bs)) fun z0=>
 sh (↑z0.length:Int) fun z1=>
 sh (↑lb:Int) fun z2=>
 sh (140737488355328:Nat) fun z4=>
 sh (0:Int) fun z5=>
 sh (List.drop z1.toNat bs) fun z6=>
 sh (z2.toNat-z1.toNat) fun z7=>
 some (.go gO,[],[((List.take z3 []++z0).length+(List.take z7 z6).length)*(1:Nat)<=z4,z5<=z1/\z1<=z2/\z2<=z2,(z3+z0.length)*(1:Nat)<=z4,(z3+(List.take (n.toNat-z3) (List.drop z3 bs)).length)*(1:Nat)<=z4,(!has)=true,z5<=z5/\z5<=n/\n<=z2,decide (n>z2)=false,decide (n<z5)=false,(!has)=true,(!decide (n<=(↑(z2.toNat-z3):Int)))=false,decide (n>=z5)=true,(kind==(4:Int))=true,(kind==(3:Int))=false,(kind==(2:Int))=false,(kind==(1:Int))=false]++(M.Eo la lb ad bs++([n=n',z1=m',non=aV]++(M.gV key aX++([has=aW,lg=lg]++(M.gV key aX++([has=aW,non=aV,kind=kind]++(M.gV xk xk++([num=num,la=la,lb=lb,n=n,M.lX la ad=aw/\(5:Nat)=(5:TypeId),M.lX lb bs=bw/\(5:Nat)=(5:TypeId),List.take z3 []++z0++List.take z7 z6=want]))))))))):=by kernel_rfl
theorem aSl (key aX:List Int) (has aW:Bool) (non aV:Int) (ad bs:List Int) (lg dY:Nat) (kind:Int) (xk:List Int) (num:Int) (la lb:Nat) (n n' m':Int) (aw bw want:List Int):fA (ΓD true [(17,[true,true,true,true]),(13,[false,true]),(27,[false,false]),(52,[true]),(30,[true])]) (dT key has non ad bs lg) 100 100 Tryz.f8 [] (dM true [(17,[true,true,true,true]),(13,[false,true]),(27,[false,false]),(52,[true]),(30,[true])] (dT key has non ad bs lg) 400 (.go gO) [] ((Oc 100 Tryz.f8.ntmps (aC 100 (dT key has non ad bs lg)) 4 34 (OP 100 Tryz.f8.ntmps (aC 100 (dT key has non ad bs lg)) 12 (aN (qD (.raw .nilIface) (0) (.buf 105) la lb n' m') (gN aX aW aV 65 (pP kind xk num la lb n) aw bw (.cD .u8 want 5) (.bO 2 lg 165)) 106 [60,65] []))).hint [true,true]))=some (Bn aX aW aV lg la lb ad aw bw want n' m'):=by kernel_rfl
theorem aSk (key aX:List Int) (has aW:Bool) (non aV:Int) (ad bs:List Int) (lg dY:Nat) (kind:Int) (xk:List Int) (num:Int) (la lb:Nat) (n n' m':Int) (aw bw want:List Int) :
 (cL 100 Tryz.f8.ntmps (aC 100 (dT key has non ad bs lg)) [.Jw 12] (qD (.jS 367 (.ptr 44 true 0)) (4) (.dX 105 lb) la lb n' m') (gN aX aW aV 65 (pP kind xk num la lb n) aw bw (.dK .u8 bs) (.bO 2 lg 165)) 106 [60,65] [] (dM true [(17,[true,true,true,true]),(13,[false,false,true]),(27,[false,false]),(52,[false,true]),(30,[true])] (dT key has non ad bs lg) 45 (.go (codeOf Tryz.f8)) [] ((gU (pQ key has non kind xk num la lb n) 100).hint [false,false,false,true]))) =
 sh (0:Int) fun z0=>
 sh (↑lb:Int) fun z1=>
 some (.go gO,[],[decide ((↑(n.toNat-(0:Nat)):Int)<(16:Int))=true,(!has)=false,z0<=z0/\z0<=n/\n<=z1,decide (n>z1)=false,decide (n<z0)=false,decide (n<(16:Int))=true,(!has)=false,(!decide (n<=(↑(z1.toNat-(0:Nat)):Int)))=false,decide (n>=z0)=true,(kind==(4:Int))=true,(kind==(3:Int))=false,(kind==(2:Int))=false,(kind==(1:Int))=false]++(M.Eo la lb ad bs++([lb=lb,z0=n',z0=m',non=aV]++(M.gV key aX++([has=aW,lg=lg]++(M.gV key aX++([has=aW,non=aV,kind=kind]++(M.gV xk xk++([num=num,la=la,lb=lb,n=n,M.lX la ad=aw/\(5:Nat)=(5:TypeId),M.lX lb bs=bw/\(5:Nat)=(5:TypeId),bs=bs]))))))))):=by kernel_rfl
theorem aSj (key aX:List Int) (has aW:Bool) (non aV:Int) (ad bs:List Int) (lg dY:Nat) (kind:Int) (xk:List Int) (num:Int) (la lb:Nat) (n n' m':Int) (aw bw want:List Int):fA (ΓD true [(17,[true,true,true,true]),(13,[false,false,true]),(27,[false,false]),(52,[false,true]),(30,[true])]) (dT key has non ad bs lg) 100 100 Tryz.f8 [] (dM true [(17,[true,true,true,true]),(13,[false,false,true]),(27,[false,false]),(52,[false,true]),(30,[true])] (dT key has non ad bs lg) 400 (.go gO) [] ((Oc 100 Tryz.f8.ntmps (aC 100 (dT key has non ad bs lg)) 4 34 (aN (qD (.jS 367 (.ptr 44 true 0)) (4) (.dX 105 lb) la lb n' m') (gN aX aW aV 65 (pP kind xk num la lb n) aw bw (.dK .u8 bs) (.bO 2 lg 165)) 106 [60,65] [])).hint [true,true]))=some (mX aX aW aV lg la lb ad aw bw bs n' m'):=by kernel_rfl
theorem aSi (key aX:List Int) (has aW:Bool) (non aV:Int) (ad bs:List Int) (lg dY:Nat) (kind:Int) (xk:List Int) (num:Int) (la lb:Nat) (n n' m':Int) (aw bw want:List Int) :
 (cL 100 Tryz.f8.ntmps (aC 100 (dT key has non ad bs lg)) [.Jw 12] (qD (.jS 367 (.ptr 43 true 0)) (5) (.dX 105 lb) la lb n' m') (gN aX aW aV 65 (pP kind xk num la lb n) aw bw (.dK .u8 bs) (.bO 2 lg 165)) 106 [60,65] [] (dM true [(17,[true,true,true,true]),(13,[false,false,false,true]),(27,[false,false]),(52,[false,false,true]),(30,[true])] (dT key has non ad bs lg) 45 (.go (codeOf Tryz.f8)) [] ((gU (pQ key has non kind xk num la lb n) 100).hint [false,false,false,true]))) =
 sh (0:Int) fun z0=>
 sh (non==(18446744073709551615:Int)) fun z1=>
 sh (↑lb:Int) fun z2=>
 some (.go gO,[],[z1=true,decide ((↑(n.toNat-(0:Nat)):Int)<(16:Int))=false,(!has)=false,z0<=z0/\z0<=n/\n<=z2,decide (n>z2)=false,decide (n<z0)=false,z1=true,decide (n<(16:Int))=false,(!has)=false,(!decide (n<=(↑(z2.toNat-(0:Nat)):Int)))=false,decide (n>=z0)=true,(kind==(4:Int))=true,(kind==(3:Int))=false,(kind==(2:Int))=false,(kind==(1:Int))=false]++(M.Eo la lb ad bs++([lb=lb,z0=n',z0=m',non=aV]++(M.gV key aX++([has=aW,lg=lg]++(M.gV key aX++([has=aW,non=aV,kind=kind]++(M.gV xk xk++([num=num,la=la,lb=lb,n=n,M.lX la ad=aw/\(5:Nat)=(5:TypeId),M.lX lb bs=bw/\(5:Nat)=(5:TypeId),bs=bs]))))))))):=by kernel_rfl
theorem aSh (key aX:List Int) (has aW:Bool) (non aV:Int) (ad bs:List Int) (lg dY:Nat) (kind:Int) (xk:List Int) (num:Int) (la lb:Nat) (n n' m':Int) (aw bw want:List Int):fA (ΓD true [(17,[true,true,true,true]),(13,[false,false,false,true]),(27,[false,false]),(52,[false,false,true]),(30,[true])]) (dT key has non ad bs lg) 100 100 Tryz.f8 [] (dM true [(17,[true,true,true,true]),(13,[false,false,false,true]),(27,[false,false]),(52,[false,false,true]),(30,[true])] (dT key has non ad bs lg) 400 (.go gO) [] ((Oc 100 Tryz.f8.ntmps (aC 100 (dT key has non ad bs lg)) 4 34 (aN (qD (.jS 367 (.ptr 43 true 0)) (5) (.dX 105 lb) la lb n' m') (gN aX aW aV 65 (pP kind xk num la lb n) aw bw (.dK .u8 bs) (.bO 2 lg 165)) 106 [60,65] [])).hint [true,true]))=some (mX aX aW aV lg la lb ad aw bw bs n' m'):=by kernel_rfl
theorem aSg (key aX:List Int) (has aW:Bool) (non aV:Int) (ad bs:List Int) (lg dY:Nat) (kind:Int) (xk:List Int) (num:Int) (la lb:Nat) (n n' m':Int) (aw bw want:List Int) :
 (cL 100 Tryz.f8.ntmps (aC 100 (dT key has non ad bs lg)) [] (qD (.jS 367 (.ptr 48 true 0)) (6) (.buf 105) la lb n' m') (gN aX aW aV 106 (pP kind xk num la lb n) aw bw (.cD .u8 want 5) (.gone)++[(106,.bO 2 dY 165)]) 107 [60,65] [] (dM false [(17,[true,true,true,true]),(13,[false,false,false,false]),(27,[false,false]),(52,[false,false,false]),(30,[true])] (dT key has non ad bs lg) 45 (.go (codeOf Tryz.f8)) [] ((gU (pQ key has non kind xk num la lb n) 100).hint [false,false,false,true]))) =
 sh (0:Nat) fun z0=>
 sh (n-(16:Int)) fun cH=>
 sh (IntKind.i64.wrap cH) fun z1=>
 sh (n.toNat-z0) fun oC=>
 sh (List.drop z0 bs) fun tM=>
 sh (List.take oC tM) fun z2=>
 sh (↑la:Int) fun z6=>
 sh (z6.toNat-z0) fun eG=>
 sh (M.lX la ad) fun iI=>
 sh (List.drop z0 iI) fun oH=>
 sh (List.take eG oH) fun z3=>
 sh (↑(IntKind.i64.wrap (z6+(3:Int))).toNat:Int) fun z4=>
 sh (↑lb:Int) fun z9=>
 sh (↑(IntKind.i64.wrap (z9+(3:Int))).toNat:Int) fun z5=>
 sh (16:Nat) fun z7=>
 sh (↑oC:Int) fun z8=>
 sh (0:Int) fun cO=>
 sh (M.Js key) fun dJ=>
 sh (List.replicate z1.toNat cO) fun fE=>
 sh (9223372036854775807:Nat) fun eT=>
 sh (500000000:Nat) fun kR=>
 sh (140737488355328:Nat) fun lW=>
 sh (M.lX lb bs) fun kQ=>
 sh (non==(18446744073709551615:Int)) fun jL=>
 sh (n.toNat-z7) fun qE=>
 sh (z8.toNat-z7) fun vY=>
 sh (List.drop z1.toNat bs) fun zV=>
 sh (z9.toNat-z1.toNat) fun Oj=>
 sh (5:Nat) fun Jx=>
 some (.go gO,[],[((List.take z1.toNat fE).length+(List.take Oj zV).length)*(1:Nat)<=lW,z1.toNat=fE.length/\z1.toNat<=z1.toNat/\z1.toNat<=eT,cO<=IntKind.i64.wrap cH/\IntKind.i64.wrap cH<=z9/\z9<=z9,cO<=IntKind.i64.wrap cH/\IntKind.i64.wrap cH<=IntKind.i64.wrap cH/\(1:Int)*IntKind.i64.wrap cH<=(281474976710656:Int)/\IntKind.i64.wrap cH<(9223372036854775808:Int),(z0+lg+M.rV z6.toNat vY false)*z7<=lW/\z0+lg+M.rV z6.toNat vY false<=eT,(z0+lg)*z7<=lW/\z0+lg<=eT,z6.toNat<=(1000000000:Nat),z8.toNat-z7<=(1000000000:Nat),z6=(↑z6.toNat:Int),z8=(↑(z8.toNat-z7+z7):Int),false=false,dJ.length=(32:Nat),bG dJ,M.tR non,bG ad,bG z2,ad.length<=kR,z2.length<=kR,z7<=z2.length,decide (M.gI dJ non ad (List.take (z2.length-z7) z2)=List.drop (z2.length-z7) z2)=false,dJ=dJ,non=non,la=la,ad.length=ad.length,n.toNat-z0=n.toNat-z0,z2.length=z2.length,ad=ad,List.take oC tM=List.take oC tM,jL=false,decide (z8<(16:Int))=false,(!has)=false,cO<=cO/\cO<=n/\n<=z9,decide (n>z9)=false,decide (n<cO)=false,dJ.length=(32:Nat),bG z3,bG kQ,z3.length<=kR,n.toNat-z7+z7<=z9.toNat-z0,z9.toNat-z0<=z5.toNat-z0,z9.toNat-z0<=kQ.length,z5.toNat-z0<=kR,decide (M.gI dJ non z3 (List.take qE kQ)=List.take z7 (List.drop qE kQ))=false,z0+eG<=iI.length/\z6.toNat-z0<=z4.toNat-z0,dJ=dJ,non=non,z0=z0,z6.toNat-z0=z6.toNat-z0,z4.toNat-z0=z4.toNat-z0,z0+eG<=iI.length/\z6.toNat-z0<=z4.toNat-z0,z3.length=z3.length,z0=z0,z9.toNat-z0=z9.toNat-z0,z5.toNat-z0=z5.toNat-z0,n=(↑(n.toNat-z7+z7):Int),M.lX lb bs=M.lX lb bs/\Jx=Jx,List.take eG oH=List.take eG oH,z0+eG<=iI.length/\z6.toNat-z0<=z4.toNat-z0,jL=false,decide (n<(16:Int))=false,(!has)=false,(!decide (n<=(↑(z9.toNat-z0):Int)))=false,decide (n>=cO)=true,(kind==(4:Int))=true,(kind==(3:Int))=false,(kind==(2:Int))=false,(kind==(1:Int))=false]++(M.Eo la lb ad bs++([cO=n',cO=m',non=aV]++(M.gV key aX++([has=aW]++(M.gV key aX++([has=aW,non=aV,kind=kind]++(M.gV xk xk++([num=num,la=la,lb=lb,n=n,M.lX la ad=aw/\Jx=(5:TypeId),List.replicate qE cO++List.drop qE kQ=bw/\Jx=(5:TypeId),List.take z1.toNat fE++List.take Oj zV=want,z0+lg+M.rV z6.toNat vY false=dY]))))))))):=by kernel_rfl
theorem aSf (key aX:List Int) (has aW:Bool) (non aV:Int) (ad bs:List Int) (lg dY:Nat) (kind:Int) (xk:List Int) (num:Int) (la lb:Nat) (n n' m':Int) (aw bw want:List Int):fA (ΓD false [(17,[true,true,true,true]),(13,[false,false,false,false]),(27,[false,false]),(52,[false,false,false]),(30,[true])]) (dT key has non ad bs lg) 100 100 Tryz.f8 [] (dM false [(17,[true,true,true,true]),(13,[false,false,false,false]),(27,[false,false]),(52,[false,false,false]),(30,[true])] (dT key has non ad bs lg) 400 (.go gO) [] ((OP 100 Tryz.f8.ntmps (aC 100 (dT key has non ad bs lg)) 12 (aN (qD (.jS 367 (.ptr 48 true 0)) (6) (.buf 105) la lb n' m') (gN aX aW aV 106 (pP kind xk num la lb n) aw bw (.cD .u8 want 5) (.gone)++[(106,.bO 2 dY 165)]) 107 [60,65] [])).hint [true,true]))=some (Bn aX aW aV dY la lb ad aw bw want n' m'):=by kernel_rfl
theorem aSe (key aX:List Int) (has aW:Bool) (non aV:Int) (ad bs:List Int) (lg dY:Nat) (kind:Int) (xk:List Int) (num:Int) (la lb:Nat) (n n' m':Int) (aw bw want:List Int) :
 (cL 100 Tryz.f8.ntmps (aC 100 (dT key has non ad bs lg)) [] (qD (.raw .nilIface) (0) (.buf 105) la lb n' m') (gN aX aW aV 106 (pP kind xk num la lb n) aw bw (.cD .u8 want 5) (.gone)++[(106,.bO 2 dY 165)]) 107 [60,65] [] (dM true [(17,[true,true,true,true]),(13,[false,false,false,false]),(27,[false,false]),(52,[false,false,false]),(30,[true])] (dT key has non ad bs lg) 45 (.go (codeOf Tryz.f8)) [] ((gU (pQ key has non kind xk num la lb n) 100).hint [false,false,false,true]))) =
 sh (0:Nat) fun z2=>
 sh (n.toNat-z2) fun lW=>
 sh (List.drop z2 bs) fun qE=>
 sh (List.take lW qE) fun z0=>
 sh (M.Js key) fun cO=>
 sh (16:Nat) fun z7=>
 sh (List.take (z0.length-z7) z0) fun cH=>
 sh (↑(M.gW cO non cH).length:Int) fun z1=>
 sh (↑la:Int) fun z6=>
 sh (z6.toNat-z2) fun eG=>
 sh (M.lX la ad) fun fE=>
 sh (List.drop z2 fE) fun oC=>
 sh (List.take eG oC) fun z3=>
 sh (↑(IntKind.i64.wrap (z6+(3:Int))).toNat:Int) fun z4=>
 sh (↑lb:Int) fun z9=>
 sh (↑(IntKind.i64.wrap (z9+(3:Int))).toNat:Int) fun z5=>
 sh (↑lW:Int) fun z8=>
 sh (140737488355328:Nat) fun dJ=>
 sh (500000000:Nat) fun iI=>
 sh (M.lX lb bs) fun eT=>
 sh (non==(18446744073709551615:Int)) fun kR=>
 sh (n.toNat-z7) fun kQ=>
 sh (0:Int) fun jL=>
 sh (z8.toNat-z7) fun oH=>
 sh (9223372036854775807:Nat) fun tM=>
 sh (List.drop z1.toNat bs) fun vY=>
 sh (z9.toNat-z1.toNat) fun zV=>
 sh (5:Nat) fun Oj=>
 sh (1:Int) fun Jx=>
 some (.go gO,[],[((List.take z2 []++M.gW cO non cH).length+(List.take zV vY).length)*(1:Nat)<=dJ,jL<=z1/\z1<=z9/\z9<=z9,(z2+(M.gW cO non cH).length)*(1:Nat)<=dJ,(z2+lg+M.rV z6.toNat oH true)*z7<=dJ/\z2+lg+M.rV z6.toNat oH true<=tM,(z2+lg)*z7<=dJ/\z2+lg<=tM,z6.toNat<=(1000000000:Nat),z8.toNat-z7<=(1000000000:Nat),z6=(↑z6.toNat:Int),z8=(↑(z8.toNat-z7+z7):Int),true=true,cO.length=(32:Nat),bG cO,M.tR non,bG ad,bG z0,ad.length<=iI,z0.length<=iI,z7<=z0.length,decide (M.gI cO non ad cH=List.drop (z0.length-z7) z0)=true,cO=cO,non=non,la=la,ad.length=ad.length,n.toNat-z2=n.toNat-z2,z0.length=z0.length,ad=ad,List.take lW qE=List.take lW qE,kR=false,decide (z8<(16:Int))=false,(!has)=false,jL<=jL/\jL<=n/\n<=z9,decide (n>z9)=false,decide (n<jL)=false,cO.length=(32:Nat),bG z3,bG eT,z3.length<=iI,n.toNat-z7+z7<=z9.toNat-z2,z9.toNat-z2<=z5.toNat-z2,z9.toNat-z2<=eT.length,z5.toNat-z2<=iI,decide (M.gI cO non z3 (List.take kQ eT)=List.take z7 (List.drop kQ eT))=true,z2+eG<=fE.length/\z6.toNat-z2<=z4.toNat-z2,cO=cO,non=non,z2=z2,z6.toNat-z2=z6.toNat-z2,z4.toNat-z2=z4.toNat-z2,z2+eG<=fE.length/\z6.toNat-z2<=z4.toNat-z2,z3.length=z3.length,z2=z2,z9.toNat-z2=z9.toNat-z2,z5.toNat-z2=z5.toNat-z2,n=(↑(n.toNat-z7+z7):Int),M.lX lb bs=M.lX lb bs/\Oj=Oj,List.take eG oC=List.take eG oC,z2+eG<=fE.length/\z6.toNat-z2<=z4.toNat-z2,kR=false,decide (n<(16:Int))=false,(!has)=false,(!decide (n<=(↑(z9.toNat-z2):Int)))=false,decide (n>=jL)=true,(kind==(4:Int))=true,(kind==(3:Int))=false,(kind==(2:Int))=false,(kind==Jx)=false]++(M.Eo la lb ad bs++([(↑kQ:Int)=n',z1=m',IntKind.u64.wrap (non+Jx)=aV]++(M.gV key aX++([has=aW]++(M.gV key aX++([has=aW,IntKind.u64.wrap (non+Jx)=aV,kind=kind]++(M.gV xk xk++([num=num,la=la,lb=lb,n=n,M.lX la ad=aw/\Oj=(5:TypeId),cP cO (M.nonce non) Jx 0 (kQ) eT=bw/\Oj=(5:TypeId),List.take z2 []++M.gW cO non cH++List.take zV vY=want,z2+lg+M.rV z6.toNat oH true=dY]))))))))):=by kernel_rfl
theorem aSd (key aX:List Int) (has aW:Bool) (non aV:Int) (ad bs:List Int) (lg dY:Nat) (kind:Int) (xk:List Int) (num:Int) (la lb:Nat) (n n' m':Int) (aw bw want:List Int):fA (ΓD true [(17,[true,true,true,true]),(13,[false,false,false,false]),(27,[false,false]),(52,[false,false,false]),(30,[true])]) (dT key has non ad bs lg) 100 100 Tryz.f8 [] (dM true [(17,[true,true,true,true]),(13,[false,false,false,false]),(27,[false,false]),(52,[false,false,false]),(30,[true])] (dT key has non ad bs lg) 400 (.go gO) [] ((OP 100 Tryz.f8.ntmps (aC 100 (dT key has non ad bs lg)) 12 (aN (qD (.raw .nilIface) (0) (.buf 105) la lb n' m') (gN aX aW aV 106 (pP kind xk num la lb n) aw bw (.cD .u8 want 5) (.gone)++[(106,.bO 2 dY 165)]) 107 [60,65] [])).hint [true,true]))=some (Bn aX aW aV dY la lb ad aw bw want n' m'):=by kernel_rfl
set_option maxHeartbeats 1000000 in
theorem bBc {key ad bs xk:List Int} {has:Bool} {non num kind n:Int} {lg:Nat} (cX:ad.length<=200000) (dH:bs.length<=200000) (h1:kind=4) (hn:n<0) :
 aD Tryz.prog (ΓD true [(17,[true,true,true,true]),(13,[]),(27,[true]),(30,[false])]) 8 (pQ key has non kind xk num ad.length bs.length n) (dT key has non ad bs lg) 100 100 (Dg (key) has (non) (lg)):=by
 refine bU (cR true [(17,[true,true,true,true]),(13,[]),(27,[true]),(30,[false])]) (cS true [(17,[true,true,true,true]),(13,[]),(27,[true]),(30,[false])]) Tryz.func8 (by kernel_rfl) rfl (Nat.le_of_ble_eq_true (by kernel_rfl)) rfl [] ?_
 intro w0 Mx V0 Q bQ H
 have aM:=cR true [(17,[true,true,true,true]),(13,[]),(27,[true]),(30,[false])]
 have aE:=cS true [(17,[true,true,true,true]),(13,[]),(27,[true]),(30,[false])]
 refine G.cL aM aE mix bQ [false,false,false,true] (aSq key (key) has (has) non (non) ad bs lg (lg) kind xk num ad.length bs.length n (0) (0) (ad++M.t3) ((bs)++M.t3) (bs)) ?_ (G.mv 4 34 ?_)
 .simp only [Nat.sub_zero,Nat.zero_add,Nat.add_zero,Nat.mul_one,List.drop_zero,List.take_zero,List.nil_append,Int.toNat_natCast,M.cW cX,M.cW dH,M.oX cX,M.oX dH,List.length_replicate]
  repeat' (first | exact M.fJ rfl | exact M.gH cX dH | refine M.nM ?_ ?_)
  all_goals refine aA ?_
  all_goals simp only [aO]
  all_goals repeat' apply And.intro
  all_goals first | omega | (with_reducible assumption) | (with_reducible exact True.intro) | ((with_reducible refine decide_eq_true ?_);omega) | ((with_reducible refine decide_eq_false ?_);omega) | ((with_reducible refine iC ?_);omega) | ((with_reducible refine jR ?_);omega) | ((with_reducible refine pX ?_);omega) | ((with_reducible refine pW ?_);omega) | (with_reducible exact pZ hh) | (with_reducible exact pY hh) | with_reducible rfl | (simp only [decide_eq_false_iff_not,decide_eq_true_eq,Bool.not_eq_false',Bool.not_eq_true'];omega) | skip
 refine G.eX (cl:=[]) aM aE mix [true,true] H (aSp key (key) has (has) non (non) ad bs lg (lg) kind xk num ad.length bs.length n (0) (0) (ad++M.t3) ((bs)++M.t3) (bs)) (aA ?_) rfl rfl rfl
 exact gY cX dH rfl
set_option maxHeartbeats 1000000 in
theorem bBb {key ad bs xk:List Int} {has:Bool} {non num kind n:Int} {lg:Nat} (cX:ad.length<=200000) (dH:bs.length<=200000) (h1:kind=4) (hn:0<=n) (hn2:(bs.length:Int)<n) :
 aD Tryz.prog (ΓD true [(17,[true,true,true,true]),(13,[true]),(27,[false,true]),(30,[true])]) 8 (pQ key has non kind xk num ad.length bs.length n) (dT key has non ad bs lg) 100 100 (Dg (key) has (non) (lg)):=by
 refine bU (cR true [(17,[true,true,true,true]),(13,[true]),(27,[false,true]),(30,[true])]) (cS true [(17,[true,true,true,true]),(13,[true]),(27,[false,true]),(30,[true])]) Tryz.func8 (by kernel_rfl) rfl (Nat.le_of_ble_eq_true (by kernel_rfl)) rfl [] ?_
 intro w0 Mx V0 Q bQ H
 have aM:=cR true [(17,[true,true,true,true]),(13,[true]),(27,[false,true]),(30,[true])]
 have aE:=cS true [(17,[true,true,true,true]),(13,[true]),(27,[false,true]),(30,[true])]
 refine G.cL aM aE mix bQ [false,false,false,true] (aSo key (key) has (has) non (non) ad bs lg (lg) kind xk num ad.length bs.length n (0) (0) (ad++M.t3) ((bs)++M.t3) (bs)) ?_ (G.mv 4 34 ?_)
 .simp only [Nat.sub_zero,Nat.zero_add,Nat.add_zero,Nat.mul_one,List.drop_zero,List.take_zero,List.nil_append,Int.toNat_natCast,M.cW cX,M.cW dH,M.oX cX,M.oX dH,List.length_replicate]
  repeat' (first | exact M.fJ rfl | exact M.gH cX dH | refine M.nM ?_ ?_)
  all_goals refine aA ?_
  all_goals simp only [aO]
  all_goals repeat' apply And.intro
  all_goals first | omega | (with_reducible assumption) | (with_reducible exact True.intro) | ((with_reducible refine decide_eq_true ?_);omega) | ((with_reducible refine decide_eq_false ?_);omega) | ((with_reducible refine iC ?_);omega) | ((with_reducible refine jR ?_);omega) | ((with_reducible refine pX ?_);omega) | ((with_reducible refine pW ?_);omega) | (with_reducible exact pZ hh) | (with_reducible exact pY hh) | with_reducible rfl | (simp only [decide_eq_false_iff_not,decide_eq_true_eq,Bool.not_eq_false',Bool.not_eq_true'];omega) | skip
 refine G.eX (cl:=[]) aM aE mix [true,true] H (aSn key (key) has (has) non (non) ad bs lg (lg) kind xk num ad.length bs.length n (0) (0) (ad++M.t3) ((bs)++M.t3) (bs)) (aA ?_) rfl rfl rfl
 exact gY cX dH rfl
set_option maxHeartbeats 1000000 in
theorem bBa {key ad bs xk:List Int} {has:Bool} {non num kind:Int} {lg m:Nat} (cX:ad.length<=200000) (dH:bs.length<=200000) (h1:kind=4) (hh:has=false) (hm:m<=bs.length) :
 aD Tryz.prog (ΓD true [(17,[true,true,true,true]),(13,[false,true]),(27,[false,false]),(52,[true]),(30,[true])]) 8 (pQ key has non kind xk num ad.length bs.length (m:Int)) (dT key has non ad bs lg) 100 100 (Dg (key) has (non) (lg)):=by
 refine bU (cR true [(17,[true,true,true,true]),(13,[false,true]),(27,[false,false]),(52,[true]),(30,[true])]) (cS true [(17,[true,true,true,true]),(13,[false,true]),(27,[false,false]),(52,[true]),(30,[true])]) Tryz.func8 (by kernel_rfl) rfl (Nat.le_of_ble_eq_true (by kernel_rfl)) rfl [] ?_
 intro w0 Mx V0 Q bQ H
 have aM:=cR true [(17,[true,true,true,true]),(13,[false,true]),(27,[false,false]),(52,[true]),(30,[true])]
 have aE:=cS true [(17,[true,true,true,true]),(13,[false,true]),(27,[false,false]),(52,[true]),(30,[true])]
 have oY:(bs.take m).length=m:=by rw [List.length_take];omega
 have rF:List.take (bs.length-m) (List.drop m bs)=List.drop m bs:=List.take_of_length_le (by rw [List.length_drop];omega)
 have Od:List.take m bs++List.drop m bs=bs:=List.take_append_drop m bs
 have rY:(List.drop m bs).length=bs.length-m:=List.length_drop
 have ws:IntKind.i64.wrap ((bs.length:Int)-(m:Int))=((bs.length-m:Nat):Int):=bD (by omega) (by omega)
 refine G.cL aM aE mix bQ [false,false,false,true] (aSm key (key) has (has) non (non) ad bs lg (lg) kind xk num ad.length bs.length (m:Int) (m) (m) (ad++M.t3) ((bs)++M.t3) (bs)) ?_ (G.ro 12 (G.mv 4 34 ?_))
 .simp only [Nat.sub_zero,Nat.zero_add,Nat.add_zero,Nat.mul_one,List.drop_zero,List.take_zero,List.nil_append,Int.toNat_natCast,M.cW cX,M.cW dH,M.oX cX,M.oX dH,List.length_replicate,oY,rF,Od,ws,rY]
  repeat' (first | exact M.fJ rfl | exact M.gH cX dH | refine M.nM ?_ ?_)
  all_goals refine aA ?_
  all_goals simp only [aO]
  all_goals repeat' apply And.intro
  all_goals first | omega | (with_reducible assumption) | (with_reducible exact True.intro) | ((with_reducible refine decide_eq_true ?_);omega) | ((with_reducible refine decide_eq_false ?_);omega) | ((with_reducible refine iC ?_);omega) | ((with_reducible refine jR ?_);omega) | ((with_reducible refine pX ?_);omega) | ((with_reducible refine pW ?_);omega) | (with_reducible exact pZ hh) | (with_reducible exact pY hh) | with_reducible rfl | (simp only [decide_eq_false_iff_not,decide_eq_true_eq,Bool.not_eq_false',Bool.not_eq_true'];omega) | skip
 refine G.eX (cl:=[]) aM aE mix [true,true] H (aSl key (key) has (has) non (non) ad bs lg (lg) kind xk num ad.length bs.length (m:Int) (m) (m) (ad++M.t3) ((bs)++M.t3) (bs)) (aA ?_) rfl rfl rfl
 exact uH (by simp only [List.length_append,List.length_replicate,oY,rF,Od,ws,rY];first | done | omega) cX dH rfl
set_option maxHeartbeats 1000000 in
theorem bAz {key ad bs xk:List Int} {has:Bool} {non num kind:Int} {lg m:Nat} (cX:ad.length<=200000) (dH:bs.length<=200000) (h1:kind=4) (hh:has=true) (NT:m<16) (hm:m<=bs.length) :
 aD Tryz.prog (ΓD true [(17,[true,true,true,true]),(13,[false,false,true]),(27,[false,false]),(52,[false,true]),(30,[true])]) 8 (pQ key has non kind xk num ad.length bs.length (m:Int)) (dT key has non ad bs lg) 100 100 (Dg (key) has (non) (lg)):=by
 refine bU (cR true [(17,[true,true,true,true]),(13,[false,false,true]),(27,[false,false]),(52,[false,true]),(30,[true])]) (cS true [(17,[true,true,true,true]),(13,[false,false,true]),(27,[false,false]),(52,[false,true]),(30,[true])]) Tryz.func8 (by kernel_rfl) rfl (Nat.le_of_ble_eq_true (by kernel_rfl)) rfl [] ?_
 intro w0 Mx V0 Q bQ H
 have aM:=cR true [(17,[true,true,true,true]),(13,[false,false,true]),(27,[false,false]),(52,[false,true]),(30,[true])]
 have aE:=cS true [(17,[true,true,true,true]),(13,[false,false,true]),(27,[false,false]),(52,[false,true]),(30,[true])]
 have oY:(bs.take m).length=m:=by rw [List.length_take];omega
 have rF:List.take (bs.length-m) (List.drop m bs)=List.drop m bs:=List.take_of_length_le (by rw [List.length_drop];omega)
 have Od:List.take m bs++List.drop m bs=bs:=List.take_append_drop m bs
 have rY:(List.drop m bs).length=bs.length-m:=List.length_drop
 have ws:IntKind.i64.wrap ((bs.length:Int)-(m:Int))=((bs.length-m:Nat):Int):=bD (by omega) (by omega)
 refine G.cL aM aE mix bQ [false,false,false,true] (aSk key (key) has (has) non (non) ad bs lg (lg) kind xk num ad.length bs.length (m:Int) (0) (0) (ad++M.t3) ((bs)++M.t3) (bs)) ?_ (G.mv 4 34 ?_)
 .simp only [Nat.sub_zero,Nat.zero_add,Nat.add_zero,Nat.mul_one,List.drop_zero,List.take_zero,List.nil_append,Int.toNat_natCast,M.cW cX,M.cW dH,M.oX cX,M.oX dH,List.length_replicate,oY,rF,Od,ws,rY]
  repeat' (first | exact M.fJ rfl | exact M.gH cX dH | refine M.nM ?_ ?_)
  all_goals refine aA ?_
  all_goals simp only [aO]
  all_goals repeat' apply And.intro
  all_goals first | omega | (with_reducible assumption) | (with_reducible exact True.intro) | ((with_reducible refine decide_eq_true ?_);omega) | ((with_reducible refine decide_eq_false ?_);omega) | ((with_reducible refine iC ?_);omega) | ((with_reducible refine jR ?_);omega) | ((with_reducible refine pX ?_);omega) | ((with_reducible refine pW ?_);omega) | (with_reducible exact pZ hh) | (with_reducible exact pY hh) | with_reducible rfl | (simp only [decide_eq_false_iff_not,decide_eq_true_eq,Bool.not_eq_false',Bool.not_eq_true'];omega) | skip
 refine G.eX (cl:=[]) aM aE mix [true,true] H (aSj key (key) has (has) non (non) ad bs lg (lg) kind xk num ad.length bs.length (m:Int) (0) (0) (ad++M.t3) ((bs)++M.t3) (bs)) (aA ?_) rfl rfl rfl
 exact gY cX dH rfl
set_option maxHeartbeats 1000000 in
theorem bAy {key ad bs xk:List Int} {has:Bool} {non num kind:Int} {lg m:Nat} (cX:ad.length<=200000) (dH:bs.length<=200000) (h1:kind=4) (hh:has=true) (NT:16<=m) (hl:non=18446744073709551615) (hm:m<=bs.length) :
 aD Tryz.prog (ΓD true [(17,[true,true,true,true]),(13,[false,false,false,true]),(27,[false,false]),(52,[false,false,true]),(30,[true])]) 8 (pQ key has non kind xk num ad.length bs.length (m:Int)) (dT key has non ad bs lg) 100 100 (Dg (key) has (non) (lg)):=by
 refine bU (cR true [(17,[true,true,true,true]),(13,[false,false,false,true]),(27,[false,false]),(52,[false,false,true]),(30,[true])]) (cS true [(17,[true,true,true,true]),(13,[false,false,false,true]),(27,[false,false]),(52,[false,false,true]),(30,[true])]) Tryz.func8 (by kernel_rfl) rfl (Nat.le_of_ble_eq_true (by kernel_rfl)) rfl [] ?_
 intro w0 Mx V0 Q bQ H
 have aM:=cR true [(17,[true,true,true,true]),(13,[false,false,false,true]),(27,[false,false]),(52,[false,false,true]),(30,[true])]
 have aE:=cS true [(17,[true,true,true,true]),(13,[false,false,false,true]),(27,[false,false]),(52,[false,false,true]),(30,[true])]
 have oY:(bs.take m).length=m:=by rw [List.length_take];omega
 have rF:List.take (bs.length-m) (List.drop m bs)=List.drop m bs:=List.take_of_length_le (by rw [List.length_drop];omega)
 have Od:List.take m bs++List.drop m bs=bs:=List.take_append_drop m bs
 have rY:(List.drop m bs).length=bs.length-m:=List.length_drop
 have ws:IntKind.i64.wrap ((bs.length:Int)-(m:Int))=((bs.length-m:Nat):Int):=bD (by omega) (by omega)
 refine G.cL aM aE mix bQ [false,false,false,true] (aSi key (key) has (has) non (non) ad bs lg (lg) kind xk num ad.length bs.length (m:Int) (0) (0) (ad++M.t3) ((bs)++M.t3) (bs)) ?_ (G.mv 4 34 ?_)
 .simp only [Nat.sub_zero,Nat.zero_add,Nat.add_zero,Nat.mul_one,List.drop_zero,List.take_zero,List.nil_append,Int.toNat_natCast,M.cW cX,M.cW dH,M.oX cX,M.oX dH,List.length_replicate,oY,rF,Od,ws,rY]
  repeat' (first | exact M.fJ rfl | exact M.gH cX dH | refine M.nM ?_ ?_)
  all_goals refine aA ?_
  all_goals simp only [aO]
  all_goals repeat' apply And.intro
  all_goals first | omega | (with_reducible assumption) | (with_reducible exact True.intro) | ((with_reducible refine decide_eq_true ?_);omega) | ((with_reducible refine decide_eq_false ?_);omega) | ((with_reducible refine iC ?_);omega) | ((with_reducible refine jR ?_);omega) | ((with_reducible refine pX ?_);omega) | ((with_reducible refine pW ?_);omega) | (with_reducible exact pZ hh) | (with_reducible exact pY hh) | with_reducible rfl | (simp only [decide_eq_false_iff_not,decide_eq_true_eq,Bool.not_eq_false',Bool.not_eq_true'];omega) | skip
 refine G.eX (cl:=[]) aM aE mix [true,true] H (aSh key (key) has (has) non (non) ad bs lg (lg) kind xk num ad.length bs.length (m:Int) (0) (0) (ad++M.t3) ((bs)++M.t3) (bs)) (aA ?_) rfl rfl rfl
 exact gY cX dH rfl
set_option maxHeartbeats 1000000 in
theorem bAx {key ad bs xk:List Int} {has:Bool} {non num kind:Int} {lg m:Nat} (cX:ad.length<=200000) (dH:bs.length<=200000) (h1:kind=4) (hh:has=true) (hm:m+16<=bs.length) (hl:non≠18446744073709551615) (hk:key.length=32) (Gr:bG key) (vU:M.tR non) (Vo:bG ad) (pT:bG bs) (NU:lg<=7900000000000) (hd:decide (M.gI key non ad (bs.take m)=(bs.drop m).take 16)=false) :
 aD Tryz.prog (ΓD false [(17,[true,true,true,true]),(13,[false,false,false,false]),(27,[false,false]),(52,[false,false,false]),(30,[true])]) 8 (pQ key has non kind xk num ad.length bs.length ((m+16:Nat):Int)) (dT key has non ad bs lg) 100 100 (Dg (key) has (non) (lg+M.rV ad.length m false)):=by
 refine bU (cR false [(17,[true,true,true,true]),(13,[false,false,false,false]),(27,[false,false]),(52,[false,false,false]),(30,[true])]) (cS false [(17,[true,true,true,true]),(13,[false,false,false,false]),(27,[false,false]),(52,[false,false,false]),(30,[true])]) Tryz.func8 (by kernel_rfl) rfl (Nat.le_of_ble_eq_true (by kernel_rfl)) rfl [] ?_
 intro w0 Mx V0 Q bQ H
 have aM:=cR false [(17,[true,true,true,true]),(13,[false,false,false,false]),(27,[false,false]),(52,[false,false,false]),(30,[true])]
 have aE:=cS false [(17,[true,true,true,true]),(13,[false,false,false,false]),(27,[false,false]),(52,[false,false,false]),(30,[true])]
 have PB:m<=bs.length:=by omega
 have oY:(bs.take (m+16)).length=m+16:=by rw [List.length_take];omega
 have Pg:(bs.take m).length=m:=by rw [List.length_take];omega
 have ZB:List.take m (List.take (m+16) bs)=List.take m bs:=by rw [List.take_take,Nat.min_eq_left (by omega)]
 have hdt:List.drop m (List.take (m+16) bs)=List.take 16 (List.drop m bs):=by rw [List.drop_take,Nat.add_sub_cancel_left]
 have hta:List.take m (bs++M.t3)=List.take m bs:=List.take_append_of_le_length PB
 have hda:List.take 16 (List.drop m (bs++M.t3))=List.take 16 (List.drop m bs):=by rw [List.drop_append_of_le_length PB,List.take_append_of_le_length (by rw [List.length_drop];omega)]
 have YR:IntKind.i64.wrap (((m+16:Nat):Int)-16)=(m:Int):=bD (by omega) (by omega)
 have rF:List.take (bs.length-m) (List.drop m bs)=List.drop m bs:=List.take_of_length_le (by rw [List.length_drop];omega)
 have BU:m+16-16=m:=by omega
 have aMa:=M.kM (m+16) pT
 have NX:(List.drop m bs).length=bs.length-m:=List.length_drop
 have Jt:=M.fH key non (bs.take m)
 rw [Pg] at Jt
 have cM:=M.Ud key non (t:=M.t3) PB
 have hze:=M.zero_eq (t:=M.t3) PB
 have htr:List.take m (List.replicate m (0:Int))=List.replicate m 0:=by rw [List.take_replicate,Nat.min_self]
 have Ad:=M.nZ hk
 have AT:=M.wY Vo
 have hbt:=M.wY pT
 have ta:=M.lL ad
 have YZ:=M.kY ad
 have YY:=M.kY bs
 simp only [Nat.sub_zero,Nat.zero_add,Nat.add_zero,Nat.mul_one,List.drop_zero,List.take_zero,List.nil_append] at ta
 have hN0:=vU.1
 have hN1:=vU.2
 have hes:=M.Ig (a:=ad.length) (n:=m) (by omega) (by omega)
 have aLx:=M.qQ (a:=ad.length) (n:=m) true (by omega) (by omega)
 have aLy:=M.qQ (a:=ad.length) (n:=m) false (by omega) (by omega)
 refine G.cL aM aE mix bQ [false,false,false,true] (aSg key (key) has (has) non (non) ad bs lg (lg+M.rV ad.length m false) kind xk num ad.length bs.length ((m+16:Nat):Int) (0) (0) (ad++M.t3) ((List.replicate m 0++bs.drop m)++M.t3) (List.replicate m 0++bs.drop m)) ?_ (G.ro 12 ?_)
 .simp only [Nat.sub_zero,Nat.zero_add,Nat.add_zero,Nat.mul_one,List.drop_zero,List.take_zero,List.nil_append,Int.toNat_natCast,M.cW cX,M.cW dH,M.oX cX,M.oX dH,List.length_replicate,oY,Pg,ZB,hdt,hta,hda,YR,rF,BU,NX,Jt,cM,hze,hd,htr,Ad,ta,YZ,YY]
  repeat' (first | exact M.fJ rfl | exact M.gH cX dH | refine M.nM ?_ ?_)
  all_goals refine aA ?_
  all_goals simp only [aO]
  all_goals repeat' apply And.intro
  all_goals first | omega | (with_reducible assumption) | (with_reducible exact True.intro) | ((with_reducible refine decide_eq_true ?_);omega) | ((with_reducible refine decide_eq_false ?_);omega) | ((with_reducible refine iC ?_);omega) | ((with_reducible refine jR ?_);omega) | ((with_reducible refine pX ?_);omega) | ((with_reducible refine pW ?_);omega) | (with_reducible exact pZ hh) | (with_reducible exact pY hh) | with_reducible rfl | (simp only [decide_eq_false_iff_not,decide_eq_true_eq,Bool.not_eq_false',Bool.not_eq_true'];omega) | skip
 refine G.eX (cl:=[]) aM aE mix [true,true] H (aSf key (key) has (has) non (non) ad bs lg (lg+M.rV ad.length m false) kind xk num ad.length bs.length ((m+16:Nat):Int) (0) (0) (ad++M.t3) ((List.replicate m 0++bs.drop m)++M.t3) (List.replicate m 0++bs.drop m)) (aA ?_) rfl rfl rfl
 exact uH (by simp only [List.length_append,List.length_replicate,oY,Pg,ZB,hdt,hta,hda,YR,rF,BU,NX,Jt,cM,hze,hd,htr,Ad,ta,YZ,YY];first | done | omega) cX dH rfl
set_option maxHeartbeats 1000000 in
theorem bAw {key ad bs xk:List Int} {has:Bool} {non num kind:Int} {lg m:Nat} (cX:ad.length<=200000) (dH:bs.length<=200000) (h1:kind=4) (hh:has=true) (hm:m+16<=bs.length) (hl:non≠18446744073709551615) (hk:key.length=32) (Gr:bG key) (vU:M.tR non) (Vo:bG ad) (pT:bG bs) (NU:lg<=7900000000000) (hd:decide (M.gI key non ad (bs.take m)=(bs.drop m).take 16)=true) :
 aD Tryz.prog (ΓD true [(17,[true,true,true,true]),(13,[false,false,false,false]),(27,[false,false]),(52,[false,false,false]),(30,[true])]) 8 (pQ key has non kind xk num ad.length bs.length ((m+16:Nat):Int)) (dT key has non ad bs lg) 100 100 (Dg (key) has (non+1) (lg+M.rV ad.length m true)):=by
 refine bU (cR true [(17,[true,true,true,true]),(13,[false,false,false,false]),(27,[false,false]),(52,[false,false,false]),(30,[true])]) (cS true [(17,[true,true,true,true]),(13,[false,false,false,false]),(27,[false,false]),(52,[false,false,false]),(30,[true])]) Tryz.func8 (by kernel_rfl) rfl (Nat.le_of_ble_eq_true (by kernel_rfl)) rfl [] ?_
 intro w0 Mx V0 Q bQ H
 have aM:=cR true [(17,[true,true,true,true]),(13,[false,false,false,false]),(27,[false,false]),(52,[false,false,false]),(30,[true])]
 have aE:=cS true [(17,[true,true,true,true]),(13,[false,false,false,false]),(27,[false,false]),(52,[false,false,false]),(30,[true])]
 have PB:m<=bs.length:=by omega
 have oY:(bs.take (m+16)).length=m+16:=by rw [List.length_take];omega
 have Pg:(bs.take m).length=m:=by rw [List.length_take];omega
 have ZB:List.take m (List.take (m+16) bs)=List.take m bs:=by rw [List.take_take,Nat.min_eq_left (by omega)]
 have hdt:List.drop m (List.take (m+16) bs)=List.take 16 (List.drop m bs):=by rw [List.drop_take,Nat.add_sub_cancel_left]
 have hta:List.take m (bs++M.t3)=List.take m bs:=List.take_append_of_le_length PB
 have hda:List.take 16 (List.drop m (bs++M.t3))=List.take 16 (List.drop m bs):=by rw [List.drop_append_of_le_length PB,List.take_append_of_le_length (by rw [List.length_drop];omega)]
 have YR:IntKind.i64.wrap (((m+16:Nat):Int)-16)=(m:Int):=bD (by omega) (by omega)
 have rF:List.take (bs.length-m) (List.drop m bs)=List.drop m bs:=List.take_of_length_le (by rw [List.length_drop];omega)
 have BU:m+16-16=m:=by omega
 have aMa:=M.kM (m+16) pT
 have NX:(List.drop m bs).length=bs.length-m:=List.length_drop
 have Jt:=M.fH key non (bs.take m)
 rw [Pg] at Jt
 have cM:=M.Ud key non (t:=M.t3) PB
 have hze:=M.zero_eq (t:=M.t3) PB
 have htr:List.take m (List.replicate m (0:Int))=List.replicate m 0:=by rw [List.take_replicate,Nat.min_self]
 have Ad:=M.nZ hk
 have AT:=M.wY Vo
 have hbt:=M.wY pT
 have ta:=M.lL ad
 have YZ:=M.kY ad
 have YY:=M.kY bs
 simp only [Nat.sub_zero,Nat.zero_add,Nat.add_zero,Nat.mul_one,List.drop_zero,List.take_zero,List.nil_append] at ta
 have hN0:=vU.1
 have hN1:=vU.2
 have hes:=M.Ig (a:=ad.length) (n:=m) (by omega) (by omega)
 have aLx:=M.qQ (a:=ad.length) (n:=m) true (by omega) (by omega)
 have aLy:=M.qQ (a:=ad.length) (n:=m) false (by omega) (by omega)
 have wn:IntKind.u64.wrap (non+1)=non+1:=IntWalk.u64_in _ ⟨by omega,by omega⟩
 refine G.cL aM aE mix bQ [false,false,false,true] (aSe key (key) has (has) non (non+1) ad bs lg (lg+M.rV ad.length m true) kind xk num ad.length bs.length ((m+16:Nat):Int) ((m:Int)) ((m:Int)) (ad++M.t3) ((M.gW key non (bs.take m)++bs.drop m)++M.t3) (M.gW key non (bs.take m)++bs.drop m)) ?_ (G.ro 12 ?_)
 .simp only [Nat.sub_zero,Nat.zero_add,Nat.add_zero,Nat.mul_one,List.drop_zero,List.take_zero,List.nil_append,Int.toNat_natCast,M.cW cX,M.cW dH,M.oX cX,M.oX dH,List.length_replicate,oY,Pg,ZB,hdt,hta,hda,YR,rF,BU,NX,Jt,cM,hze,hd,htr,Ad,ta,YZ,YY,wn]
  repeat' (first | exact M.fJ rfl | exact M.gH cX dH | refine M.nM ?_ ?_)
  all_goals refine aA ?_
  all_goals simp only [aO]
  all_goals repeat' apply And.intro
  all_goals first | omega | (with_reducible assumption) | (with_reducible exact True.intro) | ((with_reducible refine decide_eq_true ?_);omega) | ((with_reducible refine decide_eq_false ?_);omega) | ((with_reducible refine iC ?_);omega) | ((with_reducible refine jR ?_);omega) | ((with_reducible refine pX ?_);omega) | ((with_reducible refine pW ?_);omega) | (with_reducible exact pZ hh) | (with_reducible exact pY hh) | with_reducible rfl | (simp only [decide_eq_false_iff_not,decide_eq_true_eq,Bool.not_eq_false',Bool.not_eq_true'];omega) | skip
 refine G.eX (cl:=[]) aM aE mix [true,true] H (aSd key (key) has (has) non (non+1) ad bs lg (lg+M.rV ad.length m true) kind xk num ad.length bs.length ((m+16:Nat):Int) ((m:Int)) ((m:Int)) (ad++M.t3) ((M.gW key non (bs.take m)++bs.drop m)++M.t3) (M.gW key non (bs.take m)++bs.drop m)) (aA ?_) rfl rfl rfl
 exact uH (by simp only [List.length_append,List.length_replicate,oY,Pg,ZB,hdt,hta,hda,YR,rF,BU,NX,Jt,cM,hze,hd,htr,Ad,ta,YZ,YY,wn];first | done | omega) cX dH rfl
def rkT (key:List Int) (has:Bool) (non:Int):bA:=fun l=>look l ((60,.own (Zn non key has) 40)::Kg)
noncomputable def rkM (T:bA) (k:Nat) (cf:Cf) (K:List Fr) (s:St):Option jA:=cA (ΓD true []) (aC 100 T) 100 Tryz.f14.ntmps [] 400 k cf K s
def aLf:List (Nat × SV):=[(0,.ptr 60 true 0),(3,.ptr 100 true 0)]
def aLe (nx:List Int):List (Nat × SB):=[(100,.own (cQ .u8 48 nx) 80)]
theorem aVl (key nx:List Int) (has:Bool) (non:Int) :
 (cL 100 Tryz.f14.ntmps (aC 100 (rkT key has non)) [] aLf (aLe nx) 101 [] [] (rkM (rkT key has non) 30 (.go (codeOf Tryz.f14)) [] ((gU [.ptr 60 true 0] 100).hint [false]))) =
 sh (0:Int) fun z0=>
 sh (48:Nat) fun z1=>
 sh (18446744073709551615:Int) fun z2=>
 sh (M.Js key) fun z3=>
 sh (0:Nat) fun z4=>
 some (.go (iN 5 (codeOf Tryz.f14)),[],[z3.length=(32:Nat),bG [],bG [z0,z0,z0,z0,z0,z0,z0,z0,z0,z0,z0,z0,z0,z0,z0,z0,z0,z0,z0,z0,z0,z0,z0,z0,z0,z0,z0,z0,z0,z0,z0,z0,z0,z0,z0,z0,z0,z0,z0,z0,z0,z0,z0,z0,z0,z0,z0,z0],z4<=(500000000:Nat),z1<=z1,z1<=z1,z1<=z1,z1<=(500000000:Nat),z3=z3,z2=z2,z4=z4,z4=z4,z1=z1,z1=z1,(32:Int)=(32:Int),[z0,z0,z0,z0,z0,z0,z0,z0,z0,z0,z0,z0,z0,z0,z0,z0,z0,z0,z0,z0,z0,z0,z0,z0,z0,z0,z0,z0,z0,z0,z0,z0,z0,z0,z0,z0,z0,z0,z0,z0,z0,z0,z0,z0,z0,z0,z0,z0]=[z0,z0,z0,z0,z0,z0,z0,z0,z0,z0,z0,z0,z0,z0,z0,z0,z0,z0,z0,z0,z0,z0,z0,z0,z0,z0,z0,z0,z0,z0,z0,z0,z0,z0,z0,z0,z0,z0,z0,z0,z0,z0,z0,z0,z0,z0,z0,z0]/\(80:Nat)=(80:Nat),([]:List Int)=[],(!has)=false,M.xX z3 z2 [] [z0,z0,z0,z0,z0,z0,z0,z0,z0,z0,z0,z0,z0,z0,z0,z0,z0,z0,z0,z0,z0,z0,z0,z0,z0,z0,z0,z0,z0,z0,z0,z0,z0,z0,z0,z0,z0,z0,z0,z0,z0,z0,z0,z0,z0,z0,z0,z0] (32:Nat)=[nx.getD 0 z0,nx.getD 1 z0,nx.getD 2 z0,nx.getD 3 z0,nx.getD 4 z0,nx.getD 5 z0,nx.getD 6 z0,nx.getD 7 z0,nx.getD 8 z0,nx.getD 9 z0,nx.getD 10 z0,nx.getD 11 z0,nx.getD 12 z0,nx.getD 13 z0,nx.getD 14 z0,nx.getD 15 z0,nx.getD 16 z0,nx.getD 17 z0,nx.getD 18 z0,nx.getD 19 z0,nx.getD 20 z0,nx.getD 21 z0,nx.getD 22 z0,nx.getD 23 z0,nx.getD 24 z0,nx.getD 25 z0,nx.getD 26 z0,nx.getD 27 z0,nx.getD 28 z0,nx.getD 29 z0,nx.getD 30 z0,nx.getD 31 z0,nx.getD 32 z0,nx.getD 33 z0,nx.getD 34 z0,nx.getD 35 z0,nx.getD 36 z0,nx.getD 37 z0,nx.getD 38 z0,nx.getD 39 z0,nx.getD 40 z0,nx.getD 41 z0,nx.getD 42 z0,nx.getD 43 z0,nx.getD 44 z0,nx.getD 45 z0,nx.getD 46 z0,nx.getD 47 z0]/\(80:Nat)=(80:TypeId)]):=by kernel_rfl
theorem aVk (key nx:List Int) (has:Bool) (non:Int) :
 fA (ΓD true []) (rkT key has non) 100 100 Tryz.f14 [] (rkM (rkT key has non) 400 (.go (iN 5 (codeOf Tryz.f14))) [] ((aN aLf (aLe nx) 101 [] []).hint [])) =
 some {val:=SV.raw Value.nilIface,wr:=[(60,SB.own (Zn (non) nx has) 40)]}:=by kernel_rfl
def qkT (lg:Nat):bA:=fun l=>look l [(65,.bO 2 lg 165)]
noncomputable def qkM (T:bA) (st:List Nat) (k:Nat) (cf:Cf) (K:List Fr) (s:St):Option jA:=cA (ΓD true []) (aC 100 T) 100 Tryz.f28.ntmps st 400 k cf K s
def aLj:List (Nat × SV):=[(1,.ptr 100 true 0),(2,.ptr 101 true 0),(4,.buf 102),(5,.int true .i64 0)]
def aLi (key out:List Int) (has:Bool) (non:Int) (dY:Nat):List (Nat × SB):=[(65,.gone),(100,.own (Om key has non 103) 43),(101,.own zR 43),(102,.cD .u8 out 5),(103,.bO 2 dY 165)]
noncomputable def qkR:Option jA:=qkM (qkT 0) [6] 400 (.go (codeOf Tryz.f28)) [] ((gU [.agg (Om [] false 0 65)] 100).hint [false])
theorem aVz (key out:List Int) (has:Bool) (non:Int) (lg dY:Nat) :
 (cL 100 Tryz.f28.ntmps (aC 100 (qkT lg)) [] aLj (aLi key out has non dY) 104 [65] [] (qkM (qkT lg) [6] 400 (.go (codeOf Tryz.f28)) [] ((gU [.agg (Om key has non 65)] 100).hint [false]))) =
 sh (0:Nat) fun z4=>
 sh (0:Int) fun z1=>
 sh (List.drop z4 [z1,z1,z1,z1,z1,z1,z1,z1,z1,z1,z1,z1,z1,z1,z1,z1,z1,z1,z1,z1,z1,z1,z1,z1,z1,z1,z1,z1,z1,z1,z1,z1]) fun z0=>
 sh (32:Nat) fun z2=>
 sh (18446744073709551615:Int) fun z3=>
 sh (M.Js key) fun z5=>
 sh (9223372036854775807:Nat) fun z6=>
 sh (140737488355328:Nat) fun z7=>
 some (.go (.loop (lF qkR)),rG qkR,[(z4+lg+(46:Nat))*(16:Nat)<=z7/\z4+lg+(46:Nat)<=z6,(z4+lg)*(16:Nat)<=z7/\z4+lg<=z6,z4<=(1000000000:Nat),z2<=(1000000000:Nat),z1=z1,(32:Int)=(32:Int),z5.length=z2,bG z5,M.tR z3,bG [],bG (List.take z2 z0),z4<=(500000000:Nat),z2<=(500000000:Nat),z2<=z2/\z2<=z2,z5=z5,z3=z3,z4=z4,z2<=z2/\z2<=z2,z2=z2,([]:List Int)=[],List.take z2 z0=List.take z2 z0,z2<=z2/\z2<=z2,(!has)=false]++(M.gV key key++([has=has,non=non,M.gJ z5 z3 [] (List.take z2 z0)=out,z4+lg+(46:Nat)=dY]))):=by kernel_rfl
theorem aVy (key out:List Int) (has:Bool) (non:Int) (lg dY:Nat) :
 fA (ΓD true []) (qkT lg) 100 100 Tryz.f28 [] (qkM (qkT lg) [] 2000 (.go (.loop (lF qkR))) (rG qkR) ((OP 100 Tryz.f28.ntmps (aC 100 (qkT lg)) 4 (aN aLj (aLi key out has non dY) 104 [65] [])).hint (List.replicate 32 true))) =
 sh (↑out.length:Int) fun z0=>
 sh (0:Int) fun z1=>
 some {bV:=[(31:Nat)<out.length,z1<=(31:Int)/\(31:Int)<z0,decide ((31:Int)<z0)=true,(30:Nat)<out.length,z1<=(30:Int)/\(30:Int)<z0,decide ((30:Int)<z0)=true,(29:Nat)<out.length,z1<=(29:Int)/\(29:Int)<z0,decide ((29:Int)<z0)=true,(28:Nat)<out.length,z1<=(28:Int)/\(28:Int)<z0,decide ((28:Int)<z0)=true,(27:Nat)<out.length,z1<=(27:Int)/\(27:Int)<z0,decide ((27:Int)<z0)=true,(26:Nat)<out.length,z1<=(26:Int)/\(26:Int)<z0,decide ((26:Int)<z0)=true,(25:Nat)<out.length,z1<=(25:Int)/\(25:Int)<z0,decide ((25:Int)<z0)=true,(24:Nat)<out.length,z1<=(24:Int)/\(24:Int)<z0,decide ((24:Int)<z0)=true,(23:Nat)<out.length,z1<=(23:Int)/\(23:Int)<z0,decide ((23:Int)<z0)=true,(22:Nat)<out.length,z1<=(22:Int)/\(22:Int)<z0,decide ((22:Int)<z0)=true,(21:Nat)<out.length,z1<=(21:Int)/\(21:Int)<z0,decide ((21:Int)<z0)=true,(20:Nat)<out.length,z1<=(20:Int)/\(20:Int)<z0,decide ((20:Int)<z0)=true,(19:Nat)<out.length,z1<=(19:Int)/\(19:Int)<z0,decide ((19:Int)<z0)=true,(18:Nat)<out.length,z1<=(18:Int)/\(18:Int)<z0,decide ((18:Int)<z0)=true,(17:Nat)<out.length,z1<=(17:Int)/\(17:Int)<z0,decide ((17:Int)<z0)=true,(16:Nat)<out.length,z1<=(16:Int)/\(16:Int)<z0,decide ((16:Int)<z0)=true,(15:Nat)<out.length,z1<=(15:Int)/\(15:Int)<z0,decide ((15:Int)<z0)=true,(14:Nat)<out.length,z1<=(14:Int)/\(14:Int)<z0,decide ((14:Int)<z0)=true,(13:Nat)<out.length,z1<=(13:Int)/\(13:Int)<z0,decide ((13:Int)<z0)=true,(12:Nat)<out.length,z1<=(12:Int)/\(12:Int)<z0,decide ((12:Int)<z0)=true,(11:Nat)<out.length,z1<=(11:Int)/\(11:Int)<z0,decide ((11:Int)<z0)=true,(10:Nat)<out.length,z1<=(10:Int)/\(10:Int)<z0,decide ((10:Int)<z0)=true,(9:Nat)<out.length,z1<=(9:Int)/\(9:Int)<z0,decide ((9:Int)<z0)=true,(8:Nat)<out.length,z1<=(8:Int)/\(8:Int)<z0,decide ((8:Int)<z0)=true,(7:Nat)<out.length,z1<=(7:Int)/\(7:Int)<z0,decide ((7:Int)<z0)=true,(6:Nat)<out.length,z1<=(6:Int)/\(6:Int)<z0,decide ((6:Int)<z0)=true,(5:Nat)<out.length,z1<=(5:Int)/\(5:Int)<z0,decide ((5:Int)<z0)=true,(4:Nat)<out.length,z1<=(4:Int)/\(4:Int)<z0,decide ((4:Int)<z0)=true,(3:Nat)<out.length,z1<=(3:Int)/\(3:Int)<z0,decide ((3:Int)<z0)=true,(2:Nat)<out.length,z1<=(2:Int)/\(2:Int)<z0,decide ((2:Int)<z0)=true,(1:Nat)<out.length,z1<=(1:Int)/\(1:Int)<z0,decide ((1:Int)<z0)=true,(0:Nat)<out.length,z1<=z1/\z1<z0,decide (z1<z0)=true],val:=SV.eD [SV.agg (Om out has (non) (100)),SV.int true IntKind.i64 z1],new:=[SB.bO 2 dY 165],wr:=[(65,SB.gone)]}:=by kernel_rfl
namespace M
def oZ:List Int:=List.replicate 32 0
def rk (key:List Int):List Int:=(gJ key 18446744073709551615 [] oZ).take 32
theorem Xc (key:List Int):(rk key).length=32:=by
 unfold rk
 rw [List.length_take,lS]
 rfl
theorem Mg:bG oZ:=rK 32
theorem aGd (key:List Int):bG (rk key):=kM 32 (Wz _ _ _ Mg)
theorem aOf {xs:List Int} (h:xs.length=48):xs=(List.range 48).map fun i=>xs.getD i 0:=by
 apply List.ext_getElem
 .simp [h]
 .intro j h1 h2
  simp only [List.getElem_map,List.getElem_range]
  rw [List.getD_eq_getElem?_getD,List.getElem?_eq_getElem h1];rfl
theorem aGc {key:List Int} {i:Nat} (h:i<32):(gJ key 18446744073709551615 [] oZ).getD i 0=(rk key).getD i 0:=(Ge h).symm
theorem aFx (key:List Int):xX key 18446744073709551615 [] (List.replicate 48 0) 32=gJ key 18446744073709551615 [] oZ:=by
 have:=Tv key 18446744073709551615 [] (n:=32) (bs:=List.replicate 48 0) (t:=[]) (by simp)
 rw [List.append_nil,List.append_nil] at this
 rw [this,List.drop_eq_nil_of_le (by simp),List.append_nil]
 rfl
end M
theorem Mu (key:List Int):cQ .u8 32 (M.gJ key 18446744073709551615 [] M.oZ)=cQ .u8 32 (M.rk key):=by
 unfold cQ
 refine List.map_congr_left fun i hi=>?_
 rw [M.aGc (by simpa using hi)]
theorem TX {key:List Int} {non:Int} (hk:key.length=32) :
 aD Tryz.prog (ΓD true []) 14 [.ptr 60 true 0] (rkT key true non) 100 100 { val:=.raw .nilIface,wr:=[(60,.own (Zn non (M.rk key) true) 40)] }:=by
 refine bU (cR _ _) (cS _ _) Tryz.func14 (by kernel_rfl) rfl (Nat.le_of_ble_eq_true (by kernel_rfl)) rfl [] ?_
 intro w0 Mx V0 Q bQ H
 have aM:=cR true []
 have aE:=cS true []
 have Ad:=M.nZ hk
 have hl:(M.gJ key 18446744073709551615 [] M.oZ).length=48:=M.lS _ _ _ _
 have hr:=M.aOf hl
 have hz:bG (List.replicate 48 (0:Int)):=M.rK 48
 have hs:=M.aFx key
 refine G.cL aM aE mix bQ [false] (aVl key (M.gJ key 18446744073709551615 [] M.oZ) true non) (aA ?_) ?_
 .rw [Ad]
  simp only [aO]
  repeat' apply And.intro
  all_goals first | exact hz | exact (hs.trans hr) | rfl | assumption | omega | trivial | exact (fun x hx=>by cases hx)
 refine G.eX (cl:=[]) aM aE mix [] H (aVk key _ true non) (aA (by simp [aO])) rfl rfl ?_
 show [(60,SB.own (.int false .u64 non::(Dx++(cQ .u8 32 _++[.bool false true]))) 40)]=[(60,SB.own (.int false .u64 non::(Dx++(cQ .u8 32 _++[.bool false true]))) 40)]
 rw [Mu]
theorem UD {key:List Int} {non:Int} {lg:Nat} (hk:key.length=32) (hb:bG key) (NU:lg<=8000000000000) :
 aD Tryz.prog (ΓD true []) 28 [.agg (Om key true non 65)] (qkT lg) 100 100 { val:=.eD [.agg (Om (M.rk key) true non 100),.int true .i64 0],new:=[.bO 2 (lg+46) 165],wr:=[(65,.gone)] }:=by
 refine bU (cR _ _) (cS _ _) Tryz.func28 (by kernel_rfl) rfl (Nat.le_of_ble_eq_true (by kernel_rfl)) rfl [] ?_
 intro w0 Mx V0 Q bQ H
 have aM:=cR true []
 have aE:=cS true []
 have Ad:=M.nZ hk
 have hl:(M.gJ key 18446744073709551615 [] M.oZ).length=48:=M.lS _ _ _ _
 have hz:bG M.oZ:=M.Mg
 have hN:M.tR 18446744073709551615:=⟨by decide,by decide⟩
 refine G.cL aM aE mix bQ [false] (aVz key (M.gJ key 18446744073709551615 [] M.oZ) true non lg (lg+46)) ?_ (G.ro 4 ?_)
 .refine M.nM (aA ?_) (M.nM (M.fJ rfl) (aA ?_))
  .rw [Ad]
   simp only [aO]
   exact ⟨by omega,by omega,by omega,by omega,trivial,trivial,hk,hb,hN,(fun x hx=>by cases hx),hz,by omega,by omega,by omega,trivial,trivial,trivial,by omega,trivial,trivial,trivial,by omega,rfl,trivial⟩
  .rw [Ad]
   exact ⟨rfl,rfl,rfl,by omega,trivial⟩
 refine G.eX (cl:=[]) aM aE mix (List.replicate 32 true) H (aVy key _ true non lg (lg+46)) ?_ ?_ rfl rfl
 .refine aA ?_
  rw [hl]
  simp only [aO]
  repeat' apply And.intro
  all_goals first | omega | trivial | decide
 .show SV.eD [.agg (cQ .u8 32 _++[.bool false true,.int false .u64 non,.buf 100]),.int true .i64 0]=SV.eD [.agg (cQ .u8 32 _++[.bool false true,.int false .u64 non,.buf 100]),.int true .i64 0]
  rw [Mu]
def aAc (cs:List SV):Option (Int × List Int × Bool):=match cs.head?,qL ((cs.drop 8).take 32),(cs.drop 40).head? with
 | some (.int _ .u64 non),some (.u8,k),some (.bool _ has)=>some (non,k,has)
 | _,_,_=>none
def aAb (cs:List SV):Option (List Int × Bool × Int × Nat):=match qL (cs.take 32),cs.drop 32 with
 | some (.u8,k),[.bool _ has,.int _ .u64 non,.buf l]=>some (k,has,non,l)
 | _,_=>none
def M.NO (cs:List SV) (non:Int) (k:List Int) (has:Bool):Prop:=cs=Zn non k has
def M.NN (cs:List SV) (k:List Int) (has:Bool) (non:Int):Prop:=cs=Om k has non 65
def DB (vs:List SV) (T:bA):Option Canon:=match vs with
 | [.ptr l _ 0]=>match T l with
   | some (.own cs _)=>match aAc cs with
     | some (non,k,has)=>some { eR:=[.ptr 60 true 0],T0:=(60,.own cs 40)::Kg,vl:=(60,.lab l 0)::Wp,e0:={ val:=.raw .nilIface,wr:=[(60,.own (Zn non (M.rk k) true) 40)] },conds:=[k.length=32,M.NO cs non k has,has=true] }
     | none=>none
   | _=>none
 | _=>none
theorem aGb (Γ:Env) (hg:Γ.aU=aB):aH Tryz.prog Γ 14 (aK aB 100 DB):=by
 refine aT hg fun vs T c hd hc=>?_
 unfold DB at hd
 split at hd
 case h_2=>cases hd
 split at hd
 case h_2=>cases hd
 split at hd
 case h_2=>cases hd
 rename_i non k has Gn
 cases hd
 have h2:=hc _ (List.mem_cons_of_mem _ List.mem_cons_self)
 have h3:=hc _ (List.mem_cons_of_mem _ (List.mem_cons_of_mem _ List.mem_cons_self))
 have h1:=hc _ List.mem_cons_self
 unfold M.NO at h2
 simp only [h2,h3]
 exact (TX h1).words (by rw [hg];rfl) (fun _=>rfl) (fun _ _ h=>h) (fun _=>rfl) rfl rfl
def DF (vs:List SV) (T:bA):Option Canon:=match vs with
 | [.agg cs]=>match aAb cs with
   | some (k,has,non,l)=>match T l with
     | some (.bO 2 lg _)=>some { eR:=[.agg (cs.take 34++[.buf 65])],T0:=[(65,.bO 2 lg 165)],vl:=[(65,.lab l 0)],e0:={ val:=.eD [.agg (Om (M.rk k) true non 100),.int true .i64 0],new:=[.bO 2 (lg+46) 165],wr:=[(65,.gone)] },conds:=[k.length=32,M.NN (cs.take 34++[.buf 65]) k has non,has=true,bG k,lg<=8000000000000] }
     | _=>none
   | none=>none
 | _=>none
theorem aGh (Γ:Env) (hg:Γ.aU=aB):aH Tryz.prog Γ 28 (aK aB 100 DF):=by
 refine aT hg fun vs T c hd hc=>?_
 unfold DF at hd
 split at hd
 case h_2=>cases hd
 split at hd
 case h_2=>cases hd
 rename_i k has non l Gn
 split at hd
 case h_2=>cases hd
 cases hd
 have h1:=hc _ List.mem_cons_self
 have h2:=hc _ (List.mem_cons_of_mem _ List.mem_cons_self)
 have h3:=hc _ (List.mem_cons_of_mem _ (List.mem_cons_of_mem _ List.mem_cons_self))
 have h4:=hc _ (List.mem_cons_of_mem _ (List.mem_cons_of_mem _ (List.mem_cons_of_mem _ List.mem_cons_self)))
 have h5:=hc _ (List.mem_cons_of_mem _ (List.mem_cons_of_mem _ (List.mem_cons_of_mem _ (List.mem_cons_of_mem _ List.mem_cons_self))))
 unfold M.NN at h2
 simp only [h2,h3]
 exact (UD h1 h4 h5).words (by rw [hg];rfl) (fun _=>rfl) (fun _ _ h=>h) (fun _=>rfl) rfl rfl
noncomputable def aMm:Nat->Option Sum:=eE (eE (exD true) 14 (aK aB 100 DB)) 28 (aK aB 100 DF)
theorem XQ:∀ f S,aMm f=some S->∀ Γ:Env,Γ.aU=aB->aH Tryz.prog Γ f S:=bI (bI (HH true) 14 _ aGb) 28 _ aGh
noncomputable def ΓR (hs:List (Nat × List Bool)):Env:=env (Ls aMm hs) 22
theorem FW (hs:List (Nat × List Bool)):cG Tryz.prog (ΓR hs):=bH _ 22
theorem FX (hs:List (Nat × List Bool)):bX Tryz.prog (ΓR hs):=bJ _ (vJ XQ hs) 22
noncomputable def dMr (hs:List (Nat × List Bool)) (T:bA) (k:Nat) (cf:Cf) (K:List Fr) (s:St):Option jA:=cA (ΓR hs) (aC 100 T) 100 Tryz.f8.ntmps [] 400 k cf K s
end Go.Proofs.YtaibhjpgbckbkaaGreatDoor.Sx
