/- slow.Block and slow.XOR, whatever they are asked. -/
import Derived.KernelRfl
import Derived.Test.YticicdfijghigaaGreatDoorQC
open Go
set_option maxRecDepth 100000
namespace Go.Proofs.YticicdfijghigaaGreatDoor.Sx
theorem kJ (n:Nat):cK Tryz.prog (env fD n):=bV fD (fun f S h Γ _=>qC f S h Γ) n
theorem Wi (key nonce:List Int) (c:Int) (hk:key.length=32) (hn:nonce.length=12) (Γ:Env) (hg:Γ.aT=aB) :
 aE Tryz.prog Γ 100 [.ai .u8 key,.int false .u32 c,.ai .u8 nonce] (fun l=>look l Jx) 100 100 { val:=.ai .u8 (B.block key nonce c) }:=by
 have hs:aI Tryz.prog (env fD 6) 100 (aF (env fD 6) Tryz.f100 true [] 400):=
  aM (bP fD 6) (kJ 6) mix Tryz.func100 (by kernel_rfl) true [] 400
 refine (hs.call (EM key nonce c) (by simp)).words (by rw [hg];rfl) (fun V=>?_) (fun _ _ h=>h) (fun V=>lA V _ _) rfl rfl
 simp only [aG,bB V hk,bB V hn]
def Qh (vs:List SV) (_:bA):Option Canon:=match vs with
 | [ks,.int _ .u32 c,ns]=>match cJ ks,cJ ns with
   | some (.u8,k),some (.u8,n)=>some { eN:=[.ai .u8 k,.int false .u32 c,.ai .u8 n],T0:=Jx,vl:=[],e0:={ val:=.ai .u8 (B.block k n c) },conds:=[k.length=32,n.length=12] }
   | _,_=>none
 | _=>none
def MV:Sum:=aL aB 100 Qh
theorem TG (Γ:Env) (hg:Γ.aT=aB):aI Tryz.prog Γ 100 MV:=by
 refine aW hg fun vs T c hd hc=>?_
 unfold Qh at hd
 split at hd
 case h_2=>cases hd
 split at hd
 case h_2=>cases hd
 cases hd
 exact Wi _ _ _ (hc _ (by simp)) (hc _ (by simp)) Γ hg
def exX (f:Nat):Option Sum:=match Nat.beq f 100 with
 | true=>some MV
 | false=>fD f
theorem aPe (f:Nat) (S:Sum) (h:exX f=some S) (Γ:Env) (hg:Γ.aT=aB):aI Tryz.prog Γ f S:=by
 unfold exX at h
 split at h
 .rename_i hb;have:=zzN hb;subst this;cases h;exact TG Γ hg
 .exact qC f S h Γ
noncomputable def ΓX:Env:=env exX 8
theorem aKk:cK Tryz.prog ΓX:=bV exX aPe 8
def Wx (key nonce:List Int) (c:Int) (off len cap:Nat):List SV:=[.ai .u8 key,.int false .u32 c,.ai .u8 nonce,.aJ 60 false off len cap]
def Al (xs:List Int) (ty:Nat):bA:=fun l=>look l ((60,.ints .u8 xs ty)::Jx)
def UW (c:Int) (off len cap:Nat) (i:Int):List (Nat × SV):=[(1,.int false .u32 c),(3,.aJ 60 false off len cap),(4,.ptr 100 true 0),(6,.ptr 101 true 0),(8,.ptr 102 true 0),(11,.int false .i64 len),(12,.int false .i64 i)]
def UU (ty:Nat) (key nonce xs aN:List Int):List (Nat × SB):=[(60,.ints .u8 xs ty),(100,.ints .u8 key 23),(101,.ints .u8 nonce 56),(102,.ints .u8 aN 122)]
noncomputable def Wy:Code:=match (gV ΓX (aY 100 (Al [] 5)) 100 Tryz.f55.ntmps [3] 0 400 (.go (codeOf Tryz.f55)) [] (zL (Wx [] [] 0 0 0 0) 100)) with
 | some ⟨.go (.loop L),_,_⟩=>L
 | _=>.skip
theorem HJ (key nonce xs iZ Nl:List Int) (c c':Int) (ty off len cap:Nat) (i':Int) :
 (TM 100 (aY 100 (Al xs ty)) [100,108,116] (UW c' off len cap i') (UU ty key nonce iZ Nl) 103 [60] [] (gV ΓX (aY 100 (Al xs ty)) 100 Tryz.f55.ntmps [3] 0 400 (.go (codeOf Tryz.f55)) [] ((zL (Wx key nonce c off len cap) 100).hint []))) =
 some (.go (.loop Wy),[.aN 0],[c=c',off=off,len=len,cap=cap,(↑len:Int)=(↑len:Int),0=i',xs=iZ/\ty=ty,key=key/\23=23,nonce=nonce/\56=56,0::0::0::0::0::0::0::0::0::0::0::0::0::0::0::0::0::0::0::0::0::0::0::0::0::0::0::0::0::0::0::0::0::0::0::0::0::0::0::0::0::0::0::0::0::0::0::0::0::0::0::0::0::0::0::0::0::0::(fun x=>0::x) ((fun x=>0::x) ((fun x=>0::x) ((fun x=>0::x) ((fun x=>0::x) ((fun x=>0::x) [])))))=Nl/\122=122]):=by kernel_rfl
theorem aTy (key nonce xs iK aN iZ Nl:List Int) (c c':Int) (ty off len cap:Nat) (i i':Int) :
 TM 100 (aY 100 (Al iK ty)) [100,101,102] (UW c' off len cap i') (UU ty key nonce iZ Nl) 103 [60] [] (gV ΓX (aY 100 (Al iK ty)) 100 Tryz.f55.ntmps [3] 0 400 (.go Wy) [] ((bM (UW c off len cap i) (UU ty key nonce xs aN) 103 [60] []).hint [true,true])) =
 sh (↑len:Int) fun z0=>
 sh (B.block key nonce c) fun z1=>
 some (Cf.at Ex.normal,[],[off+i.toNat*1<xs.length,0<=i/\i<z0,0+(i.tmod 64).toNat*1+1<=z1.length,0<=i.tmod 64/\i.tmod 64<64,off+i.toNat*1+1<=xs.length,0<=i/\i<z0,z1.length=64/\aN.length=64,key.length=32,nonce.length=12,key=key,c=c,nonce=nonce,nonce.length=12,key.length=32,(i.tmod 64==0)=true,decide (i<z0)=true,IntKind.u32.wrap (c+1)=c',off=off,len=len,cap=cap,z0=z0,IntKind.i64.wrap (i+1)=i',xs.set (off+i.toNat*1) (eZ IntKind.u8 (xs.getD (off+i.toNat*1+0) 0) (z1.getD (0+(i.tmod 64).toNat*1+0) 0))=iZ/\ty=ty,key=key/\23=23,nonce=nonce/\56=56,B.block key nonce c=Nl/\122=122]):=by kernel_rfl
theorem aTx (key nonce xs iK aN iZ Nl:List Int) (c c':Int) (ty off len cap:Nat) (i i':Int) :
 TM 100 (aY 100 (Al iK ty)) [100,101,102] (UW c' off len cap i') (UU ty key nonce iZ Nl) 103 [60] [] (gV ΓX (aY 100 (Al iK ty)) 100 Tryz.f55.ntmps [3] 0 400 (.go Wy) [] ((bM (UW c off len cap i) (UU ty key nonce xs aN) 103 [60] []).hint [true,false])) =
 sh (↑len:Int) fun z0=>
 some (Cf.at Ex.normal,[],[off+i.toNat*1<xs.length,0<=i/\i<z0,0+(i.tmod 64).toNat*1+1<=aN.length,0<=i.tmod 64/\i.tmod 64<64,off+i.toNat*1+1<=xs.length,0<=i/\i<z0,(i.tmod 64==0)=false,decide (i<z0)=true,c=c',off=off,len=len,cap=cap,z0=z0,IntKind.i64.wrap (i+1)=i',xs.set (off+i.toNat*1) (eZ IntKind.u8 (xs.getD (off+i.toNat*1+0) 0) (aN.getD (0+(i.tmod 64).toNat*1+0) 0))=iZ/\ty=ty,key=key/\23=23,nonce=nonce/\56=56,aN=Nl/\122=122]):=by kernel_rfl
theorem aTw (key nonce xs iK aN:List Int) (c:Int) (ty off len cap:Nat) (i:Int) :
 TM 100 (aY 100 (Al iK ty)) [100,101,102] (UW c off len cap i) (UU ty key nonce xs aN) 103 [60] [] (gV ΓX (aY 100 (Al iK ty)) 100 Tryz.f55.ntmps [3] 0 400 (.go Wy) [] ((bM (UW c off len cap i) (UU ty key nonce xs aN) 103 [60] []).hint [false])) =
 sh (↑len:Int) fun z0=>
 some (Cf.at (Ex.exit 0),[],[decide (i<z0)=false,c=c,off=off,len=len,cap=cap,z0=z0,i=i,xs=xs/\ty=ty,key=key/\23=23,nonce=nonce/\56=56,aN=aN/\122=122]):=by kernel_rfl
theorem aTv (key nonce xs iK aN:List Int) (c:Int) (ty off len cap:Nat) (i:Int) :
 Nk ΓX (Al iK ty) 100 100 Tryz.f55 (gV ΓX (aY 100 (Al iK ty)) 100 Tryz.f55.ntmps [3] 0 400 (.at (.exit 0)) [.aN 0] ((bM (UW c off len cap i) (UU ty key nonce xs aN) 103 [60] []).hint [])) =
 some {val:=SV.eP [],wr:=[(60,SB.ints IntKind.u8 xs ty)]}:=by kernel_rfl
theorem xS (key nonce:List Int) (c:Int):(B.block key nonce c).length=64:=by simp [B.block,B.out]
theorem NH (key nonce xs:List Int) (c:Int) (ty off len cap:Nat) (hk:key.length=32) (hn:nonce.length=12) (hx:off+len<=xs.length) (hl:len<=4611686018427387904) (hc:0<=c/\c<=4294967295) :
 aE Tryz.prog ΓX 55 (Wx key nonce c off len cap) (Al xs ty) 100 100 { val:=.eP [],wr:=[(60,.ints .u8 (cL key nonce c off len xs) ty)] }:=by
 have aR:=bP exX 8
 have aU:=aKk
 refine gI aR aU Tryz.func55 (by kernel_rfl) rfl (zzL (by kernel_rfl)) rfl [] ?_
 intro w0 M V0 Q hb H
 refine G.to aR aU mix hb [] (HJ key nonce xs xs (List.replicate 64 0) c c ty off len cap 0) (aA (by simp [bJ])) ?_
 refine G.loop (fun r s=>∃ (i:Nat) (aN:List Int),i<=len/\r=len-i/\aN.length=64/\(i%64≠0->aN=B.block key nonce (IntKind.u32.wrap (c+(i/64:Nat)))) /\
  s=bM (UW (IntKind.u32.wrap (c+((i+63)/64:Nat))) off len cap i) (UU ty key nonce (cL key nonce c off i xs) aN) 103 [60] []) (r0:=len)
  ⟨0,List.replicate 64 0,Nat.zero_le _,rfl,by simp,fun h=>absurd rfl h,by rw [Fk];simp [IntWalk.u32_in c hc]⟩ ?_
 rintro r s ⟨i,aN,hi,rfl,Ww,fE,rfl⟩
 have VJ:((i:Int)).tmod 64=((i%64:Nat):Int):=by rw [Int.tmod_eq_emod_of_nonneg (by omega)];omega
 have Ho:=fP key nonce c off i xs
 have Bh:IntKind.i64.wrap ((i:Int)+1)=((i+1:Nat):Int):=by rw [IntWalk.i64_in _ (by omega)];omega
 by_cases cM:i<len
 .have oO:∀ b:List Int,b.getD (i%64) 0=As key nonce c i->(cL key nonce c off i xs).set (off+(i:Int).toNat*1) (eZ IntKind.u8 ((cL key nonce c off i xs).getD (off+(i:Int).toNat*1+0) 0) (b.getD (0+((i:Int).tmod 64).toNat*1+0) 0))=cL key nonce c off (i+1) xs:=by
   intro b hb
   rw [<- Uw key nonce c off i xs (by omega),<- hb]
   simp only [VJ,zzt,Nat.mul_one,Nat.add_zero,Nat.zero_add]
  by_cases h64:i%64=0
  .have e1:(i+63)/64=i/64:=by omega
   have e2:(i+1+63)/64=i/64+1:=by omega
   refine G.round aR aU mix hb [true,true] (aTy key nonce _ xs aN (cL key nonce c off (i+1) xs) (B.block key nonce (IntKind.u32.wrap (c+(i/64:Nat)))) (IntKind.u32.wrap (c+((i+63)/64:Nat))) (IntKind.u32.wrap (c+((i+1+63)/64:Nat))) ty off len cap i ((i+1:Nat):Int)) (aA ?_) (len-(i+1)) (by omega) ⟨i+1,_,cM,rfl,xS _ _ _,fun _=>by rw [show (i+1)/64=i/64 from by omega],rfl⟩
   simp only [sh,bJ,xS,Bh,e1,e2,Mi]
   refine ⟨by omega,by omega,by omega,by omega,by omega,by omega,⟨trivial,Ww⟩,hk,hn,trivial,trivial,trivial,hn,hk,by rw [VJ,h64];rfl,by simpa using cM,trivial,trivial,trivial,trivial,trivial,trivial,⟨oO _ rfl,trivial⟩,⟨trivial,trivial⟩,⟨trivial,trivial⟩,⟨trivial,trivial⟩,trivial⟩
  .have e1:(i+1+63)/64=(i+63)/64:=by omega
   refine G.round aR aU mix hb [true,false] (aTx key nonce _ xs aN (cL key nonce c off (i+1) xs) aN (IntKind.u32.wrap (c+((i+63)/64:Nat))) (IntKind.u32.wrap (c+((i+1+63)/64:Nat))) ty off len cap i ((i+1:Nat):Int)) (aA ?_) (len-(i+1)) (by omega) ⟨i+1,aN,cM,rfl,Ww,fun h=>by rw [fE h64];congr 4;omega,rfl⟩
   simp only [sh,bJ,Bh,e1]
   refine ⟨by omega,by omega,by omega,by omega,by omega,by omega,by rw [VJ];simpa using by omega,by simpa using cM,trivial,trivial,trivial,trivial,trivial,trivial,⟨oO _ (by rw [fE h64];rfl),trivial⟩,⟨trivial,trivial⟩,⟨trivial,trivial⟩,⟨trivial,trivial⟩,trivial⟩
 .have hil:i=len:=by omega
  subst hil
  refine G.to aR aU mix hb [false] (aTw key nonce _ xs aN _ ty off i cap i) (aA (by simp [bJ])) (G.leave (by simp) ?_)
  exact G.fin aR aU mix [] H (aTv key nonce _ xs aN _ ty off i cap i) (by simp) rfl rfl rfl
def Dp:SB->Option (IntKind × List Int × Nat)
 | .ints k xs t=>some (k,xs,t)
 | .own cs t=>(zS cs).map fun p=>(p.1,p.2,t)
 | _=>none
def KW (vs:List SV) (T:bA):Option Canon:=match vs with
 | [ks,.int _ .u32 c,ns,.aJ l _ off len cap]=>match cJ ks,cJ ns with
   | some (.u8,k),some (.u8,n)=>match T l with
     | some B=>match Dp B with
       | some (.u8,xs,ty)=>some { eN:=Wx k n c off len cap,T0:=(60,.ints .u8 xs ty)::Jx,vl:=[(60,.lab l 0)],e0:={ val:=.eP [],wr:=[(60,.ints .u8 (cL k n c off len xs) ty)] },conds:=[k.length=32,n.length=12,off+len<=xs.length,len<=4611686018427387904,0<=c/\c<=4294967295] }
       | _=>none
     | none=>none
   | _,_=>none
 | _=>none
def aRc:Sum:=aL aB 100 KW
theorem aKo (Γ:Env) (hg:Γ.aT=aB):aI Tryz.prog Γ 55 aRc:=by
 refine aW hg fun vs T c hd hc=>?_
 unfold KW at hd
 split at hd
 case h_2=>cases hd
 split at hd
 case h_2=>cases hd
 split at hd
 case h_2=>cases hd
 split at hd
 case h_2=>cases hd
 cases hd
 exact (NH _ _ _ _ _ _ _ _ (hc _ (by simp)) (hc _ (by simp)) (hc _ (by simp)) (hc _ (by simp)) (hc _ (by simp))).words (by rw [hg];rfl) (fun _=>rfl) (fun _ _ h=>h) (fun _=>rfl) rfl rfl
def Fz:bA:=fun l=>look l []
noncomputable def Df (r:Option oY):Code:=match r with
 | some ⟨.go (.loop L),_,_⟩=>L
 | _=>.skip
noncomputable def De (r:Option oY):List Fr:=match r with
 | some ⟨_,fr,_⟩=>fr
 | none=>[]
theorem aV {p:Prop} {l:List Prop} (hp:p) (hl:∀ q∈l,q):∀ q∈p::l,q:=fun q hq=>(List.mem_cons.1 hq).elim (fun e=>e ▸ hp) (hl q)
theorem iQ:∀ q∈([]:List Prop),q:=fun q hq=>by cases hq
theorem rS {l l':List Prop} (h1:∀ q∈l,q) (h2:∀ q∈l',q):∀ q∈l++l',q:=fun q hq=>(List.mem_append.1 hq).elim (h1 q) (h2 q)
def siV (key nonce:List Int) (c:Int):List SV:=[.int true .u32 1634760805,.int true .u32 857760878,.int true .u32 2036477234,.int true .u32 1797285236]++((List.range 8).map (B.word key)).map (.int false .u32)++[.int false .u32 c]++((List.range 3).map (B.word nonce)).map (.int false .u32)
theorem aLb (key nonce:List Int) (c:Int):aF (env fD 4) Tryz.f76 true [] 400 [.agg (cI .u8 32 key),.int false .u32 c,.agg (cI .u8 12 nonce)] Fz 100 100=some { val:=.agg (siV key nonce c) }:=by kernel_rfl
theorem aBq (s:List Int):aF (env fD 4) Tryz.f82 true [] 400 [.agg (cI .u32 16 s)] Fz 100 100=some { val:=.agg ((B.out (B.rounds 10 (cN 16 s)) (cN 16 s)).map (.int false .u8)) }:=by kernel_rfl
noncomputable def rM:Env:=env fD 4
theorem vV:cC Tryz.prog rM:=bP _ 4
theorem vW:cK Tryz.prog rM:=kJ 4
def aIe (off:Nat) (b:List Int):List SV:=[.ptr 60 false off,.ai .u8 b]
def vG (xs:List Int) (t:TypeId):bA:=fun l=>look l [(60,.ints .u8 xs t)]
noncomputable def tuM (xs:List Int) (t:TypeId) (cf:Cf) (K:List Fr) (s:St):Option oY:=gV rM (aY 100 (vG xs t)) 100 Tryz.f81.ntmps [2] 400 3000 cf K s
def Sd (off:Nat) (i:Int):List (Nat × SV):=[(0,.ptr 60 false off),(3,.ptr 100 true 0),(5,.int false .i64 i)]
def Sc (xs b:List Int) (t:TypeId):List (Nat × SB):=[(60,.ints .u8 xs t),(100,.ints .u8 b 122)]
noncomputable def tuR:Option oY:=tuM [] 0 (.go (codeOf Tryz.f81)) [] ((zL (aIe 0 []) 100).hint [])
noncomputable def aIf:Code:=Df tuR
noncomputable def tuK:List Fr:=De tuR
theorem aZn (xs iZ b b':List Int) (t:TypeId) (off fR:Nat) (i':Int) :
 (cW 100 Tryz.f81.ntmps (aY 100 (vG xs t)) [] (Sd fR i') (Sc iZ b' t) 101 [60] [] (tuM xs t (.go (codeOf Tryz.f81)) [] ((zL (aIe off b) 100).hint []))) =
 some (.go (.loop aIf),tuK,
  [off=fR,(0:Int)=i',xs=iZ/\t=t,b=b'/\(122:Nat)=(122:TypeId)]):=by kernel_rfl
theorem aZm (iK xs iZ b b':List Int) (t:TypeId) (off fR:Nat) (i i':Int) :
 (cW 100 Tryz.f81.ntmps (aY 100 (vG iK t)) [] (Sd fR i') (Sc iZ b' t) 101 [60] [] (tuM iK t (.go aIf) [] ((bM (Sd off i) (Sc xs b t) 101 [60] []).hint [true]))) =
 some (.at .normal,[],
  [off+i.toNat*(1:Nat)<xs.length,(0:Int)<=i/\i<(64:Int),(0:Nat)+i.toNat*(1:Nat)+(1:Nat)<=b.length,(0:Int)<=i/\i<(64:Int),
  off+i.toNat*(1:Nat)+(1:Nat)<=xs.length,(0:Int)<=i/\i<(64:Int),decide (i<(64:Int))=true,off=fR,IntKind.i64.wrap (i+(1:Int))=i',
  xs.set (off+i.toNat*(1:Nat)) (eZ IntKind.u8 (xs.getD (off+i.toNat*(1:Nat)+0) (0:Int)) (b.getD ((0:Nat)+i.toNat*(1:Nat)+0) (0:Int)))=iZ/\t=t,
  b=b'/\(122:TypeId)=(122:TypeId)]):=by kernel_rfl
theorem aZl (iK xs iZ b b':List Int) (t:TypeId) (off fR:Nat) (i i':Int) :
 (cW 100 Tryz.f81.ntmps (aY 100 (vG iK t)) [] (Sd fR i') (Sc iZ b' t) 101 [60] [] (tuM iK t (.go aIf) [] ((bM (Sd off i) (Sc xs b t) 101 [60] []).hint [false]))) =
 some (.at (.exit 0),[],
  [decide (i<(64:Int))=false,off=fR,i=i',xs=iZ/\t=t,b=b'/\(122:TypeId)=(122:TypeId)]):=by kernel_rfl
theorem aZk (iK xs b:List Int) (t:TypeId) (off:Nat) (i:Int) :
 pY rM (vG iK t) 100 100 Tryz.f81 [] (tuM iK t (.at (.exit 0)) tuK ((bM (Sd off i) (Sc xs b t) 101 [60] []).hint [])) =
 some { val:=SV.eP [],wr:=[(60,SB.ints IntKind.u8 xs t)] }:=by kernel_rfl
end Go.Proofs.YticicdfijghigaaGreatDoor.Sx
