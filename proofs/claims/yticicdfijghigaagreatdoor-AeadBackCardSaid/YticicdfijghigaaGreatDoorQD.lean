/- slow.Block and slow.XOR, whatever they are asked. -/
import Derived.KernelRfl
import Derived.Test.YticicdfijghigaaGreatDoorQC
open Go
set_option maxRecDepth 100000
namespace Go.Proofs.YticicdfijghigaaGreatDoor.Sx
theorem mY (n:Nat):cK Tryz.prog (env gC n):=bW gC (fun f S h Γ _=>tJ f S h Γ) n
theorem Tw (key nonce:List Int) (c:Int) (hk:key.length=32) (hn:nonce.length=12) (Γ:Env) (hg:Γ.aR=aB) :
 aF Tryz.prog Γ 100 [.ai .u8 key,.int false .u32 c,.ai .u8 nonce] (fun l=>look l Hv) 100 100 { val:=.ai .u8 (B.block key nonce c) }:=by
 have hs:aH Tryz.prog (env gC 6) 100 (aJ (env gC 6) Tryz.f100 true [] 400):=
  aM (bQ gC 6) (mY 6) mix Tryz.func100 (by kernel_rfl) true [] 400
 refine (hs.call (BW key nonce c) (by simp)).words (by rw [hg];rfl) (fun V=>?_) (fun _ _ h=>h) (fun V=>nE V _ _) rfl rfl
 simp only [aE,bI V hk,bI V hn]
def Nx (vs:List SV) (_:aZ):Option Canon:=match vs with
 | [ks,.int _ .u32 c,ns]=>match cJ ks,cJ ns with
   | some (.u8,k),some (.u8,n)=>some { eR:=[.ai .u8 k,.int false .u32 c,.ai .u8 n],T0:=Hv,vl:=[],e0:={ val:=.ai .u8 (B.block k n c) },conds:=[k.length=32,n.length=12] }
   | _,_=>none
 | _=>none
def KD:Sum:=aK aB 100 Nx
theorem QJ (Γ:Env) (hg:Γ.aR=aB):aH Tryz.prog Γ 100 KD:=by
 refine aW hg fun vs T c hd hc=>?_
 unfold Nx at hd
 split at hd
 case h_2=>cases hd
 split at hd
 case h_2=>cases hd
 cases hd
 exact Tw _ _ _ (hc _ (by simp)) (hc _ (by simp)) Γ hg
def exX (f:Nat):Option Sum:=match Nat.beq f 100 with
 | true=>some KD
 | false=>gC f
theorem aMb (f:Nat) (S:Sum) (h:exX f=some S) (Γ:Env) (hg:Γ.aR=aB):aH Tryz.prog Γ f S:=by
 unfold exX at h
 split at h
 .rename_i hb;have:=cH hb;subst this;cases h;exact QJ Γ hg
 .exact tJ f S h Γ
noncomputable def ΓX:Env:=env exX 8
theorem aHi:cK Tryz.prog ΓX:=bW exX aMb 8
def Uk (key nonce:List Int) (c:Int) (off len cap:Nat):List SV:=[.ai .u8 key,.int false .u32 c,.ai .u8 nonce,.aG 60 false off len cap]
def yX (xs:List Int) (ty:Nat):aZ:=fun l=>look l ((60,.ints .u8 xs ty)::Hv)
def RQ (c:Int) (off len cap:Nat) (i:Int):List (Nat × SV):=[(1,.int false .u32 c),(3,.aG 60 false off len cap),(4,.ptr 100 true 0),(6,.ptr 101 true 0),(8,.ptr 102 true 0),(11,.int false .i64 len),(12,.int false .i64 i)]
def RP (ty:Nat) (key nonce xs aN:List Int):List (Nat × SB):=[(60,.ints .u8 xs ty),(100,.ints .u8 key 23),(101,.ints .u8 nonce 56),(102,.ints .u8 aN 122)]
noncomputable def Ul:Code:=match (gZ ΓX (bH 100 (yX [] 5)) 100 Tryz.f55.ntmps [3] 0 400 (.go (codeOf Tryz.f55)) [] (zM (Uk [] [] 0 0 0 0) 100)) with
 | some ⟨.go (.loop L),_,_⟩=>L
 | _=>.skip
theorem aQp (key nonce xs iR Lk:List Int) (c c':Int) (ty off len cap:Nat) (i':Int) :
 (QP 100 (bH 100 (yX xs ty)) [100,108,116] (RQ c' off len cap i') (RP ty key nonce iR Lk) 103 [60] [] (gZ ΓX (bH 100 (yX xs ty)) 100 Tryz.f55.ntmps [3] 0 400 (.go (codeOf Tryz.f55)) [] ((zM (Uk key nonce c off len cap) 100).hint []))) =
 some (.go (.loop Ul),[.aN 0],[c=c',off=off,len=len,cap=cap,(↑len:Int)=(↑len:Int),0=i',xs=iR/\ty=ty,key=key/\23=23,nonce=nonce/\56=56,0::0::0::0::0::0::0::0::0::0::0::0::0::0::0::0::0::0::0::0::0::0::0::0::0::0::0::0::0::0::0::0::0::0::0::0::0::0::0::0::0::0::0::0::0::0::0::0::0::0::0::0::0::0::0::0::0::0::(fun x=>0::x) ((fun x=>0::x) ((fun x=>0::x) ((fun x=>0::x) ((fun x=>0::x) ((fun x=>0::x) [])))))=Lk/\122=122]):=by kernel_rfl
theorem aQo (key nonce xs iA aN iR Lk:List Int) (c c':Int) (ty off len cap:Nat) (i i':Int) :
 QP 100 (bH 100 (yX iA ty)) [100,101,102] (RQ c' off len cap i') (RP ty key nonce iR Lk) 103 [60] [] (gZ ΓX (bH 100 (yX iA ty)) 100 Tryz.f55.ntmps [3] 0 400 (.go Ul) [] ((cB (RQ c off len cap i) (RP ty key nonce xs aN) 103 [60] []).hint [true,true])) =
 sh (↑len:Int) fun z0=>
 sh (B.block key nonce c) fun z1=>
 some (Cf.at Ex.normal,[],[off+i.toNat*1<xs.length,0<=i/\i<z0,0+(i.tmod 64).toNat*1+1<=z1.length,0<=i.tmod 64/\i.tmod 64<64,off+i.toNat*1+1<=xs.length,0<=i/\i<z0,z1.length=64/\aN.length=64,key.length=32,nonce.length=12,key=key,c=c,nonce=nonce,nonce.length=12,key.length=32,(i.tmod 64==0)=true,decide (i<z0)=true,IntKind.u32.wrap (c+1)=c',off=off,len=len,cap=cap,z0=z0,IntKind.i64.wrap (i+1)=i',xs.set (off+i.toNat*1) (gO IntKind.u8 (xs.getD (off+i.toNat*1+0) 0) (z1.getD (0+(i.tmod 64).toNat*1+0) 0))=iR/\ty=ty,key=key/\23=23,nonce=nonce/\56=56,B.block key nonce c=Lk/\122=122]):=by kernel_rfl
theorem aQn (key nonce xs iA aN iR Lk:List Int) (c c':Int) (ty off len cap:Nat) (i i':Int) :
 QP 100 (bH 100 (yX iA ty)) [100,101,102] (RQ c' off len cap i') (RP ty key nonce iR Lk) 103 [60] [] (gZ ΓX (bH 100 (yX iA ty)) 100 Tryz.f55.ntmps [3] 0 400 (.go Ul) [] ((cB (RQ c off len cap i) (RP ty key nonce xs aN) 103 [60] []).hint [true,false])) =
 sh (↑len:Int) fun z0=>
 some (Cf.at Ex.normal,[],[off+i.toNat*1<xs.length,0<=i/\i<z0,0+(i.tmod 64).toNat*1+1<=aN.length,0<=i.tmod 64/\i.tmod 64<64,off+i.toNat*1+1<=xs.length,0<=i/\i<z0,(i.tmod 64==0)=false,decide (i<z0)=true,c=c',off=off,len=len,cap=cap,z0=z0,IntKind.i64.wrap (i+1)=i',xs.set (off+i.toNat*1) (gO IntKind.u8 (xs.getD (off+i.toNat*1+0) 0) (aN.getD (0+(i.tmod 64).toNat*1+0) 0))=iR/\ty=ty,key=key/\23=23,nonce=nonce/\56=56,aN=Lk/\122=122]):=by kernel_rfl
theorem aQm (key nonce xs iA aN:List Int) (c:Int) (ty off len cap:Nat) (i:Int) :
 QP 100 (bH 100 (yX iA ty)) [100,101,102] (RQ c off len cap i) (RP ty key nonce xs aN) 103 [60] [] (gZ ΓX (bH 100 (yX iA ty)) 100 Tryz.f55.ntmps [3] 0 400 (.go Ul) [] ((cB (RQ c off len cap i) (RP ty key nonce xs aN) 103 [60] []).hint [false])) =
 sh (↑len:Int) fun z0=>
 some (Cf.at (Ex.exit 0),[],[decide (i<z0)=false,c=c,off=off,len=len,cap=cap,z0=z0,i=i,xs=xs/\ty=ty,key=key/\23=23,nonce=nonce/\56=56,aN=aN/\122=122]):=by kernel_rfl
theorem aQl (key nonce xs iA aN:List Int) (c:Int) (ty off len cap:Nat) (i:Int) :
 Lj ΓX (yX iA ty) 100 100 Tryz.f55 (gZ ΓX (bH 100 (yX iA ty)) 100 Tryz.f55.ntmps [3] 0 400 (.at (.exit 0)) [.aN 0] ((cB (RQ c off len cap i) (RP ty key nonce xs aN) 103 [60] []).hint [])) =
 some {val:=SV.eL [],wr:=[(60,SB.ints IntKind.u8 xs ty)]}:=by kernel_rfl
theorem wM (key nonce:List Int) (c:Int):(B.block key nonce c).length=64:=by simp [B.block,B.out]
theorem KL (key nonce xs:List Int) (c:Int) (ty off len cap:Nat) (hk:key.length=32) (hn:nonce.length=12) (hx:off+len<=xs.length) (hl:len<=4611686018427387904) (hc:0<=c/\c<=4294967295) :
 aF Tryz.prog ΓX 55 (Uk key nonce c off len cap) (yX xs ty) 100 100 { val:=.eL [],wr:=[(60,.ints .u8 (cG key nonce c off len xs) ty)] }:=by
 have aT:=bQ exX 8
 have aX:=aHi
 refine gR aT aX Tryz.func55 (by kernel_rfl) rfl (Nat.le_of_ble_eq_true (by kernel_rfl)) rfl [] ?_
 intro w0 M V0 Q hb H
 refine G.to aT aX mix hb [] (aQp key nonce xs xs (List.replicate 64 0) c c ty off len cap 0) (aA (by simp [bX])) ?_
 refine G.loop (fun r s=>∃ (i:Nat) (aN:List Int),i<=len/\r=len-i/\aN.length=64/\(i%64≠0->aN=B.block key nonce (IntKind.u32.wrap (c+(i/64:Nat)))) /\
  s=cB (RQ (IntKind.u32.wrap (c+((i+63)/64:Nat))) off len cap i) (RP ty key nonce (cG key nonce c off i xs) aN) 103 [60] []) (r0:=len)
  ⟨0,List.replicate 64 0,Nat.zero_le _,rfl,by simp,fun h=>absurd rfl h,by rw [Dj];simp [IntWalk.u32_in c hc]⟩ ?_
 rintro r s ⟨i,aN,hi,rfl,Uj,fA,rfl⟩
 have SF:((i:Int)).tmod 64=((i%64:Nat):Int):=by rw [Int.tmod_eq_emod_of_nonneg (by omega)];omega
 have Fp:=fL key nonce c off i xs
 have zR:IntKind.i64.wrap ((i:Int)+1)=((i+1:Nat):Int):=by rw [IntWalk.i64_in _ (by omega)];omega
 by_cases cI:i<len
 .have pC:∀ b:List Int,b.getD (i%64) 0=zE key nonce c i->(cG key nonce c off i xs).set (off+(i:Int).toNat*1) (gO IntKind.u8 ((cG key nonce c off i xs).getD (off+(i:Int).toNat*1+0) 0) (b.getD (0+((i:Int).tmod 64).toNat*1+0) 0))=cG key nonce c off (i+1) xs:=by
   intro b hb
   rw [<- Sg key nonce c off i xs (by omega),<- hb]
   simp only [SF,Int.toNat_natCast,Nat.mul_one,Nat.add_zero,Nat.zero_add]
  by_cases h64:i%64=0
  .have e1:(i+63)/64=i/64:=by omega
   have e2:(i+1+63)/64=i/64+1:=by omega
   refine G.round aT aX mix hb [true,true] (aQo key nonce _ xs aN (cG key nonce c off (i+1) xs) (B.block key nonce (IntKind.u32.wrap (c+(i/64:Nat)))) (IntKind.u32.wrap (c+((i+63)/64:Nat))) (IntKind.u32.wrap (c+((i+1+63)/64:Nat))) ty off len cap i ((i+1:Nat):Int)) (aA ?_) (len-(i+1)) (by omega) ⟨i+1,_,cI,rfl,wM _ _ _,fun _=>by rw [show (i+1)/64=i/64 from by omega],rfl⟩
   simp only [sh,bX,wM,zR,e1,e2,Ki]
   refine ⟨by omega,by omega,by omega,by omega,by omega,by omega,⟨trivial,Uj⟩,hk,hn,trivial,trivial,trivial,hn,hk,by rw [SF,h64];rfl,by simpa using cI,trivial,trivial,trivial,trivial,trivial,trivial,⟨pC _ rfl,trivial⟩,⟨trivial,trivial⟩,⟨trivial,trivial⟩,⟨trivial,trivial⟩,trivial⟩
  .have e1:(i+1+63)/64=(i+63)/64:=by omega
   refine G.round aT aX mix hb [true,false] (aQn key nonce _ xs aN (cG key nonce c off (i+1) xs) aN (IntKind.u32.wrap (c+((i+63)/64:Nat))) (IntKind.u32.wrap (c+((i+1+63)/64:Nat))) ty off len cap i ((i+1:Nat):Int)) (aA ?_) (len-(i+1)) (by omega) ⟨i+1,aN,cI,rfl,Uj,fun h=>by rw [fA h64];congr 4;omega,rfl⟩
   simp only [sh,bX,zR,e1]
   refine ⟨by omega,by omega,by omega,by omega,by omega,by omega,by rw [SF];simpa using by omega,by simpa using cI,trivial,trivial,trivial,trivial,trivial,trivial,⟨pC _ (by rw [fA h64];rfl),trivial⟩,⟨trivial,trivial⟩,⟨trivial,trivial⟩,⟨trivial,trivial⟩,trivial⟩
 .have hil:i=len:=by omega
  subst hil
  refine G.to aT aX mix hb [false] (aQm key nonce _ xs aN _ ty off i cap i) (aA (by simp [bX])) (G.leave (by simp) ?_)
  exact G.fin aT aX mix [] H (aQl key nonce _ xs aN _ ty off i cap i) (by simp) rfl rfl rfl
def Bu:SB->Option (IntKind × List Int × Nat)
 | .ints k xs t=>some (k,xs,t)
 | .own cs t=>(yI cs).map fun p=>(p.1,p.2,t)
 | _=>none
def IC (vs:List SV) (T:aZ):Option Canon:=match vs with
 | [ks,.int _ .u32 c,ns,.aG l _ off len cap]=>match cJ ks,cJ ns with
   | some (.u8,k),some (.u8,n)=>match T l with
     | some B=>match Bu B with
       | some (.u8,xs,ty)=>some { eR:=Uk k n c off len cap,T0:=(60,.ints .u8 xs ty)::Hv,vl:=[(60,.lab l 0)],e0:={ val:=.eL [],wr:=[(60,.ints .u8 (cG k n c off len xs) ty)] },conds:=[k.length=32,n.length=12,off+len<=xs.length,len<=4611686018427387904,0<=c/\c<=4294967295] }
       | _=>none
     | none=>none
   | _,_=>none
 | _=>none
def aNw:Sum:=aK aB 100 IC
theorem aHl (Γ:Env) (hg:Γ.aR=aB):aH Tryz.prog Γ 55 aNw:=by
 refine aW hg fun vs T c hd hc=>?_
 unfold IC at hd
 split at hd
 case h_2=>cases hd
 split at hd
 case h_2=>cases hd
 split at hd
 case h_2=>cases hd
 split at hd
 case h_2=>cases hd
 cases hd
 exact (KL _ _ _ _ _ _ _ _ (hc _ (by simp)) (hc _ (by simp)) (hc _ (by simp)) (hc _ (by simp)) (hc _ (by simp))).words (by rw [hg];rfl) (fun _=>rfl) (fun _ _ h=>h) (fun _=>rfl) rfl rfl
def Dx:aZ:=fun l=>look l []
noncomputable def Fb (r:Option pU):Code:=match r with
 | some ⟨.go (.loop L),_,_⟩=>L
 | _=>.skip
noncomputable def Fa (r:Option pU):List Fr:=match r with
 | some ⟨_,fr,_⟩=>fr
 | none=>[]
theorem aO {p:Prop} {l:List Prop} (hp:p) (hl:∀ q∈l,q):∀ q∈p::l,q:=fun q hq=>(List.mem_cons.1 hq).elim (fun e=>e ▸ hp) (hl q)
theorem iG:∀ q∈([]:List Prop),q:=fun q hq=>by cases hq
theorem qT {l l':List Prop} (h1:∀ q∈l,q) (h2:∀ q∈l',q):∀ q∈l++l',q:=fun q hq=>(List.mem_append.1 hq).elim (h1 q) (h2 q)
def siV (key nonce:List Int) (c:Int):List SV:=[.int true .u32 1634760805,.int true .u32 857760878,.int true .u32 2036477234,.int true .u32 1797285236]++((List.range 8).map (B.word key)).map (.int false .u32)++[.int false .u32 c]++((List.range 3).map (B.word nonce)).map (.int false .u32)
theorem aHy (key nonce:List Int) (c:Int):aJ (env gC 4) Tryz.f76 true [] 400 [.agg (cO .u8 32 key),.int false .u32 c,.agg (cO .u8 12 nonce)] Dx 100 100=some { val:=.agg (siV key nonce c) }:=by kernel_rfl
theorem YV (s:List Int):aJ (env gC 4) Tryz.f82 true [] 400 [.agg (cO .u32 16 s)] Dx 100 100=some { val:=.agg ((B.out (B.rounds 10 (dJ 16 s)) (dJ 16 s)).map (.int false .u8)) }:=by kernel_rfl
noncomputable def qN:Env:=env gC 4
theorem uQ:cA Tryz.prog qN:=bQ _ 4
theorem uR:cK Tryz.prog qN:=mY 4
def aFg (off:Nat) (b:List Int):List SV:=[.ptr 60 false off,.ai .u8 b]
def uA (xs:List Int) (t:TypeId):aZ:=fun l=>look l [(60,.ints .u8 xs t)]
noncomputable def tuM (xs:List Int) (t:TypeId) (cf:Cf) (K:List Fr) (s:St):Option pU:=gZ qN (bH 100 (uA xs t)) 100 Tryz.f81.ntmps [2] 400 3000 cf K s
def Pv (off:Nat) (i:Int):List (Nat × SV):=[(0,.ptr 60 false off),(3,.ptr 100 true 0),(5,.int false .i64 i)]
def Pu (xs b:List Int) (t:TypeId):List (Nat × SB):=[(60,.ints .u8 xs t),(100,.ints .u8 b 122)]
noncomputable def tuR:Option pU:=tuM [] 0 (.go (codeOf Tryz.f81)) [] ((zM (aFg 0 []) 100).hint [])
noncomputable def aFh:Code:=Fb tuR
noncomputable def tuK:List Fr:=Fa tuR
theorem aVi (xs iR b b':List Int) (t:TypeId) (off fN:Nat) (i':Int) :
 (fM 100 Tryz.f81.ntmps (bH 100 (uA xs t)) [] (Pv fN i') (Pu iR b' t) 101 [60] [] (tuM xs t (.go (codeOf Tryz.f81)) [] ((zM (aFg off b) 100).hint []))) =
 some (.go (.loop aFh),tuK,
  [off=fN,(0:Int)=i',xs=iR/\t=t,b=b'/\(122:Nat)=(122:TypeId)]):=by kernel_rfl
theorem aVh (iA xs iR b b':List Int) (t:TypeId) (off fN:Nat) (i i':Int) :
 (fM 100 Tryz.f81.ntmps (bH 100 (uA iA t)) [] (Pv fN i') (Pu iR b' t) 101 [60] [] (tuM iA t (.go aFh) [] ((cB (Pv off i) (Pu xs b t) 101 [60] []).hint [true]))) =
 some (.at .normal,[],
  [off+i.toNat*(1:Nat)<xs.length,(0:Int)<=i/\i<(64:Int),(0:Nat)+i.toNat*(1:Nat)+(1:Nat)<=b.length,(0:Int)<=i/\i<(64:Int),
  off+i.toNat*(1:Nat)+(1:Nat)<=xs.length,(0:Int)<=i/\i<(64:Int),decide (i<(64:Int))=true,off=fN,IntKind.i64.wrap (i+(1:Int))=i',
  xs.set (off+i.toNat*(1:Nat)) (gO IntKind.u8 (xs.getD (off+i.toNat*(1:Nat)+0) (0:Int)) (b.getD ((0:Nat)+i.toNat*(1:Nat)+0) (0:Int)))=iR/\t=t,
  b=b'/\(122:TypeId)=(122:TypeId)]):=by kernel_rfl
theorem aVg (iA xs iR b b':List Int) (t:TypeId) (off fN:Nat) (i i':Int) :
 (fM 100 Tryz.f81.ntmps (bH 100 (uA iA t)) [] (Pv fN i') (Pu iR b' t) 101 [60] [] (tuM iA t (.go aFh) [] ((cB (Pv off i) (Pu xs b t) 101 [60] []).hint [false]))) =
 some (.at (.exit 0),[],
  [decide (i<(64:Int))=false,off=fN,i=i',xs=iR/\t=t,b=b'/\(122:TypeId)=(122:TypeId)]):=by kernel_rfl
theorem aVf (iA xs b:List Int) (t:TypeId) (off:Nat) (i:Int) :
 sW qN (uA iA t) 100 100 Tryz.f81 [] (tuM iA t (.at (.exit 0)) tuK ((cB (Pv off i) (Pu xs b t) 101 [60] []).hint [])) =
 some { val:=SV.eL [],wr:=[(60,SB.ints IntKind.u8 xs t)] }:=by kernel_rfl
end Go.Proofs.YticicdfijghigaaGreatDoor.Sx
