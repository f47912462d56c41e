/- Plain Lean for slow.Tag: the clamped key, the bytes that are held, a block's step, the last sum. -/
import Derived.ProofKit
import Derived.OpenShut
import Derived.Test.YtnodfocobmghiaaGreatDoorQK
open Go
set_option maxRecDepth 100000
namespace Go.Proofs.YtnodfocobmghiaaGreatDoor.Sx
namespace M
theorem Ry {x:Int} (h:Bt x):bR .u8 x 15=(IntKind.i64.wrap x).tmod 16:=by
 have key:∀ n:Fin 256,bR .u8 ((n.val:Nat):Int) 15=(IntKind.i64.wrap ((n.val:Nat):Int)).tmod 16:=by decide +kernel
 obtain ⟨h0,h1⟩:=h
 have:=key ⟨x.toNat,by omega⟩
 simpa [Int.toNat_of_nonneg h0] using this
theorem Pa {x:Int} (h:Bt x):bR .u8 x 252=IntKind.i64.wrap (IntKind.i64.wrap x-(IntKind.i64.wrap x).tmod 4):=by
 have key:∀ n:Fin 256,bR .u8 ((n.val:Nat):Int) 252=IntKind.i64.wrap (IntKind.i64.wrap ((n.val:Nat):Int)-(IntKind.i64.wrap ((n.val:Nat):Int)).tmod 4):=by decide +kernel
 obtain ⟨h0,h1⟩:=h
 have:=key ⟨x.toNat,by omega⟩
 simpa [Int.toNat_of_nonneg h0] using this
theorem Bp {x:Int} (h:Bt x):0<=bR .u8 x 15/\bR .u8 x 15<=15:=by
 have key:∀ n:Fin 256,0<=bR .u8 ((n.val:Nat):Int) 15/\bR .u8 ((n.val:Nat):Int) 15<=15:=by decide +kernel
 obtain ⟨h0,h1⟩:=h
 have:=key ⟨x.toNat,by omega⟩
 simpa [Int.toNat_of_nonneg h0] using this
theorem wK {x:Int} (h:Bt x):0<=bR .u8 x 252/\bR .u8 x 252<=255:=by
 have key:∀ n:Fin 256,0<=bR .u8 ((n.val:Nat):Int) 252/\bR .u8 ((n.val:Nat):Int) 252<=255:=by decide +kernel
 obtain ⟨h0,h1⟩:=h
 have:=key ⟨x.toNat,by omega⟩
 simpa [Int.toNat_of_nonneg h0] using this
theorem oE {x:Int} (h:Bt x):IntKind.i64.wrap x=x:=by
 obtain ⟨h0,h1⟩:=h
 exact IntWalk.i64_in _ ⟨by omega,by omega⟩
def sM (k:List Int):Int:=V [k.getD 0 0,k.getD 1 0,k.getD 2 0,bR .u8 (k.getD 3 0) 15,bR .u8 (k.getD 4 0) 252,k.getD 5 0,k.getD 6 0,bR .u8 (k.getD 7 0) 15]
def rA (k:List Int):Int:=V [bR .u8 (k.getD 8 0) 252,k.getD 9 0,k.getD 10 0,bR .u8 (k.getD 11 0) 15,bR .u8 (k.getD 12 0) 252,k.getD 13 0,k.getD 14 0,bR .u8 (k.getD 15 0) 15]
def kS (k:List Int):List Int:=[k.getD 0 0,k.getD 1 0,k.getD 2 0,bR .u8 (k.getD 3 0) 15,bR .u8 (k.getD 4 0) 252,k.getD 5 0,k.getD 6 0,bR .u8 (k.getD 7 0) 15,bR .u8 (k.getD 8 0) 252,k.getD 9 0,k.getD 10 0,bR .u8 (k.getD 11 0) 15,bR .u8 (k.getD 12 0) 252,k.getD 13 0,k.getD 14 0,bR .u8 (k.getD 15 0) 15,k.getD 16 0,k.getD 17 0,k.getD 18 0,k.getD 19 0,k.getD 20 0,k.getD 21 0,k.getD 22 0,k.getD 23 0,k.getD 24 0,k.getD 25 0,k.getD 26 0,k.getD 27 0,k.getD 28 0,k.getD 29 0,k.getD 30 0,k.getD 31 0]
def vH (k:List Int):Int:=V [k.getD 16 0,k.getD 17 0,k.getD 18 0,k.getD 19 0,k.getD 20 0,k.getD 21 0,k.getD 22 0,k.getD 23 0]
def wO (k:List Int):Int:=V [k.getD 24 0,k.getD 25 0,k.getD 26 0,k.getD 27 0,k.getD 28 0,k.getD 29 0,k.getD 30 0,k.getD 31 0]
theorem bX.Mz:bX []:=fun _ h=>by cases h
theorem bX.bM {x:Int} {r:List Int} (h:Bt x) (hr:bX r):bX (x::r):=fun y hy=>by
 rcases List.mem_cons.1 hy with rfl | hy
 .exact h
 .exact hr y hy
theorem OC {k:List Int} (h:bX k) (i:Nat):Bt (bR .u8 (k.getD i 0) 15):=by have:=Bp (h.get i);exact ⟨by omega,by omega⟩
theorem Vp {k:List Int} (h:bX k) (i:Nat):Bt (bR .u8 (k.getD i 0) 252):=by have:=wK (h.get i);exact ⟨by omega,by omega⟩
theorem FF {k:List Int} (h:bX k):bX (kS k):=
 bX.bM (h.get 0) (bX.bM (h.get 1) (bX.bM (h.get 2) (bX.bM (OC h 3) (bX.bM (Vp h 4) (bX.bM (h.get 5) (bX.bM (h.get 6) (bX.bM (OC h 7) (bX.bM (Vp h 8) (bX.bM (h.get 9) (bX.bM (h.get 10) (bX.bM (OC h 11) (bX.bM (Vp h 12) (bX.bM (h.get 13) (bX.bM (h.get 14) (bX.bM (OC h 15) (bX.bM (h.get 16) (bX.bM (h.get 17) (bX.bM (h.get 18) (bX.bM (h.get 19) (bX.bM (h.get 20) (bX.bM (h.get 21) (bX.bM (h.get 22) (bX.bM (h.get 23) (bX.bM (h.get 24) (bX.bM (h.get 25) (bX.bM (h.get 26) (bX.bM (h.get 27) (bX.bM (h.get 28) (bX.bM (h.get 29) (bX.bM (h.get 30) (bX.bM (h.get 31) bX.Mz)))))))))))))))))))))))))))))))
theorem Vq {l:List Int} (h:bX l) (hl:l.length=8):U (V l):=by
 obtain ⟨a,b,c,d,e,f,g,k,rfl⟩:∃ a b c d e f g k,l=[a,b,c,d,e,f,g,k]:=by
  match l,hl with
  | [a,b,c,d,e,f,g,k],_=>exact ⟨a,b,c,d,e,f,g,k,rfl⟩
 have q:∀ x∈[a,b,c,d,e,f,g,k],0<=x/\x<256:=h
 have:=q a (by simp);have:=q b (by simp);have:=q c (by simp);have:=q d (by simp);have:=q e (by simp);have:=q f (by simp);have:=q g (by simp);have:=q k (by simp)
 simp only [sD,Ag]
 unfold U
 omega
theorem aSq {k:List Int} (h:bX k):U (sM k)/\U (rA k)/\sM k+18446744073709551616*rA k<21267647932558653966460912964485513216:=by
 have u1:U (sM k):=Vq (bX.bM (h.get 0) (bX.bM (h.get 1) (bX.bM (h.get 2) (bX.bM (OC h 3) (bX.bM (Vp h 4) (bX.bM (h.get 5) (bX.bM (h.get 6) (bX.bM (OC h 7) bX.Mz)))))))) rfl
 have u2:U (rA k):=Vq (bX.bM (Vp h 8) (bX.bM (h.get 9) (bX.bM (h.get 10) (bX.bM (OC h 11) (bX.bM (Vp h 12) (bX.bM (h.get 13) (bX.bM (h.get 14) (bX.bM (OC h 15) bX.Mz)))))))) rfl
 refine ⟨u1,u2,?_⟩
 have b1:rA k<1152921504606846976:=by
  unfold rA
  simp only [sD,Ag]
  have OC:=Bp (h.get 15)
  have:=h.get 9;have:=h.get 10;have:=h.get 13;have:=h.get 14
  have:=Bp (h.get 11);have:=wK (h.get 12);have:=wK (h.get 8)
  unfold Bt at *
  omega
 unfold U at u1
 omega
theorem aSp {k:List Int} (h:bX k):U (vH k)/\U (wO k):=
 ⟨Vq (bX.bM (h.get 16) (bX.bM (h.get 17) (bX.bM (h.get 18) (bX.bM (h.get 19) (bX.bM (h.get 20) (bX.bM (h.get 21) (bX.bM (h.get 22) (bX.bM (h.get 23) bX.Mz)))))))) rfl,Vq (bX.bM (h.get 24) (bX.bM (h.get 25) (bX.bM (h.get 26) (bX.bM (h.get 27) (bX.bM (h.get 28) (bX.bM (h.get 29) (bX.bM (h.get 30) (bX.bM (h.get 31) bX.Mz)))))))) rfl⟩
theorem aLg {k:List Int} (h:bX k):V (cl k)=sM k+18446744073709551616*rA k:=by
 unfold cl
 rw [MD]
 have z:V [0]=0:=by decide
 rw [z,Int.mul_zero,Int.add_zero]
 have e:Ov (lo k)=[k.getD 0 0,k.getD 1 0,k.getD 2 0,bR .u8 (k.getD 3 0) 15,bR .u8 (k.getD 4 0) 252,k.getD 5 0,k.getD 6 0,bR .u8 (k.getD 7 0) 15,bR .u8 (k.getD 8 0) 252,k.getD 9 0,k.getD 10 0,bR .u8 (k.getD 11 0) 15,bR .u8 (k.getD 12 0) 252,k.getD 13 0,k.getD 14 0,bR .u8 (k.getD 15 0) 15]:=by
  rw [Ry (h.get 3),Ry (h.get 7),Ry (h.get 11),Ry (h.get 15),Pa (h.get 4),Pa (h.get 8),Pa (h.get 12)]
  have w0:=oE (h.get 0);have w1:=oE (h.get 1);have w2:=oE (h.get 2)
  have w5:=oE (h.get 5);have w6:=oE (h.get 6);have w9:=oE (h.get 9)
  have w10:=oE (h.get 10);have w13:=oE (h.get 13);have w14:=oE (h.get 14)
  have l:Ov (lo k)=[IntKind.i64.wrap (k.getD 0 0),IntKind.i64.wrap (k.getD 1 0),IntKind.i64.wrap (k.getD 2 0),(IntKind.i64.wrap (k.getD 3 0)).tmod 16,IntKind.i64.wrap (IntKind.i64.wrap (k.getD 4 0)-(IntKind.i64.wrap (k.getD 4 0)).tmod 4),IntKind.i64.wrap (k.getD 5 0),IntKind.i64.wrap (k.getD 6 0),(IntKind.i64.wrap (k.getD 7 0)).tmod 16,IntKind.i64.wrap (IntKind.i64.wrap (k.getD 8 0)-(IntKind.i64.wrap (k.getD 8 0)).tmod 4),IntKind.i64.wrap (k.getD 9 0),IntKind.i64.wrap (k.getD 10 0),(IntKind.i64.wrap (k.getD 11 0)).tmod 16,IntKind.i64.wrap (IntKind.i64.wrap (k.getD 12 0)-(IntKind.i64.wrap (k.getD 12 0)).tmod 4),IntKind.i64.wrap (k.getD 13 0),IntKind.i64.wrap (k.getD 14 0),(IntKind.i64.wrap (k.getD 15 0)).tmod 16]:=rfl
  rw [l,w0,w1,w2,w5,w6,w9,w10,w13,w14]
 rw [e,aLh]
 rfl
theorem aWa (k:List Int):V (hi k)=vH k+18446744073709551616*wO k:=by
 have e:hi k=[k.getD 16 0,k.getD 17 0,k.getD 18 0,k.getD 19 0,k.getD 20 0,k.getD 21 0,k.getD 22 0,k.getD 23 0,k.getD 24 0,k.getD 25 0,k.getD 26 0,k.getD 27 0,k.getD 28 0,k.getD 29 0,k.getD 30 0,k.getD 31 0]:=rfl
 rw [e,aLh]
 rfl
theorem aGi {k:List Int} (h:bX k):bX (hi k):=by
 intro x hx
 simp only [hi,List.mem_map] at hx
 obtain ⟨j,_,rfl⟩:=hx
 exact h.get _
def held (D:List Int) (t:Nat):List Int:=(List.range (t%16)).map fun j=>D.getD (16*(t/16)+j) 0
theorem Lv (D:List Int) (t:Nat):(held D t).length=t%16:=by simp [held]
theorem Wu (D:List Int) {t:Nat} (h:t%16<15):held D t++[D.getD t 0]=held D (t+1):=by
 unfold held
 have e1:(t+1)%16=t%16+1:=by omega
 have e2:(t+1)/16=t/16:=by omega
 have e3:16*(t/16)+t%16=t:=by omega
 rw [e1,e2,List.range_succ,List.map_append,List.map_singleton,e3]
theorem VR (D:List Int) {t:Nat} (h:t%16=15):held D t=[D.getD (16*(t/16)) 0,D.getD (16*(t/16)+1) 0,D.getD (16*(t/16)+2) 0,D.getD (16*(t/16)+3) 0,D.getD (16*(t/16)+4) 0,D.getD (16*(t/16)+5) 0,D.getD (16*(t/16)+6) 0,D.getD (16*(t/16)+7) 0,D.getD (16*(t/16)+8) 0,D.getD (16*(t/16)+9) 0,D.getD (16*(t/16)+10) 0,D.getD (16*(t/16)+11) 0,D.getD (16*(t/16)+12) 0,D.getD (16*(t/16)+13) 0,D.getD (16*(t/16)+14) 0]:=by
 unfold held;rw [h];rfl
theorem FI (D:List Int) {t:Nat} (h:t%16=0):held D t=[]:=by unfold held;rw [h];rfl
theorem FV (D:List Int) {k:Nat} (h:16*k+16<=1073741824):aT D ((16*k:Nat):Int) 16=[D.getD (16*k) 0,D.getD (16*k+1) 0,D.getD (16*k+2) 0,D.getD (16*k+3) 0,D.getD (16*k+4) 0,D.getD (16*k+5) 0,D.getD (16*k+6) 0,D.getD (16*k+7) 0,D.getD (16*k+8) 0,D.getD (16*k+9) 0,D.getD (16*k+10) 0,D.getD (16*k+11) 0,D.getD (16*k+12) 0,D.getD (16*k+13) 0,D.getD (16*k+14) 0,D.getD (16*k+15) 0,1]:=by
 have e:aT D ((16*k:Nat):Int) 16=((List.range 16).map fun j:Nat=>D.getD (16*k+j) 0)++[1]:=by
  unfold aT
  congr 1
  refine List.map_congr_left fun j hj=>?_
  have hj:j<16:=by simpa using hj
  rw [IntWalk.i64_in _ ⟨by omega,by omega⟩]
  congr 1
 rw [e];rfl
theorem Lm (r:Int) {D:List Int} {k:Nat} (h:16*k+16<=D.length):acc r D (k+1)=((acc r D k+V (aT D ((16*k:Nat):Int) 16))*r)%p:=by
 show ((acc r D k+V (aT D (16*(k:Int)) (min 16 (D.length-16*k))))*r)%p=_
 rw [show min 16 (D.length-16*k)=16 from by omega,show (16*(k:Int))=((16*k:Nat):Int) from by omega]
theorem Ip {R:Int} (h0:0<=R) (h:R<aX):n3 (w0 R) (w1 R) (w2 R)=R:=by
 unfold n3 w0 w1 w2;unfold aX at h;omega
theorem OH (R:Int):U (w0 R)/\U (w1 R)/\U (w2 R):=by unfold U w0 w1 w2;omega
theorem TW:aX=p:=rfl
theorem Gi (x:Int):0<=x%aX/\x%aX<aX:=⟨Int.emod_nonneg _ (by decide),Int.emod_lt_of_pos _ (by decide)⟩
theorem step_eq {R Y S y0 y1:Int} (hS:S=(R+Y)%aX):(n3 (w0 S) (w1 S) (w2 S)*(y0+18446744073709551616*y1))%aX=((R+Y)*(y0+18446744073709551616*y1))%p:=by
 obtain ⟨h0,h1⟩:=Gi (R+Y)
 rw [<- hS] at h0 h1
 rw [Ip h0 h1,hS,TW,Int.mul_emod,Int.emod_emod_of_dvd _ (Int.dvd_refl p),<- Int.mul_emod]
def cat (d:Nat->List Int):List Int:=d 1++(d 2++(d 3++(d 4++d 5)))
def off (d:Nat->List Int):Nat->Nat
 | 0=>0
 | j+1=>off d j+(d (j+1)).length
theorem aAb (d:Nat->List Int):off d 5=(cat d).length:=by simp [off,cat];omega
theorem XY (d:Nat->List Int) {J i:Nat} (hJ:J<5) (hi:i<(d (J+1)).length):(cat d).getD (off d J+i) 0=(d (J+1)).getD i 0:=by
 have L:∀ (a b:List Int) (n:Nat),n<a.length->(a++b).getD n 0=a.getD n 0:=fun a b n h=>by simp [gH,List.getElem?_append_left h]
 have R:∀ (a b:List Int) (n:Nat),(a++b).getD (a.length+n) 0=b.getD n 0:=fun a b n=>by simp [gH,List.getElem?_append_right]
 unfold cat
 match J,hJ with
 | 0,_=>rw [show off d 0+i=i from by simp [off],L _ _ _ hi]
 | 1,_=>rw [show off d 1+i=(d 1).length+i from by simp [off],R,L _ _ _ hi]
 | 2,_=>rw [show off d 2+i=(d 1).length+((d 2).length+i) from by simp [off];omega,R,R,L _ _ _ hi]
 | 3,_=>rw [show off d 3+i=(d 1).length+((d 2).length+((d 3).length+i)) from by simp [off];omega,R,R,R,L _ _ _ hi]
 | 4,_=>rw [show off d 4+i=(d 1).length+((d 2).length+((d 3).length+((d 4).length+i))) from by simp [off];omega,R,R,R,R]
theorem ET (d:Nat->List Int) {J:Nat} (hJ:J<5):off d J+(d (J+1)).length<=(cat d).length:=by
 rw [<- aAb]
 match J,hJ with
 | 0,_=>simp only [off];omega
 | 1,_=>simp only [off];omega
 | 2,_=>simp only [off];omega
 | 3,_=>simp only [off];omega
 | 4,_=>simp only [off];omega
theorem aFh (N:Int) {j:Nat} (h:j<16):nb (w0 N+18446744073709551616*w1 N) j=nb N j:=by
 have e:w0 N+18446744073709551616*w1 N=N%340282366920938463463374607431768211456:=by unfold w0 w1;omega
 rw [e]
 unfold nb
 have hk:∀ k:Nat,k<16->(256:Int)^16=256^k*(256*256^(15-k)):=fun k hk=>by
  have:(256:Int)^16=256^(k+(1+(15-k))):=by congr 1;omega
  rw [this,Int.pow_add,Int.pow_add];rfl
 have hP:(0:Int)<256^j:=Int.pow_pos (by decide)
 have e1:(340282366920938463463374607431768211456:Int)=256^j*(256*256^(15-j)):=by
  rw [<- hk j h];decide
 rw [e1]
 generalize (256:Int)^j=P at *
 generalize (256:Int)^(15-j)=Q
 have e2:N=N%(P*(256*Q))+P*(256*Q)*(N/(P*(256*Q))):=(Int.emod_add_mul_ediv N _).symm
 have e3:N/P=N%(P*(256*Q))/P+256*Q*(N/(P*(256*Q))):=by
  conv=>lhs;rw [e2,Int.mul_assoc,Int.add_mul_ediv_left _ _ (by omega)]
 rw [e3,Int.mul_assoc,Int.add_mul_emod_self_left]
theorem EF {key D:List Int} (hk:bX key) (hD:D.length%16=0) :
 tag key D=(List.range 16).map (nb (w0 (acc (V (cl key)) D (D.length/16)+(vH key+18446744073709551616*wO key))+18446744073709551616*w1 (acc (V (cl key)) D (D.length/16)+(vH key+18446744073709551616*wO key)))):=by
 unfold tag
 rw [QU (aGi hk),show (D.length+15)/16=D.length/16 from by omega,<- aWa key]
 have e:vs (fun j=>(hi key).getD j 0) 16=V (hi key):=aLf (hi key) 16 (by simp [hi])
 rw [e]
 refine List.map_congr_left fun j hj=>?_
 have hj:j<16:=by simpa using hj
 rw [aFh _ hj]
end M
theorem G.Qs {P:Program} {Γ Γ':Env} (hg:Γ'.aR=Γ.aR) {w0:World} {M:Nat->Prop} {B:bB} {N F0:Nat} {V0:bA} {cf:Cf} {K:List Fr} {s:St} {Q:Exit->Act->World->Prop} (h:G P Γ' w0 M B N F0 V0 cf K s Q):G P Γ w0 M B N F0 V0 cf K s Q:=
 fun V a w hi=>h V a w ⟨hi.tmp,hi.keys,hi.size,hi.defers,hi.fA,fun n l e=>hi.aR n l (hg ▸ e),hi.top,hi.le,hi.low,hi.ch,hi.nx,hi.hi⟩
theorem oZ.Qs {Γ Γ':Env} (hg:Γ'.aR=Γ.aR) {B:bB} {F0:Nat} {V0:bA} (h:oZ Γ B F0 V0):oZ Γ' B F0 V0:=⟨h.top,fun n l e=>h.aR n l (hg ▸ e),h.cut,h.cells⟩
def C5 (c:Nat):Prop:=c=0\/c=6\/c=7\/c=8\/c=9
theorem rQ (gR fJ mG:Nat):cA Tryz.prog (ΓT gR fJ mG):=bL _ 22
theorem rR (gR fJ mG:Nat):cH Tryz.prog (ΓT gR fJ mG):=bS _ (aHk gR fJ mG) 22
theorem nI (a b c a' b' c':Nat):(ΓT a b c).aR=(ΓT a' b' c').aR:=by kernel_rfl
theorem aEr {c:Nat} (hc:C5 c):SgA c:=by
 rcases hc with rfl | rfl | rfl | rfl | rfl
 .exact aMs
 .exact aMr
 .exact aMq
 .exact aMp
 .exact aMo
theorem aEo {c:Nat} (hc:C5 c):SgX c:=by
 rcases hc with rfl | rfl | rfl | rfl | rfl
 .exact aMm
 .exact aMl
 .exact aMk
 .exact aMj
 .exact aMi
theorem aEq {c J:Nat} (hc:C5 c) (hJ:J<4):Co c J:=by
 obtain rfl | rfl | rfl | rfl:J=0\/J=1\/J=2\/J=3:=by omega
 .rcases hc with rfl | rfl | rfl | rfl | rfl
  .exact aEj
  .exact aEf
  .exact aEb
  .exact aDx
  .exact aDt
 .rcases hc with rfl | rfl | rfl | rfl | rfl
  .exact aEi
  .exact aEe
  .exact aEa
  .exact aDw
  .exact aDs
 .rcases hc with rfl | rfl | rfl | rfl | rfl
  .exact aEh
  .exact aEd
  .exact aDz
  .exact aDv
  .exact aDr
 .rcases hc with rfl | rfl | rfl | rfl | rfl
  .exact aEg
  .exact aEc
  .exact aDy
  .exact aDu
  .exact aDq
theorem aEp {c gR fJ:Nat} (hc:C5 c) (Cv:gR=7\/(gR=8/\c≠0)) (zN:C5 fJ):mH c gR fJ:=by
 rcases hc with rfl | rfl | rfl | rfl | rfl
 .rcases Cv with rfl | ⟨rfl,dJ⟩
  .rcases zN with rfl | rfl | rfl | rfl | rfl
   .exact SZ
   .exact SY
   .exact SX
   .exact SW
   .exact SU
  .exact (dJ rfl).elim
 .rcases Cv with rfl | ⟨rfl,dJ⟩
  .rcases zN with rfl | rfl | rfl | rfl | rfl
   .exact SS
   .exact SR
   .exact SQ
   .exact SP
   .exact SO
  .rcases zN with rfl | rfl | rfl | rfl | rfl
   .exact SN
   .exact SM
   .exact SL
   .exact SK
   .exact SJ
 .rcases Cv with rfl | ⟨rfl,dJ⟩
  .rcases zN with rfl | rfl | rfl | rfl | rfl
   .exact SI
   .exact SH
   .exact SG
   .exact SF
   .exact SE
  .rcases zN with rfl | rfl | rfl | rfl | rfl
   .exact SD
   .exact SC
   .exact SA
   .exact RZ
   .exact RY
 .rcases Cv with rfl | ⟨rfl,dJ⟩
  .rcases zN with rfl | rfl | rfl | rfl | rfl
   .exact RX
   .exact RW
   .exact RV
   .exact RU
   .exact RT
  .rcases zN with rfl | rfl | rfl | rfl | rfl
   .exact RS
   .exact RR
   .exact RQ
   .exact RP
   .exact RO
 .rcases Cv with rfl | ⟨rfl,dJ⟩
  .rcases zN with rfl | rfl | rfl | rfl | rfl
   .exact RM
   .exact RL
   .exact RK
   .exact RJ
   .exact RI
  .rcases zN with rfl | rfl | rfl | rfl | rfl
   .exact RH
   .exact RG
   .exact RF
   .exact RE
   .exact RD
theorem GN {c m n:Nat} {ks held oU xs:List Int} {y0 y1 R j i':Int} {i:Nat} (hh:held.length<15) (hi:i<n) (hn:n=xs.length) (hl:n<=1073741824) (h':held++[xs.getD i 0]=oU) (fP:i'=((i+1:Nat):Int)) :
 ∀ q∈BM c m n ks held oU xs y0 y1 R j (i:Int) i',q:=by
 have e1:IntKind.i64.wrap ((i:Int)+1)=i':=by rw [fP,IntWalk.i64_in _ ⟨by omega,by omega⟩];omega
 have e2:((((held++[xs.getD i 0]).length:Int)==16)=false):=by
  rw [List.length_append,List.length_singleton]
  exact beq_eq_false_iff_ne.2 (by omega)
 have e3:(held.length+[xs.getD i 0].length)*1<=140737488355328:=by simp only [List.length_singleton];omega
 have e4:i<xs.length:=by omega
 have e5:(0:Int)<=(i:Int)/\(i:Int)<(n:Int):=by omega
 have e6:decide ((i:Int)<(n:Int))=true:=decide_eq_true e5.2
 refine aB ?_
 unfold BM
 rw [qZ]
 cases c with
 | zero=>exact ⟨e2,e3,e4,e5,e6,rfl,rfl,rfl,e1,⟨rfl,rfl⟩,rfl,rfl,rfl,rfl,h',rfl,trivial⟩
 | succ c=>exact ⟨e2,e3,e4,e5,e6,rfl,rfl,rfl,e1,⟨rfl,rfl⟩,rfl,rfl,rfl,rfl,rfl,rfl,rfl,h',rfl,rfl,trivial⟩
theorem GK {c m n:Nat} {ks held xs:List Int} {y0 y1 R j i J:Int} (hi:i=(n:Int)) (hj:j=J):∀ q∈BJ c m n ks held xs y0 y1 R j i J,q:=by
 have e1:decide (i<(n:Int))=false:=nD (by omega)
 refine aB ?_
 unfold BJ
 cases c with
 | zero=>exact ⟨e1,hj,rfl,rfl,rfl,⟨rfl,rfl⟩,rfl,rfl,rfl,rfl,rfl,rfl,trivial⟩
 | succ c=>exact ⟨e1,hj,rfl,rfl,rfl,⟨rfl,rfl⟩,rfl,rfl,rfl,rfl,rfl,rfl,rfl,rfl,rfl,rfl,trivial⟩
theorem GM {c m n:Nat} {ks held xs:List Int} {y0 y1 R j:Int}:∀ q∈BL c m n ks held xs y0 y1 R j,q:=by
 refine aB ?_
 unfold BL
 cases c with
 | zero=>exact ⟨rfl,rfl,rfl,rfl,⟨rfl,rfl⟩,rfl,rfl,rfl,rfl,rfl,rfl,trivial⟩
 | succ c=>exact ⟨rfl,rfl,rfl,rfl,⟨rfl,rfl⟩,rfl,rfl,rfl,rfl,rfl,rfl,rfl,rfl,rfl,rfl,trivial⟩
open M in
theorem GL {c gR fJ m n:Nat} {ks xs:List Int} {y0 y1 R R' b0 b1 b2 b3 b4 b5 b6 b7 b8 b9 cV cU cT cY cX x j i' S:Int} {i:Nat} (hS:0<=S/\S<aX) (hm:m=nl [y0,y1]) (zN:fJ=if ln S=0\/m=0 then 0 else ln S+m+4)
 (eU:U y0) (gJ:U y1) (hy:y0+18446744073709551616*y1<21267647932558653966460912964485513216) (Cv:gR=7/\(c≠0->ln R=0)\/gR=8/\ln R≠0) (hR:0<=R/\R<aX)
 (hb:bX [b0,b1,b2,b3,b4,b5,b6,b7,b8,b9,cV,cU,cT,cY,cX,x,1]) (hi:i<n) (hn:n=xs.length) (hl:n<=1073741824) (fP:i'=((i+1:Nat):Int)) (hR':R'=Uh S y0 y1) :
 ∀ q∈BK c gR fJ m n ks xs y0 y1 R R' b0 b1 b2 b3 b4 b5 b6 b7 b8 b9 cV cU cT cY cX x j (i:Int) i' S,q:=by
 have e1:IntKind.i64.wrap ((i:Int)+1)=i':=by rw [fP,IntWalk.i64_in _ ⟨by omega,by omega⟩];omega
 have e4:i<xs.length:=by omega
 have e5:(0:Int)<=(i:Int)/\(i:Int)<(n:Int):=by omega
 have e6:decide ((i:Int)<(n:Int))=true:=decide_eq_true e5.2
 have u:=OH S
 have v:=OH R
 have s1:n3 (w0 S) (w1 S) (w2 S)<aX:=by rw [Ip hS.1 hS.2];exact hS.2
 have r1:n3 (w0 R) (w1 R) (w2 R)<aX:=by rw [Ip hR.1 hR.2];exact hR.2
 have v0:U (V [b0,b1,b2,b3,b4,b5,b6,b7]):=Vq (bX.bM (hb b0 (by simp)) (bX.bM (hb b1 (by simp)) (bX.bM (hb b2 (by simp)) (bX.bM (hb b3 (by simp)) (bX.bM (hb b4 (by simp)) (bX.bM (hb b5 (by simp)) (bX.bM (hb b6 (by simp)) (bX.bM (hb b7 (by simp)) bX.Mz)))))))) rfl
 have v1:U (V [b8,b9,cV,cU,cT,cY,cX,x]):=Vq (bX.bM (hb b8 (by simp)) (bX.bM (hb b9 (by simp)) (bX.bM (hb cV (by simp)) (bX.bM (hb cU (by simp)) (bX.bM (hb cT (by simp)) (bX.bM (hb cY (by simp)) (bX.bM (hb cX (by simp)) (bX.bM (hb x (by simp)) bX.Mz)))))))) rfl
 subst hR'
 unfold BK
 rw [qZ]
 intro q hq
 rcases List.mem_append.1 hq with hq | hq
 .exact aB (l:=[ln S=nl [w0 S,w1 S,w2 S],m=nl [y0,y1],fJ=(if ln S=0\/m=0 then 0 else ln S+m+4),U (w0 S),U (w1 S),U (w2 S),n3 (w0 S) (w1 S) (w2 S)<aX,U y0,U y1,y0+18446744073709551616*y1<21267647932558653966460912964485513216,0=0,ln S=ln S,gR=gR,0=0,m=m,6=6,w0 S::w1 S::w2 S::List.replicate (gR-3) 0=w0 S::w1 S::w2 S::List.replicate (gR-3) 0,[y0,y1,0,0,0,0]=[y0,y1,0,0,0,0]]) ⟨rfl,hm,zN,u.1,u.2.1,u.2.2,s1,eU,gJ,hy,rfl,rfl,rfl,rfl,rfl,rfl,rfl,rfl,trivial⟩ q hq
 .rcases List.mem_append.1 hq with hq | hq
  .cases c with
   | zero=>cases hq
   | succ c=>
     rcases Cv with ⟨rfl,h0⟩ | ⟨rfl,h0⟩
     .exact aB (l:=[ln R=nl [w0 R,w1 R,w2 R],ln R=0]) ⟨rfl,h0 (by omega),trivial⟩ q hq
     .exact aB (l:=[ln R=nl [w0 R,w1 R,w2 R],ln R≠0,U (w0 R),U (w1 R),U (w2 R),n3 (w0 R) (w1 R) (w2 R)<aX]) ⟨rfl,h0,v.1,v.2.1,v.2.2,r1,trivial⟩ q hq
  .rcases List.mem_append.1 hq with hq | hq
   .exact aB (l:=[U (V [b0,b1,b2,b3,b4,b5,b6,b7]),U (V [b8,b9,cV,cU,cT,cY,cX,x]),(1:Int)=1]) ⟨v0,v1,rfl,trivial⟩ q hq
   .rcases List.mem_append.1 hq with hq | hq
    .cases c with
     | zero=>cases hq
     | succ c=>exact aB (l:=[0=0,ln R=ln R,c+1=c+1,w0 R::w1 R::w2 R::List.replicate (c+1-3) 0=w0 R::w1 R::w2 R::List.replicate (c+1-3) 0]) ⟨rfl,rfl,rfl,rfl,trivial⟩ q hq
    .rcases List.mem_append.1 hq with hq | hq
     .refine aB ?_ q hq
      exact ⟨rfl,hb,rfl,rfl,rfl,e4,e5,e6,rfl,rfl,rfl,e1,⟨rfl,rfl⟩,rfl,rfl,rfl,rfl,trivial⟩
     .cases fJ with
      | zero=>exact aB (l:=[([]:List Int)=[],xs=xs]) ⟨rfl,rfl,trivial⟩ q hq
      | succ fJ=>
        refine aB ?_ q hq
        exact ⟨rfl,rfl,rfl,rfl,rfl,rfl,trivial⟩
namespace M
def rm (S:Int) (m:Nat):Nat:=if ln S=0\/m=0 then 0 else ln S+m+4
theorem ZU (S y0 y1:Int):C5 (rm S (nl [y0,y1])):=by
 unfold rm C5
 split
 .exact Or.inl rfl
 .rename_i h
  have h3:ln S<=3:=by unfold ln;rcases nl3 (w0 S) (w1 S) (w2 S) with h | h | h | h <;> omega
  have h2:nl [y0,y1]<=2:=by rcases NL y0 y1 with h | h | h <;> omega
  omega
theorem ln0 {S:Int} (h0:0<=S) (h1:S<aX) (h:ln S=0):S=0:=by
 have e:=Ip h0 h1
 unfold ln at h
 rcases nl3 (w0 S) (w1 S) (w2 S) with ⟨_,a,b,c⟩ | h' | h' | h'
 .rw [<- e,a,b,c];rfl
 all_goals omega
theorem TH {S y0 y1:Int} (h0:0<=S) (h1:S<aX) (h:rm S (nl [y0,y1])=0):Uh S y0 y1=0:=by
 unfold rm at h
 split at h
 .rename_i h2
  unfold Uh
  rw [Ip h0 h1]
  rcases h2 with h2 | h2
  .rw [ln0 h0 h1 h2];simp
  .rcases NL y0 y1 with ⟨_,rfl,rfl⟩ | h' | h'
   .simp
   all_goals omega
 .omega
end M
def MJ (c:Nat) (R:Int):Prop:=C5 c/\(c=0->R=0)/\0<=R/\R<M.aX
theorem GJ {c:Nat} {R Y:Int} (h:MJ c R):BI c R Y=(R+Y)%M.aX:=by
 obtain ⟨hc,h0,h1,h2⟩:=h
 cases c with
 | zero=>rw [h0 rfl];rfl
 | succ c=>show (M.n3 (M.w0 R) (M.w1 R) (M.w2 R)+Y)%M.aX=_;rw [M.Ip h1 h2]
noncomputable def MH (key:List Int) (d:Nat->List Int) (j:SV) (J:Nat) (i:Int) (c:Nat) (R:Int) (t:Nat):St:=zE j (d (J+1)).length i (M.kS key) (M.sM key) (M.rA key) (M.nl [M.sM key,M.rA key]) c R (M.held (M.cat d) t) (d (J+1))
def eE (key:List Int) (d:Nat->List Int) (t:Nat):Int:=M.acc (M.sM key+18446744073709551616*M.rA key) (M.cat d) (t/16)
set_option maxHeartbeats 4000000 in
theorem Kn {mG:Nat} {key:List Int} {d:Nat->List Int} (hk:bX key) (hd:bX (M.cat d)) (hl:(M.cat d).length<=1073741824) {J:Nat} (hJ:J<5) {w0:World} {Mx:Nat->Prop} {V0:bA} (hb:oZ (ΓT 7 0 mG) (bI 100 (xE d)) 100 V0) {K:List Fr} {Q:Exit->Act->World->Prop}
 (hx:∀ c,MJ c (eE key d (M.off d (J+1)))->G Tryz.prog (ΓT 7 0 mG) w0 Mx (bI 100 (xE d)) Tryz.f38.ntmps 100 V0 (.at (.exit 5)) K (MH key d (.int true .i64 (J:Nat)) J (d (J+1)).length c (eE key d (M.off d (J+1))) (M.off d (J+1))) Q)
 {c:Nat} (hc:MJ c (eE key d (M.off d J))):G Tryz.prog (ΓT 7 0 mG) w0 Mx (bI 100 (xE d)) Tryz.f38.ntmps 100 V0 (.go (.loop oC)) K (MH key d (.int false .i64 (J:Nat)) J 0 c (eE key d (M.off d J)) (M.off d J)) Q:=by
 obtain ⟨u0,u1,u2⟩:=M.aSq hk
 have sW:=M.ET d hJ
 have Cm:oZ (ΓT 7 0 0) (bI 100 (xE d)) 100 V0:=hb.Qs (nI _ _ _ _ _ _)
 refine G.loop (fun r s=>∃ i c:Nat,i<=(d (J+1)).length/\r=(d (J+1)).length-i/\MJ c (eE key d (M.off d J+i))/\s=MH key d (.int false .i64 (J:Nat)) J (i:Nat) c (eE key d (M.off d J+i)) (M.off d J+i)) (r0:=(d (J+1)).length) ⟨0,c,by omega,rfl,hc,rfl⟩ ?_
 rintro r s ⟨i,c,hi,rfl,hR,rfl⟩
 by_cases cL:i<(d (J+1)).length
 .have qY:=M.XY d hJ cL
  by_cases h15:(M.off d J+i)%16=15
  ·
   have xV:(M.off d J+i+1)/16=(M.off d J+i)/16+1:=by omega
   have sN:16*((M.off d J+i)/16)+16<=(M.cat d).length:=by omega
   have CU:(M.cat d).getD (16*((M.off d J+i)/16)+15) 0=(d (J+1)).getD i 0:=by rw [<- qY];congr 1;omega
   have eZ:=M.FV (M.cat d) (k:=(M.off d J+i)/16) (by omega)
   have Zo:=M.YD hd ((16*((M.off d J+i)/16):Nat):Int) 16
   rw [eZ,CU] at Zo
   have aTp:=M.Lm (M.sM key+18446744073709551616*M.rA key) sN
   obtain ⟨hC,hR0,hR1,hR2⟩:=hR
   have hR:MJ c (eE key d (M.off d J+i)):=⟨hC,hR0,hR1,hR2⟩
   generalize hRR:eE key d (M.off d J+i)=R at *
   have hS:=GJ (Y:=M.V (M.aT (M.cat d) ((16*((M.off d J+i)/16):Nat):Int) 16)) hR
   generalize hSS:BI c R (M.V (M.aT (M.cat d) ((16*((M.off d J+i)/16):Nat):Int) 16))=S at *
   have hSb:0<=S/\S<M.aX:=by rw [hS];exact M.Gi _
   have hQ:eE key d (M.off d J+(i+1))=Uh S (M.sM key) (M.rA key):=by
    show M.acc _ (M.cat d) ((M.off d J+(i+1))/16)=_
    rw [<- Nat.add_assoc,xV,aTp]
    unfold Uh
    rw [M.step_eq hS,<- hRR]
    rfl
   obtain ⟨gR,Cv,aOq⟩:∃ gR,(gR=7\/(gR=8/\c≠0))/\(gR=7/\(c≠0->M.ln R=0)\/gR=8/\M.ln R≠0):=by
    by_cases h:M.ln R=0
    .exact ⟨7,Or.inl rfl,Or.inl ⟨rfl,fun _=>h⟩⟩
    .by_cases yS:c=0
     .exact ⟨7,Or.inl rfl,Or.inl ⟨rfl,fun dJ=>(dJ yS).elim⟩⟩
     .exact ⟨8,Or.inr ⟨rfl,yS⟩,Or.inr ⟨rfl,h⟩⟩
   have dY:=aEp hC Cv (M.ZU S (M.sM key) (M.rA key))
   have aOg:M.rm S (M.nl [M.sM key,M.rA key])=0->Uh S (M.sM key) (M.rA key)=0:=M.TH hSb.1 hSb.2
   have aOf:=M.ZU S (M.sM key) (M.rA key)
   have aOe:M.rm S (M.nl [M.sM key,M.rA key])=if M.ln S=0\/M.nl [M.sM key,M.rA key]=0 then 0 else M.ln S+M.nl [M.sM key,M.rA key]+4:=rfl
   generalize M.rm S (M.nl [M.sM key,M.rA key])=fJ at *
   refine G.op 9 0 ?_
   unfold MH
   rw [M.VR _ h15]
   have hr:=dY (M.kS key) d (M.sM key) (M.rA key) (M.nl [M.sM key,M.rA key]) R (Uh S (M.sM key) (M.rA key)) ((M.cat d).getD (16*((M.off d J+i)/16)) 0) ((M.cat d).getD (16*((M.off d J+i)/16)+1) 0) ((M.cat d).getD (16*((M.off d J+i)/16)+2) 0) ((M.cat d).getD (16*((M.off d J+i)/16)+3) 0) ((M.cat d).getD (16*((M.off d J+i)/16)+4) 0) ((M.cat d).getD (16*((M.off d J+i)/16)+5) 0) ((M.cat d).getD (16*((M.off d J+i)/16)+6) 0) ((M.cat d).getD (16*((M.off d J+i)/16)+7) 0) ((M.cat d).getD (16*((M.off d J+i)/16)+8) 0) ((M.cat d).getD (16*((M.off d J+i)/16)+9) 0) ((M.cat d).getD (16*((M.off d J+i)/16)+10) 0) ((M.cat d).getD (16*((M.off d J+i)/16)+11) 0) ((M.cat d).getD (16*((M.off d J+i)/16)+12) 0) ((M.cat d).getD (16*((M.off d J+i)/16)+13) 0) ((M.cat d).getD (16*((M.off d J+i)/16)+14) 0) (d (J+1)) (J:Nat) (d (J+1)).length (i:Nat) ((i+1:Nat):Int)
   refine G.Qs (Γ':=ΓT gR fJ 0) (nI _ _ _ _ _ _) ?_
   refine G.hZ (rQ _ _ _) (rR _ _ _) mix (hb.Qs (nI _ _ _ _ _ _)) [true] hr ?_ (G.Qs (Γ':=ΓT 7 0 mG) (nI _ _ _ _ _ _) (G.again fun V _ _ fP=>⟨(d (J+1)).length-(i+1),by omega,_,⟨i+1,fJ,by omega,rfl,?_,?_⟩,V,fP⟩))
   .rw [qZ,<- M.aWb,<- CU,<- eZ,hSS]
    rw [<- CU] at Zo
    exact GL hSb rfl aOe u0 u1 u2 aOq ⟨hR1,hR2⟩ Zo cL rfl (by omega) rfl rfl
   .rw [hQ]
    exact ⟨aOf,aOg,by unfold Uh;exact (M.Gi _).1,by unfold Uh;exact (M.Gi _).2⟩
   .rw [hQ]
    show _=zE _ _ _ _ _ _ _ _ _ (M.held (M.cat d) (M.off d J+(i+1))) _
    rw [M.FI _ (by omega)]
    rfl
  ·
   have xV:(M.off d J+(i+1))/16=(M.off d J+i)/16:=by omega
   have hQ:eE key d (M.off d J+(i+1))=eE key d (M.off d J+i):=by unfold eE;rw [xV]
   have hh:M.held (M.cat d) (M.off d J+i)++[(d (J+1)).getD i 0]=M.held (M.cat d) (M.off d J+(i+1)):=by rw [<- qY];exact M.Wu _ (by omega)
   refine G.Qs (Γ':=ΓT 7 0 0) (nI _ _ _ _ _ _) ?_
   refine G.hZ (rQ _ _ _) (rR _ _ _) mix Cm [true,false] (aEr hR.1 (M.kS key) d (M.sM key) (M.rA key) (M.nl [M.sM key,M.rA key]) _ _ (M.held (M.cat d) (M.off d J+(i+1))) (d (J+1)) (J:Nat) (d (J+1)).length (i:Nat) ((i+1:Nat):Int)) ?_ (G.Qs (Γ':=ΓT 7 0 mG) (nI _ _ _ _ _ _) (G.again fun V _ _ fP=>⟨(d (J+1)).length-(i+1),by omega,_,⟨i+1,c,by omega,rfl,?_,?_⟩,V,fP⟩))
   .exact GN (by rw [M.Lv];omega) cL rfl (by omega) hh rfl
   .rw [hQ];exact hR
   .rw [hQ];rfl
 .obtain rfl:i=(d (J+1)).length:=by omega
  refine G.Qs (Γ':=ΓT 7 0 0) (nI _ _ _ _ _ _) ?_
  refine G.hZ (rQ _ _ _) (rR _ _ _) mix Cm [false] (aEo hR.1 (M.kS key) d (M.sM key) (M.rA key) (M.nl [M.sM key,M.rA key]) _ _ (d (J+1)) (J:Nat) (d (J+1)).length ((d (J+1)).length:Nat) (J:Nat)) (GK rfl rfl) (G.Qs (Γ':=ΓT 7 0 mG) (nI _ _ _ _ _ _) (G.leave (fun h=>by cases h) ?_))
  exact hx c hR
theorem aEn (d:Nat->List Int) (y0 y1:Int) (m:Nat) (R:Int) (k:Nat->Int) (xs:List Int) (n:Nat) (i:Int) :
 Ja (ΓT 7 0 0) (xE d) 100 100 Tryz.f38 (Zb 7 0 0 d (.at (.exit 5)) (vN 4) ((zE (.int true .i64 4) n i [k 0,k 1,k 2,k 3,k 4,k 5,k 6,k 7,k 8,k 9,k 10,k 11,k 12,k 13,k 14,k 15,k 16,k 17,k 18,k 19,k 20,k 21,k 22,k 23,k 24,k 25,k 26,k 27,k 28,k 29,k 30,k 31] y0 y1 m 0 R [] xs).hint [false])) =
 sh (0:Int) fun z0=>
 sh (0:Nat) fun z1=>
 some {bO:=[z1=M.nl [M.V [k 16,k 17,k 18,k 19,k 20,k 21,k 22,k 23],M.V [k 24,k 25,k 26,k 27,k 28,k 29,k 30,k 31]],z1=z1,M.nl [M.V [k 16,k 17,k 18,k 19,k 20,k 21,k 22,k 23],M.V [k 24,k 25,k 26,k 27,k 28,k 29,k 30,k 31]]=z1,(6:Nat)=(6:Nat),[M.V [k 16,k 17,k 18,k 19,k 20,k 21,k 22,k 23],M.V [k 24,k 25,k 26,k 27,k 28,k 29,k 30,k 31],z0,z0,z0,z0]=[M.V [k 16,k 17,k 18,k 19,k 20,k 21,k 22,k 23],M.V [k 24,k 25,k 26,k 27,k 28,k 29,k 30,k 31],z0,z0,z0,z0],bX [k 0,k 1,k 2,k 3,k 4,k 5,k 6,k 7,k 8,k 9,k 10,k 11,k 12,k 13,k 14,k 15,k 16,k 17,k 18,k 19,k 20,k 21,k 22,k 23,k 24,k 25,k 26,k 27,k 28,k 29,k 30,k 31],[k 0,k 1,k 2,k 3,k 4,k 5,k 6,k 7,k 8,k 9,k 10,k 11,k 12,k 13,k 14,k 15,k 16,k 17,k 18,k 19,k 20,k 21,k 22,k 23,k 24,k 25,k 26,k 27,k 28,k 29,k 30,k 31]=[k 0,k 1,k 2,k 3,k 4,k 5,k 6,k 7,k 8,k 9,k 10,k 11,k 12,k 13,k 14,k 15,k 16,k 17,k 18,k 19,k 20,k 21,k 22,k 23,k 24,k 25,k 26,k 27,k 28,k 29,k 30,k 31],false=false],val:=SV.agg [SV.int false IntKind.u8 z0,SV.int false IntKind.u8 z0,SV.int false IntKind.u8 z0,SV.int false IntKind.u8 z0,SV.int false IntKind.u8 z0,SV.int false IntKind.u8 z0,SV.int false IntKind.u8 z0,SV.int false IntKind.u8 z0,SV.int false IntKind.u8 z0,SV.int false IntKind.u8 z0,SV.int false IntKind.u8 z0,SV.int false IntKind.u8 z0,SV.int false IntKind.u8 z0,SV.int false IntKind.u8 z0,SV.int false IntKind.u8 z0,SV.int false IntKind.u8 z0]}:=by kernel_rfl
theorem aEm (d:Nat->List Int) (y0 y1:Int) (m:Nat) (R:Int) (k:Nat->Int) (xs:List Int) (n:Nat) (i:Int) :
 Ja (ΓT 7 0 1) (xE d) 100 100 Tryz.f38 (Zb 7 0 1 d (.at (.exit 5)) (vN 4) ((zE (.int true .i64 4) n i [k 0,k 1,k 2,k 3,k 4,k 5,k 6,k 7,k 8,k 9,k 10,k 11,k 12,k 13,k 14,k 15,k 16,k 17,k 18,k 19,k 20,k 21,k 22,k 23,k 24,k 25,k 26,k 27,k 28,k 29,k 30,k 31] y0 y1 m 0 R [] xs).hint [false])) =
 sh (M.V [k 16,k 17,k 18,k 19,k 20,k 21,k 22,k 23]) fun z0=>
 sh (0:Int) fun z1=>
 sh (1:Nat) fun z2=>
 sh (0:Nat) fun z3=>
 some {bO:=[M.U z0,z3=z3,z2=z2,z2=z2,[M.V [k 16,k 17,k 18,k 19,k 20,k 21,k 22,k 23]]=[M.V [k 16,k 17,k 18,k 19,k 20,k 21,k 22,k 23]],z2=M.nl [M.V [k 16,k 17,k 18,k 19,k 20,k 21,k 22,k 23],M.V [k 24,k 25,k 26,k 27,k 28,k 29,k 30,k 31]],z3=z3,M.nl [M.V [k 16,k 17,k 18,k 19,k 20,k 21,k 22,k 23],M.V [k 24,k 25,k 26,k 27,k 28,k 29,k 30,k 31]]=z2,(6:Nat)=(6:Nat),[M.V [k 16,k 17,k 18,k 19,k 20,k 21,k 22,k 23],M.V [k 24,k 25,k 26,k 27,k 28,k 29,k 30,k 31],z1,z1,z1,z1]=[M.V [k 16,k 17,k 18,k 19,k 20,k 21,k 22,k 23],M.V [k 24,k 25,k 26,k 27,k 28,k 29,k 30,k 31],z1,z1,z1,z1],bX [k 0,k 1,k 2,k 3,k 4,k 5,k 6,k 7,k 8,k 9,k 10,k 11,k 12,k 13,k 14,k 15,k 16,k 17,k 18,k 19,k 20,k 21,k 22,k 23,k 24,k 25,k 26,k 27,k 28,k 29,k 30,k 31],[k 0,k 1,k 2,k 3,k 4,k 5,k 6,k 7,k 8,k 9,k 10,k 11,k 12,k 13,k 14,k 15,k 16,k 17,k 18,k 19,k 20,k 21,k 22,k 23,k 24,k 25,k 26,k 27,k 28,k 29,k 30,k 31]=[k 0,k 1,k 2,k 3,k 4,k 5,k 6,k 7,k 8,k 9,k 10,k 11,k 12,k 13,k 14,k 15,k 16,k 17,k 18,k 19,k 20,k 21,k 22,k 23,k 24,k 25,k 26,k 27,k 28,k 29,k 30,k 31],false=false],val:=SV.agg [SV.int false IntKind.u8 (M.nb z0 z3),SV.int false IntKind.u8 (M.nb z0 z2),SV.int false IntKind.u8 (M.nb z0 (2:Nat)),SV.int false IntKind.u8 (M.nb z0 (3:Nat)),SV.int false IntKind.u8 (M.nb z0 (4:Nat)),SV.int false IntKind.u8 (M.nb z0 (5:Nat)),SV.int false IntKind.u8 (M.nb z0 (6:Nat)),SV.int false IntKind.u8 (M.nb z0 (7:Nat)),SV.int false IntKind.u8 (M.nb z0 (8:Nat)),SV.int false IntKind.u8 (M.nb z0 (9:Nat)),SV.int false IntKind.u8 (M.nb z0 (10:Nat)),SV.int false IntKind.u8 (M.nb z0 (11:Nat)),SV.int false IntKind.u8 (M.nb z0 (12:Nat)),SV.int false IntKind.u8 (M.nb z0 (13:Nat)),SV.int false IntKind.u8 (M.nb z0 (14:Nat)),SV.int false IntKind.u8 (M.nb z0 (15:Nat))]}:=by kernel_rfl
theorem aEl (d:Nat->List Int) (y0 y1:Int) (m:Nat) (R:Int) (k:Nat->Int) (xs:List Int) (n:Nat) (i:Int) :
 Ja (ΓT 7 0 2) (xE d) 100 100 Tryz.f38 (Zb 7 0 2 d (.at (.exit 5)) (vN 4) ((zE (.int true .i64 4) n i [k 0,k 1,k 2,k 3,k 4,k 5,k 6,k 7,k 8,k 9,k 10,k 11,k 12,k 13,k 14,k 15,k 16,k 17,k 18,k 19,k 20,k 21,k 22,k 23,k 24,k 25,k 26,k 27,k 28,k 29,k 30,k 31] y0 y1 m 0 R [] xs).hint [false])) =
 sh (M.V [k 16,k 17,k 18,k 19,k 20,k 21,k 22,k 23]+(18446744073709551616:Int)*M.V [k 24,k 25,k 26,k 27,k 28,k 29,k 30,k 31]) fun z0=>
 sh (0:Int) fun z1=>
 sh (6:Nat) fun z2=>
 sh (2:Nat) fun z3=>
 sh (0:Nat) fun z4=>
 some {bO:=[z2=z2\/z2=(7:Nat)\/z2=(8:Nat)\/z2=(9:Nat),M.U (M.V [k 16,k 17,k 18,k 19,k 20,k 21,k 22,k 23]),M.U (M.V [k 24,k 25,k 26,k 27,k 28,k 29,k 30,k 31]),z1<=z1/\z1<(8:Int),z3=M.nl [M.V [k 16,k 17,k 18,k 19,k 20,k 21,k 22,k 23],M.V [k 24,k 25,k 26,k 27,k 28,k 29,k 30,k 31],z1],z4=z4,z3=z3,z2=z2,[M.V [k 16,k 17,k 18,k 19,k 20,k 21,k 22,k 23],M.V [k 24,k 25,k 26,k 27,k 28,k 29,k 30,k 31],z1,z1,z1,z1]=[M.V [k 16,k 17,k 18,k 19,k 20,k 21,k 22,k 23],M.V [k 24,k 25,k 26,k 27,k 28,k 29,k 30,k 31],z1,z1,z1,z1],z3=M.nl [M.V [k 16,k 17,k 18,k 19,k 20,k 21,k 22,k 23],M.V [k 24,k 25,k 26,k 27,k 28,k 29,k 30,k 31]],z4=z4,M.nl [M.V [k 16,k 17,k 18,k 19,k 20,k 21,k 22,k 23],M.V [k 24,k 25,k 26,k 27,k 28,k 29,k 30,k 31]]=z3,z2=z2,[M.V [k 16,k 17,k 18,k 19,k 20,k 21,k 22,k 23],M.V [k 24,k 25,k 26,k 27,k 28,k 29,k 30,k 31],z1,z1,z1,z1]=[M.V [k 16,k 17,k 18,k 19,k 20,k 21,k 22,k 23],M.V [k 24,k 25,k 26,k 27,k 28,k 29,k 30,k 31],z1,z1,z1,z1],bX [k 0,k 1,k 2,k 3,k 4,k 5,k 6,k 7,k 8,k 9,k 10,k 11,k 12,k 13,k 14,k 15,k 16,k 17,k 18,k 19,k 20,k 21,k 22,k 23,k 24,k 25,k 26,k 27,k 28,k 29,k 30,k 31],[k 0,k 1,k 2,k 3,k 4,k 5,k 6,k 7,k 8,k 9,k 10,k 11,k 12,k 13,k 14,k 15,k 16,k 17,k 18,k 19,k 20,k 21,k 22,k 23,k 24,k 25,k 26,k 27,k 28,k 29,k 30,k 31]=[k 0,k 1,k 2,k 3,k 4,k 5,k 6,k 7,k 8,k 9,k 10,k 11,k 12,k 13,k 14,k 15,k 16,k 17,k 18,k 19,k 20,k 21,k 22,k 23,k 24,k 25,k 26,k 27,k 28,k 29,k 30,k 31],false=false],val:=SV.agg [SV.int false IntKind.u8 (M.nb z0 z4),SV.int false IntKind.u8 (M.nb z0 (1:Nat)),SV.int false IntKind.u8 (M.nb z0 z3),SV.int false IntKind.u8 (M.nb z0 (3:Nat)),SV.int false IntKind.u8 (M.nb z0 (4:Nat)),SV.int false IntKind.u8 (M.nb z0 (5:Nat)),SV.int false IntKind.u8 (M.nb z0 z2),SV.int false IntKind.u8 (M.nb z0 (7:Nat)),SV.int false IntKind.u8 (M.nb z0 (8:Nat)),SV.int false IntKind.u8 (M.nb z0 (9:Nat)),SV.int false IntKind.u8 (M.nb z0 (10:Nat)),SV.int false IntKind.u8 (M.nb z0 (11:Nat)),SV.int false IntKind.u8 (M.nb z0 (12:Nat)),SV.int false IntKind.u8 (M.nb z0 (13:Nat)),SV.int false IntKind.u8 (M.nb z0 (14:Nat)),SV.int false IntKind.u8 (M.nb z0 (15:Nat))]}:=by kernel_rfl
theorem aQr {c:Nat} (hc:c=6\/c=7\/c=8\/c=9) (mG:Nat) (d:Nat->List Int) (y0 y1:Int) (m:Nat) (R:Int) (k:Nat->Int) (xs:List Int) (n:Nat) (i:Int) :
 Ja (ΓT 7 0 mG) (xE d) 100 100 Tryz.f38 (Zb 7 0 mG d (.at (.exit 5)) (vN 4) ((zE (.int true .i64 4) n i [k 0,k 1,k 2,k 3,k 4,k 5,k 6,k 7,k 8,k 9,k 10,k 11,k 12,k 13,k 14,k 15,k 16,k 17,k 18,k 19,k 20,k 21,k 22,k 23,k 24,k 25,k 26,k 27,k 28,k 29,k 30,k 31] y0 y1 m c R [] xs).hint [false])) =
 sh (18446744073709551616:Int) fun z4=>
 sh (M.n3 (M.w0 R) (M.w1 R) (M.w2 R)+(M.V [k 16,k 17,k 18,k 19,k 20,k 21,k 22,k 23]+z4*M.V [k 24,k 25,k 26,k 27,k 28,k 29,k 30,k 31])) fun z0=>
 sh (M.w0 z0+z4*M.w1 z0) fun z1=>
 sh (0:Int) fun z2=>
 sh (0:Nat) fun z3=>
 some {bO:=[c=6\/c=7\/c=8\/c=9,M.U (M.w0 z0),M.U (M.w1 z0),z2<=M.w2 z0/\M.w2 z0<(8:Int),M.ln z0=M.nl [M.w0 z0,M.w1 z0,M.w2 z0],z3=z3,M.ln z0=M.ln z0,c=c,[M.w0 z0,M.w1 z0,M.w2 z0]++List.replicate (c-3) z2=[M.w0 z0,M.w1 z0,M.w2 z0]++List.replicate (c-3) z2,c=6\/c=7\/c=8\/c=9,M.U (M.w0 R),M.U (M.w1 R),z2<=M.w2 R/\M.w2 R<(4:Int),M.U (M.V [k 16,k 17,k 18,k 19,k 20,k 21,k 22,k 23]),M.U (M.V [k 24,k 25,k 26,k 27,k 28,k 29,k 30,k 31]),M.ln R=M.nl [M.w0 R,M.w1 R,M.w2 R],M.nl [M.V [k 16,k 17,k 18,k 19,k 20,k 21,k 22,k 23],M.V [k 24,k 25,k 26,k 27,k 28,k 29,k 30,k 31]]=M.nl [M.V [k 16,k 17,k 18,k 19,k 20,k 21,k 22,k 23],M.V [k 24,k 25,k 26,k 27,k 28,k 29,k 30,k 31]],z3=z3,M.ln R=M.ln R,c=c,z3=z3,M.nl [M.V [k 16,k 17,k 18,k 19,k 20,k 21,k 22,k 23],M.V [k 24,k 25,k 26,k 27,k 28,k 29,k 30,k 31]]=M.nl [M.V [k 16,k 17,k 18,k 19,k 20,k 21,k 22,k 23],M.V [k 24,k 25,k 26,k 27,k 28,k 29,k 30,k 31]],(6:Nat)=(6:Nat),[M.w0 R,M.w1 R,M.w2 R]++List.replicate (c-3) z2=[M.w0 R,M.w1 R,M.w2 R]++List.replicate (c-3) z2,[M.V [k 16,k 17,k 18,k 19,k 20,k 21,k 22,k 23],M.V [k 24,k 25,k 26,k 27,k 28,k 29,k 30,k 31],z2,z2,z2,z2]=[M.V [k 16,k 17,k 18,k 19,k 20,k 21,k 22,k 23],M.V [k 24,k 25,k 26,k 27,k 28,k 29,k 30,k 31],z2,z2,z2,z2],bX [k 0,k 1,k 2,k 3,k 4,k 5,k 6,k 7,k 8,k 9,k 10,k 11,k 12,k 13,k 14,k 15,k 16,k 17,k 18,k 19,k 20,k 21,k 22,k 23,k 24,k 25,k 26,k 27,k 28,k 29,k 30,k 31],[k 0,k 1,k 2,k 3,k 4,k 5,k 6,k 7,k 8,k 9,k 10,k 11,k 12,k 13,k 14,k 15,k 16,k 17,k 18,k 19,k 20,k 21,k 22,k 23,k 24,k 25,k 26,k 27,k 28,k 29,k 30,k 31]=[k 0,k 1,k 2,k 3,k 4,k 5,k 6,k 7,k 8,k 9,k 10,k 11,k 12,k 13,k 14,k 15,k 16,k 17,k 18,k 19,k 20,k 21,k 22,k 23,k 24,k 25,k 26,k 27,k 28,k 29,k 30,k 31],false=false],val:=SV.agg [SV.int false IntKind.u8 (M.nb z1 z3),SV.int false IntKind.u8 (M.nb z1 (1:Nat)),SV.int false IntKind.u8 (M.nb z1 (2:Nat)),SV.int false IntKind.u8 (M.nb z1 (3:Nat)),SV.int false IntKind.u8 (M.nb z1 (4:Nat)),SV.int false IntKind.u8 (M.nb z1 (5:Nat)),SV.int false IntKind.u8 (M.nb z1 (6:Nat)),SV.int false IntKind.u8 (M.nb z1 (7:Nat)),SV.int false IntKind.u8 (M.nb z1 (8:Nat)),SV.int false IntKind.u8 (M.nb z1 (9:Nat)),SV.int false IntKind.u8 (M.nb z1 (10:Nat)),SV.int false IntKind.u8 (M.nb z1 (11:Nat)),SV.int false IntKind.u8 (M.nb z1 (12:Nat)),SV.int false IntKind.u8 (M.nb z1 (13:Nat)),SV.int false IntKind.u8 (M.nb z1 (14:Nat)),SV.int false IntKind.u8 (M.nb z1 (15:Nat))]}:=by rcases hc with rfl | rfl | rfl | rfl <;> kernel_rfl
def sgE (key:List Int) (d:Nat->List Int):bK:={ val:=.agg ((M.tag key (M.cat d)).map (.int false .u8)) }
def Fq (key:List Int) (d:Nat->List Int):Int:=eE key d (M.cat d).length+(M.vH key+18446744073709551616*M.wO key)
theorem aDp {key:List Int} {d:Nat->List Int} (hk:bX key) (sN:(M.cat d).length%16=0) {W:Int} (hW:M.w0 (Fq key d)+18446744073709551616*M.w1 (Fq key d)=W) :
 (SV.agg [SV.int false .u8 (M.nb W 0),SV.int false .u8 (M.nb W 1),SV.int false .u8 (M.nb W 2),SV.int false .u8 (M.nb W 3),SV.int false .u8 (M.nb W 4),SV.int false .u8 (M.nb W 5),SV.int false .u8 (M.nb W 6),SV.int false .u8 (M.nb W 7),SV.int false .u8 (M.nb W 8),SV.int false .u8 (M.nb W 9),SV.int false .u8 (M.nb W 10),SV.int false .u8 (M.nb W 11),SV.int false .u8 (M.nb W 12),SV.int false .u8 (M.nb W 13),SV.int false .u8 (M.nb W 14),SV.int false .u8 (M.nb W 15)])=(sgE key d).val:=by
 unfold sgE
 rw [M.EF hk sN,M.aLg hk]
 show _=SV.agg (((List.range 16).map (M.nb (M.w0 (Fq key d)+18446744073709551616*M.w1 (Fq key d)))).map (SV.int false .u8))
 rw [hW];rfl
open M in
theorem aMn {c:Nat} (_:c=6\/c=7\/c=8\/c=9) {R Z0 Z1:Int} (hR:0<=R/\R<aX) (h0:U Z0) (h1:U Z1) :
 U (w0 (n3 (w0 R) (w1 R) (w2 R)+(Z0+18446744073709551616*Z1)))/\U (w1 (n3 (w0 R) (w1 R) (w2 R)+(Z0+18446744073709551616*Z1)))/\(0<=w2 (n3 (w0 R) (w1 R) (w2 R)+(Z0+18446744073709551616*Z1))/\w2 (n3 (w0 R) (w1 R) (w2 R)+(Z0+18446744073709551616*Z1))<8)/\(0<=w2 R/\w2 R<4):=by
 obtain ⟨a,b,c'⟩:=OH (n3 (w0 R) (w1 R) (w2 R)+(Z0+18446744073709551616*Z1))
 refine ⟨a,b,?_,?_⟩
 .rw [Ip hR.1 hR.2]
  unfold U at h0 h1;unfold aX at hR;unfold w2;omega
 .unfold aX at hR;unfold w2;omega
set_option maxHeartbeats 4000000 in
theorem aEk {key:List Int} {d:Nat->List Int} (hk:bX key) (sN:(M.cat d).length%16=0) {w0:World} {Mx:Nat->Prop} {V0:bA} {Q:Exit->Act->World->Prop}
 (H:∀ x s e',Iz (ΓT 7 0 (M.nl [M.vH key,M.wO key])) (xE d) 100 100 Tryz.f38 x s=some e'->(∀ q∈e'.bO,q)->e'.val=(sgE key d).val->e'.new=(sgE key d).new->e'.wr=(sgE key d).wr->G Tryz.prog (ΓT 7 0 (M.nl [M.vH key,M.wO key])) w0 Mx (bI 100 (xE d)) Tryz.f38.ntmps 100 V0 (.at x) [] s Q)
 {c:Nat} (hR:MJ c (eE key d (M.cat d).length)) :
 G Tryz.prog (ΓT 7 0 (M.nl [M.vH key,M.wO key])) w0 Mx (bI 100 (xE d)) Tryz.f38.ntmps 100 V0 (.at (.exit 5)) (vN 4) (MH key d (.int true .i64 (4:Nat)) 4 (d 5).length c (eE key d (M.cat d).length) (M.cat d).length) Q:=by
 have hz:=M.aSp hk
 obtain ⟨z0,z1⟩:=hz
 have hB:bX (M.kS key):=M.FF hk
 have aW:=rQ 7 0 (M.nl [M.vH key,M.wO key])
 have aY:=rR 7 0 (M.nl [M.vH key,M.wO key])
 obtain ⟨hC,hR0,hR1,hR2⟩:=hR
 have sV:=fun W h=>aDp (W:=W) hk sN h
 have hN:Fq key d=eE key d (M.cat d).length+(M.vH key+18446744073709551616*M.wO key):=rfl
 unfold MH
 rw [M.FI _ sN]
 have big:∀ c,(c=6\/c=7\/c=8\/c=9)->M.w0 (Fq key d)+18446744073709551616*M.w1 (Fq key d)=M.w0 (M.n3 (M.w0 (eE key d (M.cat d).length)) (M.w1 (eE key d (M.cat d).length)) (M.w2 (eE key d (M.cat d).length))+(M.vH key+18446744073709551616*M.wO key))+18446744073709551616*M.w1 (M.n3 (M.w0 (eE key d (M.cat d).length)) (M.w1 (eE key d (M.cat d).length)) (M.w2 (eE key d (M.cat d).length))+(M.vH key+18446744073709551616*M.wO key)):=by
  intro c hc
  rw [hN,M.Ip hR1 hR2]
 have ob:∀ c,(c=6\/c=7\/c=8\/c=9)->_:=fun c hc=>aMn (c:=c) hc ⟨hR1,hR2⟩ z0 z1
 rcases hC with rfl | hC
 .have MN:=hR0 rfl
  rw [MN,Int.zero_add] at hN
  rw [MN]
  have e0:M.w0 (Fq key d)=M.vH key:=by rw [hN];unfold M.U at z0 z1;unfold M.w0;omega
  have e1:M.w1 (Fq key d)=M.wO key:=by rw [hN];unfold M.U at z0 z1;unfold M.w1;omega
  have en:M.nl [M.vH key,M.wO key,0]=M.nl [M.vH key,M.wO key]:=M.fS [M.vH key,M.wO key]
  rw [e0,e1] at sV
  generalize Fu:M.nl [M.vH key,M.wO key]=mG at *
  rcases M.NL (M.vH key) (M.wO key) with ⟨h,y0,y1⟩ | ⟨h,y0,y1⟩ | ⟨h,y0⟩
  .rw [Fu] at h;subst h
   refine G.sX (cl:=[]) aW aY mix [false] H (aEn d _ _ _ _ (fun j=>(M.kS key).getD j 0) _ _ _) (aB ?_) (sV 0 (by rw [y0,y1];rfl)) rfl rfl
   exact ⟨Fu.symm,rfl,Fu,rfl,rfl,hB,rfl,rfl,trivial⟩
  .rw [Fu] at h;subst h
   refine G.sX (cl:=[]) aW aY mix [false] H (aEm d _ _ _ _ (fun j=>(M.kS key).getD j 0) _ _ _) (aB ?_) (sV (M.vH key) (by rw [y1];omega)) rfl rfl
   exact ⟨z0,rfl,rfl,rfl,rfl,Fu.symm,rfl,Fu,rfl,rfl,hB,rfl,rfl,trivial⟩
  .rw [Fu] at h;subst h
   refine G.sX (cl:=[]) aW aY mix [false] H (aEl d _ _ _ _ (fun j=>(M.kS key).getD j 0) _ _ _) (aB ?_) (sV _ rfl) rfl rfl
   exact ⟨.inl rfl,z0,z1,⟨by decide,by decide⟩,en.symm,rfl,rfl,rfl,rfl,Fu.symm,rfl,Fu,rfl,rfl,hB,rfl,rfl,trivial⟩
 obtain ⟨o1,o2,o3,o4⟩:=ob c hC
 have u:=M.OH (eE key d (M.cat d).length)
 refine G.sX (cl:=[]) aW aY mix [false] H (aQr hC (M.nl [M.vH key,M.wO key]) d _ _ _ _ (fun j=>(M.kS key).getD j 0) _ _ _) (aB ?_) (sV _ (big c hC)) rfl rfl
 exact ⟨hC,o1,o2,o3,rfl,rfl,rfl,rfl,rfl,hC,u.1,u.2.1,o4,z0,z1,rfl,rfl,rfl,rfl,rfl,rfl,rfl,rfl,rfl,rfl,hB,rfl,rfl,trivial⟩
set_option maxHeartbeats 4000000 in
theorem TB {key:List Int} {d:Nat->List Int} (hk:bX key) (hd:bX (M.cat d)) (hl:(M.cat d).length<=1073741824) (sN:(M.cat d).length%16=0) :
 aE Tryz.prog (ΓT 7 0 (M.nl [M.vH key,M.wO key])) 38 (Zw key) (xE d) 100 100 (sgE key d):=by
 refine iE (rQ _ _ _) (rR _ _ _) Tryz.func38 (by kernel_rfl) rfl (kJ (by kernel_rfl)) rfl [] ?_
 intro w0 Mx V0 Q hb H
 have PK:=fun c hR=>aEk hk sN H (c:=c) hR
 have hB:bX (M.kS key):=M.FF hk
 generalize M.nl [M.vH key,M.wO key]=mG at *
 have Cm:oZ (ΓT 7 0 0) (bI 100 (xE d)) 100 V0:=hb.Qs (nI _ _ _ _ _ _)
 have h5:=M.aAb d
 have next:∀ J,J<4->(∀ c,MJ c (eE key d (M.off d (J+1)))->G Tryz.prog (ΓT 7 0 mG) w0 Mx (bI 100 (xE d)) Tryz.f38.ntmps 100 V0 (.go (.loop oC)) (vN (J+1)) (MH key d (.int false .i64 ((J+1:Nat):Int)) (J+1) 0 c (eE key d (M.off d (J+1))) (M.off d (J+1))) Q) ->
  ∀ c,MJ c (eE key d (M.off d J))->G Tryz.prog (ΓT 7 0 mG) w0 Mx (bI 100 (xE d)) Tryz.f38.ntmps 100 V0 (.go (.loop oC)) (vN J) (MH key d (.int false .i64 (J:Nat)) J 0 c (eE key d (M.off d J)) (M.off d J)) Q:=by
  intro J hJ hG c hR
  refine Kn hk hd hl (by omega) hb (fun c hR=>?_) hR
  refine G.Qs (Γ':=ΓT 7 0 0) (nI _ _ _ _ _ _) ?_
  exact G.hZ (rQ _ _ _) (rR _ _ _) mix Cm [] (aEq hR.1 hJ (M.kS key) d (M.sM key) (M.rA key) (M.nl [M.sM key,M.rA key]) _ _ (d (J+1)) (d (J+1)).length ((d (J+1)).length:Nat)) GM (G.Qs (Γ':=ΓT 7 0 mG) (nI _ _ _ _ _ _) (hG c hR))
 have last:∀ c,MJ c (eE key d (M.off d 4))->G Tryz.prog (ΓT 7 0 mG) w0 Mx (bI 100 (xE d)) Tryz.f38.ntmps 100 V0 (.go (.loop oC)) (vN 4) (MH key d (.int false .i64 ((4:Nat):Int)) 4 0 c (eE key d (M.off d 4)) (M.off d 4)) Q:=by
  intro c hR
  refine Kn hk hd hl (by omega) hb (fun c hR=>?_) hR
  have hR':MJ c (eE key d (M.off d 5)):=hR
  show G Tryz.prog (ΓT 7 0 mG) w0 Mx (bI 100 (xE d)) Tryz.f38.ntmps 100 V0 (.at (.exit 5)) (vN 4) (MH key d (.int true .i64 (4:Nat)) 4 (d 5).length c (eE key d (M.off d 5)) (M.off d 5)) Q
  rw [h5] at hR' |-
  exact PK c hR'
 have all:=next 0 (by decide) (next 1 (by decide) (next 2 (by decide) (next 3 (by decide) last)))
 have ha0:eE key d (M.off d 0)=0:=by simp [eE,M.off,M.acc]
 refine G.Qs (Γ':=ΓT 7 0 0) (nI _ _ _ _ _ _) ?_
 refine G.hZ (rQ _ _ _) (rR _ _ _) mix Cm [] (aQs key (M.kS key) d (M.sM key) (M.rA key) (M.nl [M.sM key,M.rA key])) (aB ?_) (G.Qs (Γ':=ΓT 7 0 mG) (nI _ _ _ _ _ _) ?_)
 .exact ⟨hB,rfl,rfl,rfl,rfl,rfl,⟨rfl,rfl⟩,rfl,rfl,rfl,rfl,rfl,rfl,trivial⟩
 .have:=all 0 ⟨.inl rfl,fun _=>ha0,by rw [ha0];decide,by rw [ha0];decide⟩
  rw [ha0] at this
  exact this
def yV (x1 x2 x3 x4 x5:List Int):Nat->List Int
 | 1=>x1
 | 2=>x2
 | 3=>x3
 | 4=>x4
 | _=>x5
def roL:SB->Option (List SV)
 | .own cs _=>some cs
 | .fL cs=>some cs
 | _=>none
def BN (vs:List SV) (T:bB):Option Canon:=match vs with
 | [ks,.aG L _ 0 5 5]=>match cJ ks,(T L).bind roL with
   | some (.u8,k),some [p1,p2,p3,p4,p5]=>match dR T .u8 p1,dR T .u8 p2,dR T .u8 p3,dR T .u8 p4,dR T .u8 p5 with
     | some (o1,x1),some (o2,x2),some (o3,x3),some (o4,x4),some (o5,x5)=>some { eN:=[.ai .u8 k,.aG 62 true 0 5 5],T0:=sgB (yV x1 x2 x3 x4 x5),vl:=[(62,.lab L 0),(71,.cell L 0),(72,.cell L 1),(73,.cell L 2),(74,.cell L 3),(75,.cell L 4)],e0:={ val:=.ai .u8 (M.tag k (x1++(x2++(x3++(x4++x5))))) },conds:=(k.length=32)::bX k::bX (x1++(x2++(x3++(x4++x5))))::((x1++(x2++(x3++(x4++x5)))).length<=1073741824)::((x1++(x2++(x3++(x4++x5)))).length%16=0)::(o1++(o2++(o3++(o4++o5)))) }
     | _,_,_,_,_=>none
   | _,_=>none
 | _=>none
theorem aCx (a b c:Nat):(ΓT a b c).aR=aA:=by kernel_rfl
theorem aDo (Γ:Env) (hg:Γ.aR=aA):aF Tryz.prog Γ 38 (aL aA 100 BN):=by
 refine aU hg fun vs T c hd hc=>?_
 unfold BN at hd
 split at hd
 case h_2=>cases hd
 split at hd
 case h_2=>cases hd
 split at hd
 case h_2=>cases hd
 cases hd
 rename_i k _ _ _ _ _ _ _ _ _ _ _ _ o1 x1 o2 x2 o3 x3 o4 x4 o5 x5 _ _ _ _ _
 have h32:k.length=32:=hc _ dB
 have h:aE Tryz.prog _ 38 (Zw k) (xE (yV x1 x2 x3 x4 x5)) 100 100 (sgE k (yV x1 x2 x3 x4 x5)):=TB (hc _ (by simp)) (hc _ (by simp [M.cat,yV])) (hc _ (by simp [M.cat,yV])) (hc _ (by simp [M.cat,yV]))
 refine h.words (hg.trans (aCx _ _ _).symm) (fun V=>?_) (fun _ _ h=>h) (fun V=>?_) rfl rfl
 .simp only [Zw,aI,bF V h32]
 .show den V (.agg ((M.tag k (M.cat (yV x1 x2 x3 x4 x5))).map (.int false .u8)))=_
  simp only [den,wI]
  rfl
namespace P
theorem aAf {x r q:Int}:(x*(r-p*q))%p=(x*r)%p:=by
 rw [Int.mul_sub,show x*(p*q)=p*(x*q) by rw [Int.mul_left_comm],Rd]
theorem Eu {r q:Int} (d:List Int):∀ j,YW (r-p*q) d j=YW r d j
 | 0=>rfl
 | j+1=>by simp only [YW];rw [Eu d j,aAf]
theorem Pu {r q:Int} (d:List Int):Nc (r-p*q) d=Nc r d:=by
 unfold Nc
 rw [Eu,aAf]
theorem Yi {k:List Int} (hk:∀ i,rF (k.getD i 0)):∀ i,rF ((dE k).getD i 0):=qP fun x hx=>by
 unfold dE at hx
 rcases List.mem_append.1 hx with h | h
 .obtain ⟨i,_,rfl⟩:=List.mem_map.1 h
  have Ue:∀ a b:Int,rF (bR .u8 a b):=fun a b=>by
   have e:bR .u8 a b=((BitVec.ofInt 8 a &&& BitVec.ofInt 8 b).toNat:Int)%256:=rfl
   unfold rF
   rw [e];omega
  unfold Gp
  split
  .exact Ue _ _
  .split
   .exact hk _
   .exact Ue _ _
  .exact hk _
 .simp only [List.mem_singleton] at h
  subst h
  exact ⟨by decide,by decide⟩
def Vb (key data:List Int):Int:=(Nc (Mq (dE (key.take 16))) data+V2 (key.drop 16))%340282366920938463463374607431768211456
theorem aFs {key data:List Int} (hk:key.length=32) (hkb:∀ x∈key,rF x) (hd:∀ x∈data,rF x) :
 tag (Cw (put ⟨num (dE (key.take 16)),List.replicate 5 0,key.drop 16,mI,0⟩ data)) (put ⟨num (dE (key.take 16)),List.replicate 5 0,key.drop 16,mI,0⟩ data).mask =
  (List.range 8).map (byteOf (Vb key data%18446744073709551616))++(List.range 8).map (byteOf (Vb key data/18446744073709551616)):=by
 have hb:=Gf (Yi (k:=key.take 16) (qP fun x hx=>hkb x (List.mem_of_mem_take hx)))
 obtain ⟨hO,q,hq⟩:=hb
 obtain ⟨h1,h2,h3⟩:=aGp (mask:=key.drop 16) hO (by rw [List.length_drop];omega) hd
 obtain ⟨t1,t2⟩:=Vx h1 (s:=key.drop 16) (qP fun x hx=>hkb x (List.mem_of_mem_drop hx))
 rw [h2,hq,Pu] at t1 t2
 rw [h3]
 unfold tag aAz
 rw [t1,t2]
 rfl
end P
namespace P
theorem XZ {T:Int} (h:0<=T):(List.range 8).map (byteOf (T%18446744073709551616))++(List.range 8).map (byteOf (T/18446744073709551616))=(List.range 16).map fun i=>T/((256^i:Nat):Int)%256:=by
 have lo:∀ i,i<8->byteOf (T%18446744073709551616) i=T/((256^i:Nat):Int)%256:=by
  intro i hi
  rw [qU (by omega) hi]
  match i,hi with
  | 0,_=>show T%18446744073709551616/1%256=T/1%256;omega
  | 1,_=>show T%18446744073709551616/256%256=T/256%256;omega
  | 2,_=>show T%18446744073709551616/65536%256=T/65536%256;omega
  | 3,_=>show T%18446744073709551616/16777216%256=T/16777216%256;omega
  | 4,_=>show T%18446744073709551616/4294967296%256=T/4294967296%256;omega
  | 5,_=>show T%18446744073709551616/1099511627776%256=T/1099511627776%256;omega
  | 6,_=>show T%18446744073709551616/281474976710656%256=T/281474976710656%256;omega
  | 7,_=>show T%18446744073709551616/72057594037927936%256=T/72057594037927936%256;omega
 have fP:∀ i,i<8->byteOf (T/18446744073709551616) i=T/((256^(8+i):Nat):Int)%256:=by
  intro i hi
  rw [qU (by omega) hi]
  have e:((256^(8+i):Nat):Int)=18446744073709551616*((256^i:Nat):Int):=by rw [Nat.pow_add,Int.natCast_mul];rfl
  rw [e,Int.ediv_ediv_of_nonneg (by decide)]
 have split:(List.range 16).map (fun i=>T/((256^i:Nat):Int)%256)=(List.range 8).map (fun i=>T/((256^i:Nat):Int)%256)++(List.range 8).map (fun i=>T/((256^(8+i):Nat):Int)%256):=by
  rw [show (16:Nat)=8+8 from rfl,List.range_add,List.map_append,List.map_map]
  rfl
 rw [split]
 congr 1
 .exact List.map_congr_left fun i h=>lo i (by simpa using h)
 .exact List.map_congr_left fun i h=>fP i (by simpa using h)
end P
namespace P
theorem vY (l r:List Int) {i:Nat} (h:i<l.length):(l++r).getD i 0=l.getD i 0:=by simp [gH,List.getElem?_append_left h]
theorem fE {d:List Int} {k i:Nat} (h:k+16<=d.length) (hi:i<16):((d.drop k).take 16++[1]).getD i 0=d.getD (k+i) 0:=by
 rw [vY _ _ (by rw [List.length_take,List.length_drop];omega)]
 simp [gH,List.getElem?_take,hi,List.getElem?_drop]
theorem YB {d:List Int} {k:Nat} (h:k+16<=d.length):((d.drop k).take 16++[1]).getD 16 0=1:=by
 have e:((d.drop k).take 16).length=16:=by rw [List.length_take,List.length_drop];omega
 rw [gH,List.getElem?_append_right (by omega),e];rfl
theorem YI {d:List Int} {k:Nat} (h:16*k+16<=d.length) (hl:d.length<=1073741824):Mq ((d.drop (16*k)).take 16++[1])=M.V (M.aT d ((16*k:Nat):Int) 16):=by
 rw [M.FV d (by omega)]
 unfold Mq
 rw [fE h (i:=0) (by decide),fE h (i:=1) (by decide),fE h (i:=2) (by decide),fE h (i:=3) (by decide),fE h (i:=4) (by decide),fE h (i:=5) (by decide),fE h (i:=6) (by decide),fE h (i:=7) (by decide),fE h (i:=8) (by decide),fE h (i:=9) (by decide),fE h (i:=10) (by decide),fE h (i:=11) (by decide),fE h (i:=12) (by decide),fE h (i:=13) (by decide),fE h (i:=14) (by decide),fE h (i:=15) (by decide),YB h]
 simp only [M.sD,M.Ag,Nat.add_zero]
 omega
theorem Tl (r:Int) {d:List Int} (hl:d.length<=1073741824):∀ j,16*j<=d.length->YW r d j=M.acc r d j
 | 0,_=>rfl
 | j+1,h=>by
   rw [M.Lm r (by omega),<- Tl r hl j (by omega),<- YI (by omega) hl]
   rfl
theorem cW (k:List Int) {i:Nat} (h:i<16):(k.take 16).getD i 0=k.getD i 0:=by simp [gH,List.getElem?_take,h]
theorem Yj (k:List Int):dE k=[k.getD 0 0,k.getD 1 0,k.getD 2 0,bR .u8 (k.getD 3 0) 15,bR .u8 (k.getD 4 0) 252,k.getD 5 0,k.getD 6 0,bR .u8 (k.getD 7 0) 15,bR .u8 (k.getD 8 0) 252,k.getD 9 0,k.getD 10 0,bR .u8 (k.getD 11 0) 15,bR .u8 (k.getD 12 0) 252,k.getD 13 0,k.getD 14 0,bR .u8 (k.getD 15 0) 15,0]:=rfl
theorem Ym (k:List Int):Mq (dE (k.take 16))=M.sM k+18446744073709551616*M.rA k:=by
 rw [Yj,cW k (i:=0) (by decide),cW k (i:=1) (by decide),cW k (i:=2) (by decide),cW k (i:=3) (by decide),cW k (i:=4) (by decide),cW k (i:=5) (by decide),cW k (i:=6) (by decide),cW k (i:=7) (by decide),cW k (i:=8) (by decide),cW k (i:=9) (by decide),cW k (i:=10) (by decide),cW k (i:=11) (by decide),cW k (i:=12) (by decide),cW k (i:=13) (by decide),cW k (i:=14) (by decide),cW k (i:=15) (by decide)]
 unfold Mq M.sM M.rA
 simp only [M.sD,M.Ag,List.getD_cons_zero,List.getD_cons_succ]
 omega
theorem lZ (k:List Int) (i:Nat):(k.drop 16).getD i 0=k.getD (16+i) 0:=by simp [gH,List.getElem?_drop]
theorem aPr (k:List Int):V2 (k.drop 16)=M.vH k+18446744073709551616*M.wO k:=by
 have e:∀ a,S (k.drop 16) a 8=k.getD (16+(a+0)) 0+256*k.getD (16+(a+1)) 0+65536*k.getD (16+(a+2)) 0+16777216*k.getD (16+(a+3)) 0+4294967296*k.getD (16+(a+4)) 0+1099511627776*k.getD (16+(a+5)) 0+281474976710656*k.getD (16+(a+6)) 0+72057594037927936*k.getD (16+(a+7)) 0:=by
  intro a
  simp only [S,lZ]
  rw [show ((256^0:Nat):Int)=1 from rfl,show ((256^1:Nat):Int)=256 from rfl,show ((256^2:Nat):Int)=65536 from rfl,show ((256^3:Nat):Int)=16777216 from rfl,show ((256^4:Nat):Int)=4294967296 from rfl,show ((256^5:Nat):Int)=1099511627776 from rfl,show ((256^6:Nat):Int)=281474976710656 from rfl,show ((256^7:Nat):Int)=72057594037927936 from rfl]
  omega
 unfold V2
 rw [e 0,e 8]
 unfold M.vH M.wO
 simp only [M.sD,M.Ag,Nat.reduceAdd]
 omega
theorem UL {key D:List Int} (hk:bX key) (hl:D.length<=1073741824) (sN:D.length%16=0) :
 Vb key D=M.w0 (M.acc (M.V (M.cl key)) D (D.length/16)+(M.vH key+18446744073709551616*M.wO key))+18446744073709551616*M.w1 (M.acc (M.V (M.cl key)) D (D.length/16)+(M.vH key+18446744073709551616*M.wO key)):=by
 unfold Vb Nc
 rw [if_pos sN,Ym,<- M.aLg hk,aPr,Tl _ hl _ (by omega)]
 unfold M.w0 M.w1
 omega
theorem UK {key D:List Int} (hk:key.length=32) (hb:bX key) (hd:bX D) (hl:D.length<=1073741824) (sN:D.length%16=0) :
 tag (Cw (put ⟨num (dE (key.take 16)),List.replicate 5 0,key.drop 16,mI,0⟩ D)) (put ⟨num (dE (key.take 16)),List.replicate 5 0,key.drop 16,mI,0⟩ D).mask=M.tag key D:=by
 have h0:0<=Vb key D:=by unfold Vb;omega
 rw [aFs hk hb hd,XZ h0,M.EF hb sN,UL hb hl sN]
 refine List.map_congr_left fun i _=>?_
 unfold M.nb
 rw [Int.natCast_pow]
 rfl
end P
noncomputable def PT (cp:List Int->List Int):Nat->Option Sum:=dI (dI (dI (dI fF 80 (aL aA 100 rY)) 129 (aL aA 100 (Rt cp))) 87 (aL aA 100 CJ)) 88 (aL aA 100 Nm)
theorem WY (cp:List Int->List Int):∀ f S,PT cp f=some S->∀ Γ:Env,Γ.aR=aA->aF Tryz.prog Γ f S:=bD (bD (bD (bD fV 80 _ As) 129 _ (FP cp)) 87 _ aFk) 88 _ QR
def of0 (cp:List Int->List Int) (key:List Int):P.MS:=⟨c5 (cp (dA 16 key)),c5 (List.replicate 5 0),Qu fun j=>key.getD (16+j) 0,Qu fun _=>0,(0:Int).toNat⟩
def Qv (cp:List Int->List Int) (key:List Int) (d:Nat->List Int):Nat->P.MS
 | 0=>of0 cp key
 | j+1=>P.nf (P.put (Qv cp key d j) (d (j+1)))
def ofQ (cp:List Int->List Int) (key:List Int) (d:Nat->List Int):Nat->List Prop
 | 0=>qM (cp (dA 16 key)) (List.replicate 5 0) (fun j=>key.getD (16+j) 0) (fun _=>0) 0 (of0 cp key)
 | j+1=>qMS (P.put (Qv cp key d j) (d (j+1))) (Qv cp key d (j+1))
def ofO (cp:List Int->List Int) (key:List Int) (d:Nat->List Int) (r:List Prop):Nat->List Prop
 | 0=>r
 | j+1=>(Qv cp key d j).WF::((d (j+1)).length<=1000000000000)::((d (j+1)).length=(d (j+1)).length)::((d (j+1)).length=(d (j+1)).length)::(ofQ cp key d j++(d (j+1)=d (j+1))::ofO cp key d r j)
theorem aRn (cp:List Int->List Int) (key:List Int) (d:Nat->List Int):aJ (env (PT cp) 4) Tryz.f48 true [] 1500 [.raw (.pointer none),.agg (cK .u8 32 key),.aG 62 true 0 5 5] (xE d) 100 100 =
 some { bO:=(Qv cp key d 5).WF::(ofQ cp key d 5++ofO cp key d [(dA 16 key).length=16,cp (dA 16 key)=P.num (P.dE (dA 16 key)),dA 16 key=dA 16 key] 5),val:=.agg (cK .u8 16 (P.Dm (Qv cp key d 5))) }:=by kernel_rfl
namespace P
def new (key:List Int):MS:=⟨num (dE (key.take 16)),List.replicate 5 0,key.drop 16,mI,0⟩
theorem aFg {key:List Int} (h:key.length=32):(new key).WF:=⟨rfl,rfl,by simp only [new,List.length_drop];omega,rfl,(by decide:0<16),rfl⟩
theorem oQ {key:List Int} (h:key.length=32):dA 16 key=key.take 16:=by
 unfold dA
 apply List.ext_getElem
 .simp;omega
 .intro i h1 h2
  have hi:i<16:=by simpa using h1
  simp [gH,show i<key.length by omega]
end P
theorem Nu {key:List Int} (h:key.length=32):of0 (fun b=>P.num (P.dE b)) key=P.new key:=by
 unfold of0 P.new
 have e1:(Qu fun j=>key.getD (16+j) 0)=key.drop 16:=by
  have:(key.drop 16).length=16:=by rw [List.length_drop];omega
  rw [<- yC this]
  unfold Qu
  refine List.map_congr_left fun j _=>?_
  rw [P.lZ]
 have e5:c5 (P.num (P.dE (key.take 16)))=P.num (P.dE (key.take 16)):=iL (P.mF _)
 rw [P.oQ h,e1]
 show P.MS.mk (c5 (P.num (P.dE (key.take 16)))) _ _ _ _=_
 rw [e5]
 rfl
theorem Ge {key:List Int} (h:key.length=32) (d:Nat->List Int):∀ j,(Qv (fun b=>P.num (P.dE b)) key d j).WF
 | 0=>by
   rw [Qv,Nu h];exact P.aFg h
 | j+1=>by
   have hw:=P.Gd (Ge h d j) (d (j+1))
   rw [Qv,P.Jt hw];exact hw
theorem qL {key:List Int} (h:key.length=32) (d:Nat->List Int) (j:Nat):Qv (fun b=>P.num (P.dE b)) key d (j+1)=P.put (Qv (fun b=>P.num (P.dE b)) key d j) (d (j+1)):=P.Jt (P.Gd (Ge h d j) (d (j+1)))
theorem aNb {key:List Int} (h:key.length=32) (d:Nat->List Int):Qv (fun b=>P.num (P.dE b)) key d 5=P.put (P.new key) (M.cat d):=by
 unfold M.cat
 rw [P.kR,P.kR,P.kR,P.kR,qL h,qL h,qL h,qL h,qL h,Qv,Nu h]
theorem EV {key:List Int} (h:key.length=32) (d:Nat->List Int):∀ j,∀ q∈ofQ (fun b=>P.num (P.dE b)) key d j,q
 | 0=>by
   rw [ofQ,Nu h]
   refine Dr (by rw [P.oQ h];rfl) rfl (fun j _=>?_) (fun j _=>(P.Sh j).symm) rfl
   simp only [P.new,P.lZ]
 | j+1=>by
   rw [ofQ,qL h]
   exact An rfl
theorem EW {key:List Int} (h:key.length=32) (d:Nat->List Int) {r:List Prop} (hr:∀ q∈r,q):∀ j,(∀ i,i<j->(d (i+1)).length<=1000000000000)->∀ q∈ofO (fun b=>P.num (P.dE b)) key d r j,q
 | 0,_=>hr
 | j+1,hd=>aN (Ge h d j) (aN (hd j (by omega)) (aN rfl (aN rfl (pL (EV h d j) (aN rfl (EW h d hr j fun i hi=>hd i (by omega)))))))
theorem M.mT (key data:List Int):(M.tag key data).length=16:=by simp [M.tag,M.Uw]
theorem UB {key:List Int} {d:Nat->List Int} (hk:key.length=32) (hb:bX key) (hd:bX (M.cat d)) (hl:(M.cat d).length<=1073741824) (sN:(M.cat d).length%16=0) (Γ:Env) (hg:Γ.aR=aA) :
 aE Tryz.prog Γ 48 [.raw (.pointer none),.ai .u8 key,.aG 62 true 0 5 5] (xE d) 100 100 { val:=.ai .u8 (M.tag key (M.cat d)) }:=by
 have hs:aF Tryz.prog (env (PT fun b=>P.num (P.dE b)) 4) 48 (aJ (env (PT fun b=>P.num (P.dE b)) 4) Tryz.f48 true [] 1500):=aM (bL _ 4) (bS _ (WY _) 4) mix Tryz.func48 (by kernel_rfl) true [] 1500
 have hlen:∀ i,i<5->(d (i+1)).length<=1000000000000:=fun i hi=>by
  have:=M.ET d hi
  omega
 have h:=hs.call (aRn (fun b=>P.num (P.dE b)) key d) (aN (Ge hk d 5) (pL (EV hk d 5) (EW hk d (aN (by rw [P.oQ hk,List.length_take];omega) (aN rfl (aN rfl gM))) 5 hlen)))
 have ht:P.Dm (Qv (fun b=>P.num (P.dE b)) key d 5)=M.tag key (M.cat d):=by
  rw [aNb hk]
  exact P.UK hk hb hd hl sN
 rw [ht] at h
 refine h.words (by rw [hg];rfl) (fun V=>?_) (fun _ _ h=>h) (fun V=>bF V (M.mT _ _)) rfl rfl
 simp only [aI,bF V hk]
def Rj (mc:List Int->List Int->List Int) (vs:List SV) (T:bB):Option Canon:=match vs with
 | [.raw (.pointer none),ks,.aG L _ 0 5 5]=>match cJ ks,(T L).bind roL with
   | some (.u8,k),some [p1,p2,p3,p4,p5]=>match dR T .u8 p1,dR T .u8 p2,dR T .u8 p3,dR T .u8 p4,dR T .u8 p5 with
     | some (o1,x1),some (o2,x2),some (o3,x3),some (o4,x4),some (o5,x5)=>some { eN:=[.raw (.pointer none),.ai .u8 k,.aG 62 true 0 5 5],T0:=sgB (yV x1 x2 x3 x4 x5),vl:=[(62,.lab L 0),(71,.cell L 0),(72,.cell L 1),(73,.cell L 2),(74,.cell L 3),(75,.cell L 4)],e0:={ val:=.ai .u8 (mc k (x1++(x2++(x3++(x4++x5))))) },conds:=(mc k (x1++(x2++(x3++(x4++x5))))=M.tag k (x1++(x2++(x3++(x4++x5)))))::(k.length=32)::bX k::bX (x1++(x2++(x3++(x4++x5))))::((x1++(x2++(x3++(x4++x5)))).length<=1073741824)::((x1++(x2++(x3++(x4++x5)))).length%16=0)::(o1++(o2++(o3++(o4++o5)))) }
     | _,_,_,_,_=>none
   | _,_=>none
 | _=>none
theorem EU (mc:List Int->List Int->List Int) (Γ:Env) (hg:Γ.aR=aA):aF Tryz.prog Γ 48 (aL aA 100 (Rj mc)):=by
 refine aU hg fun vs T c hd hc=>?_
 unfold Rj at hd
 split at hd
 case h_2=>cases hd
 split at hd
 case h_2=>cases hd
 split at hd
 case h_2=>cases hd
 cases hd
 rename_i k _ _ _ _ _ _ _ _ _ _ _ _ o1 x1 o2 x2 o3 x3 o4 x4 o5 x5 _ _ _ _ _
 have e:=hc _ dB
 have h:=UB (d:=yV x1 x2 x3 x4 x5) (hc _ (eK _ dB)) (hc _ (eK _ (eK _ dB))) (hc _ (eK _ (eK _ (eK _ dB)))) (hc _ (eK _ (eK _ (eK _ (eK _ dB))))) (hc _ (eK _ (eK _ (eK _ (eK _ (eK _ dB)))))) Γ hg
 have e':mc k (M.cat (yV x1 x2 x3 x4 x5))=M.tag k (M.cat (yV x1 x2 x3 x4 x5)):=e
 rw [<- e'] at h
 exact h
noncomputable def Mr (si:List Int->List Int->Int->List Int) (x4 tn:Nat->List Int->List Int->List Int) (on:List Int->List Int):Env:=env (aKu si x4 tn on) 4
theorem QF (si:List Int->List Int->Int->List Int) (x4 tn:Nat->List Int->List Int->List Int) (on:List Int->List Int):cA Tryz.prog (Mr si x4 tn on):=bL _ 4
theorem QG (si:List Int->List Int->Int->List Int) (x4 tn:Nat->List Int->List Int->List Int) (on:List Int->List Int):cH Tryz.prog (Mr si x4 tn on):=bS _ (WZ si x4 tn on) 4
def PB (key aC:List Int) (c:Int) (off len cap:Nat):List SV:=[.raw (.pointer none),.ai .u8 key,.int false .u32 c,.ai .u8 aC,.aG 60 false off len cap]
noncomputable def MK (si:List Int->List Int->Int->List Int) (x4 tn:Nat->List Int->List Int->List Int) (on:List Int->List Int) (xs:List Int) (t:TypeId) (cf:Cf) (K:List Fr) (s:St):Option qH:=gV (Mr si x4 tn on) (bI 100 (sO xs t)) 100 Tryz.f46.ntmps [3,9] 400 3000 cf K s
def pG (off len cap:Nat) (a:Int):List (Nat × SV):=[(0,.raw (.pointer none)),(4,.aG 60 false off len cap),(10,.ptr 100 true 0),(11,.int false .i64 a)]
def pF (xs s:List Int) (t:TypeId):List (Nat × SB):=[(60,.ints .u8 xs t),(100,.ints .u32 s 121)]
namespace Q
def oA (off cap:Nat) (a:Int):Nat:=if (cap:Int)=a then off else off+a.toNat*1
def pd (off len cap:Nat) (a:Int) (xs:List Int):List Int:=(xs.drop (oA off cap a)).take ((len:Int).toNat-a.toNat)
def qd (p:List Int):List Int:=p.take (p.length.min 64)
def ld (q:List Int):List Int:=(List.replicate 64 0).take 0++q++(List.replicate 64 0).drop (0+q.length)
def go (len:Nat) (a k:Int):Prop:=decide (IntKind.i64.wrap ((len:Int)-a)>=k)=true
def no (len:Nat) (a k:Int):Prop:=decide (IntKind.i64.wrap ((len:Int)-a)>=k)=false
def sa (len:Nat) (a k:Int):Prop:=decide (IntKind.i64.wrap ((len:Int)-a)>=k)=decide (IntKind.i64.wrap ((len:Int)-a)>=k)
def sl (len cap:Nat) (a:Int):Prop:=(0:Int)<=(cap:Int)/\(cap:Int)<=(cap:Int)/\(0:Int)<=(len:Int)/\(len:Int)<=(cap:Int)/\(0:Int)<=a/\a<=(len:Int)
end Q
noncomputable def mxR:Option qH:=MK (fun _ _ _=>[]) (fun _ _ _=>[]) (fun _ _ _=>[]) (fun _=>[]) [] 0 (.go (codeOf Tryz.f46)) [] ((Dg (PB [] [] 0 0 0 0) 100).hint [])
noncomputable def aBn:Code:=Jd mxR
noncomputable def mxK:List Fr:=Jc mxR
noncomputable def aJx:Option qH:=MK (fun _ _ _=>[]) (fun _ _ _=>[]) (fun _ _ _=>[]) (fun _=>[]) [] 0 (.at (.exit 0)) mxK ((cG (pG 0 0 0 0) (pF [] [] 0) 101 [60] []).hint [])
noncomputable def aBo:Code:=Jd aJx
noncomputable def PC:List Fr:=Jc aJx
theorem aRz (si:List Int->List Int->Int->List Int) (x4 tn:Nat->List Int->List Int->List Int) (on:List Int->List Int) (key aC xs hY s':List Int) (c:Int) (t:TypeId) (off len cap:Nat) (a':Int):hZ 100 Tryz.f46.ntmps (bI 100 (sO xs t)) [] (pG off len cap a') (pF hY s' t) 101 [60] [] (MK si x4 tn on xs t (.go (codeOf Tryz.f46)) [] ((Dg (PB key aC c off len cap) 100).hint [])) =
 some (.go (.loop aBn),mxK,[(si key aC c).length=16,si key aC c=B.init key aC c,key.length=32,aC.length=12,key=key,c=c,aC=aC,aC.length=12,key.length=32,off=off,len=len,cap=cap,0=a',xs=hY/\t=t,si key aC c=s'/\(121:Nat)=(121:TypeId)]):=by kernel_rfl
theorem aRy (si:List Int->List Int->Int->List Int) (x4 tn:Nat->List Int->List Int->List Int) (on:List Int->List Int) (gI xs hY s s':List Int) (t:TypeId) (off len cap:Nat) (a a':Int):hZ 100 Tryz.f46.ntmps (bI 100 (sO gI t)) [] (pG off len cap a') (pF hY s' t) 101 [60] [] (MK si x4 tn on gI t (.go aBn) [] ((cG (pG off len cap a) (pF xs s t) 101 [60] []).hint [true])) =
 some (.at .normal,[],[12<s.length,13<=s.length,x4 (Q.oA off cap a) s xs=Q.x4 (Q.oA off cap a) s xs,s.length=16,Q.oA off cap a+256<=xs.length,s=s,Q.oA off cap a=0+Q.oA off cap a,xs=xs/\t=t,s.length=16,256<=(len:Int).toNat-a.toNat,Q.sl len cap a,Q.go len a 256,Q.sa len a 256,
  off=off,len=len,cap=cap,IntKind.i64.wrap (a+256)=a',x4 (Q.oA off cap a) s xs=hY/\t=t,s.set 12 (IntKind.u32.wrap (s.getD 12 0+4))=s'/\(121:Nat)=(121:TypeId)]):=by kernel_rfl
theorem aRx (si:List Int->List Int->Int->List Int) (x4 tn:Nat->List Int->List Int->List Int) (on:List Int->List Int) (gI xs hY s s':List Int) (t:TypeId) (off len cap:Nat) (a a':Int):hZ 100 Tryz.f46.ntmps (bI 100 (sO gI t)) [] (pG off len cap a') (pF hY s' t) 101 [60] [] (MK si x4 tn on gI t (.go aBn) [] ((cG (pG off len cap a) (pF xs s t) 101 [60] []).hint [false])) =
 some (.at (.exit 0),[],[Q.no len a 256,Q.sa len a 256,off=off,len=len,cap=cap,a=a',xs=hY/\t=t,s=s'/\(121:Nat)=(121:TypeId)]):=by kernel_rfl
theorem aRw (si:List Int->List Int->Int->List Int) (x4 tn:Nat->List Int->List Int->List Int) (on:List Int->List Int) (gI xs hY s s':List Int) (t:TypeId) (off len cap:Nat) (a a':Int):hZ 100 Tryz.f46.ntmps (bI 100 (sO gI t)) [] (pG off len cap a') (pF hY s' t) 101 [60] [] (MK si x4 tn on gI t (.at (.exit 0)) mxK ((cG (pG off len cap a) (pF xs s t) 101 [60] []).hint [])) =
 some (.go (.loop aBo),PC,[off=off,len=len,cap=cap,a=a',xs=hY/\t=t,s=s'/\(121:Nat)=(121:TypeId)]):=by kernel_rfl
theorem aRv (si:List Int->List Int->Int->List Int) (x4 tn:Nat->List Int->List Int->List Int) (on:List Int->List Int) (gI xs hY s s':List Int) (t:TypeId) (off len cap:Nat) (a a':Int):hZ 100 Tryz.f46.ntmps (bI 100 (sO gI t)) [] (pG off len cap a') (pF hY s' t) 101 [60] [] (MK si x4 tn on gI t (.go aBo) [] ((cG (pG off len cap a) (pF xs s t) 101 [60] []).hint [true])) =
 some (.at .normal,[],[12<s.length,13<=s.length,tn (Q.oA off cap a) (on s) xs=Q.tn (Q.oA off cap a) (on s) xs,(on s).length=64,Q.oA off cap a+64<=xs.length,Q.oA off cap a=0+Q.oA off cap a,on s=on s,xs=xs/\t=t,on s=Q.one s,s.length=16,s=s,s.length=16,64<=(len:Int).toNat-a.toNat,Q.sl len cap a,Q.go len a 64,Q.sa len a 64,
  off=off,len=len,cap=cap,IntKind.i64.wrap (a+64)=a',tn (Q.oA off cap a) (on s) xs=hY/\t=t,s.set 12 (IntKind.u32.wrap (s.getD 12 0+1))=s'/\(121:Nat)=(121:TypeId)]):=by kernel_rfl
theorem aRu (si:List Int->List Int->Int->List Int) (x4 tn:Nat->List Int->List Int->List Int) (on:List Int->List Int) (gI xs hY s s':List Int) (t:TypeId) (off len cap:Nat) (a a':Int):hZ 100 Tryz.f46.ntmps (bI 100 (sO gI t)) [] (pG off len cap a') (pF hY s' t) 101 [60] [] (MK si x4 tn on gI t (.go aBo) [] ((cG (pG off len cap a) (pF xs s t) 101 [60] []).hint [false])) =
 some (.at (.exit 2),[],[Q.no len a 64,Q.sa len a 64,off=off,len=len,cap=cap,a=a',xs=hY/\t=t,s=s'/\(121:Nat)=(121:TypeId)]):=by kernel_rfl
theorem aRt (si:List Int->List Int->Int->List Int) (x4 tn:Nat->List Int->List Int->List Int) (on:List Int->List Int) (gI xs s:List Int) (t:TypeId) (off len cap:Nat) (a:Int):xP (Mr si x4 tn on) (sO gI t) 100 100 Tryz.f46 [] (MK si x4 tn on gI t (.at (.exit 2)) PC ((cG (pG off len cap a) (pF xs s t) 101 [60] []).hint [false])) =
 some { bO:=[decide (IntKind.i64.wrap ((len:Int)-a)>0)=false,decide (IntKind.i64.wrap ((len:Int)-a)>0)=decide (IntKind.i64.wrap ((len:Int)-a)>0)],val:=.eF [],wr:=[(60,.ints .u8 xs t)] }:=by kernel_rfl
def Q.lt (tn:Nat->List Int->List Int->List Int) (b p:List Int):List Int:=((tn 0 b (ld (qd p))).drop 0).take 64
def Q.mv (o m:Nat) (xs y:List Int):List Int:=xs.take o++y.take (Nat.min y.length m)++xs.drop (o+Nat.min y.length m)
theorem aRs (si:List Int->List Int->Int->List Int) (x4 tn:Nat->List Int->List Int->List Int) (on:List Int->List Int) (gI xs s:List Int) (t:TypeId) (off len cap:Nat) (a:Int):xP (Mr si x4 tn on) (sO gI t) 100 100 Tryz.f46 [] (MK si x4 tn on gI t (.at (.exit 2)) PC ((cG (pG off len cap a) (pF xs s t) 101 [60] []).hint [true])) =
 some { bO:=[Q.oA off cap a+Nat.min (Q.lt tn (on s) (Q.pd off len cap a xs)).length ((len:Int).toNat-a.toNat)<=xs.length,64<=(tn 0 (on s) (Q.ld (Q.qd (Q.pd off len cap a xs)))).length,tn 0 (on s) (Q.ld (Q.qd (Q.pd off len cap a xs)))=Q.tn 0 (on s) (Q.ld (Q.qd (Q.pd off len cap a xs))),(on s).length=64,0+64<=(Q.ld (Q.qd (Q.pd off len cap a xs))).length,0=0,on s=on s,Q.ld (Q.qd (Q.pd off len cap a xs))=Q.ld (Q.qd (Q.pd off len cap a xs))/\(105:Nat)=(105:TypeId),on s=Q.one s,s.length=16,s=s,s.length=16,(0:Nat)<=0/\0+(Q.qd (Q.pd off len cap a xs)).length<=64,Q.oA off cap a+((len:Int).toNat-a.toNat)<=xs.length,Q.sl len cap a,decide (IntKind.i64.wrap ((len:Int)-a)>0)=true,decide (IntKind.i64.wrap ((len:Int)-a)>0)=decide (IntKind.i64.wrap ((len:Int)-a)>0)],val:=.eF [],wr:=[(60,.ints .u8 (Q.mv (Q.oA off cap a) ((len:Int).toNat-a.toNat) xs (Q.lt tn (on s) (Q.pd off len cap a xs))) t)] }:=by kernel_rfl
namespace Q
theorem QJ (a b:Int):IntKind.u32.wrap (IntKind.u32.wrap a+b)=IntKind.u32.wrap (a+b):=by simp only [IntKind.wrap_u32];omega
def S (key aC:List Int) (c:Int) (j:Nat):List Int:=B.init key aC (IntKind.u32.wrap (c+(j:Int)))
theorem gZ (key aC:List Int) (c:Int) (j:Nat):(S key aC c j).length=16:=rfl
theorem aWc (key aC:List Int) (c:Int) (j:Nat):(S key aC c j).getD 12 0=IntKind.u32.wrap (c+(j:Int)):=rfl
theorem aPs (key aC:List Int) (c d:Int) (j:Nat):(S key aC c j).set 12 d=B.init key aC d:=rfl
theorem Pc (key aC:List Int) (c:Int) (j k:Nat):(S key aC c j).set 12 (IntKind.u32.wrap ((S key aC c j).getD 12 0+(k:Int)))=S key aC c (j+k):=by
 rw [aWc,aPs,QJ]
 unfold S
 congr 2
 omega
theorem S_0 (key aC:List Int) {c:Int} (hc:0<=c/\c<=4294967295):S key aC c 0=B.init key aC c:=by
 unfold S
 rw [show c+((0:Nat):Int)=c by omega,IntWalk.u32_in c hc]
theorem aNa (key aC:List Int) (c:Int) (j:Nat):one (S key aC c j)=B.block key aC (IntKind.u32.wrap (c+(j:Int))):=rfl
theorem Bx (s:List Int):(one s).length=64:=by simp [one,B.out]
theorem Ns (key aC:List Int) (c:Int) (j:Nat) {m:Nat} (hm:m<64):(one (S key aC c j)).getD m 0=Iq key aC c (64*j+m):=by
 rw [aNa]
 unfold Iq
 rw [show (64*j+m)/64=j by omega,show (64*j+m)%64=m by omega]
theorem WL (key aC:List Int) (c:Int) (j:Nat) {m:Nat} (_:m<256):iK (S key aC c j) m=Iq key aC c (64*j+m):=by
 have e:st4 (S key aC c j) (m/64)=S key aC c (j+m/64):=Pc key aC c j (m/64)
 unfold iK
 rw [e]
 show (one (S key aC c (j+m/64))).getD (m%64) 0=_
 rw [Ns _ _ _ _ (by omega)]
 congr 1
 omega
theorem pP (off n:Nat) (f:Nat->Int) (xs:List Int) {m:Nat} (h:m<xs.length):(qW off n f xs).getD m 0=if off<=m/\m<off+n then gW .u8 (xs.getD m 0) (f (m-off)) else xs.getD m 0:=by
 simp [qW,gH,h]
theorem Rm {n:Nat} {a b:List Int} (ha:a.length=n) (hb:b.length=n) (h:∀ i,i<n->a.getD i 0=b.getD i 0):a=b:=by
 apply List.ext_getElem (by omega)
 intro i h1 h2
 have:=h i (by omega)
 rw [gH,gH,List.getElem?_eq_getElem h1,List.getElem?_eq_getElem h2] at this
 simpa using this
theorem wA {off n k:Nat} {f g:Nat->Int} {xs:List Int} (h:∀ m,m<k->g m=f (n+m)):qW (off+n) k g (qW off n f xs)=qW off (n+k) f xs:=by
 refine Rm (n:=xs.length) (by rw [gA,gA]) (by rw [gA]) fun i hi=>?_
 rw [pP _ _ _ _ (by rw [gA];exact hi),pP _ _ _ _ hi,pP _ _ _ _ hi]
 by_cases h1:off<=i/\i<off+n
 .rw [if_neg (by omega),if_pos h1,if_pos (by omega)]
 .rw [if_neg h1]
  by_cases h2:off+n<=i/\i<off+n+k
  .rw [if_pos h2,if_pos (by omega),h _ (by omega)]
   congr 2;omega
  .rw [if_neg h2,if_neg (by omega)]
theorem aLr {key aC:List Int} {c:Int} {off j:Nat} {xs:List Int}:x4 (off+64*j) (S key aC c j) (cE key aC c off (64*j) xs)=cE key aC c off (64*(j+4)) xs:=by
 rw [tI,tI,show 64*(j+4)=64*j+256 by omega]
 exact wA fun m hm=>WL key aC c j hm
theorem aLs {key aC:List Int} {c:Int} {off j:Nat} {xs:List Int}:tn (off+64*j) (one (S key aC c j)) (cE key aC c off (64*j) xs)=cE key aC c off (64*(j+1)) xs:=by
 rw [tI,tI,show 64*(j+1)=64*j+64 by omega]
 exact wA fun m hm=>Ns key aC c j hm
theorem CC (off:Nat) {cap a:Nat} (h:a<cap):oA off cap (a:Int)=off+a:=by
 unfold oA
 rw [if_neg (by omega)];omega
theorem vY (l r:List Int) {i:Nat} (h:i<l.length):(l++r).getD i 0=l.getD i 0:=by simp [gH,List.getElem?_append_left h]
theorem Oz (l r:List Int) {i:Nat} (h:l.length<=i):(l++r).getD i 0=r.getD (i-l.length) 0:=by simp [gH,List.getElem?_append_right h]
theorem lZ (l:List Int) (k i:Nat):(l.drop k).getD i 0=l.getD (k+i) 0:=by simp [gH,List.getElem?_drop]
theorem cW (l:List Int) {k i:Nat} (h:i<k):(l.take k).getD i 0=l.getD i 0:=by simp [gH,h]
theorem aNj {o r:Nat} {b xs:List Int} (hr:r<=64) (hx:o+r<=xs.length):mv o r xs (lt tn b ((xs.drop o).take r))=qW o r (b.getD · 0) xs:=by
 have hp:((xs.drop o).take r).length=r:=by rw [List.length_take,List.length_drop];omega
 have hq:qd ((xs.drop o).take r)=(xs.drop o).take r:=by
  unfold qd
  rw [hp]
  exact List.take_of_length_le (by rw [hp];exact Nat.le_min.2 ⟨dF _,hr⟩)
 have hl:(ld ((xs.drop o).take r)).length=64:=by
  unfold ld
  rw [List.take_zero,oR,List.length_append,List.length_drop,hp,List.length_replicate];omega
 have ht:(lt tn b ((xs.drop o).take r)).length=64:=by
  unfold lt
  rw [hq,List.drop_zero,List.length_take]
  unfold tn
  rw [gA,hl];rfl
 unfold mv
 rw [ht,show Nat.min 64 r=r from Nat.min_eq_right hr]
 have h1:(xs.take o).length=o:=by rw [List.length_take];omega
 have h2:((lt tn b ((xs.drop o).take r)).take r).length=r:=by rw [List.length_take,ht];omega
 refine Rm (n:=xs.length) (by simp only [List.length_append,h1,h2,List.length_drop];omega) (gA _ _ _ _) fun i hi=>?_
 rw [pP _ _ _ _ hi]
 by_cases hA:i<o
 .rw [if_neg (by omega),List.append_assoc,vY _ _ (by omega),cW _ hA]
 .by_cases hB:i<o+r
  .rw [if_pos (by omega),vY _ _ (by rw [List.length_append];omega),Oz _ _ (by omega),h1,cW _ (by omega)]
   unfold lt
   rw [hq,List.drop_zero,cW _ (by omega)]
   unfold tn
   rw [pP _ _ _ _ (by rw [hl];omega),if_pos (by omega),Nat.sub_zero]
   congr 1
   unfold ld
   rw [List.take_zero,oR,vY _ _ (by rw [hp];omega),cW _ (by omega),lZ]
   congr 1;omega
  .rw [if_neg (by omega),Oz _ _ (by rw [List.length_append];omega),List.length_append,h1,h2,lZ]
   congr 1;omega
end Q
theorem UG {key aC xs:List Int} {c:Int} {t:TypeId} {off len cap:Nat} (hk:key.length=32) (hn:aC.length=12) (hx:off+len<=xs.length) (hlc:len<=cap) (hl:len<=4611686018427387904) (hc:0<=c/\c<=4294967295) :
 aE Tryz.prog (Mr B.init Q.x4 Q.tn Q.one) 46 (PB key aC c off len cap) (sO xs t) 100 100 { val:=.eF [],wr:=[(60,.ints .u8 (cE key aC c off len xs) t)] }:=by
 have aW:=QF B.init Q.x4 Q.tn Q.one
 have aY:=QG B.init Q.x4 Q.tn Q.one
 refine iE aW aY Tryz.func46 (by kernel_rfl) rfl (kJ (by kernel_rfl)) rfl [] ?_
 intro w0 M V0 Q' fB H
 have wi:∀ a:Nat,a<=len->IntKind.i64.wrap ((len:Int)-(a:Int))=((len-a:Nat):Int):=fun a ha=>by rw [IntWalk.i64_in _ (by omega)];omega
 have Fh:∀ n,(cE key aC c off n xs).length=xs.length:=fun n=>fN _ _ _ _ _ _
 refine G.hZ aW aY mix fB [] (aRz B.init Q.x4 Q.tn Q.one key aC xs xs (Q.S key aC c 0) c t off len cap 0) (aB ?_) ?_
 .exact ⟨rfl,rfl,hk,hn,rfl,rfl,rfl,hn,hk,rfl,rfl,rfl,rfl,⟨rfl,rfl⟩,⟨(Q.S_0 key aC hc).symm,rfl⟩,trivial⟩
 refine G.loop (fun r s=>∃ i:Nat,256*i<=len/\r=len-256*i/\s=cG (pG off len cap ((256*i:Nat):Int)) (pF (cE key aC c off (64*(4*i)) xs) (Q.S key aC c (4*i)) t) 101 [60] []) (r0:=len) ⟨0,by omega,by omega,by rw [show 64*(4*0)=0 by omega,Br];rfl⟩ ?_
 rintro r s ⟨i,hi,rfl,rfl⟩
 by_cases h:256<=len-256*i
 .have eo:Q.oA off cap ((256*i:Nat):Int)=off+64*(4*i):=by rw [Q.CC off (by omega)];omega
  refine G.pN aW aY mix fB [true] (aRy B.init Q.x4 Q.tn Q.one xs _ (cE key aC c off (64*(4*(i+1))) xs) (Q.S key aC c (4*i)) (Q.S key aC c (4*(i+1))) t off len cap ((256*i:Nat):Int) ((256*(i+1):Nat):Int)) (aB ?_) (len-256*(i+1)) (by omega) ⟨i+1,by omega,rfl,rfl⟩
  rw [eo]
  refine ⟨by rw [Q.gZ];decide,by rw [Q.gZ];decide,rfl,Q.gZ _ _ _ _,by rw [Fh];omega,rfl,by omega,⟨rfl,rfl⟩,Q.gZ _ _ _ _,by omega,by unfold Q.sl;omega,?_,rfl,rfl,rfl,rfl,?_,⟨?_,rfl⟩,⟨?_,rfl⟩,trivial⟩
  .unfold Q.go
   rw [wi _ hi];exact decide_eq_true (by omega)
  .rw [IntWalk.i64_in _ (by omega)];omega
  .rw [Q.aLr];rfl
  .exact Q.Pc key aC c (4*i) 4
 have Ir:∀ i,64*i<=len->¬ 64<=len-64*i->G Tryz.prog (Mr B.init Q.x4 Q.tn Q.one) w0 M (bI 100 (sO xs t)) Tryz.f46.ntmps 100 V0 (.at (.exit 2)) PC (cG (pG off len cap ((64*i:Nat):Int)) (pF (cE key aC c off (64*i) xs) (Q.S key aC c i) t) 101 [60] []) Q':=by
  intro i hi h
  by_cases hz:0<len-64*i
  .have eo:Q.oA off cap ((64*i:Nat):Int)=off+64*i:=Q.CC off (by omega)
   have e1:(len:Int).toNat-((64*i:Nat):Int).toNat=len-64*i:=by omega
   have hpd:Q.pd off len cap ((64*i:Nat):Int) (cE key aC c off (64*i) xs)=((cE key aC c off (64*i) xs).drop (off+64*i)).take (len-64*i):=by unfold Q.pd;rw [eo,e1]
   have Zh:(((cE key aC c off (64*i) xs).drop (off+64*i)).take (len-64*i)).length=len-64*i:=by rw [List.length_take,List.length_drop,Fh];omega
   have hql:(Q.qd (((cE key aC c off (64*i) xs).drop (off+64*i)).take (len-64*i))).length<=64:=by unfold Q.qd;rw [List.length_take];exact Nat.le_trans (Nat.min_le_left _ _) (Nat.min_le_right _ _)
   have hld:∀ q:List Int,q.length<=64->(Q.ld q).length=64:=fun q hq=>by
    unfold Q.ld
    rw [List.take_zero,oR,List.length_append,List.length_drop,List.length_replicate];omega
   have hB:=Q.Bx (Q.S key aC c i)
   refine G.sX (cl:=[]) aW aY mix [true] H (aRs B.init Q.x4 Q.tn Q.one xs _ (Q.S key aC c i) t off len cap ((64*i:Nat):Int)) (aB ?_) rfl rfl ?_
   .rw [eo,e1,hpd]
    refine ⟨?_,by rw [Q.tn,Q.gA,hld _ hql];decide,rfl,hB,by rw [hld _ hql];decide,rfl,rfl,⟨rfl,rfl⟩,rfl,Q.gZ _ _ _ _,rfl,Q.gZ _ _ _ _,⟨dF _,by omega⟩,by rw [Fh];omega,by unfold Q.sl;omega,?_,rfl,trivial⟩
    .rw [Fh]
     have:=Nat.min_le_right (Q.lt Q.tn (Q.one (Q.S key aC c i)) (((cE key aC c off (64*i) xs).drop (off+64*i)).take (len-64*i))).length (len-64*i)
     exact Nat.le_trans (Nat.add_le_add_left this _) (by omega)
    .rw [wi _ hi];exact decide_eq_true (by omega)
   .show [(60,SB.ints .u8 _ t)]=[(60,SB.ints .u8 _ t)]
    rw [eo,e1,hpd,Q.aNj (by omega) (by rw [Fh];omega),Q.tI,Q.wA fun m hm=>Q.Ns key aC c i (by omega),show 64*i+(len-64*i)=len by omega]
    rfl
  .refine G.sX (cl:=[]) aW aY mix [false] H (aRt B.init Q.x4 Q.tn Q.one xs _ (Q.S key aC c i) t off len cap ((64*i:Nat):Int)) (aB ⟨?_,rfl,trivial⟩) rfl rfl ?_
   .rw [wi _ hi];exact nD (by omega)
   .rw [show 64*i=len by omega]
 refine G.hZ aW aY mix fB [false] (aRx B.init Q.x4 Q.tn Q.one xs _ (cE key aC c off (64*(4*i)) xs) (Q.S key aC c (4*i)) (Q.S key aC c (4*i)) t off len cap ((256*i:Nat):Int) ((64*(4*i):Nat):Int)) (aB ?_) (G.leave (by simp) ?_)
 .refine ⟨?_,rfl,rfl,rfl,rfl,by omega,⟨rfl,rfl⟩,⟨rfl,rfl⟩,trivial⟩
  unfold Q.no
  rw [wi _ hi];exact nD (by omega)
 have hi4:64*(4*i)<=len:=by omega
 clear h hi
 generalize 4*i=j0 at hi4
 refine G.hZ aW aY mix fB [] (aRw B.init Q.x4 Q.tn Q.one xs _ (cE key aC c off (64*j0) xs) (Q.S key aC c j0) (Q.S key aC c j0) t off len cap ((64*j0:Nat):Int) ((64*j0:Nat):Int)) (aB ?_) ?_
 .exact ⟨rfl,rfl,rfl,rfl,⟨rfl,rfl⟩,⟨rfl,rfl⟩,trivial⟩
 refine G.loop (fun r s=>∃ j:Nat,64*j<=len/\r=len-64*j/\s=cG (pG off len cap ((64*j:Nat):Int)) (pF (cE key aC c off (64*j) xs) (Q.S key aC c j) t) 101 [60] []) (r0:=len-64*j0) ⟨j0,hi4,rfl,rfl⟩ ?_
 clear hi4
 rintro r s ⟨j,hj,rfl,rfl⟩
 by_cases h:64<=len-64*j
 .have eo:Q.oA off cap ((64*j:Nat):Int)=off+64*j:=Q.CC off (by omega)
  refine G.pN aW aY mix fB [true] (aRv B.init Q.x4 Q.tn Q.one xs _ (cE key aC c off (64*(j+1)) xs) (Q.S key aC c j) (Q.S key aC c (j+1)) t off len cap ((64*j:Nat):Int) ((64*(j+1):Nat):Int)) (aB ?_) (len-64*(j+1)) (by omega) ⟨j+1,by omega,rfl,rfl⟩
  rw [eo]
  refine ⟨by rw [Q.gZ];decide,by rw [Q.gZ];decide,rfl,Q.Bx _,by rw [Fh];omega,by omega,rfl,⟨rfl,rfl⟩,rfl,Q.gZ _ _ _ _,rfl,Q.gZ _ _ _ _,by omega,by unfold Q.sl;omega,?_,rfl,rfl,rfl,rfl,?_,⟨Q.aLs,rfl⟩,⟨Q.Pc key aC c j 1,rfl⟩,trivial⟩
  .unfold Q.go
   rw [wi _ hj];exact decide_eq_true (by omega)
  .rw [IntWalk.i64_in _ (by omega)];omega
 .refine G.hZ aW aY mix fB [false] (aRu B.init Q.x4 Q.tn Q.one xs _ (cE key aC c off (64*j) xs) (Q.S key aC c j) (Q.S key aC c j) t off len cap ((64*j:Nat):Int) ((64*j:Nat):Int)) (aB ?_) (G.leave (by simp) (Ir j hj h))
  refine ⟨?_,rfl,rfl,rfl,rfl,rfl,⟨rfl,rfl⟩,⟨rfl,rfl⟩,trivial⟩
  unfold Q.no
  rw [wi _ hj];exact nD (by omega)
def CI (vs:List SV) (T:bB):Option Canon:=match vs with
 | [.raw (.pointer none),ks,.int _ .u32 c,ns,.aG l _ off len cap]=>match cJ ks,cJ ns with
   | some (.u8,k),some (.u8,n)=>match T l with
     | some B=>match Ea B with
       | some (.u8,xs,ty)=>some { eN:=PB k n c off len cap,T0:=[(60,.ints .u8 xs ty)],vl:=[(60,.lab l 0)],e0:={ val:=.eF [],wr:=[(60,.ints .u8 (cE k n c off len xs) ty)] },conds:=[k.length=32,n.length=12,off+len<=xs.length,len<=cap,len<=4611686018427387904,0<=c/\c<=4294967295] }
       | _=>none
     | none=>none
   | _,_=>none
 | _=>none
theorem aFj (Γ:Env) (hg:Γ.aR=aA):aF Tryz.prog Γ 46 (aL aA 100 CI):=by
 refine aU hg fun vs T c hd hc=>?_
 unfold CI at hd
 split at hd
 case h_2=>cases hd
 split at hd
 case h_2=>cases hd
 split at hd
 case h_2=>cases hd
 split at hd
 case h_2=>cases hd
 cases hd
 exact (UG (hc _ (by simp)) (hc _ (by simp)) (hc _ (by simp)) (hc _ (by simp)) (hc _ (by simp)) (hc _ (by simp))).words (by rw [hg];rfl) (fun _=>rfl) (fun _ _ h=>h) (fun _=>rfl) rfl rfl
namespace P
def orT (a b:List Int):Nat->Int
 | 0=>0
 | j+1=>jQ .u8 (orT a b j) (gW .u8 (a.getD j 0) (b.getD j 0))
def BE (x:Int):Int:=bU .u64 (jQ .u64 x (W (0-x))) 63
def Zq (a b:List Int):Int:=gW .u64 1 (BE (W (orT a b 16)))
theorem bv8 (a:Nat) (h:a<256):(BitVec.ofInt 8 (a:Int)).toNat=a:=by
 rw [BitVec.ofInt_natCast,BitVec.toNat_ofNat];exact Nat.mod_eq_of_lt h
theorem or8 {a b:Nat} (ha:a<256) (hb:b<256):jQ .u8 (a:Int) (b:Int)=((a ||| b:Nat):Int)/\a ||| b<256:=by
 have hl:a ||| b<2^8:=Nat.or_lt_two_pow (by omega) (by omega)
 refine ⟨?_,by omega⟩
 show (((BitVec.ofInt 8 (a:Int) ||| BitVec.ofInt 8 (b:Int)).toNat:Nat):Int)%256=_
 rw [BitVec.toNat_or,bv8 a ha,bv8 b hb]
 omega
theorem aPy {a b:Nat} (ha:a<256) (hb:b<256):gW .u8 (a:Int) (b:Int)=((a ^^^ b:Nat):Int)/\a ^^^ b<256:=by
 have hl:a ^^^ b<2^8:=Nat.xor_lt_two_pow (by omega) (by omega)
 refine ⟨?_,by omega⟩
 show (((BitVec.ofInt 8 (a:Int) ^^^ BitVec.ofInt 8 (b:Int)).toNat:Nat):Int)%256=_
 rw [BitVec.toNat_xor,bv8 a ha,bv8 b hb]
 omega
theorem aLl {x y:Nat}:x ^^^ y=0<->x=y:=by
 constructor
 .intro h
  have:x ^^^ y ^^^ y=0 ^^^ y:=by rw [h]
  rwa [Nat.xor_assoc,Nat.xor_self,Nat.xor_zero,Nat.zero_xor] at this
 .rintro rfl
  exact Nat.xor_self x
theorem EP {a b:List Int} (ha:bX a) (hb:bX b):∀ j,∃ n:Nat,orT a b j=(n:Int)/\n<256/\(n=0<->∀ i,i<j->a.getD i 0=b.getD i 0)
 | 0=>⟨0,rfl,by decide,⟨fun _ i hi=>absurd hi (Nat.not_lt_zero i),fun _=>rfl⟩⟩
 | j+1=>by
   obtain ⟨n,e,hn,hz⟩:=EP ha hb j
   obtain ⟨x,ex,hx⟩:=(ha.get j).nat
   obtain ⟨y,ey,hy⟩:=(hb.get j).nat
   obtain ⟨x1,x2⟩:=aPy hx hy
   obtain ⟨o1,o2⟩:=or8 hn x2
   refine ⟨n ||| (x ^^^ y),by rw [orT,e,ex,ey,x1,o1],o2,?_⟩
   rw [Nat.or_eq_zero_iff,hz,aLl]
   constructor
   .rintro ⟨h1,h2⟩ i hi
    by_cases hij:i<j
    .exact h1 i hij
    .have:i=j:=by omega
     subst this
     rw [ex,ey,h2]
   .intro h
    refine ⟨fun i hi=>h i (by omega),?_⟩
    have:=h j (by omega)
    rw [ex,ey] at this
    omega
theorem aMa {n:Nat} (h:n<256):gW .u64 1 (BE (W (n:Int)))=if n=0 then 1 else 0:=by
 have key:∀ n:Fin 256,gW .u64 1 (BE (W ((n.val:Nat):Int)))=if n.val=0 then 1 else 0:=by decide +kernel
 exact key ⟨n,h⟩
theorem aHo {a b:List Int} (ha:bX a) (hb:bX b) (la:a.length=16) (lb:b.length=16):Zq a b=if a=b then 1 else 0:=by
 obtain ⟨n,e,hn,hz⟩:=EP ha hb 16
 unfold Zq
 rw [e,aMa hn]
 by_cases h:a=b
 .rw [if_pos h,if_pos (hz.2 fun i _=>by rw [h])]
 .rw [if_neg h,if_neg fun q=>h (Q.Rm la lb (hz.1 q))]
end P
theorem aPb (a b:List Int):aJ (env fF 4) Tryz.f89 true [] 1500 [.agg (cK .u8 16 a),.agg (cK .u8 16 b)] Cb 100 100=some { val:=.int false .u64 (P.Zq a b) }:=by kernel_rfl
theorem LC {a b:List Int} (la:a.length=16) (lb:b.length=16) (Γ:Env) (hg:Γ.aR=aA):aE Tryz.prog Γ 89 [.ai .u8 a,.ai .u8 b] Cb 100 100 { val:=.int false .u64 (P.Zq a b) }:=by
 have hs:aF Tryz.prog (env fF 4) 89 (aJ (env fF 4) Tryz.f89 true [] 1500):=aM (bL fF 4) (lY 4) mix Tryz.func89 (by kernel_rfl) true [] 1500
 refine (hs.call (aPb a b) gM).words (by rw [hg];rfl) (fun V=>?_) (fun _ _ h=>h) (fun V=>rfl) rfl rfl
 simp only [aI,bF V la,bF V lb]
def DC (et:List Int->List Int->Int) (vs:List SV) (_:bB):Option Canon:=match vs with
 | [v,u]=>match cJ v,cJ u with
   | some (.u8,a),some (.u8,b)=>some { eN:=[.ai .u8 a,.ai .u8 b],T0:=[],vl:=[],e0:={ val:=.int false .u64 (et a b) },conds:=[et a b=P.Zq a b,a.length=16,b.length=16] }
   | _,_=>none
 | _=>none
theorem aHm (et:List Int->List Int->Int) (Γ:Env) (hg:Γ.aR=aA):aF Tryz.prog Γ 89 (aL aA 100 (DC et)):=by
 refine aU hg fun vs T c hd hc=>?_
 unfold DC at hd
 split at hd
 case h_2=>cases hd
 split at hd
 case h_2=>cases hd
 cases hd
 have e:=hc _ dB
 have h:=LC (hc _ (eK _ dB)) (hc _ (eK _ (eK _ dB))) Γ hg
 rw [<- e] at h
 exact h
noncomputable def PW (mc:List Int->List Int->List Int) (et:List Int->List Int->Int):Nat->Option Sum:=dI (dI (dI fF 80 (aL aA 100 rY)) 48 (aL aA 100 (Rj mc))) 89 (aL aA 100 (DC et))
theorem XF (mc:List Int->List Int->List Int) (et:List Int->List Int->Int):∀ f S,PW mc et f=some S->∀ Γ:Env,Γ.aR=aA->aF Tryz.prog Γ f S:=bD (bD (bD fV 80 _ As) 48 _ (EU mc)) 89 _ (aHm et)
def ckO (mc:List Int->List Int->List Int) (et:List Int->List Int->Int) (key t D:List Int) (d:Nat->List Int):List Prop:=
 let T:=mc key D
 [(et T t==1)=(et T t==1),et T t=P.Zq T t,T.length=16,t.length=16,T=T,t=t,t.length=16,T=M.tag key D,key.length=32,bX key,bX D,D.length<=1073741824,D.length%16=0,key=key,
  (d 1).length=(d 1).length,(d 1).length=(d 1).length,(d 2).length=(d 2).length,(d 2).length=(d 2).length,(d 3).length=(d 3).length,(d 3).length=(d 3).length,(d 4).length=(d 4).length,(d 4).length=(d 4).length,(d 5).length=(d 5).length,(d 5).length=(d 5).length,
  d 1=d 1,d 2=d 2,d 3=d 3,d 4=d 4,d 5=d 5,key.length=32]
theorem aVn (mc:List Int->List Int->List Int) (et:List Int->List Int->Int) (key t:List Int) (d:Nat->List Int):aJ (env (PW mc et) 4) Tryz.f50 true [] 1500 [.raw (.pointer none),.ai .u8 key,.ai .u8 t,.aG 62 true 0 5 5] (xE d) 100 100 =
 some { val:=.bool false (et (mc key (M.cat d)) t==1),bO:=ckO mc et key t (M.cat d) d }:=by kernel_rfl
theorem XX {key t:List Int} {d:Nat->List Int} (hk:key.length=32) (hb:bX key) (ht:t.length=16) (htb:bX t) (hd:bX (M.cat d)) (hl:(M.cat d).length<=1073741824) (sN:(M.cat d).length%16=0) (Γ:Env) (hg:Γ.aR=aA) :
 aE Tryz.prog Γ 50 [.raw (.pointer none),.ai .u8 key,.ai .u8 t,.aG 62 true 0 5 5] (xE d) 100 100 { val:=.bool false (decide (M.tag key (M.cat d)=t)) }:=by
 have hs:aF Tryz.prog (env (PW M.tag P.Zq) 4) 50 (aJ (env (PW M.tag P.Zq) 4) Tryz.f50 true [] 1500):=aM (bL _ 4) (bS _ (XF _ _) 4) mix Tryz.func50 (by kernel_rfl) true [] 1500
 have hT:=M.mT key (M.cat d)
 have hTB:bX (M.tag key (M.cat d)):=fun x hx=>by
  simp only [M.tag,M.Uw,List.mem_map] at hx
  obtain ⟨m,_,rfl⟩:=hx
  rw [IntKind.wrap_u8]
  exact ⟨Int.emod_nonneg _ (by decide),Int.emod_lt_of_pos _ (by decide)⟩
 have h:=hs.call (aVn M.tag P.Zq key t d) (aB (show _/\_/\_/\_/\_/\_/\_/\_/\_/\_/\_/\_/\_/\_/\_/\_/\_/\_/\_/\_/\_/\_/\_/\_/\_/\_/\_/\_/\_/\_/\True from
  ⟨rfl,rfl,hT,ht,rfl,rfl,ht,rfl,hk,hb,hd,hl,sN,rfl,rfl,rfl,rfl,rfl,rfl,rfl,rfl,rfl,rfl,rfl,rfl,rfl,rfl,rfl,rfl,hk,trivial⟩))
 refine h.words (by rw [hg];rfl) (fun V=>rfl) (fun _ _ h=>h) (fun V=>?_) rfl rfl
 have e:(P.Zq (M.tag key (M.cat d)) t==1)=decide (M.tag key (M.cat d)=t):=by
  rw [P.aHo hTB htb hT ht]
  by_cases q:M.tag key (M.cat d)=t
  .rw [if_pos q,decide_eq_true q];rfl
  .rw [if_neg q,nD q];rfl
 show den V (.bool false (P.Zq (M.tag key (M.cat d)) t==1))=_
 rw [e]
def DT (vs:List SV) (T:bB):Option Canon:=match vs with
 | [.raw (.pointer none),ks,ts,.aG L _ 0 5 5]=>match cJ ks,cJ ts,(T L).bind roL with
   | some (.u8,k),some (.u8,t),some [p1,p2,p3,p4,p5]=>match dR T .u8 p1,dR T .u8 p2,dR T .u8 p3,dR T .u8 p4,dR T .u8 p5 with
     | some (o1,x1),some (o2,x2),some (o3,x3),some (o4,x4),some (o5,x5)=>some { eN:=[.raw (.pointer none),.ai .u8 k,.ai .u8 t,.aG 62 true 0 5 5],T0:=sgB (yV x1 x2 x3 x4 x5),vl:=[(62,.lab L 0),(71,.cell L 0),(72,.cell L 1),(73,.cell L 2),(74,.cell L 3),(75,.cell L 4)],e0:={ val:=.bool false (decide (M.tag k (x1++(x2++(x3++(x4++x5))))=t)) },conds:=(k.length=32)::bX k::(t.length=16)::bX t::bX (x1++(x2++(x3++(x4++x5))))::((x1++(x2++(x3++(x4++x5)))).length<=1073741824)::((x1++(x2++(x3++(x4++x5)))).length%16=0)::(o1++(o2++(o3++(o4++o5)))) }
     | _,_,_,_,_=>none
   | _,_,_=>none
 | _=>none
theorem aIs (Γ:Env) (hg:Γ.aR=aA):aF Tryz.prog Γ 50 (aL aA 100 DT):=by
 refine aU hg fun vs T c hd hc=>?_
 unfold DT at hd
 split at hd
 case h_2=>cases hd
 split at hd
 case h_2=>cases hd
 split at hd
 case h_2=>cases hd
 cases hd
 rename_i o1 x1 o2 x2 o3 x3 o4 x4 o5 x5 _ _ _ _ _
 exact XX (d:=yV x1 x2 x3 x4 x5) (hc _ dB) (hc _ (eK _ dB)) (hc _ (eK _ (eK _ dB))) (hc _ (eK _ (eK _ (eK _ dB)))) (hc _ (eK _ (eK _ (eK _ (eK _ dB))))) (hc _ (eK _ (eK _ (eK _ (eK _ (eK _ dB)))))) (hc _ (eK _ (eK _ (eK _ (eK _ (eK _ (eK _ dB))))))) Γ hg
namespace M
def aC (N:Int):List Int:=[0,0,0,0,IntKind.u8.wrap (bU IntKind.u64 N 0),IntKind.u8.wrap (bU IntKind.u64 N 8),IntKind.u8.wrap (bU IntKind.u64 N 16),IntKind.u8.wrap (bU IntKind.u64 N 24),IntKind.u8.wrap (bU IntKind.u64 N 32),IntKind.u8.wrap (bU IntKind.u64 N 40),IntKind.u8.wrap (bU IntKind.u64 N 48),IntKind.u8.wrap (bU IntKind.u64 N 56)]
def once (key:List Int) (N:Int):List Int:=cE key (aC N) 0 0 32 (List.replicate 32 0)
def le (N:Int) (j:Nat):Int:=IntKind.u8.wrap (bU IntKind.u64 N ((8*j:Nat):Int))
def zH (n:Int):Int:=(IntKind.i64.wrap (16-n.tmod 16)).tmod 16
def oX (n:Int):Nat:=(zH n).toNat
def Dy (a n:Int):List Int:=[le (IntKind.u64.wrap a) 0,le (IntKind.u64.wrap a) 1,le (IntKind.u64.wrap a) 2,le (IntKind.u64.wrap a) 3,le (IntKind.u64.wrap a) 4,le (IntKind.u64.wrap a) 5,le (IntKind.u64.wrap a) 6,le (IntKind.u64.wrap a) 7,le (IntKind.u64.wrap n) 0,le (IntKind.u64.wrap n) 1,le (IntKind.u64.wrap n) 2,le (IntKind.u64.wrap n) 3,le (IntKind.u64.wrap n) 4,le (IntKind.u64.wrap n) 5,le (IntKind.u64.wrap n) 6,le (IntKind.u64.wrap n) 7]
def OW (n:Int):List Int:=List.take (oX n) (List.drop 0 (List.replicate (oX n) 0))
def NB (ad:List Int) (la:Nat) (c:List Int) (n:Nat):List Int:=ad++(OW la++(c++(OW n++List.take 16 (List.drop 0 (Dy la n)))))
theorem mU (key:List Int) (N:Int):(once key N).length=32:=by unfold once;rw [fN];rfl
end M
theorem aRq (N:Int):aJ (env fF 22) Tryz.f29 true [] 400 [.int false .u64 N] (fun l=>look l []) 100 100=some { val:=.agg [.int true .u8 0,.int true .u8 0,.int true .u8 0,.int true .u8 0,.int false .u8 (IntKind.u8.wrap (bU IntKind.u64 N 0)),.int false .u8 (IntKind.u8.wrap (bU IntKind.u64 N 8)),.int false .u8 (IntKind.u8.wrap (bU IntKind.u64 N 16)),.int false .u8 (IntKind.u8.wrap (bU IntKind.u64 N 24)),.int false .u8 (IntKind.u8.wrap (bU IntKind.u64 N 32)),.int false .u8 (IntKind.u8.wrap (bU IntKind.u64 N 40)),.int false .u8 (IntKind.u8.wrap (bU IntKind.u64 N 48)),.int false .u8 (IntKind.u8.wrap (bU IntKind.u64 N 56))] }:=by kernel_rfl
theorem Hd:∀ f S,fF f=some S->∀ Γ:Env,Γ.aR=aA->aF Tryz.prog Γ f S:=fun f S h Γ _=>sB f S h Γ
theorem UC (N:Int):aE Tryz.prog (env fF 22) 29 [.int false .u64 N] (fun l=>look l []) 100 100 { val:=.ai .u8 (M.aC N) }:=
 ((aM (bL fF 22) (bS fF Hd 22) mix Tryz.func29 (by kernel_rfl) true [] 400:aF Tryz.prog (env fF 22) 29 _).call (aRq N) (by simp)).re rfl (fun _=>rfl) trivial trivial
def CH (vs:List SV) (_:bB):Option Canon:=match vs with
 | [.int _ .u64 N]=>some { eN:=[.int false .u64 N],T0:=[],vl:=[],e0:={ val:=.ai .u8 (M.aC N) } }
 | _=>none
theorem aNg (Γ:Env) (hg:Γ.aR=aA):aF Tryz.prog Γ 29 (aL aA 100 CH):=by
 refine aU hg fun vs T c hd hc=>?_
 unfold CH at hd
 split at hd
 case h_2=>cases hd
 cases hd
 exact (UC _).words (by rw [hg];rfl) (fun _=>rfl) (fun _ _ h=>h) (fun _=>rfl) rfl rfl
theorem aSj (N:Int):aJ (env fF 22) Tryz.f54 true [] 400 [.int false .u64 N] (fun l=>look l []) 100 100=some { val:=.aG 100 true 0 8 8,new:=[.own [.int false .u8 (M.le N 0),.int false .u8 (M.le N 1),.int false .u8 (M.le N 2),.int false .u8 (M.le N 3),.int false .u8 (M.le N 4),.int false .u8 (M.le N 5),.int false .u8 (M.le N 6),.int false .u8 (M.le N 7)] 5] }:=by kernel_rfl
theorem UN (N:Int):aE Tryz.prog (env fF 22) 54 [.int false .u64 N] (fun l=>look l []) 100 100 { val:=.aG 100 true 0 8 8,new:=[.own [.int false .u8 (M.le N 0),.int false .u8 (M.le N 1),.int false .u8 (M.le N 2),.int false .u8 (M.le N 3),.int false .u8 (M.le N 4),.int false .u8 (M.le N 5),.int false .u8 (M.le N 6),.int false .u8 (M.le N 7)] 5] }:=
 (aM (bL fF 22) (bS fF Hd 22) mix Tryz.func54 (by kernel_rfl) true [] 400:aF Tryz.prog (env fF 22) 54 _).call (aSj N) (by simp)
def CM (vs:List SV) (_:bB):Option Canon:=match vs with
 | [.int _ .u64 N]=>some { eN:=[.int false .u64 N],T0:=[],vl:=[],e0:={ val:=.aG 100 true 0 8 8,new:=[.own [.int false .u8 (M.le N 0),.int false .u8 (M.le N 1),.int false .u8 (M.le N 2),.int false .u8 (M.le N 3),.int false .u8 (M.le N 4),.int false .u8 (M.le N 5),.int false .u8 (M.le N 6),.int false .u8 (M.le N 7)] 5] } }
 | _=>none
theorem aNr (Γ:Env) (hg:Γ.aR=aA):aF Tryz.prog Γ 54 (aL aA 100 CM):=by
 refine aU hg fun vs T c hd hc=>?_
 unfold CM at hd
 split at hd
 case h_2=>cases hd
 cases hd
 exact (UN _).words (by rw [hg];rfl) (fun _=>rfl) (fun _ _ h=>h) (fun _=>rfl) rfl rfl
theorem aUk (n:Int):aJ (env fF 22) Tryz.f55 true [] 400 [.int false .i64 n] (fun l=>look l []) 100 100=some { bO:=[0<=M.zH n/\M.zH n<=M.zH n/\1*M.zH n<=281474976710656/\M.zH n<9223372036854775808],val:=.aG 100 false 0 (M.oX n) (M.oX n),new:=[.ints .u8 (List.replicate (M.oX n) 0) 5] }:=by kernel_rfl
theorem M.Sw (n:Int) (h:0<=n/\n<=1073741824):M.zH n=(16-n%16)%16/\0<=M.zH n/\M.zH n<16:=by
 have e:M.zH n=(16-n%16)%16:=by
  unfold M.zH
  rw [Int.tmod_eq_emod_of_nonneg h.1,IntWalk.i64_in _ ⟨by omega,by omega⟩,Int.tmod_eq_emod_of_nonneg (by omega)]
 rw [e];omega
theorem WQ {n:Int} (h:0<=n/\n<=1073741824):aE Tryz.prog (env fF 22) 55 [.int false .i64 n] (fun l=>look l []) 100 100 { val:=.aG 100 false 0 (M.oX n) (M.oX n),new:=[.ints .u8 (List.replicate (M.oX n) 0) 5] }:=
 ((aM (bL fF 22) (bS fF Hd 22) mix Tryz.func55 (by kernel_rfl) true [] 400:aF Tryz.prog (env fF 22) 55 _).call (aUk n) (aB ⟨by have:=M.Sw n h;omega,trivial⟩)).re rfl (fun _=>rfl) ⟨rfl,trivial⟩ trivial
def CZ (vs:List SV) (_:bB):Option Canon:=match vs with
 | [.int _ .i64 n]=>some { eN:=[.int false .i64 n],T0:=[],vl:=[],e0:={ val:=.aG 100 false 0 (M.oX n) (M.oX n),new:=[.ints .u8 (List.replicate (M.oX n) 0) 5] },conds:=[0<=n/\n<=1073741824] }
 | _=>none
theorem aOw (Γ:Env) (hg:Γ.aR=aA):aF Tryz.prog Γ 55 (aL aA 100 CZ):=by
 refine aU hg fun vs T c hd hc=>?_
 unfold CZ at hd
 split at hd
 case h_2=>cases hd
 cases hd
 exact (WQ (hc _ (by simp))).words (by rw [hg];rfl) (fun _=>rfl) (fun _ _ h=>h) (fun _=>rfl) rfl rfl
theorem Ub (x:Int):Bt (IntKind.u8.wrap x):=by
 rw [IntKind.wrap_u8]
 exact ⟨Int.emod_nonneg _ (by decide),Int.emod_lt_of_pos _ (by decide)⟩
theorem FT (x y:Int):Bt (gW .u8 x y):=Ub _
namespace Q
def cx (key:List Int) (N:Int) (xs:List Int):List Int:=cE key (M.aC N) 1 0 xs.length xs
def tg (key:List Int) (N:Int) (ad c:List Int):List Int:=M.tag (M.once key N) (M.NB ad ad.length c c.length)
def fQ (key:List Int) (N:Int) (ad bs:List Int) (n:Nat):List Int:=cx key N (bs.take n)++(tg key N ad (cx key N (bs.take n))++bs.drop (n+16))
def tB (key:List Int) (N:Int) (bs:List Int) (m:Nat):List Int:=cx key N (bs.take m)++bs.drop m
theorem Fb (key:List Int) (N:Int) (xs:List Int):(cx key N xs).length=xs.length:=fN _ _ _ _ _ _
theorem Eh (key:List Int) (N:Int) (ad c:List Int):(tg key N ad c).length=16:=by simp [tg,M.tag,M.Uw]
theorem Vv {key aC:List Int} {c:Int} {n:Nat} {xs:List Int} (h:n<=xs.length):cE key aC c 0 n xs=cE key aC c 0 n (xs.take n)++xs.drop n:=by
 have hl:(cE key aC c 0 n (xs.take n)).length=n:=by rw [fN,List.length_take];omega
 refine Rm (n:=xs.length) (fN _ _ _ _ _ _) (by rw [List.length_append,hl,List.length_drop];omega) fun i hi=>?_
 rw [vZ _ _ _ _ _ _ hi]
 by_cases h1:i<n
 .rw [if_pos (by omega),vY _ _ (by omega),vZ _ _ _ _ _ _ (by rw [List.length_take];omega),if_pos (by omega),cW _ h1]
 .rw [if_neg (by omega),Oz _ _ (by omega),hl,lZ]
  congr 1;omega
theorem GD {key:List Int} {N:Int} {n:Nat} {xs:List Int} (h:n<=xs.length):cE key (M.aC N) 1 0 n xs=tB key N xs n:=by
 unfold tB cx
 rw [Vv h]
 have:(xs.take n).length=n:=by rw [List.length_take];omega
 rw [this]
theorem aIp (key:List Int) (N:Int) {xs:List Int} (h:bX xs):bX (cx key N xs):=by
 intro x hx
 simp only [cx,cE,List.mem_map] at hx
 obtain ⟨m,_,rfl⟩:=hx
 split
 .exact FT _ _
 .exact h.get _
theorem yM {a b:List Int} (ha:bX a) (hb:bX b):bX (a++b):=fun x hx=>(List.mem_append.1 hx).elim (ha x) (hb x)
theorem MF {a:List Int} (n:Nat) (ha:bX a):bX (a.take n):=fun x hx=>ha x (List.mem_of_mem_take hx)
theorem yL (n:Nat):bX (List.replicate n (0:Int)):=fun x hx=>by rw [(List.mem_replicate.1 hx).2];exact ⟨by decide,by decide⟩
theorem GW (key:List Int) (N:Int):bX (M.once key N):=by
 intro x hx
 simp only [M.once,cE,List.mem_map] at hx
 obtain ⟨m,_,rfl⟩:=hx
 split
 .exact FT _ _
 .exact (yL 32).get _
theorem Sv {n:Nat} (h:n<=1073741824):M.oX (n:Int)=(16-n%16)%16:=by
 obtain ⟨e,h0,h1⟩:=M.Sw (n:Int) ⟨by omega,by omega⟩
 unfold M.oX;rw [e];omega
theorem Su (n:Int):M.OW n=List.replicate (M.oX n) 0:=by
 unfold M.OW
 rw [List.drop_zero,List.take_of_length_le (by simp)]
theorem Wi (a n:Int):bX (M.Dy a n):=by
 intro x hx
 simp only [M.Dy,List.mem_cons,List.not_mem_nil,or_false] at hx
 rcases hx with rfl | rfl | rfl | rfl | rfl | rfl | rfl | rfl | rfl | rfl | rfl | rfl | rfl | rfl | rfl | rfl <;> exact Ub _
theorem aGn (ad:List Int) (la:Nat) (c:List Int) (n:Nat):M.NB ad la c n=ad++(List.replicate (M.oX la) 0++(c++(List.replicate (M.oX n) 0++M.Dy la n))):=by
 unfold M.NB
 rw [Su,Su]
 rfl
theorem aGm {ad c:List Int} {la n:Nat} (ha:bX ad) (hc:bX c) (hla:ad.length=la) (hn:c.length=n) (aWm:la<=500000000) (Me:n<=500000000) :
 bX (M.NB ad la c n)/\(M.NB ad la c n).length<=1073741824/\(M.NB ad la c n).length%16=0:=by
 have sN:(M.Dy (la:Int) (n:Int)).length=16:=rfl
 have p1:=Sv (n:=la) (by omega)
 have p2:=Sv (n:=n) (by omega)
 rw [aGn]
 refine ⟨yM ha (yM (yL _) (yM hc (yM (yL _) (Wi _ _)))),?_,?_⟩
 .simp only [List.length_append,List.length_replicate,sN,hla,hn];omega
 .simp only [List.length_append,List.length_replicate,sN,hla,hn];omega
end Q
def nZ:Nat->List SV
 | 0=>[.int true .i64 0,.raw .nilFunc,.raw .nilFunc,.raw .nilFunc,.raw .nilFunc,.raw .nilFunc,.raw .nilFunc]
 | 1=>[.int true .i64 1,.fn (.func 41) [] [.ptr 50 true 0],.fn (.func 43) [] [.ptr 50 true 0],.fn (.func 45) [] [.ptr 50 true 0],.fn (.func 47) [] [.ptr 50 true 0],.fn (.func 49) [] [.ptr 50 true 0],.fn (.func 51) [] [.ptr 50 true 0]]
 | _=>[.int true .i64 2,.fn (.func 35) [] [],.fn (.func 36) [] [],.fn (.func 37) [] [],.fn (.func 38) [] [],.fn (.func 39) [] [],.fn (.func 40) [] []]
def Vn:Nat->List (Nat × SB)
 | 1=>[(50,.fL [.raw (.pointer none)])]
 | _=>[]
def Ae:SV->Option (Nat × List (Nat × Ga))
 | .agg (.int true .i64 0::_)=>some (0,[])
 | .agg (.int true .i64 1 :: .fn _ _ [.ptr L _ _]::_)=>some (1,[(50,.lab L 0)])
 | .agg (.int true .i64 2::_)=>some (2,[])
 | _=>none
noncomputable def exE:Nat->Option Sum:=dI (dI fF 37 aJe) 46 (aL aA 100 CI)
noncomputable def Fx (mc:List Int->List Int->List Int):Nat->Option Sum:=dI (dI (dI fF 38 (aL aA 100 BN)) 48 (aL aA 100 (Rj mc))) 50 (aL aA 100 DT)
def OQ (e:Nat) (key aC:List Int) (c:Int) (off len cap:Nat):List SV:=[.agg (nZ e),.ai .u8 key,.int false .u32 c,.ai .u8 aC,.aG 60 false off len cap]
def stL (e:Nat) (xs:List Int) (t:TypeId):List (Nat × SB):=(60,.ints .u8 xs t)::(Vn e++Fp)
def YL (e:Nat) (d:Nat->List Int):List (Nat × SB):=Vn e++sgB d
def dW (e:Nat):Prop:=e=0\/e=1\/e=2
def stO (key aC xs:List Int) (c:Int) (t:TypeId) (off len cap:Nat) (m r:List Prop):List Prop:=
 (key.length=32)::(aC.length=12)::(off+len<=xs.length)::(m++(len<=4611686018427387904)::(0<=c/\c<=4294967295)::(key=key)::(c=c)::(aC=aC)::(off=0+off)::(len=len)::(cap=cap)::(xs=xs/\t=t)::(aC.length=12)::(key.length=32)::r)
def stE (key aC:List Int) (c:Int) (off len:Nat) (xs:List Int) (t:TypeId):bK:={ val:=.eF [],wr:=[(60,.ints .u8 (cE key aC c off len xs) t)] }
theorem ZM (e:Nat) (he:e=0\/e=2) (key aC xs:List Int) (c:Int) (t:TypeId) (off len cap:Nat):aJ (env exE 22) Tryz.f28 true [] 400 (OQ e key aC c off len cap) (fun l=>look l (stL e xs t)) 100 100=some { stE key aC c off len xs t with bO:=stO key aC xs c t off len cap [] [] }:=by rcases he with rfl | rfl <;> kernel_rfl
theorem aLz (key aC xs:List Int) (c:Int) (t:TypeId) (off len cap:Nat):aJ (env exE 22) Tryz.f28 true [] 400 (OQ 1 key aC c off len cap) (fun l=>look l (stL 1 xs t)) 100 100=some { stE key aC c off len xs t with bO:=stO key aC xs c t off len cap [len<=cap] [aC.length=12,key.length=32] }:=by kernel_rfl
theorem aHl:∀ f S,exE f=some S->∀ Γ:Env,Γ.aR=aA->aF Tryz.prog Γ f S:=bD (bD fV 37 _ aCz) 46 _ aFj
theorem GI {e:Nat} (he:dW e) {key aC xs:List Int} {c:Int} {t:TypeId} {off len cap:Nat} (hk:key.length=32) (hn:aC.length=12) (hx:off+len<=xs.length) (hlc:len<=cap) (hl:len<=4611686018427387904) (hc:0<=c/\c<=4294967295) (Γ:Env) (hg:Γ.aR=aA) :
 aE Tryz.prog Γ 28 (OQ e key aC c off len cap) (fun l=>look l (stL e xs t)) 100 100 (stE key aC c off len xs t):=by
 have hs:aF Tryz.prog (env exE 22) 28 (aJ (env exE 22) Tryz.f28 true [] 400):=aM (bL exE 22) (bS exE aHl 22) mix Tryz.func28 (by kernel_rfl) true [] 400
 have rK:∀ m r:List Prop,(∀ q∈m,q)->(∀ q∈r,q)->∀ q∈stO key aC xs c t off len cap m r,q:=fun m r hm hr=>
  aN hk (aN hn (aN hx (pL hm (aN hl (aN hc (aN rfl (aN rfl (aN rfl (aN (by omega) (aN rfl (aN rfl (aN ⟨rfl,rfl⟩ (aN hn (aN hk hr))))))))))))))
 rcases he with rfl | rfl | rfl
 .exact (hs.call (ZM 0 (.inl rfl) key aC xs c t off len cap) (rK _ _ gM gM)).words (by rw [hg];rfl) (fun _=>rfl) (fun _ _ h=>h) (fun _=>rfl) rfl rfl
 .exact (hs.call (aLz key aC xs c t off len cap) (rK _ _ (aN hlc gM) (aN hn (aN hk gM)))).words (by rw [hg];rfl) (fun _=>rfl) (fun _ _ h=>h) (fun _=>rfl) rfl rfl
 .exact (hs.call (ZM 2 (.inr rfl) key aC xs c t off len cap) (rK _ _ gM gM)).words (by rw [hg];rfl) (fun _=>rfl) (fun _ _ h=>h) (fun _=>rfl) rfl rfl
def Jz (d:Nat->List Int) (r:List Prop):List Prop:=
 ((d 1).length=(d 1).length)::((d 1).length=(d 1).length)::((d 2).length=(d 2).length)::((d 2).length=(d 2).length)::((d 3).length=(d 3).length)::((d 3).length=(d 3).length)::((d 4).length=(d 4).length)::((d 4).length=(d 4).length)::((d 5).length=(d 5).length)::((d 5).length=(d 5).length) ::
   (d 1=d 1)::(d 2=d 2)::(d 3=d 3)::(d 4=d 4)::(d 5=d 5)::r
theorem nN {d:Nat->List Int} {r:List Prop} (h:∀ q∈r,q):∀ q∈Jz d r,q:=
 aN rfl (aN rfl (aN rfl (aN rfl (aN rfl (aN rfl (aN rfl (aN rfl (aN rfl (aN rfl (aN rfl (aN rfl (aN rfl (aN rfl (aN rfl h))))))))))))))
def iZ (key D:List Int) (r:List Prop):List Prop:=(key.length=32)::bX key::bX D::(D.length<=1073741824)::(D.length%16=0)::r
theorem To (mc:List Int->List Int->List Int):∀ f S,Fx mc f=some S->∀ Γ:Env,Γ.aR=aA->aF Tryz.prog Γ f S:=bD (bD (bD fV 38 _ aDo) 48 _ (EU mc)) 50 _ aIs
theorem ZL (e:Nat) (he:e=0\/e=2) (key:List Int) (d:Nat->List Int):aJ (env (Fx M.tag) 22) Tryz.f30 true [] 400 [.agg (nZ e),.ai .u8 key,.aG 62 true 0 5 5] (fun l=>look l (YL e d)) 100 100 =
 some { val:=.ai .u8 (M.tag key (M.cat d)),bO:=((M.tag key (M.cat d)).length=16)::((M.tag key (M.cat d)).length=16)::iZ key (M.cat d) ((key=key)::Jz d [key.length=32]) }:=by rcases he with rfl | rfl <;> kernel_rfl
theorem aLv (mc:List Int->List Int->List Int) (key:List Int) (d:Nat->List Int):aJ (env (Fx mc) 22) Tryz.f30 true [] 400 [.agg (nZ 1),.ai .u8 key,.aG 62 true 0 5 5] (fun l=>look l (YL 1 d)) 100 100 =
 some { val:=.ai .u8 (mc key (M.cat d)),bO:=((mc key (M.cat d)).length=16)::((mc key (M.cat d)).length=16)::((mc key (M.cat d)).length=16)::((mc key (M.cat d)).length=16)::(mc key (M.cat d)=M.tag key (M.cat d))::iZ key (M.cat d) ((key=key)::Jz d [key.length=32,key.length=32]) }:=by kernel_rfl
theorem GG {e:Nat} (he:dW e) {key:List Int} {d:Nat->List Int} (hk:key.length=32) (hb:bX key) (hd:bX (M.cat d)) (hl:(M.cat d).length<=1073741824) (sN:(M.cat d).length%16=0) (Γ:Env) (hg:Γ.aR=aA) :
 aE Tryz.prog Γ 30 [.agg (nZ e),.ai .u8 key,.aG 62 true 0 5 5] (fun l=>look l (YL e d)) 100 100 { val:=.ai .u8 (M.tag key (M.cat d)) }:=by
 have hs:aF Tryz.prog (env (Fx M.tag) 22) 30 (aJ (env (Fx M.tag) 22) Tryz.f30 true [] 400):=aM (bL _ 22) (bS _ (To _) 22) mix Tryz.func30 (by kernel_rfl) true [] 400
 have hT:=M.mT key (M.cat d)
 have hw:∀ r:List Prop,(∀ q∈r,q)->∀ q∈iZ key (M.cat d) r,q:=fun r hr=>aN hk (aN hb (aN hd (aN hl (aN sN hr))))
 rcases he with rfl | rfl | rfl
 .exact (hs.call (ZL 0 (.inl rfl) key d) (aN hT (aN hT (hw _ (aN rfl (nN (aN hk gM))))))).words (by rw [hg];rfl) (fun _=>rfl) (fun _ _ h=>h) (fun _=>rfl) rfl rfl
 .exact (hs.call (aLv M.tag key d) (aN hT (aN hT (aN hT (aN hT (aN rfl (hw _ (aN rfl (nN (aN hk (aN hk gM)))))))))) ).words (by rw [hg];rfl) (fun _=>rfl) (fun _ _ h=>h) (fun _=>rfl) rfl rfl
 .exact (hs.call (ZL 2 (.inr rfl) key d) (aN hT (aN hT (hw _ (aN rfl (nN (aN hk gM))))))).words (by rw [hg];rfl) (fun _=>rfl) (fun _ _ h=>h) (fun _=>rfl) rfl rfl
theorem aAs (e:Nat) (he:e=0\/e=2) (key t:List Int) (d:Nat->List Int):aJ (env (Fx M.tag) 22) Tryz.f57 true [] 400 [.agg (nZ e),.ai .u8 key,.ai .u8 t,.aG 62 true 0 5 5] (fun l=>look l (YL e d)) 100 100 =
 some { val:=.bool false (decide (M.tag key (M.cat d)=t)),bO:=((M.tag key (M.cat d)).length=16/\t.length=16)::(t.length=16)::iZ key (M.cat d) ((key=key)::Jz d [key.length=32,t.length=16,key.length=32]) }:=by rcases he with rfl | rfl <;> kernel_rfl
theorem aPm (key t:List Int) (d:Nat->List Int):aJ (env (Fx M.tag) 22) Tryz.f57 true [] 400 [.agg (nZ 1),.ai .u8 key,.ai .u8 t,.aG 62 true 0 5 5] (fun l=>look l (YL 1 d)) 100 100 =
 some { val:=.bool false (decide (M.tag key (M.cat d)=t)),bO:=(key.length=32)::bX key::(t.length=16)::bX t::bX (M.cat d)::((M.cat d).length<=1073741824)::((M.cat d).length%16=0)::(key=key)::(t=t)::Jz d [t.length=16,key.length=32,t.length=16,key.length=32] }:=by kernel_rfl
theorem LW {e:Nat} (he:dW e) {key t:List Int} {d:Nat->List Int} (hk:key.length=32) (hb:bX key) (ht:t.length=16) (htb:bX t) (hd:bX (M.cat d)) (hl:(M.cat d).length<=1073741824) (sN:(M.cat d).length%16=0) (Γ:Env) (hg:Γ.aR=aA) :
 aE Tryz.prog Γ 57 [.agg (nZ e),.ai .u8 key,.ai .u8 t,.aG 62 true 0 5 5] (fun l=>look l (YL e d)) 100 100 { val:=.bool false (decide (M.tag key (M.cat d)=t)) }:=by
 have hs:aF Tryz.prog (env (Fx M.tag) 22) 57 (aJ (env (Fx M.tag) 22) Tryz.f57 true [] 400):=aM (bL _ 22) (bS _ (To _) 22) mix Tryz.func57 (by kernel_rfl) true [] 400
 have hT:=M.mT key (M.cat d)
 have hw:∀ r:List Prop,(∀ q∈r,q)->∀ q∈iZ key (M.cat d) r,q:=fun r hr=>aN hk (aN hb (aN hd (aN hl (aN sN hr))))
 rcases he with rfl | rfl | rfl
 .exact (hs.call (aAs 0 (.inl rfl) key t d) (aN ⟨hT,ht⟩ (aN ht (hw _ (aN rfl (nN (aN hk (aN ht (aN hk gM))))))))).words (by rw [hg];rfl) (fun _=>rfl) (fun _ _ h=>h) (fun _=>rfl) rfl rfl
 .exact (hs.call (aPm key t d) (aN hk (aN hb (aN ht (aN htb (aN hd (aN hl (aN sN (aN rfl (aN rfl (nN (aN ht (aN hk (aN ht (aN hk gM)))))))))))))) ).words (by rw [hg];rfl) (fun _=>rfl) (fun _ _ h=>h) (fun _=>rfl) rfl rfl
 .exact (hs.call (aAs 2 (.inr rfl) key t d) (aN ⟨hT,ht⟩ (aN ht (hw _ (aN rfl (nN (aN hk (aN ht (aN hk gM))))))))).words (by rw [hg];rfl) (fun _=>rfl) (fun _ _ h=>h) (fun _=>rfl) rfl rfl
def Nq (vs:List SV) (T:bB):Option Canon:=match vs with
 | [ev,ks,.int _ .u32 c,ns,.aG l _ off len cap]=>match Ae ev,cJ ks,cJ ns,(T l).bind Ea with
   | some (e,vl),some (.u8,k),some (.u8,n),some (.u8,xs,ty)=>some { eN:=OQ e k n c off len cap,T0:=stL e xs ty,vl:=(60,.lab l 0)::vl,e0:=stE k n c off len xs ty,conds:=[dW e,k.length=32,n.length=12,off+len<=xs.length,len<=cap,len<=4611686018427387904,0<=c/\c<=4294967295] }
   | _,_,_,_=>none
 | _=>none
theorem QV (Γ:Env) (hg:Γ.aR=aA):aF Tryz.prog Γ 28 (aL aA 100 Nq):=by
 refine aU hg fun vs T c hd hc=>?_
 unfold Nq at hd
 split at hd
 case h_2=>cases hd
 split at hd
 case h_2=>cases hd
 cases hd
 exact GI (hc _ (by simp)) (hc _ (by simp)) (hc _ (by simp)) (hc _ (by simp)) (hc _ (by simp)) (hc _ (by simp)) (hc _ (by simp)) Γ hg
def FK (L:Nat):List (Nat × Ga):=[(62,.lab L 0),(71,.cell L 0),(72,.cell L 1),(73,.cell L 2),(74,.cell L 3),(75,.cell L 4)]
def Nn (vs:List SV) (T:bB):Option Canon:=match vs with
 | [ev,ks,.aG L _ 0 5 5]=>match Ae ev,cJ ks,(T L).bind roL with
   | some (e,vl),some (.u8,k),some [p1,p2,p3,p4,p5]=>match dR T .u8 p1,dR T .u8 p2,dR T .u8 p3,dR T .u8 p4,dR T .u8 p5 with
     | some (o1,x1),some (o2,x2),some (o3,x3),some (o4,x4),some (o5,x5)=>some { eN:=[.agg (nZ e),.ai .u8 k,.aG 62 true 0 5 5],T0:=YL e (yV x1 x2 x3 x4 x5),vl:=vl++FK L,e0:={ val:=.ai .u8 (M.tag k (x1++(x2++(x3++(x4++x5))))) },conds:=dW e::iZ k (x1++(x2++(x3++(x4++x5)))) (o1++(o2++(o3++(o4++o5)))) }
     | _,_,_,_,_=>none
   | _,_,_=>none
 | _=>none
theorem QS (Γ:Env) (hg:Γ.aR=aA):aF Tryz.prog Γ 30 (aL aA 100 Nn):=by
 refine aU hg fun vs T c hd hc=>?_
 unfold Nn at hd
 split at hd
 case h_2=>cases hd
 split at hd
 case h_2=>cases hd
 split at hd
 case h_2=>cases hd
 cases hd
 rename_i o1 x1 o2 x2 o3 x3 o4 x4 o5 x5 _ _ _ _ _
 exact GG (d:=yV x1 x2 x3 x4 x5) (hc _ (by simp)) (hc _ (by simp [iZ])) (hc _ (by simp [iZ])) (hc _ (by simp [iZ,M.cat,yV])) (hc _ (by simp [iZ,M.cat,yV])) (hc _ (by simp [iZ,M.cat,yV])) Γ hg
def Ow (vs:List SV) (T:bB):Option Canon:=match vs with
 | [ev,ks,ts,.aG L _ 0 5 5]=>match Ae ev,cJ ks,cJ ts,(T L).bind roL with
   | some (e,vl),some (.u8,k),some (.u8,t),some [p1,p2,p3,p4,p5]=>match dR T .u8 p1,dR T .u8 p2,dR T .u8 p3,dR T .u8 p4,dR T .u8 p5 with
     | some (o1,x1),some (o2,x2),some (o3,x3),some (o4,x4),some (o5,x5)=>some { eN:=[.agg (nZ e),.ai .u8 k,.ai .u8 t,.aG 62 true 0 5 5],T0:=YL e (yV x1 x2 x3 x4 x5),vl:=vl++FK L,e0:={ val:=.bool false (decide (M.tag k (x1++(x2++(x3++(x4++x5))))=t)) },conds:=dW e::(t.length=16)::bX t::iZ k (x1++(x2++(x3++(x4++x5)))) (o1++(o2++(o3++(o4++o5)))) }
     | _,_,_,_,_=>none
   | _,_,_,_=>none
 | _=>none
theorem XW (Γ:Env) (hg:Γ.aR=aA):aF Tryz.prog Γ 57 (aL aA 100 Ow):=by
 refine aU hg fun vs T c hd hc=>?_
 unfold Ow at hd
 split at hd
 case h_2=>cases hd
 split at hd
 case h_2=>cases hd
 split at hd
 case h_2=>cases hd
 cases hd
 rename_i o1 x1 o2 x2 o3 x3 o4 x4 o5 x5 _ _ _ _ _
 exact LW (d:=yV x1 x2 x3 x4 x5) (hc _ (by simp)) (hc _ (by simp [iZ])) (hc _ (by simp [iZ])) (hc _ (by simp)) (hc _ (by simp)) (hc _ (by simp [iZ,M.cat,yV])) (hc _ (by simp [iZ,M.cat,yV])) (hc _ (by simp [iZ,M.cat,yV])) Γ hg
noncomputable def Vm:Nat->Option Sum:=dI (dI (dI (dI (dI (dI fF 28 (aL aA 100 Nq)) 30 (aL aA 100 Nn)) 57 (aL aA 100 Ow)) 29 (aL aA 100 CH)) 54 (aL aA 100 CM)) 55 (aL aA 100 CZ)
theorem Tx:∀ f S,Vm f=some S->∀ Γ:Env,Γ.aR=aA->aF Tryz.prog Γ f S:=bD (bD (bD (bD (bD (bD fV 28 _ QV) 30 _ QS) 57 _ XW) 29 _ aNg) 54 _ aNr) 55 _ aOw
def onL (e:Nat):List (Nat × SB):=Vn e++Fp
theorem aVt (e:Nat) (he:dW e) (key:List Int) (N:Int):aJ (env Vm 22) Tryz.f27 true [] 400 [.agg (nZ e),.ai .u8 key,.int false .u64 N] (fun l=>look l (onL e)) 100 100 =
 some { val:=.ai .u8 (M.once key N),bO:=[(M.once key N).length=32,(M.once key N).length=32,(M.once key N).length=32,dW e,key.length=32,(M.aC N).length=12,0+32<=32,32<=32,32<=4611686018427387904,(0:Int)<=0/\(0:Int)<=4294967295,key=key,(0:Int)=0,M.aC N=M.aC N,0=0,32=32,32=32,List.replicate 32 (0:Int)=List.replicate 32 0/\(23:Nat)=(23:TypeId),N=N,key.length=32] }:=by rcases he with rfl | rfl | rfl <;> kernel_rfl
theorem YH {e:Nat} (he:dW e) {key:List Int} (hk:key.length=32) (N:Int) (Γ:Env) (hg:Γ.aR=aA):aE Tryz.prog Γ 27 [.agg (nZ e),.ai .u8 key,.int false .u64 N] (fun l=>look l (onL e)) 100 100 { val:=.ai .u8 (M.once key N) }:=
 ((aM (bL Vm 22) (bS Vm Tx 22) mix Tryz.func27 (by kernel_rfl) true [] 400:aF Tryz.prog (env Vm 22) 27 _).call (aVt e he key N) (aB ⟨M.mU _ _,M.mU _ _,M.mU _ _,he,hk,rfl,by omega,by omega,by omega,by omega,rfl,rfl,rfl,rfl,rfl,rfl,⟨rfl,rfl⟩,rfl,hk,trivial⟩)).words (by rw [hg];rfl) (fun _=>rfl) (fun _ _ h=>h) (fun _=>rfl) rfl rfl
def DY (on:List Int->Int->List Int) (vs:List SV) (_:bB):Option Canon:=match vs with
 | [ev,ks,.int _ .u64 N]=>match Ae ev,cJ ks with
   | some (e,vl),some (.u8,k)=>some { eN:=[.agg (nZ e),.ai .u8 k,.int false .u64 N],T0:=onL e,vl:=vl,e0:={ val:=.ai .u8 (on k N) },conds:=[on k N=M.once k N,dW e,k.length=32] }
   | _,_=>none
 | _=>none
theorem aIz (on:List Int->Int->List Int) (Γ:Env) (hg:Γ.aR=aA):aF Tryz.prog Γ 27 (aL aA 100 (DY on)):=by
 refine aU hg fun vs T c hd hc=>?_
 unfold DY at hd
 split at hd
 case h_2=>cases hd
 split at hd
 case h_2=>cases hd
 cases hd
 have e:=hc _ dB
 rw [e]
 exact YH (hc _ (eK _ dB)) (hc _ (eK _ (eK _ dB))) _ Γ hg
noncomputable def aKx (on:List Int->Int->List Int):Nat->Option Sum:=dI Vm 27 (aL aA 100 (DY on))
theorem XH (on:List Int->Int->List Int):∀ f S,aKx on f=some S->∀ Γ:Env,Γ.aR=aA->aF Tryz.prog Γ f S:=bD Tx 27 _ (aIz on)
noncomputable def yY (on:List Int->Int->List Int):Env:=env (aKx on) 22
theorem Gv (on:List Int->Int->List Int):cA Tryz.prog (yY on):=bL _ 22
theorem Gw (on:List Int->Int->List Int):cH Tryz.prog (yY on):=bS _ (XH on) 22
def ZG:List (Nat × SB):=[(0,.fL [.rC 407 (.ptr 40 true 0)]),(2,.fL [.rC 407 (.ptr 42 true 0)]),(17,.fL [.int true .i64 40]),(18,.fL [.int true .i64 40])]++Fp
def QB:List (Nat × Ga):=[(40,.lab 40 0),(42,.lab 42 0)]
def aBc (e:Nat) (key:List Int) (N:Int) (la lb cb:Nat) (n:Int):List SV:=[.agg (nZ e),.ai .u8 key,.int false .u64 N,.iA 63 la,.aG 62 false 0 lb cb,.int false .i64 n]
def seL (e:Nat) (ad bs:List Int) (t:TypeId):List (Nat × SB):=[(62,.ints .u8 bs t),(63,.iT .u8 ad)]++(Vn e++ZG)
def seT (e:Nat) (ad bs:List Int) (t:TypeId):bB:=fun l=>look l (seL e ad bs t)
noncomputable def seM (on:List Int->Int->List Int) (e:Nat) (ad bs:List Int) (t:TypeId) (k:Nat) (cf:Cf) (K:List Fr) (s:St):Option qH:=gV (yY on) (bI 100 (seT e ad bs t)) 100 Tryz.f15.ntmps [] 400 k cf K s
def tA:Nat->Code->Code
 | 0,c=>c
 | n+1,.seq _ y=>tA n y
 | _,c=>c
def aJn (la lb cb n:Nat):List (Nat × SV):=[(3,.iA 63 la),(4,.aG 62 false 0 lb cb),(5,.int false .i64 (n:Int)),(6,.ptr 100 true 0),(14,.aG 62 false 0 n n),(15,.ptr 101 true 0)]
def aJq (e:Nat) (cs ok:List Int) (t:TypeId):List (Nat × SB):=[(62,.ints .u8 cs t),(100,.own (nZ e) 36),(101,.ints .u8 ok 23)]
def aJm (lb cb n:Nat):List (Nat × SV):=[(4,.aG 62 false 0 lb cb),(5,.int false .i64 (n:Int)),(16,.ptr 100 true 0)]
def aJp (cs tg:List Int) (t:TypeId):List (Nat × SB):=[(62,.ints .u8 cs t),(100,.ints .u8 tg 77)]
namespace Q
def oS (n:Nat):Nat:=(if IntKind.i64.wrap ((n:Int)+16)=(n:Int) then 0 else 0+(n:Int).toNat*1)
def aBs (n:Nat) (cs x:List Int):List Int:=cs.take (oS n)++x.take (x.length.min ((IntKind.i64.wrap ((n:Int)+16)).toNat-(n:Int).toNat))++cs.drop (oS n+x.length.min ((IntKind.i64.wrap ((n:Int)+16)).toNat-(n:Int).toNat))
end Q
theorem aQv (e:Nat) (he:dW e) (on:List Int->Int->List Int) (key ad bs cs ok:List Int) (N:Int) (la lb cb n:Nat) (t:TypeId):hZ 100 Tryz.f15.ntmps (bI 100 (seT e ad bs t)) [] (aJn la lb cb n) (aJq e cs ok t) 102 [62] [] (seM on e ad bs t 25 (.go (codeOf Tryz.f15)) [] ((Dg (aBc e key N la lb cb (n:Int)) 100).hint [false,false,false])) =
 some (.go (tA 5 (codeOf Tryz.f15)),[],[dW e,key.length=32,(M.aC N).length=12,0+((n:Int).toNat-0)<=bs.length,(n:Int).toNat-0<=(n:Int).toNat-0,(n:Int).toNat-0<=4611686018427387904,(0:Int)<=1/\(1:Int)<=4294967295,key=key,(1:Int)=1,M.aC N=M.aC N,0=0+0,(n:Int).toNat-0=(n:Int).toNat-0,(n:Int).toNat-0=(n:Int).toNat-0,bs=bs/\t=t,N=N,key.length=32,
  (on key N).length=32,on key N=M.once key N,dW e,key.length=32,key=key,N=N,key.length=32,(0:Int)<=(n:Int)/\(n:Int)<=(cb:Int)/\(0:Int)<=(n:Int)/\(n:Int)<=(n:Int)/\(0:Int)<=0/\(0:Int)<=(n:Int),decide (IntKind.i64.wrap ((lb:Int)-(n:Int))<16)=false,decide ((n:Int)>(lb:Int))=false,decide ((n:Int)<0)=false,
  la=la,0=0,lb=lb,cb=cb,(n:Int)=(n:Int),0=0,(n:Int).toNat-0=n,(n:Int).toNat-0=n,cE key (M.aC N) 1 0 ((n:Int).toNat-0) bs=cs/\t=t,on key N=ok/\(23:Nat)=(23:TypeId)]):=by rcases he with rfl | rfl | rfl <;> kernel_rfl
def frO (e:Nat) (ad cs ok:List Int) (la n:Nat) (x y r:List Prop):List Prop:=
 let pa:=M.oX la;let pn:=M.oX n;let RA:=List.replicate pa (0:Int);let RN:=List.replicate pn (0:Int);let L16:=M.Dy la n
 let TA:=(RA.drop 0).take pa;let TC:=(cs.drop 0).take n;let TN:=(RN.drop 0).take pn;let T5:=(L16.drop 0).take 16
 let p2:=0+pa<=RA.length/\pa<=pa;let p3:=0+n<=cs.length/\n<=n;let p4:=0+pn<=RN.length/\pn<=pn;let p5:=16<=L16.length/\(0:Nat)<=0
 dW e::(x++iZ ok (M.NB ad la TC n) (p2::p3::p4::p5::(ok=ok)::(y++(la=la)::(ad.length=ad.length)::(0=0)::(pa=pa)::(pa=pa)::p2::(TA.length=TA.length)::(0=0)::(n=n)::(n=n)::p3::(TC.length=TC.length)::(0=0)::(pn=pn)::(pn=pn)::p4::(TN.length=TN.length)::(16=16)::p5::(T5.length=T5.length) ::
  (ad=ad)::(TA=TA)::p2::(TC=TC)::p3::(TN=TN)::p4::(T5=T5)::p5::r)))
def fqO (la n:Nat) (r:List Prop):List Prop:=(0<=(n:Int)/\(n:Int)<=1073741824)::((n:Int)=(n:Int))::(0<=(la:Int)/\(la:Int)<=1073741824)::((la:Int)=(la:Int))::(IntKind.u64.wrap (n:Int)=IntKind.u64.wrap (n:Int))::(IntKind.u64.wrap (la:Int)=IntKind.u64.wrap (la:Int))::r
theorem aQu (e:Nat) (he:dW e) (on:List Int->Int->List Int) (ad bs cs ok tg:List Int) (la lb cb n:Nat) (t:TypeId):hZ 100 Tryz.f15.ntmps (bI 100 (seT e ad bs t)) [] (aJm lb cb n) (aJp cs tg t) 101 [62] [] (seM on e ad bs t 3 (.go (tA 5 (codeOf Tryz.f15))) [] ((cG (aJn la lb cb n) (aJq e cs ok t) 102 [62] []).hint [])) =
 some (.go (tA 6 (codeOf Tryz.f15)),[],((M.tag ok (M.NB ad la ((cs.drop 0).take n) n)).length=16)::frO e ad cs ok la n [] [] (fqO la n [ok.length=32,0=0,lb=lb,cb=cb,(n:Int)=(n:Int),cs=cs/\t=t,M.tag ok (M.NB ad la ((cs.drop 0).take n) n)=tg/\(77:Nat)=(77:TypeId)])):=by rcases he with rfl | rfl | rfl <;> kernel_rfl
theorem aQt (e:Nat) (he:dW e) (on:List Int->Int->List Int) (ad bs cs tg:List Int) (lb cb n:Nat) (t:TypeId):xP (yY on) (seT e ad bs t) 100 100 Tryz.f15 [] (seM on e ad bs t 400 (.go (tA 6 (codeOf Tryz.f15))) [] ((cG (aJm lb cb n) (aJp cs tg t) 101 [62] []).hint [])) =
 some { bO:=[Q.oS n+((tg.drop 0).take 16).length.min ((IntKind.i64.wrap ((n:Int)+16)).toNat-(n:Int).toNat)<=cs.length,16<=tg.length,(0:Int)<=IntKind.i64.wrap ((n:Int)+16)/\IntKind.i64.wrap ((n:Int)+16)<=(cb:Int)/\(0:Int)<=IntKind.i64.wrap ((n:Int)+16)/\IntKind.i64.wrap ((n:Int)+16)<=IntKind.i64.wrap ((n:Int)+16)/\(0:Int)<=(n:Int)/\(n:Int)<=IntKind.i64.wrap ((n:Int)+16)],val:=.eF [.int false .i64 (IntKind.i64.wrap ((n:Int)+16)),.raw .nilIface],wr:=[(62,.ints .u8 (Q.aBs n cs ((tg.drop 0).take 16)) t)] }:=by rcases he with rfl | rfl | rfl <;> kernel_rfl
def AU (e:Nat) (key:List Int) (N:Int) (la lb:Nat) (n:Int):List SV:=[.agg (nZ e),.ai .u8 key,.int false .u64 N,.iA 63 la,.iA 62 lb,.int false .i64 n]
def axL (e:Nat) (ad bs:List Int):List (Nat × SB):=[(62,.iT .u8 bs),(63,.iT .u8 ad)]++(Vn e++ZG)
def erV (l:Nat):SV:=.eF [.int true .i64 0,.rC 407 (.ptr l true 0)]
theorem aQj (e:Nat) (he:dW e) (key ad bs:List Int) (N n:Int) (la lb:Nat):aJ (yY M.once) Tryz.f15 true [true] 400 (AU e key N la lb n) (fun l=>look l (axL e ad bs)) 100 100=some { val:=erV 40,bO:=[decide (n<0)=true] }:=by rcases he with rfl | rfl | rfl <;> kernel_rfl
theorem aQi (e:Nat) (he:dW e) (key ad bs:List Int) (N n:Int) (la lb:Nat):aJ (yY M.once) Tryz.f15 true [false,true] 400 (AU e key N la lb n) (fun l=>look l (axL e ad bs)) 100 100=some { val:=erV 40,bO:=[decide (n>(lb:Int))=true,decide (n<0)=false] }:=by rcases he with rfl | rfl | rfl <;> kernel_rfl
theorem aQh (e:Nat) (he:dW e) (key ad bs:List Int) (N n:Int) (la lb:Nat):aJ (yY M.once) Tryz.f15 true [false,false,true] 400 (AU e key N la lb n) (fun l=>look l (axL e ad bs)) 100 100=some { val:=erV 42,bO:=[decide (IntKind.i64.wrap ((lb:Int)-n)<16)=true,decide (n>(lb:Int))=false,decide (n<0)=false] }:=by rcases he with rfl | rfl | rfl <;> kernel_rfl
end Go.Proofs.YtnodfocobmghiaaGreatDoor.Sx
section
namespace Go.Proofs.YtnodfocobmghiaaGreatDoor.Sx
end Go.Proofs.YtnodfocobmghiaaGreatDoor.Sx
end
namespace Go.Proofs.YtnodfocobmghiaaGreatDoor.Sx
theorem Q.VB {n:Nat} {cs x:List Int} (hn:n+16<=1073741824) (hx:x.length=16):Q.aBs n cs x=cs.take n++(x++cs.drop (n+16)):=by
 have w2:IntKind.i64.wrap ((n:Int)+16)=((n+16:Nat):Int):=by rw [IntWalk.i64_in _ ⟨by omega,by omega⟩];omega
 have e1:Q.oS n=n:=by unfold Q.oS;rw [w2,if_neg (by omega)];omega
 unfold Q.aBs
 rw [e1,w2,hx]
 have e3:(16:Nat).min ((((n+16:Nat):Int)).toNat-(n:Int).toNat)=16:=by
  have:(((n+16:Nat):Int)).toNat-(n:Int).toNat=16:=by omega
  rw [this];rfl
 rw [e3,List.take_of_length_le (Nat.le_of_eq hx),List.append_assoc]
def seE (key:List Int) (N:Int) (ad bs:List Int) (n:Nat) (t:TypeId):bK:={ val:=.eF [.int false .i64 ((n+16:Nat):Int),.raw .nilIface],wr:=[(62,.ints .u8 (Q.fQ key N ad bs n) t)] }
theorem TE {e:Nat} (he:dW e) {key ad bs:List Int} {N:Int} {lb cb n:Nat} {t:TypeId} (hk:key.length=32) (ha:bX ad) (hbs:bX (bs.take n)) (hla:ad.length<=500000000) (hn:n+16<=lb) (hl:lb<=cb) (hb:lb<=bs.length) (hcb:lb<=500000000) :
 aE Tryz.prog (yY M.once) 15 (aBc e key N ad.length lb cb n) (seT e ad bs t) 100 100 (seE key N ad bs n t):=by
 refine iE (Gv _) (Gw _) Tryz.func15 (by kernel_rfl) rfl (kJ (by kernel_rfl)) rfl [] ?_
 intro w0 Mx V0 Qx fB H
 have aW:=Gv M.once
 have aY:=Gw M.once
 have w1:IntKind.i64.wrap ((lb:Int)-(n:Int))=(lb:Int)-n:=IntWalk.i64_in _ ⟨by omega,by omega⟩
 have w2:IntKind.i64.wrap ((n:Int)+16)=((n+16:Nat):Int):=by rw [IntWalk.i64_in _ ⟨by omega,by omega⟩];omega
 have Fh:(cE key (M.aC N) 1 0 n bs).length=bs.length:=fN _ _ _ _ _ _
 have hx:=Q.aIp key N hbs
 have bV:cE key (M.aC N) 1 0 n bs=Q.tB key N bs n:=Q.GD (by omega)
 have qV:(Q.cx key N (bs.take n)).length=n:=by rw [Q.Fb,List.length_take];omega
 have MU:(M.aC N).length=12:=rfl
 have hol:=M.mU key N
 have hoB:=Q.GW key N
 have htk:(Q.tB key N bs n).take n=Q.cx key N (bs.take n):=by
  unfold Q.tB;rw [List.take_append_of_le_length (by omega),List.take_of_length_le (by omega)]
 have YR:=Q.Eh key N ad (Q.cx key N (bs.take n))
 have aOb:Q.fQ key N ad bs n=(Q.tB key N bs n).take n++(Q.tg key N ad (Q.cx key N (bs.take n))++(Q.tB key N bs n).drop (n+16)):=by
  rw [htk];unfold Q.fQ Q.tB
  have:List.drop (n+16) (Q.cx key N (bs.take n)++bs.drop n)=bs.drop (n+16):=by
   rw [List.drop_append,qV,List.drop_of_length_le (by omega),oR,List.drop_drop]
   congr 1;omega
  rw [this]
 have d1:decide ((lb:Int)-(n:Int)<16)=false:=nD (by omega)
 have d2:decide ((n:Int)>(lb:Int))=false:=nD (by omega)
 have d3:decide ((n:Int)<0)=false:=nD (by omega)
 refine G.hZ aW aY mix fB [false,false,false] (aQv e he M.once key ad bs (cE key (M.aC N) 1 0 n bs) (M.once key N) N ad.length lb cb n t) (aB ?_) ?_
 .simp only [bZ,w1]
  repeat' apply And.intro
  all_goals first | rfl | assumption | omega | trivial | exact dF _
 rw [bV] at Fh |-
 rw [<- htk] at hx
 generalize nU:Q.tB key N bs n=cs at *
 have hd0:List.drop 0 cs=cs:=rfl
 have hct:(cs.take n).length=n:=by rw [List.length_take];omega
 obtain ⟨f1,f2,f3⟩:=Q.aGm (la:=ad.length) (n:=n) ha hx rfl hct hla (by omega)
 have htg:M.tag (M.once key N) (M.NB ad ad.length (cs.take n) n)=Q.tg key N ad (Q.cx key N (bs.take n)):=by
  unfold Q.tg;rw [qV,<- htk]
 generalize Q.tg key N ad (Q.cx key N (bs.take n))=tg at *
 generalize mV:M.once key N=ok at *
 refine G.hZ aW aY mix fB [] (aQu e he M.once ad bs cs ok tg ad.length lb cb n t) (aB ?_) ?_
 .simp only [bZ,frO,fqO,iZ,List.cons_append,oR,hd0,htg,List.length_replicate]
  repeat' apply And.intro
  all_goals first | rfl | assumption | omega | trivial | exact dF _
 have e2:List.take 16 (List.drop 0 tg)=tg:=by rw [List.drop_zero,List.take_of_length_le (by omega)]
 have e1:Q.oS n=n:=by unfold Q.oS;rw [w2,if_neg (by omega)];omega
 have e3:(16:Nat).min (n+16-n)=16:=by rw [Nat.add_sub_cancel_left];rfl
 refine G.sX (cl:=[]) aW aY mix [] H (aQt e he M.once ad bs cs tg lb cb n t) (aB ?_) ?_ rfl ?_
 .simp only [bZ,w2,e2,qZ,e1,YR,e3]
  repeat' apply And.intro
  all_goals first | rfl | assumption | omega | trivial | exact dF _
 .show SV.eF [.int false .i64 (IntKind.i64.wrap ((n:Int)+16)),.raw .nilIface]=_
  rw [w2];rfl
 .show [(62,SB.ints .u8 _ t)]=[(62,SB.ints .u8 _ t)]
  rw [e2,Q.VB (by omega) YR,aOb]
def FZ (lb:Nat) (n:Int):Nat->Prop
 | 1=>n<0\/n>(lb:Int)
 | 2=>¬ n<0/\¬ n>(lb:Int)/\(lb:Int)-n<16
 | _=>¬ n<0/\¬ n>(lb:Int)/\n<16
def sxL:Nat->Nat
 | 1=>40
 | 2=>42
 | _=>44
theorem QT {e:Nat} (he:dW e) (key ad bs:List Int) (N n:Int) {la lb:Nat} (_:lb<=500000000) {o:Nat} (ho:o=1\/o=2) (h:FZ lb n o):aE Tryz.prog (yY M.once) 15 (AU e key N la lb n) (fun l=>look l (axL e ad bs)) 100 100 { val:=erV (sxL o) }:=by
 have hI:∀ hs,aF Tryz.prog (yY M.once) 15 (aJ (yY M.once) Tryz.f15 true hs 400):=fun hs=>aM (Gv _) (Gw _) mix Tryz.func15 (by kernel_rfl) true hs 400
 rcases ho with rfl | rfl
 .by_cases h0:n<0
  .exact ((hI _).call (aQj e he key ad bs N n la lb) (aB ⟨decide_eq_true h0,trivial⟩)).words rfl (fun _=>rfl) (fun _ _ h=>h) (fun _=>rfl) rfl rfl
  .have h1:n>(lb:Int):=h.resolve_left h0
   exact ((hI _).call (aQi e he key ad bs N n la lb) (aB ⟨decide_eq_true h1,nD h0,trivial⟩)).words rfl (fun _=>rfl) (fun _ _ h=>h) (fun _=>rfl) rfl rfl
 .obtain ⟨h0,h1,h2⟩:=h
  exact ((hI _).call (aQh e he key ad bs N n la lb) (aB ⟨decide_eq_true (by rw [IntWalk.i64_in _ ⟨by omega,by omega⟩];exact h2),nD h1,nD h0,trivial⟩)).words rfl (fun _=>rfl) (fun _ _ h=>h) (fun _=>rfl) rfl rfl
abbrev Cp:=List Int->Int->List Int->List Int->Nat->List Int
def aJo (x:List Int) (n:Nat) (t:TypeId):bK:={ val:=.eF [.int false .i64 ((n+16:Nat):Int),.raw .nilIface],wr:=[(62,.ints .u8 x t)] }
structure Vr (sb:Cp) (k:List Int) (N:Int) (ad bs:List Int) (n:Nat):Prop where
 h:sb k N ad bs n=Q.fQ k N ad bs n
def aBd (sb:Cp) (ev ks a:SV) (N n:Int) (L lb cb:Nat) (T:bB):Option Canon:=match Ae ev,cJ ks,dR T .u8 a,(T L).bind Ea with
 | some (e,vl),some (.u8,k),some (oa,ad),some (.u8,bs,t)=>some { eN:=aBc e k N ad.length lb cb (n.toNat:Int),T0:=seL e ad bs t,vl:=(62,.lab L 0)::(63,.arg 3)::(vl++QB),e0:=aJo (sb k N ad bs n.toNat) n.toNat t,conds:=Vr sb k N ad bs n.toNat::dW e::(k.length=32)::bX ad::bX (bs.take n.toNat)::(ad.length<=500000000)::(n.toNat+16<=lb)::(lb<=cb)::(lb<=bs.length)::(lb<=500000000)::oa }
 | _,_,_,_=>none
def OT (o:Nat) (ev ks a b:SV) (N n:Int) (T:bB):Option Canon:=match Ae ev,cJ ks,dR T .u8 a,dR T .u8 b with
 | some (e,vl),some (.u8,k),some (oa,ad),some (ob,bs)=>some { eN:=AU e k N ad.length bs.length n,T0:=axL e ad bs,vl:=(62,.arg 4)::(63,.arg 3)::(vl++QB),e0:={ val:=erV (sxL o) },conds:=dW e::(bs.length<=500000000)::FZ bs.length n o::(oa++ob) }
 | _,_,_,_=>none
def Rf (sb:Cp) (out:Int->Nat) (vs:List SV) (T:bB):Option Canon:=match vs with
 | [ev,ks,.int _ .u64 N,a,b,.int _ .i64 n]=>match out n,b with
   | 0,.aG L _ 0 lb cb=>aBd sb ev ks a N n L lb cb T
   | 1,_=>OT 1 ev ks a b N n T
   | 2,_=>OT 2 ev ks a b N n T
   | _,_=>none
 | _=>none
theorem TF {sb:Cp} {ev ks a:SV} {N n:Int} {L lb cb:Nat} {T:bB} {c:Canon} (h:aBd sb ev ks a N n L lb cb T=some c) (hc:∀ q∈c.conds,q) (Γ:Env) (hg:Γ.aR=aA):aE Tryz.prog Γ 15 c.eN (fun l=>look l c.T0) 100 100 c.e0:=by
 unfold aBd at h
 split at h
 case h_2=>cases h
 cases h
 have e:sb _ _ _ _ _=_:=Vr.h (hc _ dB)
 rw [aJo,e]
 exact (TE (hc _ (by simp)) (hc _ (by simp)) (hc _ (by simp)) (hc _ (by simp)) (hc _ (by simp)) (hc _ (by simp)) (hc _ (by simp)) (hc _ (by simp)) (hc _ (by simp))).words (by rw [hg];rfl) (fun _=>rfl) (fun _ _ h=>h) (fun _=>rfl) rfl rfl
theorem Sn {o:Nat} (ho:o=1\/o=2) {ev ks a b:SV} {N n:Int} {T:bB} {c:Canon} (h:OT o ev ks a b N n T=some c) (hc:∀ q∈c.conds,q) (Γ:Env) (hg:Γ.aR=aA):aE Tryz.prog Γ 15 c.eN (fun l=>look l c.T0) 100 100 c.e0:=by
 unfold OT at h
 split at h
 case h_2=>cases h
 cases h
 exact (QT (hc _ (by simp)) _ _ _ _ _ (hc _ (by simp)) ho (hc _ (by simp))).words (by rw [hg];rfl) (fun _=>rfl) (fun _ _ h=>h) (fun _=>rfl) rfl rfl
theorem EJ (sb:Cp) (out:Int->Nat) (Γ:Env) (hg:Γ.aR=aA):aF Tryz.prog Γ 15 (aL aA 100 (Rf sb out)):=by
 refine aU hg fun vs T c hd hc=>?_
 unfold Rf at hd
 split at hd
 case h_2=>cases hd
 split at hd
 .exact TF hd hc Γ hg
 .exact Sn (.inl rfl) hd hc Γ hg
 .exact Sn (.inr rfl) hd hc Γ hg
 .cases hd
def xyT (xs ys:List Int):bB:=fun l=>look l [(61,.iT .u8 xs),(62,.iT .u8 ys)]
noncomputable def saM (xs ys:List Int) (cf:Cf) (K:List Fr) (s:St):Option qH:=gV yX (bI 100 (xyT xs ys)) 100 Tryz.f17.ntmps [4] 400 3000 cf K s
def Zx (la lb:Nat):List SV:=[.iA 61 la,.iA 62 lb]
def Mw (la lb:Nat) (i:Int):List (Nat × SV):=[(0,.iA 61 la),(1,.iA 62 lb),(5,.int false .i64 i)]
noncomputable def saR:Option qH:=saM [] [] (.go (codeOf Tryz.f17)) [] ((Dg (Zx 0 0) 100).hint [false])
noncomputable def aBe:Code:=Jd saR
noncomputable def saK:List Fr:=Jc saR
theorem aRa (xs ys:List Int) (la lb:Nat) (i:Int) :
 (hZ 100 Tryz.f17.ntmps (bI 100 (xyT xs ys)) [] (Mw la lb i) [] 100 [] [] (saM xs ys (.go (codeOf Tryz.f17)) [] ((Dg (Zx la lb) 100).hint [false]))) =
 some (.go (.loop aBe),saK,
  [((↑la:Int) != (↑lb:Int))=false,la=la,lb=lb,(0:Int)=i]):=by kernel_rfl
theorem aQz (xs ys:List Int) (la lb:Nat) (i i':Int) :
 (hZ 100 Tryz.f17.ntmps (bI 100 (xyT xs ys)) [] (Mw la lb i') [] 100 [] [] (saM xs ys (.go aBe) [] ((cG (Mw la lb i) [] 100 [] []).hint [true,false]))) =
 some (.at .normal,[],
  [(xs.getD i.toNat (0:Int) != ys.getD i.toNat (0:Int))=false,i.toNat<ys.length,(0:Int)<=i/\i<(↑lb:Int),i.toNat<xs.length,(0:Int)<=i/\i<(↑la:Int),
  decide (i<(↑la:Int))=true,la=la,lb=lb,IntKind.i64.wrap (i+(1:Int))=i']):=by kernel_rfl
theorem aQy (xs ys:List Int) (la lb:Nat) (i i':Int) :
 (hZ 100 Tryz.f17.ntmps (bI 100 (xyT xs ys)) [] (Mw la lb i') [] 100 [] [] (saM xs ys (.go aBe) [] ((cG (Mw la lb i) [] 100 [] []).hint [false]))) =
 some (.at (.exit 0),[],
  [decide (i<(↑la:Int))=false,la=la,lb=lb,i=i']):=by kernel_rfl
theorem aQx (xs ys:List Int) (la lb:Nat) (i:Int) :
 xP yX (xyT xs ys) 100 100 Tryz.f17 [] (saM xs ys (.at (.exit 0)) saK ((cG (Mw la lb i) [] 100 [] []).hint [])) =
 some { val:=SV.bool true true }:=by kernel_rfl
theorem TG (xs:List Int) (hl:xs.length<=1073741824) (Γ:Env) (hg:Γ.aR=aA):aE Tryz.prog Γ 17 (Zx xs.length xs.length) (xyT xs xs) 100 100 { val:=.bool true true }:=by
 refine aE.words (Γ:=yX) (vs:=Zx xs.length xs.length) ?_ (by rw [hg];rfl) (fun _=>rfl) (fun _ _ h=>h) (fun _=>rfl) rfl rfl
 have aW:=Gt
 have aY:=Gu
 refine iE aW aY Tryz.func17 (by kernel_rfl) rfl (kJ (by kernel_rfl)) rfl [] ?_
 intro w0 M V0 Q' hb H
 refine G.hZ aW aY mix hb [false] (aRa xs xs xs.length xs.length 0) (aB ⟨by simp,rfl,rfl,rfl,trivial⟩) ?_
 refine G.loop (fun r s=>∃ i:Nat,i<=xs.length/\r=xs.length-i/\s=cG (Mw xs.length xs.length i) [] 100 [] []) (r0:=xs.length) ⟨0,by omega,rfl,rfl⟩ ?_
 rintro r s ⟨i,hi,rfl,rfl⟩
 by_cases h:i<xs.length
 .refine G.pN aW aY mix hb [true,false] (aQz xs xs xs.length xs.length i ((i+1:Nat):Int)) (aB ?_) (xs.length-(i+1)) (by omega) ⟨i+1,by omega,rfl,rfl⟩
  rw [qZ]
  exact ⟨by simp,h,by omega,h,by omega,decide_eq_true (by omega),rfl,rfl,by rw [IntWalk.i64_in _ (by omega)];omega,trivial⟩
 .have e:i=xs.length:=by omega
  subst e
  refine G.hZ aW aY mix hb [false] (aQy xs xs xs.length xs.length _ _) (aB ⟨nD (by omega),rfl,rfl,rfl,trivial⟩) (G.leave (by simp) ?_)
  exact G.sX (cl:=[]) aW aY mix [] H (aQx xs xs xs.length xs.length _) gM rfl rfl rfl
def BO (vs:List SV) (T:bB):Option Canon:=match vs with
 | [a,b]=>match dR T .u8 a,dR T .u8 b with
   | some (oa,xs),some (ob,ys)=>some { eN:=Zx xs.length ys.length,T0:=[(61,.iT .u8 xs),(62,.iT .u8 ys)],vl:=[(61,.arg 0),(62,.arg 1)],e0:={ val:=.bool true true },conds:=(xs=ys)::(xs.length<=1073741824)::(oa++ob) }
   | _,_=>none
 | _=>none
theorem aEs (Γ:Env) (hg:Γ.aR=aA):aF Tryz.prog Γ 17 (aL aA 100 BO):=by
 refine aU hg fun vs T c hd hc=>?_
 unfold BO at hd
 split at hd
 case h_2=>cases hd
 split at hd
 case h_2=>cases hd
 cases hd
 have e:=hc _ dB
 subst e
 exact TG _ (hc _ (eK _ dB)) Γ hg
def aKz (L:Nat):Nat->List SV
 | 0=>nZ 0
 | 1=>[.int true .i64 1,.fn (.func 41) [] [.ptr L true 0],.fn (.func 43) [] [.ptr L true 0],.fn (.func 45) [] [.ptr L true 0],.fn (.func 47) [] [.ptr L true 0],.fn (.func 49) [] [.ptr L true 0],.fn (.func 51) [] [.ptr L true 0]]
 | _=>nZ 2
def AS (x:Int):List SV:=[.int false .i64 x,.raw (.pointer none)]
def ok0:Int->Nat:=fun _=>0
theorem aUs (x:Int) :
 aJ (env fF 22) Tryz.f10 true [false,false] 400 (AS x) (fun _=>none) 100 100 =
 some
 { bO:=[(x==(2:Int))=false,(x==(1:Int))=false],
   val:=SV.agg [SV.int true IntKind.i64 (0:Int),SV.raw Value.nilFunc,SV.raw Value.nilFunc,SV.raw Value.nilFunc,SV.raw Value.nilFunc,SV.raw Value.nilFunc,SV.raw Value.nilFunc] }:=by kernel_rfl
theorem aUr (x:Int) :
 aJ (env fF 22) Tryz.f10 true [true] 400 (AS x) (fun _=>none) 100 100 =
 some
 { bO:=[(x==(1:Int))=true],
   val:=
    SV.agg
     [SV.int true IntKind.i64 (1:Int),SV.fn (Fn.func (41:Nat)) [] [SV.ptr 100 true 0],SV.fn (Fn.func (43:Nat)) [] [SV.ptr 100 true 0],
      SV.fn (Fn.func (45:Nat)) [] [SV.ptr 100 true 0],SV.fn (Fn.func (47:Nat)) [] [SV.ptr 100 true 0],
      SV.fn (Fn.func (49:Nat)) [] [SV.ptr 100 true 0],SV.fn (Fn.func (51:Nat)) [] [SV.ptr 100 true 0]],
   new:=[SB.own [SV.raw (Value.pointer none)] 68] }:=by kernel_rfl
theorem aUq (x:Int) :
 aJ (env fF 22) Tryz.f10 true [false,true] 400 (AS x) (fun _=>none) 100 100 =
 some
 { bO:=[(x==(2:Int))=true,(x==(1:Int))=false],
   val:=
    SV.agg
     [SV.int true IntKind.i64 (2:Int),SV.fn (Fn.func (35:Nat)) [] [],SV.fn (Fn.func (36:Nat)) [] [],SV.fn (Fn.func (37:Nat)) [] [],SV.fn (Fn.func (38:Nat)) [] [],
      SV.fn (Fn.func (39:Nat)) [] [],SV.fn (Fn.func (40:Nat)) [] []] }:=by kernel_rfl
noncomputable def Ix (sb:Cp):Nat->Option Sum:=dI fF 15 (aL aA 100 (Rf sb ok0))
def awK:List Int:=1::List.replicate 31 0
def Yx:List Int:=List.replicate 16 0
theorem aVs (sb:Cp):aJ (env (Ix sb) 22) Tryz.f8 true [true] 400 [] (fun l=>look l ZG) 100 100 =
 some { val:=.bool true true,bO:=[true=true,Vr sb awK 0 [] Yx 0,dW 2,(32:Nat)=32,bX [],bX (Yx.take 0),0<=500000000,16<=16,16<=16,16<=16,16<=500000000,awK=awK,(0:Int)=0,0=0,0=0,16=16,16=16,(0:Int)=0,Yx=Yx/\5=5,([]:List Int)=[]] }:=by kernel_rfl
namespace M
def Fg (xs:List Int):List Int:=(List.range 32).map fun i=>xs.getD i 0
theorem FG {xs:List Int} (h:xs.length=32):Fg xs=xs:=by
 unfold Fg
 apply List.ext_getElem
 .simp [h]
 .intro j h1 h2
  simp only [List.getElem_map,List.getElem_range]
  rw [gH,List.getElem?_eq_getElem h2];rfl
theorem Ps (xs:List Int):(Fg xs).length=32:=by simp [Fg]
end M
def aUp (L:Nat):Nat->List (Nat × SB)
 | 1=>[(L,.own [.raw (.pointer none)] 68)]
 | _=>[]
def aKy:Nat->Nat
 | 1=>1
 | _=>0
def stC (L e:Nat) (n:SV) (key:List Int):List SV:=n::(aKz L e++(cK .u8 32 key++[.bool true true]))
def wU (x:Int):Nat:=if x=1 then 1 else if x=2 then 2 else 0
theorem LD (x:Int):dW (wU x):=by
 unfold wU dW
 split
 .exact .inr (.inl rfl)
 .split
  .exact .inr (.inr rfl)
  .exact .inl rfl
structure QE (e:Nat) (x:Int):Prop where
 h:wU x=e
def aLc:Nat->bK
 | 0=>{ val:=.agg (nZ 0) }
 | 1=>{ val:=.agg (aKz 100 1),new:=[.own [.raw (.pointer none)] 68] }
 | _=>{ val:=.agg (nZ 2) }
theorem XL {e:Nat} {x:Int} (h:wU x=e) (Γ:Env) (hg:Γ.aR=aA):aE Tryz.prog Γ 10 (AS x) (fun _=>none) 100 100 (aLc e):=by
 have hI:∀ hs,aF Tryz.prog (env fF 22) 10 (aJ (env fF 22) Tryz.f10 true hs 400):=fun hs=>aM (bL fF 22) (bS fF fV 22) mix Tryz.func10 (by kernel_rfl) true hs 400
 unfold wU at h
 split at h
 .rename_i h1
  subst h
  exact ((hI _).call (aUr x) (aB ⟨by simp [h1],trivial⟩)).words (by rw [hg];rfl) (fun _=>rfl) (fun _ _ h=>h) (fun _=>rfl) rfl rfl
 .rename_i h1
  split at h
  .rename_i h2
   subst h
   exact ((hI _).call (aUq x) (aB ⟨by simp [h2],by simp [h1],trivial⟩)).words (by rw [hg];rfl) (fun _=>rfl) (fun _ _ h=>h) (fun _=>rfl) rfl rfl
  .rename_i h2
   subst h
   exact ((hI _).call (aUs x) (aB ⟨by simp [h2],by simp [h1],trivial⟩)).words (by rw [hg];rfl) (fun _=>rfl) (fun _ _ h=>h) (fun _=>rfl) rfl rfl
def DE (e:Nat) (vs:List SV) (_:bB):Option Canon:=match vs with
 | [.int _ .i64 x,.raw (.pointer none)]=>some { eN:=AS x,T0:=[],vl:=[],e0:=aLc e,conds:=[QE e x] }
 | _=>none
theorem aHq (e:Nat) (Γ:Env) (hg:Γ.aR=aA):aF Tryz.prog Γ 10 (aL aA 100 (DE e)):=by
 refine aU hg fun vs T c hd hc=>?_
 unfold DE at hd
 split at hd
 case h_2=>cases hd
 cases hd
 exact XL (QE.h (hc _ (by simp))) Γ hg
def DX (vs:List SV) (_:bB):Option Canon:=match vs with
 | []=>some { eN:=[],T0:=ZG,vl:=QB,e0:={ val:=.bool true true },conds:=[] }
 | _=>none
theorem Tw (sb:Cp):∀ f S,Ix sb f=some S->∀ Γ:Env,Γ.aR=aA->aF Tryz.prog Γ f S:=bD fV 15 _ (EJ sb ok0)
theorem YG (Γ:Env) (hg:Γ.aR=aA):aE Tryz.prog Γ 8 [] (fun l=>look l ZG) 100 100 { val:=.bool true true }:=by
 have hI:aF Tryz.prog (env (Ix Q.fQ) 22) 8 (aJ (env (Ix Q.fQ) 22) Tryz.f8 true [true] 400):=aM (bL _ 22) (bS _ (Tw _) 22) mix Tryz.func8 (by kernel_rfl) true [true] 400
 refine (hI.call (aVs Q.fQ) (aB ?_)).words (by rw [hg];rfl) (fun _=>rfl) (fun _ _ h=>h) (fun _=>rfl) rfl rfl
 simp only [bZ]
 repeat' apply And.intro
 all_goals first | rfl | trivial | omega | exact ⟨rfl⟩ | exact .inr (.inr rfl) | exact fun _ h=>by cases h
theorem aIy (Γ:Env) (hg:Γ.aR=aA):aF Tryz.prog Γ 8 (aL aA 100 DX):=by
 refine aU hg fun vs T c hd hc=>?_
 unfold DX at hd
 split at hd
 case h_2=>cases hd
 cases hd
 exact YG Γ hg
def ZR:List (Nat × List Bool):=[(16,[false,false,false]),(32,[true])]
noncomputable def Rz (ex:Nat->Option Sum):List (Nat × List Bool)->Nat->Option Sum
 | []=>ex
 | (f,h)::r=>zS (Rz ex r) f h
theorem Bq {ex:Nat->Option Sum} (hex:∀ f S,ex f=some S->∀ Γ:Env,Γ.aR=aA->aF Tryz.prog Γ f S):∀ l:List (Nat × List Bool),∀ f S,Rz ex l f=some S->∀ Γ:Env,Γ.aR=aA->aF Tryz.prog Γ f S
 | []=>hex
 | (f,h)::r=>kT (Bq hex r) f h
def erP (t:List UInt8):SB:=.fL [.raw (.string ⟨t.toArray⟩)]
def erO:List (Nat × SB):=[(40,erP [112,105,110,116,108,101,58,32,97,114,103,117,109,101,110,116]),(42,erP [112,105,110,116,108,101,58,32,110,111,32,114,111,111,109]),(44,erP [112,105,110,116,108,101,58,32,116,111,111,32,115,104,111,114,116]),(46,erP [112,105,110,116,108,101,58,32,110,111,32,110,117,109,98,101,114,32,108,101,102,116]),(48,erP [112,105,110,116,108,101,58,32,110,111,116,32,97,117,116,104,101,110,116,105,99])]
def rcL (e:Nat) (N:Int) (key:List Int):List (Nat × SB):=(60,.own (stC 50 e (.int false .u64 N) key) 67)::(Vn e++ZG)
def rcT (e:Nat) (N:Int) (key:List Int):bB:=fun l=>look l (rcL e N key)
noncomputable def rcM (sb:Cp) (e:Nat) (N:Int) (key:List Int) (k:Nat) (cf:Cf) (K:List Fr) (s:St):Option qH:=gV (env (Ix sb) 22) (bI 100 (rcT e N key)) 100 Tryz.f13.ntmps [] 400 k cf K s
def rcG:List (Nat × SV):=[(0,.ptr 60 true 0),(3,.ptr 100 true 0)]
def rcB (nx:List Int):List (Nat × SB):=[(100,.own (cK .u8 48 nx) 70)]
def Yn:List Int:=List.replicate 48 0
def BS (nx:List Int):List Int:=(List.range 48).map fun i=>nx.getD i 0
abbrev oT:Int:=18446744073709551615
theorem aRc (e:Nat) (he:dW e) (sb:Cp) (key nx:List Int) (N:Int):hZ 100 Tryz.f13.ntmps (bI 100 (rcT e N key)) [] rcG (rcB nx) 101 [] [] (rcM sb e N key 30 (.go (codeOf Tryz.f13)) [] ((Dg [.ptr 60 true 0] 100).hint []))=some (.go (tA 5 (codeOf Tryz.f13)),[],
 [Vr sb (M.Fg key) oT [] Yn 32,dW e,(M.Fg key).length=32,bX [],bX (Yn.take 32),0<=500000000,48<=48,48<=48,48<=48,48<=500000000,M.Fg key=M.Fg key,oT=oT,0=0,0=0,48=48,48=48,(32:Int)=32,Yn=Yn/\70=70,([]:List Int)=[],sb (M.Fg key) oT [] Yn 32=BS nx/\70=70]):=by
 rcases he with rfl | rfl | rfl <;> kernel_rfl
theorem aRb (e:Nat) (he:dW e) (sb:Cp) (key nx:List Int) (N:Int):xP (env (Ix sb) 22) (rcT e N key) 100 100 Tryz.f13 [] (rcM sb e N key 400 (.go (tA 5 (codeOf Tryz.f13))) [] ((cG rcG (rcB nx) 101 [] []).hint []))=some { val:=.raw .nilIface,wr:=[(60,.own (stC 50 e (.int false .u64 N) nx) 67)] }:=by
 rcases he with rfl | rfl | rfl <;> kernel_rfl
namespace Q
end Q
theorem Hx (key:List Int) (N:Int) (ad bs:List Int) (n:Nat) (h:n+16<=bs.length):(Q.fQ key N ad bs n).length=bs.length:=by
 unfold Q.fQ
 have:=Q.Eh key N ad (Q.cx key N (bs.take n))
 simp only [List.length_append,Q.Fb,this,List.length_take,List.length_drop]
 omega
theorem TM {e:Nat} (he:dW e) {key:List Int} {N:Int} (hk:key.length=32) (Γ:Env) (hg:Γ.aR=aA) :
 aE Tryz.prog Γ 13 [.ptr 60 true 0] (rcT e N key) 100 100 { val:=.raw .nilIface,wr:=[(60,.own (stC 50 e (.int false .u64 N) (Q.fQ key oT [] Yn 32)) 67)] }:=by
 refine aE.words (Γ:=env (Ix Q.fQ) 22) (vs:=[.ptr 60 true 0]) ?_ (by rw [hg];rfl) (fun _=>rfl) (fun _ _ h=>h) (fun _=>rfl) rfl rfl
 have aW:=bL (Ix Q.fQ) 22
 have aY:=bS _ (Tw Q.fQ) 22
 refine iE aW aY Tryz.func13 (by kernel_rfl) rfl (kJ (by kernel_rfl)) rfl [] ?_
 intro w0 Mx V0 Qx hb H
 have hk3:=M.FG hk
 have hl:(Q.fQ key oT [] Yn 32).length=48:=Hx _ _ _ _ _ (dF 48)
 have hr:Q.fQ key oT [] Yn 32=BS (Q.fQ key oT [] Yn 32):=by
  unfold BS
  apply List.ext_getElem
  .simp [hl]
  .intro j h1 h2
   simp only [List.getElem_map,List.getElem_range]
   rw [gH,List.getElem?_eq_getElem h1];rfl
 have hz:bX (Yn.take 32):=Q.MF _ (Q.yL 48)
 refine G.hZ aW aY mix hb [] (aRc e he Q.fQ key (Q.fQ key oT [] Yn 32) N) (aB ?_) ?_
 .rw [hk3]
  simp only [bZ]
  repeat' apply And.intro
  all_goals first | assumption | exact ⟨rfl⟩ | omega | trivial | exact (fun _ h=>by cases h)
 exact G.sX (cl:=[]) aW aY mix [] H (aRb e he Q.fQ key _ N) gM rfl rfl rfl
namespace Q
def rx (key:List Int):List Int:=fQ key oT [] Yn 32
end Q
structure QD (rx:List Int->List Int) (k:List Int):Prop where
 h:rx k=Q.rx k
def BT (rx:List Int->List Int) (vs:List SV) (T:bB):Option Canon:=match vs with
 | [.ptr l _ 0]=>match T l with
   | some (.own cs _)=>match cs.head?,Ae (.agg ((cs.drop 1).take 7)),tC ((cs.drop 8).take 32),cs.drop 40 with
     | some (.int _ .u64 N),some (e,vl),some (.u8,k),[.bool true true]=>some { eN:=[.ptr 60 true 0],T0:=rcL e N k,vl:=(60,.lab l 0)::(vl++QB),e0:={ val:=.raw .nilIface,wr:=[(60,.own (stC 50 e (.int false .u64 N) (rx k)) 67)] },conds:=[QD rx k,dW e,k.length=32] }
     | _,_,_,_=>none
   | _=>none
 | _=>none
theorem aEu (rx:List Int->List Int) (Γ:Env) (hg:Γ.aR=aA):aF Tryz.prog Γ 13 (aL aA 100 (BT rx)):=by
 refine aU hg fun vs T c hd hc=>?_
 unfold BT at hd
 split at hd
 case h_2=>cases hd
 split at hd
 case h_2=>cases hd
 split at hd
 case h_2=>cases hd
 cases hd
 have e:rx _=_:=QD.h (hc _ dB)
 rw [e]
 exact TM (hc _ (eK _ dB)) (hc _ (eK _ (eK _ dB))) Γ hg
noncomputable def aKw (sb:Cp) (rx:List Int->List Int) (e:Nat):Nat->Option Sum:=Rz (dI (dI (dI (dI (dI fF 15 (aL aA 100 (Rf sb ok0))) 17 (aL aA 100 BO)) 8 (aL aA 100 DX)) 10 (aL aA 100 (DE e))) 13 (aL aA 100 (BT rx))) ZR
theorem XG (sb:Cp) (rx:List Int->List Int) (e:Nat):∀ f S,aKw sb rx e f=some S->∀ Γ:Env,Γ.aR=aA->aF Tryz.prog Γ f S:=
 Bq (bD (bD (bD (bD (bD fV 15 _ (EJ sb ok0)) 17 _ aEs) 8 _ aIy) 10 _ (aHq e)) 13 _ (aEu rx)) ZR
section
open Go.ChangeShapes Go.WideShapes
section
variable {H:Type} {enc:TypeId × Value->H} {P:Program} {w:World} {held:Bool}
theorem wf_u8 {n:Int} (h:(Lit.int .u8 n).wf=true):Bt n:=by
 have:=bounds_u8 h
 exact ⟨this.1,by omega⟩
theorem Bu {fuel:Nat} {tb t5:TypeId} {cs:List Value} {x:DataW H × List MemPlace} (ht:P.underlying tb=some (.slice t5)) (h5:P.underlying t5=some (.int .u8)) (hc:P.cellsOf t5=1)
 (h:DataW.trod enc P w 0 (fun _=>true) held fuel tb cs=some x):∃ v xs,cs=[v]/\vP w .u8 v xs/\bX xs:=by
 rcases open_ints ht h5 hc h with ⟨rfl,_⟩ | ⟨a,len,cap,zs,rfl,_,hle,_,hz,_,gK,hwf⟩
 .exact ⟨_,[],rfl,.inl ⟨.nil,rfl⟩,fun _ h=>by cases h⟩
 .simp only [if_true] at hz
  refine ⟨_,zs.take len,rfl,?_,fun z hzm=>wf_u8 (hwf z (List.mem_of_mem_take hzm))⟩
  by_cases h0:cap=0
  .subst h0
   have:len=0:=by omega
   subst this
   exact .inl ⟨⟨_,rfl⟩,by simp⟩
  .have yS:=gK 0 (by omega)
   obtain ⟨b,o,s⟩:=a
   have hs:s=none:=by
    have:=World.cell?_spot yS
    cases s with
    | none=>rfl
    | some s=>simp [Addr.add] at this
   subst hs
   have hlen:(zs.take len).length=len:=by rw [List.length_take];omega
   refine .inr ⟨b,o,cap,by rw [hlen],?_,by omega,fun j u hj=>?_⟩
   .rw [bJ] at yS
    unfold World.cell? at yS
    simp only at yS
    cases hb:w.heap[b]? with
    | none=>rw [hb] at yS;simp at yS
    | some y=>exact (Array.getElem?_eq_some_iff.1 hb).1
   .rw [List.map_take,List.getElem?_take] at hj
    split at hj
    .rename_i hjl
     rw [List.getElem?_map] at hj
     obtain ⟨z,hzj,rfl⟩:=Option.map_eq_some_iff.1 hj
     have:=gK j (by omega)
     rw [bJ] at this
     rw [this,gH,hzj]
     rfl
    .cases hj
def intOf:Value->Int
 | .int _ z=>z
 | _=>0
theorem Lz {fuel:Nat} {ta t5:TypeId} {n:Nat} {cs:List Value} {x:DataW H × List MemPlace} (ht:P.underlying ta=some (.array n t5)) (h5:P.underlying t5=some (.int .u8)) (hc:P.cellsOf t5=1) (kA:P.cellsOf ta=n)
 (h:DataW.trod enc P w 0 (fun _=>true) held fuel ta cs=some x):∃ xs,xs.length=n/\cs=xs.map (Value.int .u8)/\bX xs:=by
 obtain ⟨xs,m,_,_,hlen,hn,hel⟩:=DataW.trod_array ht h
 rw [kA] at hlen
 have key:∀ i,i<n->∃ z,cs[i]?=some (.int .u8 z)/\Bt z:=by
  intro i hi
  have h1:=hel i hi
  rw [hc,Nat.mul_one,List.getElem?_eq_getElem (by omega)] at h1
  obtain ⟨z,hz,_,hw⟩:=DataW.trod_int h5 h1
  refine ⟨z,?_,wf_u8 hw⟩
  have:=congrArg (·[0]?) hz
  simpa [List.getElem?_take,List.getElem?_drop] using this
 refine ⟨cs.map intOf,by simp [hlen],?_,fun z hz=>?_⟩
 .rw [List.map_map]
  refine List.ext_getElem? fun i=>?_
  rw [List.getElem?_map]
  by_cases hi:i<n
  .obtain ⟨z,hz,_⟩:=key i hi
   rw [hz];rfl
  .rw [List.getElem?_eq_none (by omega)];rfl
 .obtain ⟨v,hv,rfl⟩:=List.mem_map.1 hz
  obtain ⟨i,hi⟩:=List.getElem?_of_mem hv
  have YY:i<n:=by rw [<- hlen];exact (List.getElem?_eq_some_iff.1 hi).1
  obtain ⟨z,hz,hb⟩:=key i YY
  rw [hi] at hz
  cases hz
  exact hb
end
end
end Go.Proofs.YtnodfocobmghiaaGreatDoor.Sx
