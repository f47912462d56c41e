/- Plain Lean for slow.Tag: the clamped key, the bytes that are held, a block's step, the last sum. -/
import Derived.ProofKit
import Derived.OpenShut
import Derived.Test.YtnodfocobmghiaaGreatDoorQK
open Go
set_option maxRecDepth 100000
namespace Go.Proofs.YtnodfocobmghiaaGreatDoor.Sx
namespace M
theorem Uj {x:Int} (h:Bt x):bW .u8 x 15=(IntKind.i64.wrap x).tmod 16:=by
 have key:∀ n:Fin 256,bW .u8 ((n.val:Nat):Int) 15=(IntKind.i64.wrap ((n.val:Nat):Int)).tmod 16:=by decide +kernel
 obtain ⟨h0,h1⟩:=h
 have:=key ⟨x.toNat,by omega⟩
 simpa [Int.toNat_of_nonneg h0] using this
theorem Rj {x:Int} (h:Bt x):bW .u8 x 252=IntKind.i64.wrap (IntKind.i64.wrap x-(IntKind.i64.wrap x).tmod 4):=by
 have key:∀ n:Fin 256,bW .u8 ((n.val:Nat):Int) 252=IntKind.i64.wrap (IntKind.i64.wrap ((n.val:Nat):Int)-(IntKind.i64.wrap ((n.val:Nat):Int)).tmod 4):=by decide +kernel
 obtain ⟨h0,h1⟩:=h
 have:=key ⟨x.toNat,by omega⟩
 simpa [Int.toNat_of_nonneg h0] using this
theorem Dg {x:Int} (h:Bt x):0<=bW .u8 x 15/\bW .u8 x 15<=15:=by
 have key:∀ n:Fin 256,0<=bW .u8 ((n.val:Nat):Int) 15/\bW .u8 ((n.val:Nat):Int) 15<=15:=by decide +kernel
 obtain ⟨h0,h1⟩:=h
 have:=key ⟨x.toNat,by omega⟩
 simpa [Int.toNat_of_nonneg h0] using this
theorem xS {x:Int} (h:Bt x):0<=bW .u8 x 252/\bW .u8 x 252<=255:=by
 have key:∀ n:Fin 256,0<=bW .u8 ((n.val:Nat):Int) 252/\bW .u8 ((n.val:Nat):Int) 252<=255:=by decide +kernel
 obtain ⟨h0,h1⟩:=h
 have:=key ⟨x.toNat,by omega⟩
 simpa [Int.toNat_of_nonneg h0] using this
theorem oY {x:Int} (h:Bt x):IntKind.i64.wrap x=x:=by
 obtain ⟨h0,h1⟩:=h
 exact IntWalk.i64_in _ ⟨by omega,by omega⟩
def tO (k:List Int):Int:=V [k.getD 0 0,k.getD 1 0,k.getD 2 0,bW .u8 (k.getD 3 0) 15,bW .u8 (k.getD 4 0) 252,k.getD 5 0,k.getD 6 0,bW .u8 (k.getD 7 0) 15]
def sB (k:List Int):Int:=V [bW .u8 (k.getD 8 0) 252,k.getD 9 0,k.getD 10 0,bW .u8 (k.getD 11 0) 15,bW .u8 (k.getD 12 0) 252,k.getD 13 0,k.getD 14 0,bW .u8 (k.getD 15 0) 15]
def kS (k:List Int):List Int:=[k.getD 0 0,k.getD 1 0,k.getD 2 0,bW .u8 (k.getD 3 0) 15,bW .u8 (k.getD 4 0) 252,k.getD 5 0,k.getD 6 0,bW .u8 (k.getD 7 0) 15,bW .u8 (k.getD 8 0) 252,k.getD 9 0,k.getD 10 0,bW .u8 (k.getD 11 0) 15,bW .u8 (k.getD 12 0) 252,k.getD 13 0,k.getD 14 0,bW .u8 (k.getD 15 0) 15,k.getD 16 0,k.getD 17 0,k.getD 18 0,k.getD 19 0,k.getD 20 0,k.getD 21 0,k.getD 22 0,k.getD 23 0,k.getD 24 0,k.getD 25 0,k.getD 26 0,k.getD 27 0,k.getD 28 0,k.getD 29 0,k.getD 30 0,k.getD 31 0]
def wQ (k:List Int):Int:=V [k.getD 16 0,k.getD 17 0,k.getD 18 0,k.getD 19 0,k.getD 20 0,k.getD 21 0,k.getD 22 0,k.getD 23 0]
def xW (k:List Int):Int:=V [k.getD 24 0,k.getD 25 0,k.getD 26 0,k.getD 27 0,k.getD 28 0,k.getD 29 0,k.getD 30 0,k.getD 31 0]
theorem bX.Ph:bX []:=fun _ h=>by cases h
theorem bX.bN {x:Int} {r:List Int} (h:Bt x) (hr:bX r):bX (x::r):=fun y hy=>by
 rcases List.mem_cons.1 hy with rfl | hy
 .exact h
 .exact hr y hy
theorem RM {k:List Int} (h:bX k) (i:Nat):Bt (bW .u8 (k.getD i 0) 15):=by have:=Dg (h.get i);exact ⟨by omega,by omega⟩
theorem Yd {k:List Int} (h:bX k) (i:Nat):Bt (bW .u8 (k.getD i 0) 252):=by have:=xS (h.get i);exact ⟨by omega,by omega⟩
theorem IH {k:List Int} (h:bX k):bX (kS k):=
 bX.bN (h.get 0) (bX.bN (h.get 1) (bX.bN (h.get 2) (bX.bN (RM h 3) (bX.bN (Yd h 4) (bX.bN (h.get 5) (bX.bN (h.get 6) (bX.bN (RM h 7) (bX.bN (Yd h 8) (bX.bN (h.get 9) (bX.bN (h.get 10) (bX.bN (RM h 11) (bX.bN (Yd h 12) (bX.bN (h.get 13) (bX.bN (h.get 14) (bX.bN (RM h 15) (bX.bN (h.get 16) (bX.bN (h.get 17) (bX.bN (h.get 18) (bX.bN (h.get 19) (bX.bN (h.get 20) (bX.bN (h.get 21) (bX.bN (h.get 22) (bX.bN (h.get 23) (bX.bN (h.get 24) (bX.bN (h.get 25) (bX.bN (h.get 26) (bX.bN (h.get 27) (bX.bN (h.get 28) (bX.bN (h.get 29) (bX.bN (h.get 30) (bX.bN (h.get 31) bX.Ph)))))))))))))))))))))))))))))))
theorem Ye {l:List Int} (h:bX l) (hl:l.length=8):U (V l):=by
 obtain ⟨a,b,c,d,e,f,g,k,rfl⟩:∃ a b c d e f g k,l=[a,b,c,d,e,f,g,k]:=by
  match l,hl with
  | [a,b,c,d,e,f,g,k],_=>exact ⟨a,b,c,d,e,f,g,k,rfl⟩
 have q:∀ x∈[a,b,c,d,e,f,g,k],0<=x/\x<256:=h
 have:=q a (by simp);have:=q b (by simp);have:=q c (by simp);have:=q d (by simp);have:=q e (by simp);have:=q f (by simp);have:=q g (by simp);have:=q k (by simp)
 simp only [tF,By]
 unfold U
 omega
theorem aWm {k:List Int} (h:bX k):U (tO k)/\U (sB k)/\tO k+18446744073709551616*sB k<21267647932558653966460912964485513216:=by
 have u1:U (tO k):=Ye (bX.bN (h.get 0) (bX.bN (h.get 1) (bX.bN (h.get 2) (bX.bN (RM h 3) (bX.bN (Yd h 4) (bX.bN (h.get 5) (bX.bN (h.get 6) (bX.bN (RM h 7) bX.Ph)))))))) rfl
 have u2:U (sB k):=Ye (bX.bN (Yd h 8) (bX.bN (h.get 9) (bX.bN (h.get 10) (bX.bN (RM h 11) (bX.bN (Yd h 12) (bX.bN (h.get 13) (bX.bN (h.get 14) (bX.bN (RM h 15) bX.Ph)))))))) rfl
 refine ⟨u1,u2,?_⟩
 have b1:sB k<1152921504606846976:=by
  unfold sB
  simp only [tF,By]
  have RM:=Dg (h.get 15)
  have:=h.get 9;have:=h.get 10;have:=h.get 13;have:=h.get 14
  have:=Dg (h.get 11);have:=xS (h.get 12);have:=xS (h.get 8)
  unfold Bt at *
  omega
 unfold U at u1
 omega
theorem aWl {k:List Int} (h:bX k):U (wQ k)/\U (xW k):=
 ⟨Ye (bX.bN (h.get 16) (bX.bN (h.get 17) (bX.bN (h.get 18) (bX.bN (h.get 19) (bX.bN (h.get 20) (bX.bN (h.get 21) (bX.bN (h.get 22) (bX.bN (h.get 23) bX.Ph)))))))) rfl,Ye (bX.bN (h.get 24) (bX.bN (h.get 25) (bX.bN (h.get 26) (bX.bN (h.get 27) (bX.bN (h.get 28) (bX.bN (h.get 29) (bX.bN (h.get 30) (bX.bN (h.get 31) bX.Ph)))))))) rfl⟩
theorem aOk {k:List Int} (h:bX k):V (cl k)=tO k+18446744073709551616*sB k:=by
 unfold cl
 rw [PJ]
 have z:V [0]=0:=by decide
 rw [z,Int.mul_zero,Int.add_zero]
 have e:Re (lo k)=[k.getD 0 0,k.getD 1 0,k.getD 2 0,bW .u8 (k.getD 3 0) 15,bW .u8 (k.getD 4 0) 252,k.getD 5 0,k.getD 6 0,bW .u8 (k.getD 7 0) 15,bW .u8 (k.getD 8 0) 252,k.getD 9 0,k.getD 10 0,bW .u8 (k.getD 11 0) 15,bW .u8 (k.getD 12 0) 252,k.getD 13 0,k.getD 14 0,bW .u8 (k.getD 15 0) 15]:=by
  rw [Uj (h.get 3),Uj (h.get 7),Uj (h.get 11),Uj (h.get 15),Rj (h.get 4),Rj (h.get 8),Rj (h.get 12)]
  have w0:=oY (h.get 0);have w1:=oY (h.get 1);have w2:=oY (h.get 2)
  have w5:=oY (h.get 5);have w6:=oY (h.get 6);have w9:=oY (h.get 9)
  have w10:=oY (h.get 10);have w13:=oY (h.get 13);have w14:=oY (h.get 14)
  have l:Re (lo k)=[IntKind.i64.wrap (k.getD 0 0),IntKind.i64.wrap (k.getD 1 0),IntKind.i64.wrap (k.getD 2 0),(IntKind.i64.wrap (k.getD 3 0)).tmod 16,IntKind.i64.wrap (IntKind.i64.wrap (k.getD 4 0)-(IntKind.i64.wrap (k.getD 4 0)).tmod 4),IntKind.i64.wrap (k.getD 5 0),IntKind.i64.wrap (k.getD 6 0),(IntKind.i64.wrap (k.getD 7 0)).tmod 16,IntKind.i64.wrap (IntKind.i64.wrap (k.getD 8 0)-(IntKind.i64.wrap (k.getD 8 0)).tmod 4),IntKind.i64.wrap (k.getD 9 0),IntKind.i64.wrap (k.getD 10 0),(IntKind.i64.wrap (k.getD 11 0)).tmod 16,IntKind.i64.wrap (IntKind.i64.wrap (k.getD 12 0)-(IntKind.i64.wrap (k.getD 12 0)).tmod 4),IntKind.i64.wrap (k.getD 13 0),IntKind.i64.wrap (k.getD 14 0),(IntKind.i64.wrap (k.getD 15 0)).tmod 16]:=rfl
  rw [l,w0,w1,w2,w5,w6,w9,w10,w13,w14]
 rw [e,aOl]
 rfl
theorem bAi (k:List Int):V (hi k)=wQ k+18446744073709551616*xW k:=by
 have e:hi k=[k.getD 16 0,k.getD 17 0,k.getD 18 0,k.getD 19 0,k.getD 20 0,k.getD 21 0,k.getD 22 0,k.getD 23 0,k.getD 24 0,k.getD 25 0,k.getD 26 0,k.getD 27 0,k.getD 28 0,k.getD 29 0,k.getD 30 0,k.getD 31 0]:=rfl
 rw [e,aOl]
 rfl
theorem aJo {k:List Int} (h:bX k):bX (hi k):=by
 intro x hx
 simp only [hi,List.mem_map] at hx
 obtain ⟨j,_,rfl⟩:=hx
 exact h.get _
def held (D:List Int) (t:Nat):List Int:=(List.range (t%16)).map fun j=>D.getD (16*(t/16)+j) 0
theorem Nu (D:List Int) (t:Nat):(held D t).length=t%16:=by simp [held]
theorem Zh (D:List Int) {t:Nat} (h:t%16<15):held D t++[D.getD t 0]=held D (t+1):=by
 unfold held
 have e1:(t+1)%16=t%16+1:=by omega
 have e2:(t+1)/16=t/16:=by omega
 have e3:16*(t/16)+t%16=t:=by omega
 rw [e1,e2,List.range_succ,List.map_append,List.map_singleton,e3]
theorem ZM (D:List Int) {t:Nat} (h:t%16=15):held D t=[D.getD (16*(t/16)) 0,D.getD (16*(t/16)+1) 0,D.getD (16*(t/16)+2) 0,D.getD (16*(t/16)+3) 0,D.getD (16*(t/16)+4) 0,D.getD (16*(t/16)+5) 0,D.getD (16*(t/16)+6) 0,D.getD (16*(t/16)+7) 0,D.getD (16*(t/16)+8) 0,D.getD (16*(t/16)+9) 0,D.getD (16*(t/16)+10) 0,D.getD (16*(t/16)+11) 0,D.getD (16*(t/16)+12) 0,D.getD (16*(t/16)+13) 0,D.getD (16*(t/16)+14) 0]:=by
 unfold held;rw [h];rfl
theorem IJ (D:List Int) {t:Nat} (h:t%16=0):held D t=[]:=by unfold held;rw [h];rfl
theorem JA (D:List Int) {k:Nat} (h:16*k+16<=1073741824):aT D ((16*k:Nat):Int) 16=[D.getD (16*k) 0,D.getD (16*k+1) 0,D.getD (16*k+2) 0,D.getD (16*k+3) 0,D.getD (16*k+4) 0,D.getD (16*k+5) 0,D.getD (16*k+6) 0,D.getD (16*k+7) 0,D.getD (16*k+8) 0,D.getD (16*k+9) 0,D.getD (16*k+10) 0,D.getD (16*k+11) 0,D.getD (16*k+12) 0,D.getD (16*k+13) 0,D.getD (16*k+14) 0,D.getD (16*k+15) 0,1]:=by
 have e:aT D ((16*k:Nat):Int) 16=((List.range 16).map fun j:Nat=>D.getD (16*k+j) 0)++[1]:=by
  unfold aT
  congr 1
  refine List.map_congr_left fun j hj=>?_
  have hj:j<16:=by simpa using hj
  rw [IntWalk.i64_in _ ⟨by omega,by omega⟩]
  congr 1
 rw [e];rfl
theorem Nj (r:Int) {D:List Int} {k:Nat} (h:16*k+16<=D.length):acc r D (k+1)=((acc r D k+V (aT D ((16*k:Nat):Int) 16))*r)%p:=by
 show ((acc r D k+V (aT D (16*(k:Int)) (min 16 (D.length-16*k))))*r)%p=_
 rw [show min 16 (D.length-16*k)=16 from by omega,show (16*(k:Int))=((16*k:Nat):Int) from by omega]
theorem Kf {R:Int} (h0:0<=R) (h:R<bB):n3 (w0 R) (w1 R) (w2 R)=R:=by
 unfold n3 w0 w1 w2;unfold bB at h;omega
theorem RS (R:Int):U (w0 R)/\U (w1 R)/\U (w2 R):=by unfold U w0 w1 w2;omega
theorem XP:bB=p:=rfl
theorem Ia (x:Int):0<=x%bB/\x%bB<bB:=⟨Int.emod_nonneg _ (by decide),Int.emod_lt_of_pos _ (by decide)⟩
theorem step_eq {R Y S y0 y1:Int} (hS:S=(R+Y)%bB):(n3 (w0 S) (w1 S) (w2 S)*(y0+18446744073709551616*y1))%bB=((R+Y)*(y0+18446744073709551616*y1))%p:=by
 obtain ⟨h0,h1⟩:=Ia (R+Y)
 rw [<- hS] at h0 h1
 rw [Kf h0 h1,hS,XP,Int.mul_emod,Int.emod_emod_of_dvd _ (Int.dvd_refl p),<- Int.mul_emod]
def cat (d:Nat->List Int):List Int:=d 1++(d 2++(d 3++(d 4++d 5)))
def off (d:Nat->List Int):Nat->Nat
 | 0=>0
 | j+1=>off d j+(d (j+1)).length
theorem aCy (d:Nat->List Int):off d 5=(cat d).length:=by simp [off,cat];omega
theorem aBq (d:Nat->List Int) {J i:Nat} (hJ:J<5) (hi:i<(d (J+1)).length):(cat d).getD (off d J+i) 0=(d (J+1)).getD i 0:=by
 have L:∀ (a b:List Int) (n:Nat),n<a.length->(a++b).getD n 0=a.getD n 0:=fun a b n h=>by simp [gY,List.getElem?_append_left h]
 have R:∀ (a b:List Int) (n:Nat),(a++b).getD (a.length+n) 0=b.getD n 0:=fun a b n=>by simp [gY,List.getElem?_append_right]
 unfold cat
 match J,hJ with
 | 0,_=>rw [show off d 0+i=i from by simp [off],L _ _ _ hi]
 | 1,_=>rw [show off d 1+i=(d 1).length+i from by simp [off],R,L _ _ _ hi]
 | 2,_=>rw [show off d 2+i=(d 1).length+((d 2).length+i) from by simp [off];omega,R,R,L _ _ _ hi]
 | 3,_=>rw [show off d 3+i=(d 1).length+((d 2).length+((d 3).length+i)) from by simp [off];omega,R,R,R,L _ _ _ hi]
 | 4,_=>rw [show off d 4+i=(d 1).length+((d 2).length+((d 3).length+((d 4).length+i))) from by simp [off];omega,R,R,R,R]
theorem HV (d:Nat->List Int) {J:Nat} (hJ:J<5):off d J+(d (J+1)).length<=(cat d).length:=by
 rw [<- aCy]
 match J,hJ with
 | 0,_=>simp only [off];omega
 | 1,_=>simp only [off];omega
 | 2,_=>simp only [off];omega
 | 3,_=>simp only [off];omega
 | 4,_=>simp only [off];omega
theorem aIj (N:Int) {j:Nat} (h:j<16):nb (w0 N+18446744073709551616*w1 N) j=nb N j:=by
 have e:w0 N+18446744073709551616*w1 N=N%340282366920938463463374607431768211456:=by unfold w0 w1;omega
 rw [e]
 unfold nb
 have hk:∀ k:Nat,k<16->(256:Int)^16=256^k*(256*256^(15-k)):=fun k hk=>by
  have:(256:Int)^16=256^(k+(1+(15-k))):=by congr 1;omega
  rw [this,Int.pow_add,Int.pow_add];rfl
 have hP:(0:Int)<256^j:=Int.pow_pos (by decide)
 have e1:(340282366920938463463374607431768211456:Int)=256^j*(256*256^(15-j)):=by
  rw [<- hk j h];decide
 rw [e1]
 generalize (256:Int)^j=P at *
 generalize (256:Int)^(15-j)=Q
 have e2:N=N%(P*(256*Q))+P*(256*Q)*(N/(P*(256*Q))):=(Int.emod_add_mul_ediv N _).symm
 have e3:N/P=N%(P*(256*Q))/P+256*Q*(N/(P*(256*Q))):=by
  conv=>lhs;rw [e2,Int.mul_assoc,Int.add_mul_ediv_left _ _ (by omega)]
 rw [e3,Int.mul_assoc,Int.add_mul_emod_self_left]
theorem HI {key D:List Int} (hk:bX key) (hD:D.length%16=0) :
 tag key D=(List.range 16).map (nb (w0 (acc (V (cl key)) D (D.length/16)+(wQ key+18446744073709551616*xW key))+18446744073709551616*w1 (acc (V (cl key)) D (D.length/16)+(wQ key+18446744073709551616*xW key)))):=by
 unfold tag
 rw [UU (aJo hk),show (D.length+15)/16=D.length/16 from by omega,<- bAi key]
 have e:vs (fun j=>(hi key).getD j 0) 16=V (hi key):=aOj (hi key) 16 (by simp [hi])
 rw [e]
 refine List.map_congr_left fun j hj=>?_
 have hj:j<16:=by simpa using hj
 rw [aIj _ hj]
end M
theorem G.Ac {P:Program} {Γ Γ':Env} (hg:Γ'.aO=Γ.aO) {w0:World} {M:Nat->Prop} {B:aX} {N F0:Nat} {V0:bA} {cf:Cf} {K:List Fr} {s:St} {Q:Exit->Act->World->Prop} (h:G P Γ' w0 M B N F0 V0 cf K s Q):G P Γ w0 M B N F0 V0 cf K s Q:=
 fun V a w hi=>h V a w ⟨hi.tmp,hi.keys,hi.size,hi.defers,hi.eW,fun n l e=>hi.aO n l (hg ▸ e),hi.top,hi.le,hi.low,hi.ch,hi.nx,hi.hi⟩
theorem nP.Ac {Γ Γ':Env} (hg:Γ'.aO=Γ.aO) {B:aX} {F0:Nat} {V0:bA} (h:nP Γ B F0 V0):nP Γ' B F0 V0:=⟨h.top,fun n l e=>h.aO n l (hg ▸ e),h.cut,h.cells⟩
def C5 (c:Nat):Prop:=c=0\/c=6\/c=7\/c=8\/c=9
theorem sQ (hZ fN mV:Nat):cD Tryz.prog (ΓT hZ fN mV):=bL _ 22
theorem sR (hZ fN mV:Nat):cF Tryz.prog (ΓT hZ fN mV):=bV _ (aKq hZ fN mV) 22
theorem nX (a b c a' b' c':Nat):(ΓT a b c).aO=(ΓT a' b' c').aO:=by kernel_rfl
theorem aHq {c:Nat} (hc:C5 c):SgA c:=by
 rcases hc with rfl | rfl | rfl | rfl | rfl
 .exact aPx
 .exact aPw
 .exact aPv
 .exact aPu
 .exact aPt
theorem aHn {c:Nat} (hc:C5 c):SgX c:=by
 rcases hc with rfl | rfl | rfl | rfl | rfl
 .exact aPr
 .exact aPq
 .exact aPp
 .exact aPo
 .exact aPn
theorem aHp {c J:Nat} (hc:C5 c) (hJ:J<4):Ei c J:=by
 obtain rfl | rfl | rfl | rfl:J=0\/J=1\/J=2\/J=3:=by omega
 .rcases hc with rfl | rfl | rfl | rfl | rfl
  .exact aHi
  .exact aHe
  .exact aHa
  .exact aGw
  .exact aGs
 .rcases hc with rfl | rfl | rfl | rfl | rfl
  .exact aHh
  .exact aHd
  .exact aGz
  .exact aGv
  .exact aGr
 .rcases hc with rfl | rfl | rfl | rfl | rfl
  .exact aHg
  .exact aHc
  .exact aGy
  .exact aGu
  .exact aGq
 .rcases hc with rfl | rfl | rfl | rfl | rfl
  .exact aHf
  .exact aHb
  .exact aGx
  .exact aGt
  .exact aGp
theorem aHo {c hZ fN:Nat} (hc:C5 c) (Eo:hZ=7\/(hZ=8/\c≠0)) (Az:C5 fN):mY c hZ fN:=by
 rcases hc with rfl | rfl | rfl | rfl | rfl
 .rcases Eo with rfl | ⟨rfl,dI⟩
  .rcases Az with rfl | rfl | rfl | rfl | rfl
   .exact WW
   .exact WV
   .exact WU
   .exact WT
   .exact WS
  .exact (dI rfl).elim
 .rcases Eo with rfl | ⟨rfl,dI⟩
  .rcases Az with rfl | rfl | rfl | rfl | rfl
   .exact WR
   .exact WQ
   .exact WO
   .exact WN
   .exact WM
  .rcases Az with rfl | rfl | rfl | rfl | rfl
   .exact WL
   .exact WK
   .exact WJ
   .exact WI
   .exact WH
 .rcases Eo with rfl | ⟨rfl,dI⟩
  .rcases Az with rfl | rfl | rfl | rfl | rfl
   .exact WG
   .exact WE
   .exact WD
   .exact WC
   .exact WB
  .rcases Az with rfl | rfl | rfl | rfl | rfl
   .exact WA
   .exact VZ
   .exact VY
   .exact VX
   .exact VW
 .rcases Eo with rfl | ⟨rfl,dI⟩
  .rcases Az with rfl | rfl | rfl | rfl | rfl
   .exact VV
   .exact VU
   .exact VT
   .exact VS
   .exact VR
  .rcases Az with rfl | rfl | rfl | rfl | rfl
   .exact VQ
   .exact VP
   .exact VO
   .exact VN
   .exact VM
 .rcases Eo with rfl | ⟨rfl,dI⟩
  .rcases Az with rfl | rfl | rfl | rfl | rfl
   .exact VL
   .exact VK
   .exact VJ
   .exact VI
   .exact VH
  .rcases Az with rfl | rfl | rfl | rfl | rfl
   .exact VG
   .exact VF
   .exact VE
   .exact VD
   .exact VC
theorem JS {c m n:Nat} {ks held pN xs:List Int} {y0 y1 R j i':Int} {i:Nat} (hh:held.length<15) (hi:i<n) (hn:n=xs.length) (hl:n<=1073741824) (h':held++[xs.getD i 0]=pN) (fV:i'=((i+1:Nat):Int)) :
 ∀ q∈EI c m n ks held pN xs y0 y1 R j (i:Int) i',q:=by
 have e1:IntKind.i64.wrap ((i:Int)+1)=i':=by rw [fV,IntWalk.i64_in _ ⟨by omega,by omega⟩];omega
 have e2:((((held++[xs.getD i 0]).length:Int)==16)=false):=by
  rw [List.length_append,List.length_singleton]
  exact beq_eq_false_iff_ne.2 (by omega)
 have e3:(held.length+[xs.getD i 0].length)*1<=140737488355328:=by simp only [List.length_singleton];omega
 have e4:i<xs.length:=by omega
 have e5:(0:Int)<=(i:Int)/\(i:Int)<(n:Int):=by omega
 have e6:decide ((i:Int)<(n:Int))=true:=decide_eq_true e5.2
 refine aA ?_
 unfold EI
 rw [sJ]
 cases c with
 | zero=>exact ⟨e2,e3,e4,e5,e6,rfl,rfl,rfl,e1,⟨rfl,rfl⟩,rfl,rfl,rfl,rfl,h',rfl,trivial⟩
 | succ c=>exact ⟨e2,e3,e4,e5,e6,rfl,rfl,rfl,e1,⟨rfl,rfl⟩,rfl,rfl,rfl,rfl,rfl,rfl,rfl,h',rfl,rfl,trivial⟩
theorem JP {c m n:Nat} {ks held xs:List Int} {y0 y1 R j i J:Int} (hi:i=(n:Int)) (hj:j=J):∀ q∈EF c m n ks held xs y0 y1 R j i J,q:=by
 have e1:decide (i<(n:Int))=false:=kN (by omega)
 refine aA ?_
 unfold EF
 cases c with
 | zero=>exact ⟨e1,hj,rfl,rfl,rfl,⟨rfl,rfl⟩,rfl,rfl,rfl,rfl,rfl,rfl,trivial⟩
 | succ c=>exact ⟨e1,hj,rfl,rfl,rfl,⟨rfl,rfl⟩,rfl,rfl,rfl,rfl,rfl,rfl,rfl,rfl,rfl,rfl,trivial⟩
theorem JR {c m n:Nat} {ks held xs:List Int} {y0 y1 R j:Int}:∀ q∈EH c m n ks held xs y0 y1 R j,q:=by
 refine aA ?_
 unfold EH
 cases c with
 | zero=>exact ⟨rfl,rfl,rfl,rfl,⟨rfl,rfl⟩,rfl,rfl,rfl,rfl,rfl,rfl,trivial⟩
 | succ c=>exact ⟨rfl,rfl,rfl,rfl,⟨rfl,rfl⟩,rfl,rfl,rfl,rfl,rfl,rfl,rfl,rfl,rfl,rfl,trivial⟩
open M in
theorem JQ {c hZ fN m n:Nat} {ks xs:List Int} {y0 y1 R R' b0 b1 b2 b3 b4 b5 b6 b7 b8 b9 cY cX cW dB dA x j i' S:Int} {i:Nat} (hS:0<=S/\S<bB) (hm:m=nl [y0,y1]) (Az:fN=if ln S=0\/m=0 then 0 else ln S+m+4)
 (fB:U y0) (gW:U y1) (hy:y0+18446744073709551616*y1<21267647932558653966460912964485513216) (Eo:hZ=7/\(c≠0->ln R=0)\/hZ=8/\ln R≠0) (hR:0<=R/\R<bB)
 (hb:bX [b0,b1,b2,b3,b4,b5,b6,b7,b8,b9,cY,cX,cW,dB,dA,x,1]) (hi:i<n) (hn:n=xs.length) (hl:n<=1073741824) (fV:i'=((i+1:Nat):Int)) (hR':R'=Wx S y0 y1) :
 ∀ q∈EG c hZ fN m n ks xs y0 y1 R R' b0 b1 b2 b3 b4 b5 b6 b7 b8 b9 cY cX cW dB dA x j (i:Int) i' S,q:=by
 have e1:IntKind.i64.wrap ((i:Int)+1)=i':=by rw [fV,IntWalk.i64_in _ ⟨by omega,by omega⟩];omega
 have e4:i<xs.length:=by omega
 have e5:(0:Int)<=(i:Int)/\(i:Int)<(n:Int):=by omega
 have e6:decide ((i:Int)<(n:Int))=true:=decide_eq_true e5.2
 have u:=RS S
 have v:=RS R
 have s1:n3 (w0 S) (w1 S) (w2 S)<bB:=by rw [Kf hS.1 hS.2];exact hS.2
 have r1:n3 (w0 R) (w1 R) (w2 R)<bB:=by rw [Kf hR.1 hR.2];exact hR.2
 have v0:U (V [b0,b1,b2,b3,b4,b5,b6,b7]):=Ye (bX.bN (hb b0 (by simp)) (bX.bN (hb b1 (by simp)) (bX.bN (hb b2 (by simp)) (bX.bN (hb b3 (by simp)) (bX.bN (hb b4 (by simp)) (bX.bN (hb b5 (by simp)) (bX.bN (hb b6 (by simp)) (bX.bN (hb b7 (by simp)) bX.Ph)))))))) rfl
 have v1:U (V [b8,b9,cY,cX,cW,dB,dA,x]):=Ye (bX.bN (hb b8 (by simp)) (bX.bN (hb b9 (by simp)) (bX.bN (hb cY (by simp)) (bX.bN (hb cX (by simp)) (bX.bN (hb cW (by simp)) (bX.bN (hb dB (by simp)) (bX.bN (hb dA (by simp)) (bX.bN (hb x (by simp)) bX.Ph)))))))) rfl
 subst hR'
 unfold EG
 rw [sJ]
 intro q hq
 rcases List.mem_append.1 hq with hq | hq
 .exact aA (l:=[ln S=nl [w0 S,w1 S,w2 S],m=nl [y0,y1],fN=(if ln S=0\/m=0 then 0 else ln S+m+4),U (w0 S),U (w1 S),U (w2 S),n3 (w0 S) (w1 S) (w2 S)<bB,U y0,U y1,y0+18446744073709551616*y1<21267647932558653966460912964485513216,0=0,ln S=ln S,hZ=hZ,0=0,m=m,6=6,w0 S::w1 S::w2 S::List.replicate (hZ-3) 0=w0 S::w1 S::w2 S::List.replicate (hZ-3) 0,[y0,y1,0,0,0,0]=[y0,y1,0,0,0,0]]) ⟨rfl,hm,Az,u.1,u.2.1,u.2.2,s1,fB,gW,hy,rfl,rfl,rfl,rfl,rfl,rfl,rfl,rfl,trivial⟩ q hq
 .rcases List.mem_append.1 hq with hq | hq
  .cases c with
   | zero=>cases hq
   | succ c=>
     rcases Eo with ⟨rfl,h0⟩ | ⟨rfl,h0⟩
     .exact aA (l:=[ln R=nl [w0 R,w1 R,w2 R],ln R=0]) ⟨rfl,h0 (by omega),trivial⟩ q hq
     .exact aA (l:=[ln R=nl [w0 R,w1 R,w2 R],ln R≠0,U (w0 R),U (w1 R),U (w2 R),n3 (w0 R) (w1 R) (w2 R)<bB]) ⟨rfl,h0,v.1,v.2.1,v.2.2,r1,trivial⟩ q hq
  .rcases List.mem_append.1 hq with hq | hq
   .exact aA (l:=[U (V [b0,b1,b2,b3,b4,b5,b6,b7]),U (V [b8,b9,cY,cX,cW,dB,dA,x]),(1:Int)=1]) ⟨v0,v1,rfl,trivial⟩ q hq
   .rcases List.mem_append.1 hq with hq | hq
    .cases c with
     | zero=>cases hq
     | succ c=>exact aA (l:=[0=0,ln R=ln R,c+1=c+1,w0 R::w1 R::w2 R::List.replicate (c+1-3) 0=w0 R::w1 R::w2 R::List.replicate (c+1-3) 0]) ⟨rfl,rfl,rfl,rfl,trivial⟩ q hq
    .rcases List.mem_append.1 hq with hq | hq
     .refine aA ?_ q hq
      exact ⟨rfl,hb,rfl,rfl,rfl,e4,e5,e6,rfl,rfl,rfl,e1,⟨rfl,rfl⟩,rfl,rfl,rfl,rfl,trivial⟩
     .cases fN with
      | zero=>exact aA (l:=[([]:List Int)=[],xs=xs]) ⟨rfl,rfl,trivial⟩ q hq
      | succ fN=>
        refine aA ?_ q hq
        exact ⟨rfl,rfl,rfl,rfl,rfl,rfl,trivial⟩
namespace M
def rm (S:Int) (m:Nat):Nat:=if ln S=0\/m=0 then 0 else ln S+m+4
theorem aCq (S y0 y1:Int):C5 (rm S (nl [y0,y1])):=by
 unfold rm C5
 split
 .exact Or.inl rfl
 .rename_i h
  have h3:ln S<=3:=by unfold ln;rcases nl3 (w0 S) (w1 S) (w2 S) with h | h | h | h <;> omega
  have h2:nl [y0,y1]<=2:=by rcases QO y0 y1 with h | h | h <;> omega
  omega
theorem ln0 {S:Int} (h0:0<=S) (h1:S<bB) (h:ln S=0):S=0:=by
 have e:=Kf h0 h1
 unfold ln at h
 rcases nl3 (w0 S) (w1 S) (w2 S) with ⟨_,a,b,c⟩ | h' | h' | h'
 .rw [<- e,a,b,c];rfl
 all_goals omega
theorem XD {S y0 y1:Int} (h0:0<=S) (h1:S<bB) (h:rm S (nl [y0,y1])=0):Wx S y0 y1=0:=by
 unfold rm at h
 split at h
 .rename_i h2
  unfold Wx
  rw [Kf h0 h1]
  rcases h2 with h2 | h2
  .rw [ln0 h0 h1 h2];simp
  .rcases QO y0 y1 with ⟨_,rfl,rfl⟩ | h' | h'
   .simp
   all_goals omega
 .omega
end M
def PN (c:Nat) (R:Int):Prop:=C5 c/\(c=0->R=0)/\0<=R/\R<M.bB
theorem JO {c:Nat} {R Y:Int} (h:PN c R):EE c R Y=(R+Y)%M.bB:=by
 obtain ⟨hc,h0,h1,h2⟩:=h
 cases c with
 | zero=>rw [h0 rfl];rfl
 | succ c=>show (M.n3 (M.w0 R) (M.w1 R) (M.w2 R)+Y)%M.bB=_;rw [M.Kf h1 h2]
noncomputable def PL (key:List Int) (d:Nat->List Int) (j:SV) (J:Nat) (i:Int) (c:Nat) (R:Int) (t:Nat):St:=Ap j (d (J+1)).length i (M.kS key) (M.tO key) (M.sB key) (M.nl [M.tO key,M.sB key]) c R (M.held (M.cat d) t) (d (J+1))
def eH (key:List Int) (d:Nat->List Int) (t:Nat):Int:=M.acc (M.tO key+18446744073709551616*M.sB key) (M.cat d) (t/16)
set_option maxHeartbeats 4000000 in
theorem Me {mV:Nat} {key:List Int} {d:Nat->List Int} (hk:bX key) (hd:bX (M.cat d)) (hl:(M.cat d).length<=1073741824) {J:Nat} (hJ:J<5) {w0:World} {Mx:Nat->Prop} {V0:bA} (hb:nP (ΓT 7 0 mV) (aZ 100 (yN d)) 100 V0) {K:List Fr} {Q:Exit->Act->World->Prop}
 (hx:∀ c,PN c (eH key d (M.off d (J+1)))->G Tryz.prog (ΓT 7 0 mV) w0 Mx (aZ 100 (yN d)) Tryz.f38.ntmps 100 V0 (.at (.exit 5)) K (PL key d (.int true .i64 (J:Nat)) J (d (J+1)).length c (eH key d (M.off d (J+1))) (M.off d (J+1))) Q)
 {c:Nat} (hc:PN c (eH key d (M.off d J))):G Tryz.prog (ΓT 7 0 mV) w0 Mx (aZ 100 (yN d)) Tryz.f38.ntmps 100 V0 (.go (.loop oW)) K (PL key d (.int false .i64 (J:Nat)) J 0 c (eH key d (M.off d J)) (M.off d J)) Q:=by
 obtain ⟨u0,u1,u2⟩:=M.aWm hk
 have tX:=M.HV d hJ
 have Ef:nP (ΓT 7 0 0) (aZ 100 (yN d)) 100 V0:=hb.Ac (nX _ _ _ _ _ _)
 refine G.loop (fun r s=>∃ i c:Nat,i<=(d (J+1)).length/\r=(d (J+1)).length-i/\PN c (eH key d (M.off d J+i))/\s=PL key d (.int false .i64 (J:Nat)) J (i:Nat) c (eH key d (M.off d J+i)) (M.off d J+i)) (r0:=(d (J+1)).length) ⟨0,c,by omega,rfl,hc,rfl⟩ ?_
 rintro r s ⟨i,c,hi,rfl,hR,rfl⟩
 by_cases cM:i<(d (J+1)).length
 .have rZ:=M.aBq d hJ cM
  by_cases h15:(M.off d J+i)%16=15
  ·
   have zH:(M.off d J+i+1)/16=(M.off d J+i)/16+1:=by omega
   have tQ:16*((M.off d J+i)/16)+16<=(M.cat d).length:=by omega
   have FV:(M.cat d).getD (16*((M.off d J+i)/16)+15) 0=(d (J+1)).getD i 0:=by rw [<- rZ];congr 1;omega
   have fF:=M.JA (M.cat d) (k:=(M.off d J+i)/16) (by omega)
   have Xg:=M.aBv hd ((16*((M.off d J+i)/16):Nat):Int) 16
   rw [fF,FV] at Xg
   have aXl:=M.Nj (M.tO key+18446744073709551616*M.sB key) tQ
   obtain ⟨hC,hR0,hR1,hR2⟩:=hR
   have hR:PN c (eH key d (M.off d J+i)):=⟨hC,hR0,hR1,hR2⟩
   generalize hRR:eH key d (M.off d J+i)=R at *
   have hS:=JO (Y:=M.V (M.aT (M.cat d) ((16*((M.off d J+i)/16):Nat):Int) 16)) hR
   generalize hSS:EE c R (M.V (M.aT (M.cat d) ((16*((M.off d J+i)/16):Nat):Int) 16))=S at *
   have hSb:0<=S/\S<M.bB:=by rw [hS];exact M.Ia _
   have hQ:eH key d (M.off d J+(i+1))=Wx S (M.tO key) (M.sB key):=by
    show M.acc _ (M.cat d) ((M.off d J+(i+1))/16)=_
    rw [<- Nat.add_assoc,zH,aXl]
    unfold Wx
    rw [M.step_eq hS,<- hRR]
    rfl
   obtain ⟨hZ,Eo,aRw⟩:∃ hZ,(hZ=7\/(hZ=8/\c≠0))/\(hZ=7/\(c≠0->M.ln R=0)\/hZ=8/\M.ln R≠0):=by
    by_cases h:M.ln R=0
    .exact ⟨7,Or.inl rfl,Or.inl ⟨rfl,fun _=>h⟩⟩
    .by_cases Ae:c=0
     .exact ⟨7,Or.inl rfl,Or.inl ⟨rfl,fun dI=>(dI Ae).elim⟩⟩
     .exact ⟨8,Or.inr ⟨rfl,Ae⟩,Or.inr ⟨rfl,h⟩⟩
   have dY:=aHo hC Eo (M.aCq S (M.tO key) (M.sB key))
   have aRm:M.rm S (M.nl [M.tO key,M.sB key])=0->Wx S (M.tO key) (M.sB key)=0:=M.XD hSb.1 hSb.2
   have aRl:=M.aCq S (M.tO key) (M.sB key)
   have aRk:M.rm S (M.nl [M.tO key,M.sB key])=if M.ln S=0\/M.nl [M.tO key,M.sB key]=0 then 0 else M.ln S+M.nl [M.tO key,M.sB key]+4:=rfl
   generalize M.rm S (M.nl [M.tO key,M.sB key])=fN at *
   refine G.op 9 0 ?_
   unfold PL
   rw [M.ZM _ h15]
   have hr:=dY (M.kS key) d (M.tO key) (M.sB key) (M.nl [M.tO key,M.sB key]) R (Wx S (M.tO key) (M.sB key)) ((M.cat d).getD (16*((M.off d J+i)/16)) 0) ((M.cat d).getD (16*((M.off d J+i)/16)+1) 0) ((M.cat d).getD (16*((M.off d J+i)/16)+2) 0) ((M.cat d).getD (16*((M.off d J+i)/16)+3) 0) ((M.cat d).getD (16*((M.off d J+i)/16)+4) 0) ((M.cat d).getD (16*((M.off d J+i)/16)+5) 0) ((M.cat d).getD (16*((M.off d J+i)/16)+6) 0) ((M.cat d).getD (16*((M.off d J+i)/16)+7) 0) ((M.cat d).getD (16*((M.off d J+i)/16)+8) 0) ((M.cat d).getD (16*((M.off d J+i)/16)+9) 0) ((M.cat d).getD (16*((M.off d J+i)/16)+10) 0) ((M.cat d).getD (16*((M.off d J+i)/16)+11) 0) ((M.cat d).getD (16*((M.off d J+i)/16)+12) 0) ((M.cat d).getD (16*((M.off d J+i)/16)+13) 0) ((M.cat d).getD (16*((M.off d J+i)/16)+14) 0) (d (J+1)) (J:Nat) (d (J+1)).length (i:Nat) ((i+1:Nat):Int)
   refine G.Ac (Γ':=ΓT hZ fN 0) (nX _ _ _ _ _ _) ?_
   refine G.eJ (sQ _ _ _) (sR _ _ _) mix (hb.Ac (nX _ _ _ _ _ _)) [true] hr ?_ (G.Ac (Γ':=ΓT 7 0 mV) (nX _ _ _ _ _ _) (G.again fun V _ _ fV=>⟨(d (J+1)).length-(i+1),by omega,_,⟨i+1,fN,by omega,rfl,?_,?_⟩,V,fV⟩))
   .rw [sJ,<- M.bAj,<- FV,<- fF,hSS]
    rw [<- FV] at Xg
    exact JQ hSb rfl aRk u0 u1 u2 aRw ⟨hR1,hR2⟩ Xg cM rfl (by omega) rfl rfl
   .rw [hQ]
    exact ⟨aRl,aRm,by unfold Wx;exact (M.Ia _).1,by unfold Wx;exact (M.Ia _).2⟩
   .rw [hQ]
    show _=Ap _ _ _ _ _ _ _ _ _ (M.held (M.cat d) (M.off d J+(i+1))) _
    rw [M.IJ _ (by omega)]
    rfl
  ·
   have zH:(M.off d J+(i+1))/16=(M.off d J+i)/16:=by omega
   have hQ:eH key d (M.off d J+(i+1))=eH key d (M.off d J+i):=by unfold eH;rw [zH]
   have hh:M.held (M.cat d) (M.off d J+i)++[(d (J+1)).getD i 0]=M.held (M.cat d) (M.off d J+(i+1)):=by rw [<- rZ];exact M.Zh _ (by omega)
   refine G.Ac (Γ':=ΓT 7 0 0) (nX _ _ _ _ _ _) ?_
   refine G.eJ (sQ _ _ _) (sR _ _ _) mix Ef [true,false] (aHq hR.1 (M.kS key) d (M.tO key) (M.sB key) (M.nl [M.tO key,M.sB key]) _ _ (M.held (M.cat d) (M.off d J+(i+1))) (d (J+1)) (J:Nat) (d (J+1)).length (i:Nat) ((i+1:Nat):Int)) ?_ (G.Ac (Γ':=ΓT 7 0 mV) (nX _ _ _ _ _ _) (G.again fun V _ _ fV=>⟨(d (J+1)).length-(i+1),by omega,_,⟨i+1,c,by omega,rfl,?_,?_⟩,V,fV⟩))
   .exact JS (by rw [M.Nu];omega) cM rfl (by omega) hh rfl
   .rw [hQ];exact hR
   .rw [hQ];rfl
 .obtain rfl:i=(d (J+1)).length:=by omega
  refine G.Ac (Γ':=ΓT 7 0 0) (nX _ _ _ _ _ _) ?_
  refine G.eJ (sQ _ _ _) (sR _ _ _) mix Ef [false] (aHn hR.1 (M.kS key) d (M.tO key) (M.sB key) (M.nl [M.tO key,M.sB key]) _ _ (d (J+1)) (J:Nat) (d (J+1)).length ((d (J+1)).length:Nat) (J:Nat)) (JP rfl rfl) (G.Ac (Γ':=ΓT 7 0 mV) (nX _ _ _ _ _ _) (G.leave (fun h=>by cases h) ?_))
  exact hx c hR
theorem aHm (d:Nat->List Int) (y0 y1:Int) (m:Nat) (R:Int) (k:Nat->Int) (xs:List Int) (n:Nat) (i:Int) :
 Kq (ΓT 7 0 0) (yN d) 100 100 Tryz.f38 (BR 7 0 0 d (.at (.exit 5)) (wV 4) ((Ap (.int true .i64 4) n i [k 0,k 1,k 2,k 3,k 4,k 5,k 6,k 7,k 8,k 9,k 10,k 11,k 12,k 13,k 14,k 15,k 16,k 17,k 18,k 19,k 20,k 21,k 22,k 23,k 24,k 25,k 26,k 27,k 28,k 29,k 30,k 31] y0 y1 m 0 R [] xs).hint [false])) =
 sh (0:Int) fun z0=>
 sh (0:Nat) fun z1=>
 some {bO:=[z1=M.nl [M.V [k 16,k 17,k 18,k 19,k 20,k 21,k 22,k 23],M.V [k 24,k 25,k 26,k 27,k 28,k 29,k 30,k 31]],z1=z1,M.nl [M.V [k 16,k 17,k 18,k 19,k 20,k 21,k 22,k 23],M.V [k 24,k 25,k 26,k 27,k 28,k 29,k 30,k 31]]=z1,(6:Nat)=(6:Nat),[M.V [k 16,k 17,k 18,k 19,k 20,k 21,k 22,k 23],M.V [k 24,k 25,k 26,k 27,k 28,k 29,k 30,k 31],z0,z0,z0,z0]=[M.V [k 16,k 17,k 18,k 19,k 20,k 21,k 22,k 23],M.V [k 24,k 25,k 26,k 27,k 28,k 29,k 30,k 31],z0,z0,z0,z0],bX [k 0,k 1,k 2,k 3,k 4,k 5,k 6,k 7,k 8,k 9,k 10,k 11,k 12,k 13,k 14,k 15,k 16,k 17,k 18,k 19,k 20,k 21,k 22,k 23,k 24,k 25,k 26,k 27,k 28,k 29,k 30,k 31],[k 0,k 1,k 2,k 3,k 4,k 5,k 6,k 7,k 8,k 9,k 10,k 11,k 12,k 13,k 14,k 15,k 16,k 17,k 18,k 19,k 20,k 21,k 22,k 23,k 24,k 25,k 26,k 27,k 28,k 29,k 30,k 31]=[k 0,k 1,k 2,k 3,k 4,k 5,k 6,k 7,k 8,k 9,k 10,k 11,k 12,k 13,k 14,k 15,k 16,k 17,k 18,k 19,k 20,k 21,k 22,k 23,k 24,k 25,k 26,k 27,k 28,k 29,k 30,k 31],false=false],val:=SV.agg [SV.int false IntKind.u8 z0,SV.int false IntKind.u8 z0,SV.int false IntKind.u8 z0,SV.int false IntKind.u8 z0,SV.int false IntKind.u8 z0,SV.int false IntKind.u8 z0,SV.int false IntKind.u8 z0,SV.int false IntKind.u8 z0,SV.int false IntKind.u8 z0,SV.int false IntKind.u8 z0,SV.int false IntKind.u8 z0,SV.int false IntKind.u8 z0,SV.int false IntKind.u8 z0,SV.int false IntKind.u8 z0,SV.int false IntKind.u8 z0,SV.int false IntKind.u8 z0]}:=by kernel_rfl
theorem aHl (d:Nat->List Int) (y0 y1:Int) (m:Nat) (R:Int) (k:Nat->Int) (xs:List Int) (n:Nat) (i:Int) :
 Kq (ΓT 7 0 1) (yN d) 100 100 Tryz.f38 (BR 7 0 1 d (.at (.exit 5)) (wV 4) ((Ap (.int true .i64 4) n i [k 0,k 1,k 2,k 3,k 4,k 5,k 6,k 7,k 8,k 9,k 10,k 11,k 12,k 13,k 14,k 15,k 16,k 17,k 18,k 19,k 20,k 21,k 22,k 23,k 24,k 25,k 26,k 27,k 28,k 29,k 30,k 31] y0 y1 m 0 R [] xs).hint [false])) =
 sh (M.V [k 16,k 17,k 18,k 19,k 20,k 21,k 22,k 23]) fun z0=>
 sh (0:Int) fun z1=>
 sh (1:Nat) fun z2=>
 sh (0:Nat) fun z3=>
 some {bO:=[M.U z0,z3=z3,z2=z2,z2=z2,[M.V [k 16,k 17,k 18,k 19,k 20,k 21,k 22,k 23]]=[M.V [k 16,k 17,k 18,k 19,k 20,k 21,k 22,k 23]],z2=M.nl [M.V [k 16,k 17,k 18,k 19,k 20,k 21,k 22,k 23],M.V [k 24,k 25,k 26,k 27,k 28,k 29,k 30,k 31]],z3=z3,M.nl [M.V [k 16,k 17,k 18,k 19,k 20,k 21,k 22,k 23],M.V [k 24,k 25,k 26,k 27,k 28,k 29,k 30,k 31]]=z2,(6:Nat)=(6:Nat),[M.V [k 16,k 17,k 18,k 19,k 20,k 21,k 22,k 23],M.V [k 24,k 25,k 26,k 27,k 28,k 29,k 30,k 31],z1,z1,z1,z1]=[M.V [k 16,k 17,k 18,k 19,k 20,k 21,k 22,k 23],M.V [k 24,k 25,k 26,k 27,k 28,k 29,k 30,k 31],z1,z1,z1,z1],bX [k 0,k 1,k 2,k 3,k 4,k 5,k 6,k 7,k 8,k 9,k 10,k 11,k 12,k 13,k 14,k 15,k 16,k 17,k 18,k 19,k 20,k 21,k 22,k 23,k 24,k 25,k 26,k 27,k 28,k 29,k 30,k 31],[k 0,k 1,k 2,k 3,k 4,k 5,k 6,k 7,k 8,k 9,k 10,k 11,k 12,k 13,k 14,k 15,k 16,k 17,k 18,k 19,k 20,k 21,k 22,k 23,k 24,k 25,k 26,k 27,k 28,k 29,k 30,k 31]=[k 0,k 1,k 2,k 3,k 4,k 5,k 6,k 7,k 8,k 9,k 10,k 11,k 12,k 13,k 14,k 15,k 16,k 17,k 18,k 19,k 20,k 21,k 22,k 23,k 24,k 25,k 26,k 27,k 28,k 29,k 30,k 31],false=false],val:=SV.agg [SV.int false IntKind.u8 (M.nb z0 z3),SV.int false IntKind.u8 (M.nb z0 z2),SV.int false IntKind.u8 (M.nb z0 (2:Nat)),SV.int false IntKind.u8 (M.nb z0 (3:Nat)),SV.int false IntKind.u8 (M.nb z0 (4:Nat)),SV.int false IntKind.u8 (M.nb z0 (5:Nat)),SV.int false IntKind.u8 (M.nb z0 (6:Nat)),SV.int false IntKind.u8 (M.nb z0 (7:Nat)),SV.int false IntKind.u8 (M.nb z0 (8:Nat)),SV.int false IntKind.u8 (M.nb z0 (9:Nat)),SV.int false IntKind.u8 (M.nb z0 (10:Nat)),SV.int false IntKind.u8 (M.nb z0 (11:Nat)),SV.int false IntKind.u8 (M.nb z0 (12:Nat)),SV.int false IntKind.u8 (M.nb z0 (13:Nat)),SV.int false IntKind.u8 (M.nb z0 (14:Nat)),SV.int false IntKind.u8 (M.nb z0 (15:Nat))]}:=by kernel_rfl
theorem aHk (d:Nat->List Int) (y0 y1:Int) (m:Nat) (R:Int) (k:Nat->Int) (xs:List Int) (n:Nat) (i:Int) :
 Kq (ΓT 7 0 2) (yN d) 100 100 Tryz.f38 (BR 7 0 2 d (.at (.exit 5)) (wV 4) ((Ap (.int true .i64 4) n i [k 0,k 1,k 2,k 3,k 4,k 5,k 6,k 7,k 8,k 9,k 10,k 11,k 12,k 13,k 14,k 15,k 16,k 17,k 18,k 19,k 20,k 21,k 22,k 23,k 24,k 25,k 26,k 27,k 28,k 29,k 30,k 31] y0 y1 m 0 R [] xs).hint [false])) =
 sh (M.V [k 16,k 17,k 18,k 19,k 20,k 21,k 22,k 23]+(18446744073709551616:Int)*M.V [k 24,k 25,k 26,k 27,k 28,k 29,k 30,k 31]) fun z0=>
 sh (0:Int) fun z1=>
 sh (6:Nat) fun z2=>
 sh (2:Nat) fun z3=>
 sh (0:Nat) fun z4=>
 some {bO:=[z2=z2\/z2=(7:Nat)\/z2=(8:Nat)\/z2=(9:Nat),M.U (M.V [k 16,k 17,k 18,k 19,k 20,k 21,k 22,k 23]),M.U (M.V [k 24,k 25,k 26,k 27,k 28,k 29,k 30,k 31]),z1<=z1/\z1<(8:Int),z3=M.nl [M.V [k 16,k 17,k 18,k 19,k 20,k 21,k 22,k 23],M.V [k 24,k 25,k 26,k 27,k 28,k 29,k 30,k 31],z1],z4=z4,z3=z3,z2=z2,[M.V [k 16,k 17,k 18,k 19,k 20,k 21,k 22,k 23],M.V [k 24,k 25,k 26,k 27,k 28,k 29,k 30,k 31],z1,z1,z1,z1]=[M.V [k 16,k 17,k 18,k 19,k 20,k 21,k 22,k 23],M.V [k 24,k 25,k 26,k 27,k 28,k 29,k 30,k 31],z1,z1,z1,z1],z3=M.nl [M.V [k 16,k 17,k 18,k 19,k 20,k 21,k 22,k 23],M.V [k 24,k 25,k 26,k 27,k 28,k 29,k 30,k 31]],z4=z4,M.nl [M.V [k 16,k 17,k 18,k 19,k 20,k 21,k 22,k 23],M.V [k 24,k 25,k 26,k 27,k 28,k 29,k 30,k 31]]=z3,z2=z2,[M.V [k 16,k 17,k 18,k 19,k 20,k 21,k 22,k 23],M.V [k 24,k 25,k 26,k 27,k 28,k 29,k 30,k 31],z1,z1,z1,z1]=[M.V [k 16,k 17,k 18,k 19,k 20,k 21,k 22,k 23],M.V [k 24,k 25,k 26,k 27,k 28,k 29,k 30,k 31],z1,z1,z1,z1],bX [k 0,k 1,k 2,k 3,k 4,k 5,k 6,k 7,k 8,k 9,k 10,k 11,k 12,k 13,k 14,k 15,k 16,k 17,k 18,k 19,k 20,k 21,k 22,k 23,k 24,k 25,k 26,k 27,k 28,k 29,k 30,k 31],[k 0,k 1,k 2,k 3,k 4,k 5,k 6,k 7,k 8,k 9,k 10,k 11,k 12,k 13,k 14,k 15,k 16,k 17,k 18,k 19,k 20,k 21,k 22,k 23,k 24,k 25,k 26,k 27,k 28,k 29,k 30,k 31]=[k 0,k 1,k 2,k 3,k 4,k 5,k 6,k 7,k 8,k 9,k 10,k 11,k 12,k 13,k 14,k 15,k 16,k 17,k 18,k 19,k 20,k 21,k 22,k 23,k 24,k 25,k 26,k 27,k 28,k 29,k 30,k 31],false=false],val:=SV.agg [SV.int false IntKind.u8 (M.nb z0 z4),SV.int false IntKind.u8 (M.nb z0 (1:Nat)),SV.int false IntKind.u8 (M.nb z0 z3),SV.int false IntKind.u8 (M.nb z0 (3:Nat)),SV.int false IntKind.u8 (M.nb z0 (4:Nat)),SV.int false IntKind.u8 (M.nb z0 (5:Nat)),SV.int false IntKind.u8 (M.nb z0 z2),SV.int false IntKind.u8 (M.nb z0 (7:Nat)),SV.int false IntKind.u8 (M.nb z0 (8:Nat)),SV.int false IntKind.u8 (M.nb z0 (9:Nat)),SV.int false IntKind.u8 (M.nb z0 (10:Nat)),SV.int false IntKind.u8 (M.nb z0 (11:Nat)),SV.int false IntKind.u8 (M.nb z0 (12:Nat)),SV.int false IntKind.u8 (M.nb z0 (13:Nat)),SV.int false IntKind.u8 (M.nb z0 (14:Nat)),SV.int false IntKind.u8 (M.nb z0 (15:Nat))]}:=by kernel_rfl
theorem aUf {c:Nat} (hc:c=6\/c=7\/c=8\/c=9) (mV:Nat) (d:Nat->List Int) (y0 y1:Int) (m:Nat) (R:Int) (k:Nat->Int) (xs:List Int) (n:Nat) (i:Int) :
 Kq (ΓT 7 0 mV) (yN d) 100 100 Tryz.f38 (BR 7 0 mV d (.at (.exit 5)) (wV 4) ((Ap (.int true .i64 4) n i [k 0,k 1,k 2,k 3,k 4,k 5,k 6,k 7,k 8,k 9,k 10,k 11,k 12,k 13,k 14,k 15,k 16,k 17,k 18,k 19,k 20,k 21,k 22,k 23,k 24,k 25,k 26,k 27,k 28,k 29,k 30,k 31] y0 y1 m c R [] xs).hint [false])) =
 sh (18446744073709551616:Int) fun z4=>
 sh (M.n3 (M.w0 R) (M.w1 R) (M.w2 R)+(M.V [k 16,k 17,k 18,k 19,k 20,k 21,k 22,k 23]+z4*M.V [k 24,k 25,k 26,k 27,k 28,k 29,k 30,k 31])) fun z0=>
 sh (M.w0 z0+z4*M.w1 z0) fun z1=>
 sh (0:Int) fun z2=>
 sh (0:Nat) fun z3=>
 some {bO:=[c=6\/c=7\/c=8\/c=9,M.U (M.w0 z0),M.U (M.w1 z0),z2<=M.w2 z0/\M.w2 z0<(8:Int),M.ln z0=M.nl [M.w0 z0,M.w1 z0,M.w2 z0],z3=z3,M.ln z0=M.ln z0,c=c,[M.w0 z0,M.w1 z0,M.w2 z0]++List.replicate (c-3) z2=[M.w0 z0,M.w1 z0,M.w2 z0]++List.replicate (c-3) z2,c=6\/c=7\/c=8\/c=9,M.U (M.w0 R),M.U (M.w1 R),z2<=M.w2 R/\M.w2 R<(4:Int),M.U (M.V [k 16,k 17,k 18,k 19,k 20,k 21,k 22,k 23]),M.U (M.V [k 24,k 25,k 26,k 27,k 28,k 29,k 30,k 31]),M.ln R=M.nl [M.w0 R,M.w1 R,M.w2 R],M.nl [M.V [k 16,k 17,k 18,k 19,k 20,k 21,k 22,k 23],M.V [k 24,k 25,k 26,k 27,k 28,k 29,k 30,k 31]]=M.nl [M.V [k 16,k 17,k 18,k 19,k 20,k 21,k 22,k 23],M.V [k 24,k 25,k 26,k 27,k 28,k 29,k 30,k 31]],z3=z3,M.ln R=M.ln R,c=c,z3=z3,M.nl [M.V [k 16,k 17,k 18,k 19,k 20,k 21,k 22,k 23],M.V [k 24,k 25,k 26,k 27,k 28,k 29,k 30,k 31]]=M.nl [M.V [k 16,k 17,k 18,k 19,k 20,k 21,k 22,k 23],M.V [k 24,k 25,k 26,k 27,k 28,k 29,k 30,k 31]],(6:Nat)=(6:Nat),[M.w0 R,M.w1 R,M.w2 R]++List.replicate (c-3) z2=[M.w0 R,M.w1 R,M.w2 R]++List.replicate (c-3) z2,[M.V [k 16,k 17,k 18,k 19,k 20,k 21,k 22,k 23],M.V [k 24,k 25,k 26,k 27,k 28,k 29,k 30,k 31],z2,z2,z2,z2]=[M.V [k 16,k 17,k 18,k 19,k 20,k 21,k 22,k 23],M.V [k 24,k 25,k 26,k 27,k 28,k 29,k 30,k 31],z2,z2,z2,z2],bX [k 0,k 1,k 2,k 3,k 4,k 5,k 6,k 7,k 8,k 9,k 10,k 11,k 12,k 13,k 14,k 15,k 16,k 17,k 18,k 19,k 20,k 21,k 22,k 23,k 24,k 25,k 26,k 27,k 28,k 29,k 30,k 31],[k 0,k 1,k 2,k 3,k 4,k 5,k 6,k 7,k 8,k 9,k 10,k 11,k 12,k 13,k 14,k 15,k 16,k 17,k 18,k 19,k 20,k 21,k 22,k 23,k 24,k 25,k 26,k 27,k 28,k 29,k 30,k 31]=[k 0,k 1,k 2,k 3,k 4,k 5,k 6,k 7,k 8,k 9,k 10,k 11,k 12,k 13,k 14,k 15,k 16,k 17,k 18,k 19,k 20,k 21,k 22,k 23,k 24,k 25,k 26,k 27,k 28,k 29,k 30,k 31],false=false],val:=SV.agg [SV.int false IntKind.u8 (M.nb z1 z3),SV.int false IntKind.u8 (M.nb z1 (1:Nat)),SV.int false IntKind.u8 (M.nb z1 (2:Nat)),SV.int false IntKind.u8 (M.nb z1 (3:Nat)),SV.int false IntKind.u8 (M.nb z1 (4:Nat)),SV.int false IntKind.u8 (M.nb z1 (5:Nat)),SV.int false IntKind.u8 (M.nb z1 (6:Nat)),SV.int false IntKind.u8 (M.nb z1 (7:Nat)),SV.int false IntKind.u8 (M.nb z1 (8:Nat)),SV.int false IntKind.u8 (M.nb z1 (9:Nat)),SV.int false IntKind.u8 (M.nb z1 (10:Nat)),SV.int false IntKind.u8 (M.nb z1 (11:Nat)),SV.int false IntKind.u8 (M.nb z1 (12:Nat)),SV.int false IntKind.u8 (M.nb z1 (13:Nat)),SV.int false IntKind.u8 (M.nb z1 (14:Nat)),SV.int false IntKind.u8 (M.nb z1 (15:Nat))]}:=by rcases hc with rfl | rfl | rfl | rfl <;> kernel_rfl
def sgE (key:List Int) (d:Nat->List Int):bK:={ val:=.agg ((M.tag key (M.cat d)).map (.int false .u8)) }
def Hg (key:List Int) (d:Nat->List Int):Int:=eH key d (M.cat d).length+(M.wQ key+18446744073709551616*M.xW key)
theorem aGo {key:List Int} {d:Nat->List Int} (hk:bX key) (tQ:(M.cat d).length%16=0) {W:Int} (hW:M.w0 (Hg key d)+18446744073709551616*M.w1 (Hg key d)=W) :
 (SV.agg [SV.int false .u8 (M.nb W 0),SV.int false .u8 (M.nb W 1),SV.int false .u8 (M.nb W 2),SV.int false .u8 (M.nb W 3),SV.int false .u8 (M.nb W 4),SV.int false .u8 (M.nb W 5),SV.int false .u8 (M.nb W 6),SV.int false .u8 (M.nb W 7),SV.int false .u8 (M.nb W 8),SV.int false .u8 (M.nb W 9),SV.int false .u8 (M.nb W 10),SV.int false .u8 (M.nb W 11),SV.int false .u8 (M.nb W 12),SV.int false .u8 (M.nb W 13),SV.int false .u8 (M.nb W 14),SV.int false .u8 (M.nb W 15)])=(sgE key d).val:=by
 unfold sgE
 rw [M.HI hk tQ,M.aOk hk]
 show _=SV.agg (((List.range 16).map (M.nb (M.w0 (Hg key d)+18446744073709551616*M.w1 (Hg key d)))).map (SV.int false .u8))
 rw [hW];rfl
open M in
theorem aPs {c:Nat} (_:c=6\/c=7\/c=8\/c=9) {R Z0 Z1:Int} (hR:0<=R/\R<bB) (h0:U Z0) (h1:U Z1) :
 U (w0 (n3 (w0 R) (w1 R) (w2 R)+(Z0+18446744073709551616*Z1)))/\U (w1 (n3 (w0 R) (w1 R) (w2 R)+(Z0+18446744073709551616*Z1)))/\(0<=w2 (n3 (w0 R) (w1 R) (w2 R)+(Z0+18446744073709551616*Z1))/\w2 (n3 (w0 R) (w1 R) (w2 R)+(Z0+18446744073709551616*Z1))<8)/\(0<=w2 R/\w2 R<4):=by
 obtain ⟨a,b,c'⟩:=RS (n3 (w0 R) (w1 R) (w2 R)+(Z0+18446744073709551616*Z1))
 refine ⟨a,b,?_,?_⟩
 .rw [Kf hR.1 hR.2]
  unfold U at h0 h1;unfold bB at hR;unfold w2;omega
 .unfold bB at hR;unfold w2;omega
set_option maxHeartbeats 4000000 in
theorem aHj {key:List Int} {d:Nat->List Int} (hk:bX key) (tQ:(M.cat d).length%16=0) {w0:World} {Mx:Nat->Prop} {V0:bA} {Q:Exit->Act->World->Prop}
 (H:∀ x s e',Kp (ΓT 7 0 (M.nl [M.wQ key,M.xW key])) (yN d) 100 100 Tryz.f38 x s=some e'->(∀ q∈e'.bO,q)->e'.val=(sgE key d).val->e'.new=(sgE key d).new->e'.wr=(sgE key d).wr->G Tryz.prog (ΓT 7 0 (M.nl [M.wQ key,M.xW key])) w0 Mx (aZ 100 (yN d)) Tryz.f38.ntmps 100 V0 (.at x) [] s Q)
 {c:Nat} (hR:PN c (eH key d (M.cat d).length)) :
 G Tryz.prog (ΓT 7 0 (M.nl [M.wQ key,M.xW key])) w0 Mx (aZ 100 (yN d)) Tryz.f38.ntmps 100 V0 (.at (.exit 5)) (wV 4) (PL key d (.int true .i64 (4:Nat)) 4 (d 5).length c (eH key d (M.cat d).length) (M.cat d).length) Q:=by
 have hz:=M.aWl hk
 obtain ⟨z0,z1⟩:=hz
 have hB:bX (M.kS key):=M.IH hk
 have aU:=sQ 7 0 (M.nl [M.wQ key,M.xW key])
 have aV:=sR 7 0 (M.nl [M.wQ key,M.xW key])
 obtain ⟨hC,hR0,hR1,hR2⟩:=hR
 have wX:=fun W h=>aGo (W:=W) hk tQ h
 have hN:Hg key d=eH key d (M.cat d).length+(M.wQ key+18446744073709551616*M.xW key):=rfl
 unfold PL
 rw [M.IJ _ tQ]
 have big:∀ c,(c=6\/c=7\/c=8\/c=9)->M.w0 (Hg key d)+18446744073709551616*M.w1 (Hg key d)=M.w0 (M.n3 (M.w0 (eH key d (M.cat d).length)) (M.w1 (eH key d (M.cat d).length)) (M.w2 (eH key d (M.cat d).length))+(M.wQ key+18446744073709551616*M.xW key))+18446744073709551616*M.w1 (M.n3 (M.w0 (eH key d (M.cat d).length)) (M.w1 (eH key d (M.cat d).length)) (M.w2 (eH key d (M.cat d).length))+(M.wQ key+18446744073709551616*M.xW key)):=by
  intro c hc
  rw [hN,M.Kf hR1 hR2]
 have ob:∀ c,(c=6\/c=7\/c=8\/c=9)->_:=fun c hc=>aPs (c:=c) hc ⟨hR1,hR2⟩ z0 z1
 rcases hC with rfl | hC
 .have PT:=hR0 rfl
  rw [PT,Int.zero_add] at hN
  rw [PT]
  have e0:M.w0 (Hg key d)=M.wQ key:=by rw [hN];unfold M.U at z0 z1;unfold M.w0;omega
  have e1:M.w1 (Hg key d)=M.xW key:=by rw [hN];unfold M.U at z0 z1;unfold M.w1;omega
  have en:M.nl [M.wQ key,M.xW key,0]=M.nl [M.wQ key,M.xW key]:=M.fZ [M.wQ key,M.xW key]
  rw [e0,e1] at wX
  generalize Hj:M.nl [M.wQ key,M.xW key]=mV at *
  rcases M.QO (M.wQ key) (M.xW key) with ⟨h,y0,y1⟩ | ⟨h,y0,y1⟩ | ⟨h,y0⟩
  .rw [Hj] at h;subst h
   refine G.oQ (cl:=[]) aU aV mix [false] H (aHm d _ _ _ _ (fun j=>(M.kS key).getD j 0) _ _ _) (aA ?_) (wX 0 (by rw [y0,y1];rfl)) rfl rfl
   exact ⟨Hj.symm,rfl,Hj,rfl,rfl,hB,rfl,rfl,trivial⟩
  .rw [Hj] at h;subst h
   refine G.oQ (cl:=[]) aU aV mix [false] H (aHl d _ _ _ _ (fun j=>(M.kS key).getD j 0) _ _ _) (aA ?_) (wX (M.wQ key) (by rw [y1];omega)) rfl rfl
   exact ⟨z0,rfl,rfl,rfl,rfl,Hj.symm,rfl,Hj,rfl,rfl,hB,rfl,rfl,trivial⟩
  .rw [Hj] at h;subst h
   refine G.oQ (cl:=[]) aU aV mix [false] H (aHk d _ _ _ _ (fun j=>(M.kS key).getD j 0) _ _ _) (aA ?_) (wX _ rfl) rfl rfl
   exact ⟨.inl rfl,z0,z1,⟨by decide,by decide⟩,en.symm,rfl,rfl,rfl,rfl,Hj.symm,rfl,Hj,rfl,rfl,hB,rfl,rfl,trivial⟩
 obtain ⟨o1,o2,o3,o4⟩:=ob c hC
 have u:=M.RS (eH key d (M.cat d).length)
 refine G.oQ (cl:=[]) aU aV mix [false] H (aUf hC (M.nl [M.wQ key,M.xW key]) d _ _ _ _ (fun j=>(M.kS key).getD j 0) _ _ _) (aA ?_) (wX _ (big c hC)) rfl rfl
 exact ⟨hC,o1,o2,o3,rfl,rfl,rfl,rfl,rfl,hC,u.1,u.2.1,o4,z0,z1,rfl,rfl,rfl,rfl,rfl,rfl,rfl,rfl,rfl,rfl,hB,rfl,rfl,trivial⟩
set_option maxHeartbeats 4000000 in
theorem WX {key:List Int} {d:Nat->List Int} (hk:bX key) (hd:bX (M.cat d)) (hl:(M.cat d).length<=1073741824) (tQ:(M.cat d).length%16=0) :
 aF Tryz.prog (ΓT 7 0 (M.nl [M.wQ key,M.xW key])) 38 (CN key) (yN d) 100 100 (sgE key d):=by
 refine fS (sQ _ _ _) (sR _ _ _) Tryz.func38 (by kernel_rfl) rfl (jX (by kernel_rfl)) rfl [] ?_
 intro w0 Mx V0 Q hb H
 have TB:=fun c hR=>aHj hk tQ H (c:=c) hR
 have hB:bX (M.kS key):=M.IH hk
 generalize M.nl [M.wQ key,M.xW key]=mV at *
 have Ef:nP (ΓT 7 0 0) (aZ 100 (yN d)) 100 V0:=hb.Ac (nX _ _ _ _ _ _)
 have h5:=M.aCy d
 have next:∀ J,J<4->(∀ c,PN c (eH key d (M.off d (J+1)))->G Tryz.prog (ΓT 7 0 mV) w0 Mx (aZ 100 (yN d)) Tryz.f38.ntmps 100 V0 (.go (.loop oW)) (wV (J+1)) (PL key d (.int false .i64 ((J+1:Nat):Int)) (J+1) 0 c (eH key d (M.off d (J+1))) (M.off d (J+1))) Q) ->
  ∀ c,PN c (eH key d (M.off d J))->G Tryz.prog (ΓT 7 0 mV) w0 Mx (aZ 100 (yN d)) Tryz.f38.ntmps 100 V0 (.go (.loop oW)) (wV J) (PL key d (.int false .i64 (J:Nat)) J 0 c (eH key d (M.off d J)) (M.off d J)) Q:=by
  intro J hJ hG c hR
  refine Me hk hd hl (by omega) hb (fun c hR=>?_) hR
  refine G.Ac (Γ':=ΓT 7 0 0) (nX _ _ _ _ _ _) ?_
  exact G.eJ (sQ _ _ _) (sR _ _ _) mix Ef [] (aHp hR.1 hJ (M.kS key) d (M.tO key) (M.sB key) (M.nl [M.tO key,M.sB key]) _ _ (d (J+1)) (d (J+1)).length ((d (J+1)).length:Nat)) JR (G.Ac (Γ':=ΓT 7 0 mV) (nX _ _ _ _ _ _) (hG c hR))
 have last:∀ c,PN c (eH key d (M.off d 4))->G Tryz.prog (ΓT 7 0 mV) w0 Mx (aZ 100 (yN d)) Tryz.f38.ntmps 100 V0 (.go (.loop oW)) (wV 4) (PL key d (.int false .i64 ((4:Nat):Int)) 4 0 c (eH key d (M.off d 4)) (M.off d 4)) Q:=by
  intro c hR
  refine Me hk hd hl (by omega) hb (fun c hR=>?_) hR
  have hR':PN c (eH key d (M.off d 5)):=hR
  show G Tryz.prog (ΓT 7 0 mV) w0 Mx (aZ 100 (yN d)) Tryz.f38.ntmps 100 V0 (.at (.exit 5)) (wV 4) (PL key d (.int true .i64 (4:Nat)) 4 (d 5).length c (eH key d (M.off d 5)) (M.off d 5)) Q
  rw [h5] at hR' |-
  exact TB c hR'
 have all:=next 0 (by decide) (next 1 (by decide) (next 2 (by decide) (next 3 (by decide) last)))
 have ha0:eH key d (M.off d 0)=0:=by simp [eH,M.off,M.acc]
 refine G.Ac (Γ':=ΓT 7 0 0) (nX _ _ _ _ _ _) ?_
 refine G.eJ (sQ _ _ _) (sR _ _ _) mix Ef [] (aUg key (M.kS key) d (M.tO key) (M.sB key) (M.nl [M.tO key,M.sB key])) (aA ?_) (G.Ac (Γ':=ΓT 7 0 mV) (nX _ _ _ _ _ _) ?_)
 .exact ⟨hB,rfl,rfl,rfl,rfl,rfl,⟨rfl,rfl⟩,rfl,rfl,rfl,rfl,rfl,rfl,trivial⟩
 .have:=all 0 ⟨.inl rfl,fun _=>ha0,by rw [ha0];decide,by rw [ha0];decide⟩
  rw [ha0] at this
  exact this
def Ah (x1 x2 x3 x4 x5:List Int):Nat->List Int
 | 1=>x1
 | 2=>x2
 | 3=>x3
 | 4=>x4
 | _=>x5
def roL:SB->Option (List SV)
 | .own cs _=>some cs
 | .eQ cs=>some cs
 | _=>none
def EJ (vs:List SV) (T:aX):Option Canon:=match vs with
 | [ks,.aH L _ 0 5 5]=>match cL ks,(T L).bind roL with
   | some (.u8,k),some [p1,p2,p3,p4,p5]=>match dQ T .u8 p1,dQ T .u8 p2,dQ T .u8 p3,dQ T .u8 p4,dQ T .u8 p5 with
     | some (o1,x1),some (o2,x2),some (o3,x3),some (o4,x4),some (o5,x5)=>some { eL:=[.ai .u8 k,.aH 62 true 0 5 5],T0:=sgB (Ah x1 x2 x3 x4 x5),vl:=[(62,.lab L 0),(71,.cell L 0),(72,.cell L 1),(73,.cell L 2),(74,.cell L 3),(75,.cell L 4)],e0:={ val:=.ai .u8 (M.tag k (x1++(x2++(x3++(x4++x5))))) },conds:=(k.length=32)::bX k::bX (x1++(x2++(x3++(x4++x5))))::((x1++(x2++(x3++(x4++x5)))).length<=1073741824)::((x1++(x2++(x3++(x4++x5)))).length%16=0)::(o1++(o2++(o3++(o4++o5)))) }
     | _,_,_,_,_=>none
   | _,_=>none
 | _=>none
theorem aFx (a b c:Nat):(ΓT a b c).aO=aB:=by kernel_rfl
theorem aGn (Γ:Env) (hg:Γ.aO=aB):aG Tryz.prog Γ 38 (aL aB 100 EJ):=by
 refine aY hg fun vs T c hd hc=>?_
 unfold EJ at hd
 split at hd
 case h_2=>cases hd
 split at hd
 case h_2=>cases hd
 split at hd
 case h_2=>cases hd
 cases hd
 rename_i k _ _ _ _ _ _ _ _ _ _ _ _ o1 x1 o2 x2 o3 x3 o4 x4 o5 x5 _ _ _ _ _
 have h32:k.length=32:=hc _ dC
 have h:aF Tryz.prog _ 38 (CN k) (yN (Ah x1 x2 x3 x4 x5)) 100 100 (sgE k (Ah x1 x2 x3 x4 x5)):=WX (hc _ (by simp)) (hc _ (by simp [M.cat,Ah])) (hc _ (by simp [M.cat,Ah])) (hc _ (by simp [M.cat,Ah]))
 refine h.words (hg.trans (aFx _ _ _).symm) (fun V=>?_) (fun _ _ h=>h) (fun V=>?_) rfl rfl
 .simp only [CN,aJ,bG V h32]
 .show den V (.agg ((M.tag k (M.cat (Ah x1 x2 x3 x4 x5))).map (.int false .u8)))=_
  simp only [den,xR]
  rfl
namespace P
theorem aDc {x r q:Int}:(x*(r-p*q))%p=(x*r)%p:=by
 rw [Int.mul_sub,show x*(p*q)=p*(x*q) by rw [Int.mul_left_comm],To]
theorem Gq {r q:Int} (d:List Int):∀ j,hor (r-p*q) d j=hor r d j
 | 0=>rfl
 | j+1=>by simp only [hor];rw [Gq d j,aDc]
theorem Sc {r q:Int} (d:List Int):Pl (r-p*q) d=Pl r d:=by
 unfold Pl
 rw [Gq,aDc]
theorem AW {k:List Int} (hk:∀ i,sE (k.getD i 0)):∀ i,sE ((dK k).getD i 0):=rK fun x hx=>by
 unfold dK at hx
 rcases List.mem_append.1 hx with h | h
 .obtain ⟨i,_,rfl⟩:=List.mem_map.1 h
  have Wt:∀ a b:Int,sE (bW .u8 a b):=fun a b=>by
   have e:bW .u8 a b=((BitVec.ofInt 8 a &&& BitVec.ofInt 8 b).toNat:Int)%256:=rfl
   unfold sE
   rw [e];omega
  unfold Ii
  split
  .exact Wt _ _
  .split
   .exact hk _
   .exact Wt _ _
  .exact hk _
 .simp only [List.mem_singleton] at h
  subst h
  exact ⟨by decide,by decide⟩
def Xs (key data:List Int):Int:=(Pl (Ow (dK (key.take 16))) data+V2 (key.drop 16))%340282366920938463463374607431768211456
theorem aIw {key data:List Int} (hk:key.length=32) (hkb:∀ x∈key,sE x) (hd:∀ x∈data,sE x) :
 tag (Ep (put ⟨num (dK (key.take 16)),List.replicate 5 0,key.drop 16,nA,0⟩ data)) (put ⟨num (dK (key.take 16)),List.replicate 5 0,key.drop 16,nA,0⟩ data).mask =
  (List.range 8).map (byteOf (Xs key data%18446744073709551616))++(List.range 8).map (byteOf (Xs key data/18446744073709551616)):=by
 have hb:=Hw (AW (k:=key.take 16) (rK fun x hx=>hkb x (List.mem_of_mem_take hx)))
 obtain ⟨hO,q,hq⟩:=hb
 obtain ⟨h1,h2,h3⟩:=aJu (mask:=key.drop 16) hO (by rw [List.length_drop];omega) hd
 obtain ⟨t1,t2⟩:=Yk h1 (s:=key.drop 16) (rK fun x hx=>hkb x (List.mem_of_mem_drop hx))
 rw [h2,hq,Sc] at t1 t2
 rw [h3]
 unfold tag aDx
 rw [t1,t2]
 rfl
end P
namespace P
theorem aBr {T:Int} (h:0<=T):(List.range 8).map (byteOf (T%18446744073709551616))++(List.range 8).map (byteOf (T/18446744073709551616))=(List.range 16).map fun i=>T/((256^i:Nat):Int)%256:=by
 have lo:∀ i,i<8->byteOf (T%18446744073709551616) i=T/((256^i:Nat):Int)%256:=by
  intro i hi
  rw [rS (by omega) hi]
  match i,hi with
  | 0,_=>show T%18446744073709551616/1%256=T/1%256;omega
  | 1,_=>show T%18446744073709551616/256%256=T/256%256;omega
  | 2,_=>show T%18446744073709551616/65536%256=T/65536%256;omega
  | 3,_=>show T%18446744073709551616/16777216%256=T/16777216%256;omega
  | 4,_=>show T%18446744073709551616/4294967296%256=T/4294967296%256;omega
  | 5,_=>show T%18446744073709551616/1099511627776%256=T/1099511627776%256;omega
  | 6,_=>show T%18446744073709551616/281474976710656%256=T/281474976710656%256;omega
  | 7,_=>show T%18446744073709551616/72057594037927936%256=T/72057594037927936%256;omega
 have fV:∀ i,i<8->byteOf (T/18446744073709551616) i=T/((256^(8+i):Nat):Int)%256:=by
  intro i hi
  rw [rS (by omega) hi]
  have e:((256^(8+i):Nat):Int)=18446744073709551616*((256^i:Nat):Int):=by rw [Nat.pow_add,Int.natCast_mul];rfl
  rw [e,Int.ediv_ediv_of_nonneg (by decide)]
 have split:(List.range 16).map (fun i=>T/((256^i:Nat):Int)%256)=(List.range 8).map (fun i=>T/((256^i:Nat):Int)%256)++(List.range 8).map (fun i=>T/((256^(8+i):Nat):Int)%256):=by
  rw [show (16:Nat)=8+8 from rfl,List.range_add,List.map_append,List.map_map]
  rfl
 rw [split]
 congr 1
 .exact List.map_congr_left fun i h=>lo i (by simpa using h)
 .exact List.map_congr_left fun i h=>fV i (by simpa using h)
end P
namespace P
theorem xI (l r:List Int) {i:Nat} (h:i<l.length):(l++r).getD i 0=l.getD i 0:=by simp [gY,List.getElem?_append_left h]
theorem fI {d:List Int} {k i:Nat} (h:k+16<=d.length) (hi:i<16):((d.drop k).take 16++[1]).getD i 0=d.getD (k+i) 0:=by
 rw [xI _ _ (by rw [List.length_take,List.length_drop];omega)]
 simp [gY,List.getElem?_take,hi,List.getElem?_drop]
theorem aBt {d:List Int} {k:Nat} (h:k+16<=d.length):((d.drop k).take 16++[1]).getD 16 0=1:=by
 have e:((d.drop k).take 16).length=16:=by rw [List.length_take,List.length_drop];omega
 rw [gY,List.getElem?_append_right (by omega),e];rfl
theorem aCb {d:List Int} {k:Nat} (h:16*k+16<=d.length) (hl:d.length<=1073741824):Ow ((d.drop (16*k)).take 16++[1])=M.V (M.aT d ((16*k:Nat):Int) 16):=by
 rw [M.JA d (by omega)]
 unfold Ow
 rw [fI h (i:=0) (by decide),fI h (i:=1) (by decide),fI h (i:=2) (by decide),fI h (i:=3) (by decide),fI h (i:=4) (by decide),fI h (i:=5) (by decide),fI h (i:=6) (by decide),fI h (i:=7) (by decide),fI h (i:=8) (by decide),fI h (i:=9) (by decide),fI h (i:=10) (by decide),fI h (i:=11) (by decide),fI h (i:=12) (by decide),fI h (i:=13) (by decide),fI h (i:=14) (by decide),fI h (i:=15) (by decide),aBt h]
 simp only [M.tF,M.By,Nat.add_zero]
 omega
theorem Vz (r:Int) {d:List Int} (hl:d.length<=1073741824):∀ j,16*j<=d.length->hor r d j=M.acc r d j
 | 0,_=>rfl
 | j+1,h=>by
   rw [M.Nj r (by omega),<- Vz r hl j (by omega),<- aCb (by omega) hl]
   rfl
theorem cZ (k:List Int) {i:Nat} (h:i<16):(k.take 16).getD i 0=k.getD i 0:=by simp [gY,List.getElem?_take,h]
theorem AX (k:List Int):dK k=[k.getD 0 0,k.getD 1 0,k.getD 2 0,bW .u8 (k.getD 3 0) 15,bW .u8 (k.getD 4 0) 252,k.getD 5 0,k.getD 6 0,bW .u8 (k.getD 7 0) 15,bW .u8 (k.getD 8 0) 252,k.getD 9 0,k.getD 10 0,bW .u8 (k.getD 11 0) 15,bW .u8 (k.getD 12 0) 252,k.getD 13 0,k.getD 14 0,bW .u8 (k.getD 15 0) 15,0]:=rfl
theorem BB (k:List Int):Ow (dK (k.take 16))=M.tO k+18446744073709551616*M.sB k:=by
 rw [AX,cZ k (i:=0) (by decide),cZ k (i:=1) (by decide),cZ k (i:=2) (by decide),cZ k (i:=3) (by decide),cZ k (i:=4) (by decide),cZ k (i:=5) (by decide),cZ k (i:=6) (by decide),cZ k (i:=7) (by decide),cZ k (i:=8) (by decide),cZ k (i:=9) (by decide),cZ k (i:=10) (by decide),cZ k (i:=11) (by decide),cZ k (i:=12) (by decide),cZ k (i:=13) (by decide),cZ k (i:=14) (by decide),cZ k (i:=15) (by decide)]
 unfold Ow M.tO M.sB
 simp only [M.tF,M.By,List.getD_cons_zero,List.getD_cons_succ]
 omega
theorem mO (k:List Int) (i:Nat):(k.drop 16).getD i 0=k.getD (16+i) 0:=by simp [gY,List.getElem?_drop]
theorem aTh (k:List Int):V2 (k.drop 16)=M.wQ k+18446744073709551616*M.xW k:=by
 have e:∀ a,S (k.drop 16) a 8=k.getD (16+(a+0)) 0+256*k.getD (16+(a+1)) 0+65536*k.getD (16+(a+2)) 0+16777216*k.getD (16+(a+3)) 0+4294967296*k.getD (16+(a+4)) 0+1099511627776*k.getD (16+(a+5)) 0+281474976710656*k.getD (16+(a+6)) 0+72057594037927936*k.getD (16+(a+7)) 0:=by
  intro a
  simp only [S,mO]
  rw [show ((256^0:Nat):Int)=1 from rfl,show ((256^1:Nat):Int)=256 from rfl,show ((256^2:Nat):Int)=65536 from rfl,show ((256^3:Nat):Int)=16777216 from rfl,show ((256^4:Nat):Int)=4294967296 from rfl,show ((256^5:Nat):Int)=1099511627776 from rfl,show ((256^6:Nat):Int)=281474976710656 from rfl,show ((256^7:Nat):Int)=72057594037927936 from rfl]
  omega
 unfold V2
 rw [e 0,e 8]
 unfold M.wQ M.xW
 simp only [M.tF,M.By,Nat.reduceAdd]
 omega
theorem YG {key D:List Int} (hk:bX key) (hl:D.length<=1073741824) (tQ:D.length%16=0) :
 Xs key D=M.w0 (M.acc (M.V (M.cl key)) D (D.length/16)+(M.wQ key+18446744073709551616*M.xW key))+18446744073709551616*M.w1 (M.acc (M.V (M.cl key)) D (D.length/16)+(M.wQ key+18446744073709551616*M.xW key)):=by
 unfold Xs Pl
 rw [if_pos tQ,BB,<- M.aOk hk,aTh,Vz _ hl _ (by omega)]
 unfold M.w0 M.w1
 omega
theorem YF {key D:List Int} (hk:key.length=32) (hb:bX key) (hd:bX D) (hl:D.length<=1073741824) (tQ:D.length%16=0) :
 tag (Ep (put ⟨num (dK (key.take 16)),List.replicate 5 0,key.drop 16,nA,0⟩ D)) (put ⟨num (dK (key.take 16)),List.replicate 5 0,key.drop 16,nA,0⟩ D).mask=M.tag key D:=by
 have h0:0<=Xs key D:=by unfold Xs;omega
 rw [aIw hk hb hd,aBr h0,M.HI hb tQ,YG hb hl tQ]
 refine List.map_congr_left fun i _=>?_
 unfold M.nb
 rw [Int.natCast_pow]
 rfl
end P
noncomputable def TL (cp:List Int->List Int):Nat->Option Sum:=dL (dL (dL (dL eY 80 (aL aB 100 tA)) 129 (aL aB 100 (Ue cp))) 87 (aL aB 100 FJ)) 88 (aL aB 100 Px)
theorem aAr (cp:List Int->List Int):∀ f S,TL cp f=some S->∀ Γ:Env,Γ.aO=aB->aG Tryz.prog Γ f S:=bE (bE (bE (bE fT 80 _ Cm) 129 _ (IV cp)) 87 _ aIm) 88 _ UQ
def of0 (cp:List Int->List Int) (key:List Int):P.MS:=⟨c5 (cp (dE 16 key)),c5 (List.replicate 5 0),Td fun j=>key.getD (16+j) 0,Td fun _=>0,(0:Int).toNat⟩
def Te (cp:List Int->List Int) (key:List Int) (d:Nat->List Int):Nat->P.MS
 | 0=>of0 cp key
 | j+1=>P.nf (P.put (Te cp key d j) (d (j+1)))
def ofQ (cp:List Int->List Int) (key:List Int) (d:Nat->List Int):Nat->List Prop
 | 0=>qM (cp (dE 16 key)) (List.replicate 5 0) (fun j=>key.getD (16+j) 0) (fun _=>0) 0 (of0 cp key)
 | j+1=>qMS (P.put (Te cp key d j) (d (j+1))) (Te cp key d (j+1))
def ofO (cp:List Int->List Int) (key:List Int) (d:Nat->List Int) (r:List Prop):Nat->List Prop
 | 0=>r
 | j+1=>(Te cp key d j).WF::((d (j+1)).length<=1000000000000)::((d (j+1)).length=(d (j+1)).length)::((d (j+1)).length=(d (j+1)).length)::(ofQ cp key d j++(d (j+1)=d (j+1))::ofO cp key d r j)
theorem aVj (cp:List Int->List Int) (key:List Int) (d:Nat->List Int):aK (env (TL cp) 4) Tryz.f48 true [] 1500 [.raw (.pointer none),.agg (cN .u8 32 key),.aH 62 true 0 5 5] (yN d) 100 100 =
 some { bO:=(Te cp key d 5).WF::(ofQ cp key d 5++ofO cp key d [(dE 16 key).length=16,cp (dE 16 key)=P.num (P.dK (dE 16 key)),dE 16 key=dE 16 key] 5),val:=.agg (cN .u8 16 (P.Fk (Te cp key d 5))) }:=by kernel_rfl
namespace P
def new (key:List Int):MS:=⟨num (dK (key.take 16)),List.replicate 5 0,key.drop 16,nA,0⟩
theorem aIi {key:List Int} (h:key.length=32):(new key).WF:=⟨rfl,rfl,by simp only [new,List.length_drop];omega,rfl,(by decide:0<16),rfl⟩
theorem pL {key:List Int} (h:key.length=32):dE 16 key=key.take 16:=by
 unfold dE
 apply List.ext_getElem
 .simp;omega
 .intro i h1 h2
  have hi:i<16:=by simpa using h1
  simp [gY,show i<key.length by omega]
end P
theorem Qf {key:List Int} (h:key.length=32):of0 (fun b=>P.num (P.dK b)) key=P.new key:=by
 unfold of0 P.new
 have e1:(Td fun j=>key.getD (16+j) 0)=key.drop 16:=by
  have:(key.drop 16).length=16:=by rw [List.length_drop];omega
  rw [<- zQ this]
  unfold Td
  refine List.map_congr_left fun j _=>?_
  rw [P.mO]
 have e5:c5 (P.num (P.dK (key.take 16)))=P.num (P.dK (key.take 16)):=iS (P.mU _)
 rw [P.pL h,e1]
 show P.MS.mk (c5 (P.num (P.dK (key.take 16)))) _ _ _ _=_
 rw [e5]
 rfl
theorem Hv {key:List Int} (h:key.length=32) (d:Nat->List Int):∀ j,(Te (fun b=>P.num (P.dK b)) key d j).WF
 | 0=>by
   rw [Te,Qf h];exact P.aIi h
 | j+1=>by
   have hw:=P.Hu (Hv h d j) (d (j+1))
   rw [Te,P.Lh hw];exact hw
theorem rI {key:List Int} (h:key.length=32) (d:Nat->List Int) (j:Nat):Te (fun b=>P.num (P.dK b)) key d (j+1)=P.put (Te (fun b=>P.num (P.dK b)) key d j) (d (j+1)):=P.Lh (P.Hu (Hv h d j) (d (j+1)))
theorem aQg {key:List Int} (h:key.length=32) (d:Nat->List Int):Te (fun b=>P.num (P.dK b)) key d 5=P.put (P.new key) (M.cat d):=by
 unfold M.cat
 rw [P.lF,P.lF,P.lF,P.lF,rI h,rI h,rI h,rI h,rI h,Te,Qf h]
theorem HX {key:List Int} (h:key.length=32) (d:Nat->List Int):∀ j,∀ q∈ofQ (fun b=>P.num (P.dK b)) key d j,q
 | 0=>by
   rw [ofQ,Qf h]
   refine Fp (by rw [P.pL h];rfl) rfl (fun j _=>?_) (fun j _=>(P.Uu j).symm) rfl
   simp only [P.new,P.mO]
 | j+1=>by
   rw [ofQ,rI h]
   exact Cg rfl
theorem HY {key:List Int} (h:key.length=32) (d:Nat->List Int) {r:List Prop} (hr:∀ q∈r,q):∀ j,(∀ i,i<j->(d (i+1)).length<=1000000000000)->∀ q∈ofO (fun b=>P.num (P.dK b)) key d r j,q
 | 0,_=>hr
 | j+1,hd=>aM (Hv h d j) (aM (hd j (by omega)) (aM rfl (aM rfl (qI (HX h d j) (aM rfl (HY h d hr j fun i hi=>hd i (by omega)))))))
theorem M.nK (key data:List Int):(M.tag key data).length=16:=by simp [M.tag,M.Pe]
theorem XW {key:List Int} {d:Nat->List Int} (hk:key.length=32) (hb:bX key) (hd:bX (M.cat d)) (hl:(M.cat d).length<=1073741824) (tQ:(M.cat d).length%16=0) (Γ:Env) (hg:Γ.aO=aB) :
 aF Tryz.prog Γ 48 [.raw (.pointer none),.ai .u8 key,.aH 62 true 0 5 5] (yN d) 100 100 { val:=.ai .u8 (M.tag key (M.cat d)) }:=by
 have hs:aG Tryz.prog (env (TL fun b=>P.num (P.dK b)) 4) 48 (aK (env (TL fun b=>P.num (P.dK b)) 4) Tryz.f48 true [] 1500):=aN (bL _ 4) (bV _ (aAr _) 4) mix Tryz.func48 (by kernel_rfl) true [] 1500
 have hlen:∀ i,i<5->(d (i+1)).length<=1000000000000:=fun i hi=>by
  have:=M.HV d hi
  omega
 have h:=hs.call (aVj (fun b=>P.num (P.dK b)) key d) (aM (Hv hk d 5) (qI (HX hk d 5) (HY hk d (aM (by rw [P.pL hk,List.length_take];omega) (aM rfl (aM rfl fO))) 5 hlen)))
 have ht:P.Fk (Te (fun b=>P.num (P.dK b)) key d 5)=M.tag key (M.cat d):=by
  rw [aQg hk]
  exact P.YF hk hb hd hl tQ
 rw [ht] at h
 refine h.words (by rw [hg];rfl) (fun V=>?_) (fun _ _ h=>h) (fun V=>bG V (M.nK _ _)) rfl rfl
 simp only [aJ,bG V hk]
def Tv (mc:List Int->List Int->List Int) (vs:List SV) (T:aX):Option Canon:=match vs with
 | [.raw (.pointer none),ks,.aH L _ 0 5 5]=>match cL ks,(T L).bind roL with
   | some (.u8,k),some [p1,p2,p3,p4,p5]=>match dQ T .u8 p1,dQ T .u8 p2,dQ T .u8 p3,dQ T .u8 p4,dQ T .u8 p5 with
     | some (o1,x1),some (o2,x2),some (o3,x3),some (o4,x4),some (o5,x5)=>some { eL:=[.raw (.pointer none),.ai .u8 k,.aH 62 true 0 5 5],T0:=sgB (Ah x1 x2 x3 x4 x5),vl:=[(62,.lab L 0),(71,.cell L 0),(72,.cell L 1),(73,.cell L 2),(74,.cell L 3),(75,.cell L 4)],e0:={ val:=.ai .u8 (mc k (x1++(x2++(x3++(x4++x5))))) },conds:=(mc k (x1++(x2++(x3++(x4++x5))))=M.tag k (x1++(x2++(x3++(x4++x5)))))::(k.length=32)::bX k::bX (x1++(x2++(x3++(x4++x5))))::((x1++(x2++(x3++(x4++x5)))).length<=1073741824)::((x1++(x2++(x3++(x4++x5)))).length%16=0)::(o1++(o2++(o3++(o4++o5)))) }
     | _,_,_,_,_=>none
   | _,_=>none
 | _=>none
theorem HW (mc:List Int->List Int->List Int) (Γ:Env) (hg:Γ.aO=aB):aG Tryz.prog Γ 48 (aL aB 100 (Tv mc)):=by
 refine aY hg fun vs T c hd hc=>?_
 unfold Tv at hd
 split at hd
 case h_2=>cases hd
 split at hd
 case h_2=>cases hd
 split at hd
 case h_2=>cases hd
 cases hd
 rename_i k _ _ _ _ _ _ _ _ _ _ _ _ o1 x1 o2 x2 o3 x3 o4 x4 o5 x5 _ _ _ _ _
 have e:=hc _ dC
 have h:=XW (d:=Ah x1 x2 x3 x4 x5) (hc _ (eM _ dC)) (hc _ (eM _ (eM _ dC))) (hc _ (eM _ (eM _ (eM _ dC)))) (hc _ (eM _ (eM _ (eM _ (eM _ dC))))) (hc _ (eM _ (eM _ (eM _ (eM _ (eM _ dC)))))) Γ hg
 have e':mc k (M.cat (Ah x1 x2 x3 x4 x5))=M.tag k (M.cat (Ah x1 x2 x3 x4 x5)):=e
 rw [<- e'] at h
 exact h
noncomputable def Ox (si:List Int->List Int->Int->List Int) (x4 tn:Nat->List Int->List Int->List Int) (on:List Int->List Int):Env:=env (aNz si x4 tn on) 4
theorem UD (si:List Int->List Int->Int->List Int) (x4 tn:Nat->List Int->List Int->List Int) (on:List Int->List Int):cD Tryz.prog (Ox si x4 tn on):=bL _ 4
theorem UE (si:List Int->List Int->Int->List Int) (x4 tn:Nat->List Int->List Int->List Int) (on:List Int->List Int):cF Tryz.prog (Ox si x4 tn on):=bV _ (aAs si x4 tn on) 4
def SP (key aC:List Int) (c:Int) (off len cap:Nat):List SV:=[.raw (.pointer none),.ai .u8 key,.int false .u32 c,.ai .u8 aC,.aH 60 false off len cap]
noncomputable def PO (si:List Int->List Int->Int->List Int) (x4 tn:Nat->List Int->List Int->List Int) (on:List Int->List Int) (xs:List Int) (t:TypeId) (cf:Cf) (K:List Fr) (s:St):Option nM:=fX (Ox si x4 tn on) (aZ 100 (tR xs t)) 100 Tryz.f46.ntmps [3,9] 400 3000 cf K s
def qB (off len cap:Nat) (a:Int):List (Nat × SV):=[(0,.raw (.pointer none)),(4,.aH 60 false off len cap),(10,.ptr 100 true 0),(11,.int false .i64 a)]
def qA (xs s:List Int) (t:TypeId):List (Nat × SB):=[(60,.ints .u8 xs t),(100,.ints .u32 s 121)]
namespace Q
def oA (off cap:Nat) (a:Int):Nat:=if (cap:Int)=a then off else off+a.toNat*1
def pd (off len cap:Nat) (a:Int) (xs:List Int):List Int:=(xs.drop (oA off cap a)).take ((len:Int).toNat-a.toNat)
def qd (p:List Int):List Int:=p.take (p.length.min 64)
def ld (q:List Int):List Int:=(List.replicate 64 0).take 0++q++(List.replicate 64 0).drop (0+q.length)
def go (len:Nat) (a k:Int):Prop:=decide (IntKind.i64.wrap ((len:Int)-a)>=k)=true
def no (len:Nat) (a k:Int):Prop:=decide (IntKind.i64.wrap ((len:Int)-a)>=k)=false
def sa (len:Nat) (a k:Int):Prop:=decide (IntKind.i64.wrap ((len:Int)-a)>=k)=decide (IntKind.i64.wrap ((len:Int)-a)>=k)
def sl (len cap:Nat) (a:Int):Prop:=(0:Int)<=(cap:Int)/\(cap:Int)<=(cap:Int)/\(0:Int)<=(len:Int)/\(len:Int)<=(cap:Int)/\(0:Int)<=a/\a<=(len:Int)
end Q
noncomputable def mxR:Option nM:=PO (fun _ _ _=>[]) (fun _ _ _=>[]) (fun _ _ _=>[]) (fun _=>[]) [] 0 (.go (codeOf Tryz.f46)) [] ((yM (SP [] [] 0 0 0 0) 100).hint [])
noncomputable def aEk:Code:=Eu mxR
noncomputable def mxK:List Fr:=Be mxR
noncomputable def aNa:Option nM:=PO (fun _ _ _=>[]) (fun _ _ _=>[]) (fun _ _ _=>[]) (fun _=>[]) [] 0 (.at (.exit 0)) mxK ((bQ (qB 0 0 0 0) (qA [] [] 0) 101 [60] []).hint [])
noncomputable def aEl:Code:=Eu aNa
noncomputable def SQ:List Fr:=Be aNa
theorem aVv (si:List Int->List Int->Int->List Int) (x4 tn:Nat->List Int->List Int->List Int) (on:List Int->List Int) (key aC xs iJ s':List Int) (c:Int) (t:TypeId) (off len cap:Nat) (a':Int):eJ 100 Tryz.f46.ntmps (aZ 100 (tR xs t)) [] (qB off len cap a') (qA iJ s' t) 101 [60] [] (PO si x4 tn on xs t (.go (codeOf Tryz.f46)) [] ((yM (SP key aC c off len cap) 100).hint [])) =
 some (.go (.loop aEk),mxK,[(si key aC c).length=16,si key aC c=B.init key aC c,key.length=32,aC.length=12,key=key,c=c,aC=aC,aC.length=12,key.length=32,off=off,len=len,cap=cap,0=a',xs=iJ/\t=t,si key aC c=s'/\(121:Nat)=(121:TypeId)]):=by kernel_rfl
theorem aVu (si:List Int->List Int->Int->List Int) (x4 tn:Nat->List Int->List Int->List Int) (on:List Int->List Int) (gV xs iJ s s':List Int) (t:TypeId) (off len cap:Nat) (a a':Int):eJ 100 Tryz.f46.ntmps (aZ 100 (tR gV t)) [] (qB off len cap a') (qA iJ s' t) 101 [60] [] (PO si x4 tn on gV t (.go aEk) [] ((bQ (qB off len cap a) (qA xs s t) 101 [60] []).hint [true])) =
 some (.at .normal,[],[12<s.length,13<=s.length,x4 (Q.oA off cap a) s xs=Q.x4 (Q.oA off cap a) s xs,s.length=16,Q.oA off cap a+256<=xs.length,s=s,Q.oA off cap a=0+Q.oA off cap a,xs=xs/\t=t,s.length=16,256<=(len:Int).toNat-a.toNat,Q.sl len cap a,Q.go len a 256,Q.sa len a 256,
  off=off,len=len,cap=cap,IntKind.i64.wrap (a+256)=a',x4 (Q.oA off cap a) s xs=iJ/\t=t,s.set 12 (IntKind.u32.wrap (s.getD 12 0+4))=s'/\(121:Nat)=(121:TypeId)]):=by kernel_rfl
theorem aVt (si:List Int->List Int->Int->List Int) (x4 tn:Nat->List Int->List Int->List Int) (on:List Int->List Int) (gV xs iJ s s':List Int) (t:TypeId) (off len cap:Nat) (a a':Int):eJ 100 Tryz.f46.ntmps (aZ 100 (tR gV t)) [] (qB off len cap a') (qA iJ s' t) 101 [60] [] (PO si x4 tn on gV t (.go aEk) [] ((bQ (qB off len cap a) (qA xs s t) 101 [60] []).hint [false])) =
 some (.at (.exit 0),[],[Q.no len a 256,Q.sa len a 256,off=off,len=len,cap=cap,a=a',xs=iJ/\t=t,s=s'/\(121:Nat)=(121:TypeId)]):=by kernel_rfl
theorem aVs (si:List Int->List Int->Int->List Int) (x4 tn:Nat->List Int->List Int->List Int) (on:List Int->List Int) (gV xs iJ s s':List Int) (t:TypeId) (off len cap:Nat) (a a':Int):eJ 100 Tryz.f46.ntmps (aZ 100 (tR gV t)) [] (qB off len cap a') (qA iJ s' t) 101 [60] [] (PO si x4 tn on gV t (.at (.exit 0)) mxK ((bQ (qB off len cap a) (qA xs s t) 101 [60] []).hint [])) =
 some (.go (.loop aEl),SQ,[off=off,len=len,cap=cap,a=a',xs=iJ/\t=t,s=s'/\(121:Nat)=(121:TypeId)]):=by kernel_rfl
theorem aVr (si:List Int->List Int->Int->List Int) (x4 tn:Nat->List Int->List Int->List Int) (on:List Int->List Int) (gV xs iJ s s':List Int) (t:TypeId) (off len cap:Nat) (a a':Int):eJ 100 Tryz.f46.ntmps (aZ 100 (tR gV t)) [] (qB off len cap a') (qA iJ s' t) 101 [60] [] (PO si x4 tn on gV t (.go aEl) [] ((bQ (qB off len cap a) (qA xs s t) 101 [60] []).hint [true])) =
 some (.at .normal,[],[12<s.length,13<=s.length,tn (Q.oA off cap a) (on s) xs=Q.tn (Q.oA off cap a) (on s) xs,(on s).length=64,Q.oA off cap a+64<=xs.length,Q.oA off cap a=0+Q.oA off cap a,on s=on s,xs=xs/\t=t,on s=Q.one s,s.length=16,s=s,s.length=16,64<=(len:Int).toNat-a.toNat,Q.sl len cap a,Q.go len a 64,Q.sa len a 64,
  off=off,len=len,cap=cap,IntKind.i64.wrap (a+64)=a',tn (Q.oA off cap a) (on s) xs=iJ/\t=t,s.set 12 (IntKind.u32.wrap (s.getD 12 0+1))=s'/\(121:Nat)=(121:TypeId)]):=by kernel_rfl
theorem aVq (si:List Int->List Int->Int->List Int) (x4 tn:Nat->List Int->List Int->List Int) (on:List Int->List Int) (gV xs iJ s s':List Int) (t:TypeId) (off len cap:Nat) (a a':Int):eJ 100 Tryz.f46.ntmps (aZ 100 (tR gV t)) [] (qB off len cap a') (qA iJ s' t) 101 [60] [] (PO si x4 tn on gV t (.go aEl) [] ((bQ (qB off len cap a) (qA xs s t) 101 [60] []).hint [false])) =
 some (.at (.exit 2),[],[Q.no len a 64,Q.sa len a 64,off=off,len=len,cap=cap,a=a',xs=iJ/\t=t,s=s'/\(121:Nat)=(121:TypeId)]):=by kernel_rfl
theorem aVp (si:List Int->List Int->Int->List Int) (x4 tn:Nat->List Int->List Int->List Int) (on:List Int->List Int) (gV xs s:List Int) (t:TypeId) (off len cap:Nat) (a:Int):qF (Ox si x4 tn on) (tR gV t) 100 100 Tryz.f46 [] (PO si x4 tn on gV t (.at (.exit 2)) SQ ((bQ (qB off len cap a) (qA xs s t) 101 [60] []).hint [false])) =
 some { bO:=[decide (IntKind.i64.wrap ((len:Int)-a)>0)=false,decide (IntKind.i64.wrap ((len:Int)-a)>0)=decide (IntKind.i64.wrap ((len:Int)-a)>0)],val:=.eD [],wr:=[(60,.ints .u8 xs t)] }:=by kernel_rfl
def Q.lt (tn:Nat->List Int->List Int->List Int) (b p:List Int):List Int:=((tn 0 b (ld (qd p))).drop 0).take 64
def Q.mv (o m:Nat) (xs y:List Int):List Int:=xs.take o++y.take (Nat.min y.length m)++xs.drop (o+Nat.min y.length m)
theorem aVo (si:List Int->List Int->Int->List Int) (x4 tn:Nat->List Int->List Int->List Int) (on:List Int->List Int) (gV xs s:List Int) (t:TypeId) (off len cap:Nat) (a:Int):qF (Ox si x4 tn on) (tR gV t) 100 100 Tryz.f46 [] (PO si x4 tn on gV t (.at (.exit 2)) SQ ((bQ (qB off len cap a) (qA xs s t) 101 [60] []).hint [true])) =
 some { bO:=[Q.oA off cap a+Nat.min (Q.lt tn (on s) (Q.pd off len cap a xs)).length ((len:Int).toNat-a.toNat)<=xs.length,64<=(tn 0 (on s) (Q.ld (Q.qd (Q.pd off len cap a xs)))).length,tn 0 (on s) (Q.ld (Q.qd (Q.pd off len cap a xs)))=Q.tn 0 (on s) (Q.ld (Q.qd (Q.pd off len cap a xs))),(on s).length=64,0+64<=(Q.ld (Q.qd (Q.pd off len cap a xs))).length,0=0,on s=on s,Q.ld (Q.qd (Q.pd off len cap a xs))=Q.ld (Q.qd (Q.pd off len cap a xs))/\(105:Nat)=(105:TypeId),on s=Q.one s,s.length=16,s=s,s.length=16,(0:Nat)<=0/\0+(Q.qd (Q.pd off len cap a xs)).length<=64,Q.oA off cap a+((len:Int).toNat-a.toNat)<=xs.length,Q.sl len cap a,decide (IntKind.i64.wrap ((len:Int)-a)>0)=true,decide (IntKind.i64.wrap ((len:Int)-a)>0)=decide (IntKind.i64.wrap ((len:Int)-a)>0)],val:=.eD [],wr:=[(60,.ints .u8 (Q.mv (Q.oA off cap a) ((len:Int).toNat-a.toNat) xs (Q.lt tn (on s) (Q.pd off len cap a xs))) t)] }:=by kernel_rfl
namespace Q
theorem UI (a b:Int):IntKind.u32.wrap (IntKind.u32.wrap a+b)=IntKind.u32.wrap (a+b):=by simp only [IntKind.wrap_u32];omega
def S (key aC:List Int) (c:Int) (j:Nat):List Int:=B.init key aC (IntKind.u32.wrap (c+(j:Int)))
theorem iF (key aC:List Int) (c:Int) (j:Nat):(S key aC c j).length=16:=rfl
theorem bAk (key aC:List Int) (c:Int) (j:Nat):(S key aC c j).getD 12 0=IntKind.u32.wrap (c+(j:Int)):=rfl
theorem aTi (key aC:List Int) (c d:Int) (j:Nat):(S key aC c j).set 12 d=B.init key aC d:=rfl
theorem Rl (key aC:List Int) (c:Int) (j k:Nat):(S key aC c j).set 12 (IntKind.u32.wrap ((S key aC c j).getD 12 0+(k:Int)))=S key aC c (j+k):=by
 rw [bAk,aTi,UI]
 unfold S
 congr 2
 omega
theorem S_0 (key aC:List Int) {c:Int} (hc:0<=c/\c<=4294967295):S key aC c 0=B.init key aC c:=by
 unfold S
 rw [show c+((0:Nat):Int)=c by omega,IntWalk.u32_in c hc]
theorem aQf (key aC:List Int) (c:Int) (j:Nat):one (S key aC c j)=B.block key aC (IntKind.u32.wrap (c+(j:Int))):=rfl
theorem Dp (s:List Int):(one s).length=64:=by simp [one,B.out]
theorem Qd (key aC:List Int) (c:Int) (j:Nat) {m:Nat} (hm:m<64):(one (S key aC c j)).getD m 0=Au key aC c (64*j+m):=by
 rw [aQf]
 unfold Au
 rw [show (64*j+m)/64=j by omega,show (64*j+m)%64=m by omega]
theorem aAf (key aC:List Int) (c:Int) (j:Nat) {m:Nat} (_:m<256):iR (S key aC c j) m=Au key aC c (64*j+m):=by
 have e:st4 (S key aC c j) (m/64)=S key aC c (j+m/64):=Rl key aC c j (m/64)
 unfold iR
 rw [e]
 show (one (S key aC c (j+m/64))).getD (m%64) 0=_
 rw [Qd _ _ _ _ (by omega)]
 congr 1
 omega
theorem qN (off n:Nat) (f:Nat->Int) (xs:List Int) {m:Nat} (h:m<xs.length):(rW off n f xs).getD m 0=if off<=m/\m<off+n then gI .u8 (xs.getD m 0) (f (m-off)) else xs.getD m 0:=by
 simp [rW,gY,h]
theorem Li {n:Nat} {a b:List Int} (ha:a.length=n) (hb:b.length=n) (h:∀ i,i<n->a.getD i 0=b.getD i 0):a=b:=by
 apply List.ext_getElem (by omega)
 intro i h1 h2
 have:=h i (by omega)
 rw [gY,gY,List.getElem?_eq_getElem h1,List.getElem?_eq_getElem h2] at this
 simpa using this
theorem xJ {off n k:Nat} {f g:Nat->Int} {xs:List Int} (h:∀ m,m<k->g m=f (n+m)):rW (off+n) k g (rW off n f xs)=rW off (n+k) f xs:=by
 refine Li (n:=xs.length) (by rw [gJ,gJ]) (by rw [gJ]) fun i hi=>?_
 rw [qN _ _ _ _ (by rw [gJ];exact hi),qN _ _ _ _ hi,qN _ _ _ _ hi]
 by_cases h1:off<=i/\i<off+n
 .rw [if_neg (by omega),if_pos h1,if_pos (by omega)]
 .rw [if_neg h1]
  by_cases h2:off+n<=i/\i<off+n+k
  .rw [if_pos h2,if_pos (by omega),h _ (by omega)]
   congr 2;omega
  .rw [if_neg h2,if_neg (by omega)]
theorem aOv {key aC:List Int} {c:Int} {off j:Nat} {xs:List Int}:x4 (off+64*j) (S key aC c j) (cI key aC c off (64*j) xs)=cI key aC c off (64*(j+4)) xs:=by
 rw [uJ,uJ,show 64*(j+4)=64*j+256 by omega]
 exact xJ fun m hm=>aAf key aC c j hm
theorem aOx {key aC:List Int} {c:Int} {off j:Nat} {xs:List Int}:tn (off+64*j) (one (S key aC c j)) (cI key aC c off (64*j) xs)=cI key aC c off (64*(j+1)) xs:=by
 rw [uJ,uJ,show 64*(j+1)=64*j+64 by omega]
 exact xJ fun m hm=>Qd key aC c j hm
theorem FC (off:Nat) {cap a:Nat} (h:a<cap):oA off cap (a:Int)=off+a:=by
 unfold oA
 rw [if_neg (by omega)];omega
theorem xI (l r:List Int) {i:Nat} (h:i<l.length):(l++r).getD i 0=l.getD i 0:=by simp [gY,List.getElem?_append_left h]
theorem Ri (l r:List Int) {i:Nat} (h:l.length<=i):(l++r).getD i 0=r.getD (i-l.length) 0:=by simp [gY,List.getElem?_append_right h]
theorem mO (l:List Int) (k i:Nat):(l.drop k).getD i 0=l.getD (k+i) 0:=by simp [gY,List.getElem?_drop]
theorem cZ (l:List Int) {k i:Nat} (h:i<k):(l.take k).getD i 0=l.getD i 0:=by simp [gY,h]
theorem aQo {o r:Nat} {b xs:List Int} (hr:r<=64) (hx:o+r<=xs.length):mv o r xs (lt tn b ((xs.drop o).take r))=rW o r (b.getD · 0) xs:=by
 have hp:((xs.drop o).take r).length=r:=by rw [List.length_take,List.length_drop];omega
 have hq:qd ((xs.drop o).take r)=(xs.drop o).take r:=by
  unfold qd
  rw [hp]
  exact List.take_of_length_le (by rw [hp];exact Nat.le_min.2 ⟨cT _,hr⟩)
 have hl:(ld ((xs.drop o).take r)).length=64:=by
  unfold ld
  rw [List.take_zero,mZ,List.length_append,List.length_drop,hp,List.length_replicate];omega
 have ht:(lt tn b ((xs.drop o).take r)).length=64:=by
  unfold lt
  rw [hq,List.drop_zero,List.length_take]
  unfold tn
  rw [gJ,hl];rfl
 unfold mv
 rw [ht,show Nat.min 64 r=r from Nat.min_eq_right hr]
 have h1:(xs.take o).length=o:=by rw [List.length_take];omega
 have h2:((lt tn b ((xs.drop o).take r)).take r).length=r:=by rw [List.length_take,ht];omega
 refine Li (n:=xs.length) (by simp only [List.length_append,h1,h2,List.length_drop];omega) (gJ _ _ _ _) fun i hi=>?_
 rw [qN _ _ _ _ hi]
 by_cases hA:i<o
 .rw [if_neg (by omega),List.append_assoc,xI _ _ (by omega),cZ _ hA]
 .by_cases hB:i<o+r
  .rw [if_pos (by omega),xI _ _ (by rw [List.length_append];omega),Ri _ _ (by omega),h1,cZ _ (by omega)]
   unfold lt
   rw [hq,List.drop_zero,cZ _ (by omega)]
   unfold tn
   rw [qN _ _ _ _ (by rw [hl];omega),if_pos (by omega),Nat.sub_zero]
   congr 1
   unfold ld
   rw [List.take_zero,mZ,xI _ _ (by rw [hp];omega),cZ _ (by omega),mO]
   congr 1;omega
  .rw [if_neg (by omega),Ri _ _ (by rw [List.length_append];omega),List.length_append,h1,h2,mO]
   congr 1;omega
end Q
theorem YB {key aC xs:List Int} {c:Int} {t:TypeId} {off len cap:Nat} (hk:key.length=32) (hn:aC.length=12) (hx:off+len<=xs.length) (hlc:len<=cap) (hl:len<=4611686018427387904) (hc:0<=c/\c<=4294967295) :
 aF Tryz.prog (Ox B.init Q.x4 Q.tn Q.one) 46 (SP key aC c off len cap) (tR xs t) 100 100 { val:=.eD [],wr:=[(60,.ints .u8 (cI key aC c off len xs) t)] }:=by
 have aU:=UD B.init Q.x4 Q.tn Q.one
 have aV:=UE B.init Q.x4 Q.tn Q.one
 refine fS aU aV Tryz.func46 (by kernel_rfl) rfl (jX (by kernel_rfl)) rfl [] ?_
 intro w0 M V0 Q' eC H
 have wi:∀ a:Nat,a<=len->IntKind.i64.wrap ((len:Int)-(a:Int))=((len-a:Nat):Int):=fun a ha=>by rw [IntWalk.i64_in _ (by omega)];omega
 have Gz:∀ n,(cI key aC c off n xs).length=xs.length:=fun n=>fU _ _ _ _ _ _
 refine G.eJ aU aV mix eC [] (aVv B.init Q.x4 Q.tn Q.one key aC xs xs (Q.S key aC c 0) c t off len cap 0) (aA ?_) ?_
 .exact ⟨rfl,rfl,hk,hn,rfl,rfl,rfl,hn,hk,rfl,rfl,rfl,rfl,⟨rfl,rfl⟩,⟨(Q.S_0 key aC hc).symm,rfl⟩,trivial⟩
 refine G.loop (fun r s=>∃ i:Nat,256*i<=len/\r=len-256*i/\s=bQ (qB off len cap ((256*i:Nat):Int)) (qA (cI key aC c off (64*(4*i)) xs) (Q.S key aC c (4*i)) t) 101 [60] []) (r0:=len) ⟨0,by omega,by omega,by rw [show 64*(4*0)=0 by omega,Dj];rfl⟩ ?_
 rintro r s ⟨i,hi,rfl,rfl⟩
 by_cases h:256<=len-256*i
 .have eo:Q.oA off cap ((256*i:Nat):Int)=off+64*(4*i):=by rw [Q.FC off (by omega)];omega
  refine G.qK aU aV mix eC [true] (aVu B.init Q.x4 Q.tn Q.one xs _ (cI key aC c off (64*(4*(i+1))) xs) (Q.S key aC c (4*i)) (Q.S key aC c (4*(i+1))) t off len cap ((256*i:Nat):Int) ((256*(i+1):Nat):Int)) (aA ?_) (len-256*(i+1)) (by omega) ⟨i+1,by omega,rfl,rfl⟩
  rw [eo]
  refine ⟨by rw [Q.iF];decide,by rw [Q.iF];decide,rfl,Q.iF _ _ _ _,by rw [Gz];omega,rfl,by omega,⟨rfl,rfl⟩,Q.iF _ _ _ _,by omega,by unfold Q.sl;omega,?_,rfl,rfl,rfl,rfl,?_,⟨?_,rfl⟩,⟨?_,rfl⟩,trivial⟩
  .unfold Q.go
   rw [wi _ hi];exact decide_eq_true (by omega)
  .rw [IntWalk.i64_in _ (by omega)];omega
  .rw [Q.aOv];rfl
  .exact Q.Rl key aC c (4*i) 4
 have Kh:∀ i,64*i<=len->¬ 64<=len-64*i->G Tryz.prog (Ox B.init Q.x4 Q.tn Q.one) w0 M (aZ 100 (tR xs t)) Tryz.f46.ntmps 100 V0 (.at (.exit 2)) SQ (bQ (qB off len cap ((64*i:Nat):Int)) (qA (cI key aC c off (64*i) xs) (Q.S key aC c i) t) 101 [60] []) Q':=by
  intro i hi h
  by_cases hz:0<len-64*i
  .have eo:Q.oA off cap ((64*i:Nat):Int)=off+64*i:=Q.FC off (by omega)
   have e1:(len:Int).toNat-((64*i:Nat):Int).toNat=len-64*i:=by omega
   have hpd:Q.pd off len cap ((64*i:Nat):Int) (cI key aC c off (64*i) xs)=((cI key aC c off (64*i) xs).drop (off+64*i)).take (len-64*i):=by unfold Q.pd;rw [eo,e1]
   have BY:(((cI key aC c off (64*i) xs).drop (off+64*i)).take (len-64*i)).length=len-64*i:=by rw [List.length_take,List.length_drop,Gz];omega
   have hql:(Q.qd (((cI key aC c off (64*i) xs).drop (off+64*i)).take (len-64*i))).length<=64:=by unfold Q.qd;rw [List.length_take];exact Nat.le_trans (Nat.min_le_left _ _) (Nat.min_le_right _ _)
   have hld:∀ q:List Int,q.length<=64->(Q.ld q).length=64:=fun q hq=>by
    unfold Q.ld
    rw [List.take_zero,mZ,List.length_append,List.length_drop,List.length_replicate];omega
   have hB:=Q.Dp (Q.S key aC c i)
   refine G.oQ (cl:=[]) aU aV mix [true] H (aVo B.init Q.x4 Q.tn Q.one xs _ (Q.S key aC c i) t off len cap ((64*i:Nat):Int)) (aA ?_) rfl rfl ?_
   .rw [eo,e1,hpd]
    refine ⟨?_,by rw [Q.tn,Q.gJ,hld _ hql];decide,rfl,hB,by rw [hld _ hql];decide,rfl,rfl,⟨rfl,rfl⟩,rfl,Q.iF _ _ _ _,rfl,Q.iF _ _ _ _,⟨cT _,by omega⟩,by rw [Gz];omega,by unfold Q.sl;omega,?_,rfl,trivial⟩
    .rw [Gz]
     have:=Nat.min_le_right (Q.lt Q.tn (Q.one (Q.S key aC c i)) (((cI key aC c off (64*i) xs).drop (off+64*i)).take (len-64*i))).length (len-64*i)
     exact Nat.le_trans (Nat.add_le_add_left this _) (by omega)
    .rw [wi _ hi];exact decide_eq_true (by omega)
   .show [(60,SB.ints .u8 _ t)]=[(60,SB.ints .u8 _ t)]
    rw [eo,e1,hpd,Q.aQo (by omega) (by rw [Gz];omega),Q.uJ,Q.xJ fun m hm=>Q.Qd key aC c i (by omega),show 64*i+(len-64*i)=len by omega]
    rfl
  .refine G.oQ (cl:=[]) aU aV mix [false] H (aVp B.init Q.x4 Q.tn Q.one xs _ (Q.S key aC c i) t off len cap ((64*i:Nat):Int)) (aA ⟨?_,rfl,trivial⟩) rfl rfl ?_
   .rw [wi _ hi];exact kN (by omega)
   .rw [show 64*i=len by omega]
 refine G.eJ aU aV mix eC [false] (aVt B.init Q.x4 Q.tn Q.one xs _ (cI key aC c off (64*(4*i)) xs) (Q.S key aC c (4*i)) (Q.S key aC c (4*i)) t off len cap ((256*i:Nat):Int) ((64*(4*i):Nat):Int)) (aA ?_) (G.leave (by simp) ?_)
 .refine ⟨?_,rfl,rfl,rfl,rfl,by omega,⟨rfl,rfl⟩,⟨rfl,rfl⟩,trivial⟩
  unfold Q.no
  rw [wi _ hi];exact kN (by omega)
 have hi4:64*(4*i)<=len:=by omega
 clear h hi
 generalize 4*i=j0 at hi4
 refine G.eJ aU aV mix eC [] (aVs B.init Q.x4 Q.tn Q.one xs _ (cI key aC c off (64*j0) xs) (Q.S key aC c j0) (Q.S key aC c j0) t off len cap ((64*j0:Nat):Int) ((64*j0:Nat):Int)) (aA ?_) ?_
 .exact ⟨rfl,rfl,rfl,rfl,⟨rfl,rfl⟩,⟨rfl,rfl⟩,trivial⟩
 refine G.loop (fun r s=>∃ j:Nat,64*j<=len/\r=len-64*j/\s=bQ (qB off len cap ((64*j:Nat):Int)) (qA (cI key aC c off (64*j) xs) (Q.S key aC c j) t) 101 [60] []) (r0:=len-64*j0) ⟨j0,hi4,rfl,rfl⟩ ?_
 clear hi4
 rintro r s ⟨j,hj,rfl,rfl⟩
 by_cases h:64<=len-64*j
 .have eo:Q.oA off cap ((64*j:Nat):Int)=off+64*j:=Q.FC off (by omega)
  refine G.qK aU aV mix eC [true] (aVr B.init Q.x4 Q.tn Q.one xs _ (cI key aC c off (64*(j+1)) xs) (Q.S key aC c j) (Q.S key aC c (j+1)) t off len cap ((64*j:Nat):Int) ((64*(j+1):Nat):Int)) (aA ?_) (len-64*(j+1)) (by omega) ⟨j+1,by omega,rfl,rfl⟩
  rw [eo]
  refine ⟨by rw [Q.iF];decide,by rw [Q.iF];decide,rfl,Q.Dp _,by rw [Gz];omega,by omega,rfl,⟨rfl,rfl⟩,rfl,Q.iF _ _ _ _,rfl,Q.iF _ _ _ _,by omega,by unfold Q.sl;omega,?_,rfl,rfl,rfl,rfl,?_,⟨Q.aOx,rfl⟩,⟨Q.Rl key aC c j 1,rfl⟩,trivial⟩
  .unfold Q.go
   rw [wi _ hj];exact decide_eq_true (by omega)
  .rw [IntWalk.i64_in _ (by omega)];omega
 .refine G.eJ aU aV mix eC [false] (aVq B.init Q.x4 Q.tn Q.one xs _ (cI key aC c off (64*j) xs) (Q.S key aC c j) (Q.S key aC c j) t off len cap ((64*j:Nat):Int) ((64*j:Nat):Int)) (aA ?_) (G.leave (by simp) (Kh j hj h))
  refine ⟨?_,rfl,rfl,rfl,rfl,rfl,⟨rfl,rfl⟩,⟨rfl,rfl⟩,trivial⟩
  unfold Q.no
  rw [wi _ hj];exact kN (by omega)
def FI (vs:List SV) (T:aX):Option Canon:=match vs with
 | [.raw (.pointer none),ks,.int _ .u32 c,ns,.aH l _ off len cap]=>match cL ks,cL ns with
   | some (.u8,k),some (.u8,n)=>match T l with
     | some B=>match Bq B with
       | some (.u8,xs,ty)=>some { eL:=SP k n c off len cap,T0:=[(60,.ints .u8 xs ty)],vl:=[(60,.lab l 0)],e0:={ val:=.eD [],wr:=[(60,.ints .u8 (cI k n c off len xs) ty)] },conds:=[k.length=32,n.length=12,off+len<=xs.length,len<=cap,len<=4611686018427387904,0<=c/\c<=4294967295] }
       | _=>none
     | none=>none
   | _,_=>none
 | _=>none
theorem aIl (Γ:Env) (hg:Γ.aO=aB):aG Tryz.prog Γ 46 (aL aB 100 FI):=by
 refine aY hg fun vs T c hd hc=>?_
 unfold FI at hd
 split at hd
 case h_2=>cases hd
 split at hd
 case h_2=>cases hd
 split at hd
 case h_2=>cases hd
 split at hd
 case h_2=>cases hd
 cases hd
 exact (YB (hc _ (by simp)) (hc _ (by simp)) (hc _ (by simp)) (hc _ (by simp)) (hc _ (by simp)) (hc _ (by simp))).words (by rw [hg];rfl) (fun _=>rfl) (fun _ _ h=>h) (fun _=>rfl) rfl rfl
namespace P
def orT (a b:List Int):Nat->Int
 | 0=>0
 | j+1=>jZ .u8 (orT a b j) (gI .u8 (a.getD j 0) (b.getD j 0))
def EA (x:Int):Int:=bY .u64 (jZ .u64 x (W (0-x))) 63
def CG (a b:List Int):Int:=gI .u64 1 (EA (W (orT a b 16)))
theorem bv8 (a:Nat) (h:a<256):(BitVec.ofInt 8 (a:Int)).toNat=a:=by
 rw [BitVec.ofInt_natCast,BitVec.toNat_ofNat];exact Nat.mod_eq_of_lt h
theorem or8 {a b:Nat} (ha:a<256) (hb:b<256):jZ .u8 (a:Int) (b:Int)=((a ||| b:Nat):Int)/\a ||| b<256:=by
 have hl:a ||| b<2^8:=Nat.or_lt_two_pow (by omega) (by omega)
 refine ⟨?_,by omega⟩
 show (((BitVec.ofInt 8 (a:Int) ||| BitVec.ofInt 8 (b:Int)).toNat:Nat):Int)%256=_
 rw [BitVec.toNat_or,bv8 a ha,bv8 b hb]
 omega
theorem aDu {a b:Nat} (ha:a<256) (hb:b<256):gI .u8 (a:Int) (b:Int)=((a ^^^ b:Nat):Int)/\a ^^^ b<256:=by
 have hl:a ^^^ b<2^8:=Nat.xor_lt_two_pow (by omega) (by omega)
 refine ⟨?_,by omega⟩
 show (((BitVec.ofInt 8 (a:Int) ^^^ BitVec.ofInt 8 (b:Int)).toNat:Nat):Int)%256=_
 rw [BitVec.toNat_xor,bv8 a ha,bv8 b hb]
 omega
theorem aOp {x y:Nat}:x ^^^ y=0<->x=y:=by
 constructor
 .intro h
  have:x ^^^ y ^^^ y=0 ^^^ y:=by rw [h]
  rwa [Nat.xor_assoc,Nat.xor_self,Nat.xor_zero,Nat.zero_xor] at this
 .rintro rfl
  exact Nat.xor_self x
theorem HS {a b:List Int} (ha:bX a) (hb:bX b):∀ j,∃ n:Nat,orT a b j=(n:Int)/\n<256/\(n=0<->∀ i,i<j->a.getD i 0=b.getD i 0)
 | 0=>⟨0,rfl,by decide,⟨fun _ i hi=>absurd hi (Nat.not_lt_zero i),fun _=>rfl⟩⟩
 | j+1=>by
   obtain ⟨n,e,hn,hz⟩:=HS ha hb j
   obtain ⟨x,ex,hx⟩:=(ha.get j).nat
   obtain ⟨y,ey,hy⟩:=(hb.get j).nat
   obtain ⟨x1,x2⟩:=aDu hx hy
   obtain ⟨o1,o2⟩:=or8 hn x2
   refine ⟨n ||| (x ^^^ y),by rw [orT,e,ex,ey,x1,o1],o2,?_⟩
   rw [Nat.or_eq_zero_iff,hz,aOp]
   constructor
   .rintro ⟨h1,h2⟩ i hi
    by_cases hij:i<j
    .exact h1 i hij
    .have:i=j:=by omega
     subst this
     rw [ex,ey,h2]
   .intro h
    refine ⟨fun i hi=>h i (by omega),?_⟩
    have:=h j (by omega)
    rw [ex,ey] at this
    omega
theorem aPf {n:Nat} (h:n<256):gI .u64 1 (EA (W (n:Int)))=if n=0 then 1 else 0:=by
 have key:∀ n:Fin 256,gI .u64 1 (EA (W ((n.val:Nat):Int)))=if n.val=0 then 1 else 0:=by decide +kernel
 exact key ⟨n,h⟩
theorem aKu {a b:List Int} (ha:bX a) (hb:bX b) (la:a.length=16) (lb:b.length=16):CG a b=if a=b then 1 else 0:=by
 obtain ⟨n,e,hn,hz⟩:=HS ha hb 16
 unfold CG
 rw [e,aPf hn]
 by_cases h:a=b
 .rw [if_pos h,if_pos (hz.2 fun i _=>by rw [h])]
 .rw [if_neg h,if_neg fun q=>h (Q.Li la lb (hz.1 q))]
end P
theorem aSi (a b:List Int):aK (env eY 4) Tryz.f89 true [] 1500 [.agg (cN .u8 16 a),.agg (cN .u8 16 b)] Dv 100 100=some { val:=.int false .u64 (P.CG a b) }:=by kernel_rfl
theorem OI {a b:List Int} (la:a.length=16) (lb:b.length=16) (Γ:Env) (hg:Γ.aO=aB):aF Tryz.prog Γ 89 [.ai .u8 a,.ai .u8 b] Dv 100 100 { val:=.int false .u64 (P.CG a b) }:=by
 have hs:aG Tryz.prog (env eY 4) 89 (aK (env eY 4) Tryz.f89 true [] 1500):=aN (bL eY 4) (mL 4) mix Tryz.func89 (by kernel_rfl) true [] 1500
 refine (hs.call (aSi a b) fO).words (by rw [hg];rfl) (fun V=>?_) (fun _ _ h=>h) (fun V=>rfl) rfl rfl
 simp only [aJ,bG V la,bG V lb]
def GD (et:List Int->List Int->Int) (vs:List SV) (_:aX):Option Canon:=match vs with
 | [v,u]=>match cL v,cL u with
   | some (.u8,a),some (.u8,b)=>some { eL:=[.ai .u8 a,.ai .u8 b],T0:=[],vl:=[],e0:={ val:=.int false .u64 (et a b) },conds:=[et a b=P.CG a b,a.length=16,b.length=16] }
   | _,_=>none
 | _=>none
theorem aKs (et:List Int->List Int->Int) (Γ:Env) (hg:Γ.aO=aB):aG Tryz.prog Γ 89 (aL aB 100 (GD et)):=by
 refine aY hg fun vs T c hd hc=>?_
 unfold GD at hd
 split at hd
 case h_2=>cases hd
 split at hd
 case h_2=>cases hd
 cases hd
 have e:=hc _ dC
 have h:=OI (hc _ (eM _ dC)) (hc _ (eM _ (eM _ dC))) Γ hg
 rw [<- e] at h
 exact h
noncomputable def TP (mc:List Int->List Int->List Int) (et:List Int->List Int->Int):Nat->Option Sum:=dL (dL (dL eY 80 (aL aB 100 tA)) 48 (aL aB 100 (Tv mc))) 89 (aL aB 100 (GD et))
theorem aAy (mc:List Int->List Int->List Int) (et:List Int->List Int->Int):∀ f S,TP mc et f=some S->∀ Γ:Env,Γ.aO=aB->aG Tryz.prog Γ f S:=bE (bE (bE fT 80 _ Cm) 48 _ (HW mc)) 89 _ (aKs et)
def ckO (mc:List Int->List Int->List Int) (et:List Int->List Int->Int) (key t D:List Int) (d:Nat->List Int):List Prop:=
 let T:=mc key D
 [(et T t==1)=(et T t==1),et T t=P.CG T t,T.length=16,t.length=16,T=T,t=t,t.length=16,T=M.tag key D,key.length=32,bX key,bX D,D.length<=1073741824,D.length%16=0,key=key,
  (d 1).length=(d 1).length,(d 1).length=(d 1).length,(d 2).length=(d 2).length,(d 2).length=(d 2).length,(d 3).length=(d 3).length,(d 3).length=(d 3).length,(d 4).length=(d 4).length,(d 4).length=(d 4).length,(d 5).length=(d 5).length,(d 5).length=(d 5).length,
  d 1=d 1,d 2=d 2,d 3=d 3,d 4=d 4,d 5=d 5,key.length=32]
theorem aZo (mc:List Int->List Int->List Int) (et:List Int->List Int->Int) (key t:List Int) (d:Nat->List Int):aK (env (TP mc et) 4) Tryz.f50 true [] 1500 [.raw (.pointer none),.ai .u8 key,.ai .u8 t,.aH 62 true 0 5 5] (yN d) 100 100 =
 some { val:=.bool false (et (mc key (M.cat d)) t==1),bO:=ckO mc et key t (M.cat d) d }:=by kernel_rfl
theorem aBp {key t:List Int} {d:Nat->List Int} (hk:key.length=32) (hb:bX key) (ht:t.length=16) (htb:bX t) (hd:bX (M.cat d)) (hl:(M.cat d).length<=1073741824) (tQ:(M.cat d).length%16=0) (Γ:Env) (hg:Γ.aO=aB) :
 aF Tryz.prog Γ 50 [.raw (.pointer none),.ai .u8 key,.ai .u8 t,.aH 62 true 0 5 5] (yN d) 100 100 { val:=.bool false (decide (M.tag key (M.cat d)=t)) }:=by
 have hs:aG Tryz.prog (env (TP M.tag P.CG) 4) 50 (aK (env (TP M.tag P.CG) 4) Tryz.f50 true [] 1500):=aN (bL _ 4) (bV _ (aAy _ _) 4) mix Tryz.func50 (by kernel_rfl) true [] 1500
 have hT:=M.nK key (M.cat d)
 have hTB:bX (M.tag key (M.cat d)):=fun x hx=>by
  simp only [M.tag,M.Pe,List.mem_map] at hx
  obtain ⟨m,_,rfl⟩:=hx
  rw [IntKind.wrap_u8]
  exact ⟨Int.emod_nonneg _ (by decide),Int.emod_lt_of_pos _ (by decide)⟩
 have h:=hs.call (aZo M.tag P.CG key t d) (aA (show _/\_/\_/\_/\_/\_/\_/\_/\_/\_/\_/\_/\_/\_/\_/\_/\_/\_/\_/\_/\_/\_/\_/\_/\_/\_/\_/\_/\_/\_/\True from
  ⟨rfl,rfl,hT,ht,rfl,rfl,ht,rfl,hk,hb,hd,hl,tQ,rfl,rfl,rfl,rfl,rfl,rfl,rfl,rfl,rfl,rfl,rfl,rfl,rfl,rfl,rfl,rfl,hk,trivial⟩))
 refine h.words (by rw [hg];rfl) (fun V=>rfl) (fun _ _ h=>h) (fun V=>?_) rfl rfl
 have e:(P.CG (M.tag key (M.cat d)) t==1)=decide (M.tag key (M.cat d)=t):=by
  rw [P.aKu hTB htb hT ht]
  by_cases q:M.tag key (M.cat d)=t
  .rw [if_pos q,decide_eq_true q];rfl
  .rw [if_neg q,kN q];rfl
 show den V (.bool false (P.CG (M.tag key (M.cat d)) t==1))=_
 rw [e]
def GW (vs:List SV) (T:aX):Option Canon:=match vs with
 | [.raw (.pointer none),ks,ts,.aH L _ 0 5 5]=>match cL ks,cL ts,(T L).bind roL with
   | some (.u8,k),some (.u8,t),some [p1,p2,p3,p4,p5]=>match dQ T .u8 p1,dQ T .u8 p2,dQ T .u8 p3,dQ T .u8 p4,dQ T .u8 p5 with
     | some (o1,x1),some (o2,x2),some (o3,x3),some (o4,x4),some (o5,x5)=>some { eL:=[.raw (.pointer none),.ai .u8 k,.ai .u8 t,.aH 62 true 0 5 5],T0:=sgB (Ah x1 x2 x3 x4 x5),vl:=[(62,.lab L 0),(71,.cell L 0),(72,.cell L 1),(73,.cell L 2),(74,.cell L 3),(75,.cell L 4)],e0:={ val:=.bool false (decide (M.tag k (x1++(x2++(x3++(x4++x5))))=t)) },conds:=(k.length=32)::bX k::(t.length=16)::bX t::bX (x1++(x2++(x3++(x4++x5))))::((x1++(x2++(x3++(x4++x5)))).length<=1073741824)::((x1++(x2++(x3++(x4++x5)))).length%16=0)::(o1++(o2++(o3++(o4++o5)))) }
     | _,_,_,_,_=>none
   | _,_,_=>none
 | _=>none
theorem aLt (Γ:Env) (hg:Γ.aO=aB):aG Tryz.prog Γ 50 (aL aB 100 GW):=by
 refine aY hg fun vs T c hd hc=>?_
 unfold GW at hd
 split at hd
 case h_2=>cases hd
 split at hd
 case h_2=>cases hd
 split at hd
 case h_2=>cases hd
 cases hd
 rename_i o1 x1 o2 x2 o3 x3 o4 x4 o5 x5 _ _ _ _ _
 exact aBp (d:=Ah x1 x2 x3 x4 x5) (hc _ dC) (hc _ (eM _ dC)) (hc _ (eM _ (eM _ dC))) (hc _ (eM _ (eM _ (eM _ dC)))) (hc _ (eM _ (eM _ (eM _ (eM _ dC))))) (hc _ (eM _ (eM _ (eM _ (eM _ (eM _ dC)))))) (hc _ (eM _ (eM _ (eM _ (eM _ (eM _ (eM _ dC))))))) Γ hg
namespace M
def aC (N:Int):List Int:=[0,0,0,0,IntKind.u8.wrap (bY IntKind.u64 N 0),IntKind.u8.wrap (bY IntKind.u64 N 8),IntKind.u8.wrap (bY IntKind.u64 N 16),IntKind.u8.wrap (bY IntKind.u64 N 24),IntKind.u8.wrap (bY IntKind.u64 N 32),IntKind.u8.wrap (bY IntKind.u64 N 40),IntKind.u8.wrap (bY IntKind.u64 N 48),IntKind.u8.wrap (bY IntKind.u64 N 56)]
def once (key:List Int) (N:Int):List Int:=cI key (aC N) 0 0 32 (List.replicate 32 0)
def le (N:Int) (j:Nat):Int:=IntKind.u8.wrap (bY IntKind.u64 N ((8*j:Nat):Int))
def As (n:Int):Int:=(IntKind.i64.wrap (16-n.tmod 16)).tmod 16
def pQ (n:Int):Nat:=(As n).toNat
def Fw (a n:Int):List Int:=[le (IntKind.u64.wrap a) 0,le (IntKind.u64.wrap a) 1,le (IntKind.u64.wrap a) 2,le (IntKind.u64.wrap a) 3,le (IntKind.u64.wrap a) 4,le (IntKind.u64.wrap a) 5,le (IntKind.u64.wrap a) 6,le (IntKind.u64.wrap a) 7,le (IntKind.u64.wrap n) 0,le (IntKind.u64.wrap n) 1,le (IntKind.u64.wrap n) 2,le (IntKind.u64.wrap n) 3,le (IntKind.u64.wrap n) 4,le (IntKind.u64.wrap n) 5,le (IntKind.u64.wrap n) 6,le (IntKind.u64.wrap n) 7]
def SI (n:Int):List Int:=List.take (pQ n) (List.drop 0 (List.replicate (pQ n) 0))
def BM (ad:List Int) (la:Nat) (c:List Int) (n:Nat):List Int:=ad++(SI la++(c++(SI n++List.take 16 (List.drop 0 (Fw la n)))))
theorem kL (key:List Int) (N:Int):(once key N).length=32:=by unfold once;rw [fU];rfl
end M
theorem aVm (N:Int):aK (env eY 22) Tryz.f29 true [] 400 [.int false .u64 N] (fun l=>look l []) 100 100=some { val:=.agg [.int true .u8 0,.int true .u8 0,.int true .u8 0,.int true .u8 0,.int false .u8 (IntKind.u8.wrap (bY IntKind.u64 N 0)),.int false .u8 (IntKind.u8.wrap (bY IntKind.u64 N 8)),.int false .u8 (IntKind.u8.wrap (bY IntKind.u64 N 16)),.int false .u8 (IntKind.u8.wrap (bY IntKind.u64 N 24)),.int false .u8 (IntKind.u8.wrap (bY IntKind.u64 N 32)),.int false .u8 (IntKind.u8.wrap (bY IntKind.u64 N 40)),.int false .u8 (IntKind.u8.wrap (bY IntKind.u64 N 48)),.int false .u8 (IntKind.u8.wrap (bY IntKind.u64 N 56))] }:=by kernel_rfl
theorem Iw:∀ f S,eY f=some S->∀ Γ:Env,Γ.aO=aB->aG Tryz.prog Γ f S:=fun f S h Γ _=>tD f S h Γ
theorem XX (N:Int):aF Tryz.prog (env eY 22) 29 [.int false .u64 N] (fun l=>look l []) 100 100 { val:=.ai .u8 (M.aC N) }:=
 ((aN (bL eY 22) (bV eY Iw 22) mix Tryz.func29 (by kernel_rfl) true [] 400:aG Tryz.prog (env eY 22) 29 _).call (aVm N) (by simp)).re rfl (fun _=>rfl) trivial trivial
def FH (vs:List SV) (_:aX):Option Canon:=match vs with
 | [.int _ .u64 N]=>some { eL:=[.int false .u64 N],T0:=[],vl:=[],e0:={ val:=.ai .u8 (M.aC N) } }
 | _=>none
theorem aQl (Γ:Env) (hg:Γ.aO=aB):aG Tryz.prog Γ 29 (aL aB 100 FH):=by
 refine aY hg fun vs T c hd hc=>?_
 unfold FH at hd
 split at hd
 case h_2=>cases hd
 cases hd
 exact (XX _).words (by rw [hg];rfl) (fun _=>rfl) (fun _ _ h=>h) (fun _=>rfl) rfl rfl
theorem aWf (N:Int):aK (env eY 22) Tryz.f54 true [] 400 [.int false .u64 N] (fun l=>look l []) 100 100=some { val:=.aH 100 true 0 8 8,new:=[.own [.int false .u8 (M.le N 0),.int false .u8 (M.le N 1),.int false .u8 (M.le N 2),.int false .u8 (M.le N 3),.int false .u8 (M.le N 4),.int false .u8 (M.le N 5),.int false .u8 (M.le N 6),.int false .u8 (M.le N 7)] 5] }:=by kernel_rfl
theorem YI (N:Int):aF Tryz.prog (env eY 22) 54 [.int false .u64 N] (fun l=>look l []) 100 100 { val:=.aH 100 true 0 8 8,new:=[.own [.int false .u8 (M.le N 0),.int false .u8 (M.le N 1),.int false .u8 (M.le N 2),.int false .u8 (M.le N 3),.int false .u8 (M.le N 4),.int false .u8 (M.le N 5),.int false .u8 (M.le N 6),.int false .u8 (M.le N 7)] 5] }:=
 (aN (bL eY 22) (bV eY Iw 22) mix Tryz.func54 (by kernel_rfl) true [] 400:aG Tryz.prog (env eY 22) 54 _).call (aWf N) (by simp)
def FM (vs:List SV) (_:aX):Option Canon:=match vs with
 | [.int _ .u64 N]=>some { eL:=[.int false .u64 N],T0:=[],vl:=[],e0:={ val:=.aH 100 true 0 8 8,new:=[.own [.int false .u8 (M.le N 0),.int false .u8 (M.le N 1),.int false .u8 (M.le N 2),.int false .u8 (M.le N 3),.int false .u8 (M.le N 4),.int false .u8 (M.le N 5),.int false .u8 (M.le N 6),.int false .u8 (M.le N 7)] 5] } }
 | _=>none
theorem aQw (Γ:Env) (hg:Γ.aO=aB):aG Tryz.prog Γ 54 (aL aB 100 FM):=by
 refine aY hg fun vs T c hd hc=>?_
 unfold FM at hd
 split at hd
 case h_2=>cases hd
 cases hd
 exact (YI _).words (by rw [hg];rfl) (fun _=>rfl) (fun _ _ h=>h) (fun _=>rfl) rfl rfl
theorem aYp (n:Int):aK (env eY 22) Tryz.f55 true [] 400 [.int false .i64 n] (fun l=>look l []) 100 100=some { bO:=[0<=M.As n/\M.As n<=M.As n/\1*M.As n<=281474976710656/\M.As n<9223372036854775808],val:=.aH 100 false 0 (M.pQ n) (M.pQ n),new:=[.ints .u8 (List.replicate (M.pQ n) 0) 5] }:=by kernel_rfl
theorem M.Vi (n:Int) (h:0<=n/\n<=1073741824):M.As n=(16-n%16)%16/\0<=M.As n/\M.As n<16:=by
 have e:M.As n=(16-n%16)%16:=by
  unfold M.As
  rw [Int.tmod_eq_emod_of_nonneg h.1,IntWalk.i64_in _ ⟨by omega,by omega⟩,Int.tmod_eq_emod_of_nonneg (by omega)]
 rw [e];omega
theorem aAj {n:Int} (h:0<=n/\n<=1073741824):aF Tryz.prog (env eY 22) 55 [.int false .i64 n] (fun l=>look l []) 100 100 { val:=.aH 100 false 0 (M.pQ n) (M.pQ n),new:=[.ints .u8 (List.replicate (M.pQ n) 0) 5] }:=
 ((aN (bL eY 22) (bV eY Iw 22) mix Tryz.func55 (by kernel_rfl) true [] 400:aG Tryz.prog (env eY 22) 55 _).call (aYp n) (aA ⟨by have:=M.Vi n h;omega,trivial⟩)).re rfl (fun _=>rfl) ⟨rfl,trivial⟩ trivial
def GA (vs:List SV) (_:aX):Option Canon:=match vs with
 | [.int _ .i64 n]=>some { eL:=[.int false .i64 n],T0:=[],vl:=[],e0:={ val:=.aH 100 false 0 (M.pQ n) (M.pQ n),new:=[.ints .u8 (List.replicate (M.pQ n) 0) 5] },conds:=[0<=n/\n<=1073741824] }
 | _=>none
theorem aSd (Γ:Env) (hg:Γ.aO=aB):aG Tryz.prog Γ 55 (aL aB 100 GA):=by
 refine aY hg fun vs T c hd hc=>?_
 unfold GA at hd
 split at hd
 case h_2=>cases hd
 cases hd
 exact (aAj (hc _ (by simp))).words (by rw [hg];rfl) (fun _=>rfl) (fun _ _ h=>h) (fun _=>rfl) rfl rfl
theorem zV (x:Int):Bt (IntKind.u8.wrap x):=by
 rw [IntKind.wrap_u8]
 exact ⟨Int.emod_nonneg _ (by decide),Int.emod_lt_of_pos _ (by decide)⟩
theorem IY (x y:Int):Bt (gI .u8 x y):=zV _
namespace Q
def cx (key:List Int) (N:Int) (xs:List Int):List Int:=cI key (M.aC N) 1 0 xs.length xs
def tg (key:List Int) (N:Int) (ad c:List Int):List Int:=M.tag (M.once key N) (M.BM ad ad.length c c.length)
def bM (key:List Int) (N:Int) (ad bs:List Int) (n:Nat):List Int:=cx key N (bs.take n)++(tg key N ad (cx key N (bs.take n))++bs.drop (n+16))
def jG (key:List Int) (N:Int) (bs:List Int) (m:Nat):List Int:=cx key N (bs.take m)++bs.drop m
def DS (bs:List Int) (m:Nat):List Int:=List.replicate m 0++bs.drop m
theorem iT (key:List Int) (N:Int) (xs:List Int):(cx key N xs).length=xs.length:=fU _ _ _ _ _ _
theorem rP (key:List Int) (N:Int) (ad c:List Int):(tg key N ad c).length=16:=by simp [tg,M.tag,M.Pe]
theorem Yj {key aC:List Int} {c:Int} {n:Nat} {xs:List Int} (h:n<=xs.length):cI key aC c 0 n xs=cI key aC c 0 n (xs.take n)++xs.drop n:=by
 have hl:(cI key aC c 0 n (xs.take n)).length=n:=by rw [fU,List.length_take];omega
 refine Li (n:=xs.length) (fU _ _ _ _ _ _) (by rw [List.length_append,hl,List.length_drop];omega) fun i hi=>?_
 rw [rN _ _ _ _ _ _ hi]
 by_cases h1:i<n
 .rw [if_pos (by omega),xI _ _ (by omega),rN _ _ _ _ _ _ (by rw [List.length_take];omega),if_pos (by omega),cZ _ h1]
 .rw [if_neg (by omega),Ri _ _ (by omega),hl,mO]
  congr 1;omega
theorem Lx {key:List Int} {N:Int} {n:Nat} {xs:List Int} (h:n<=xs.length):cI key (M.aC N) 1 0 n xs=jG key N xs n:=by
 unfold jG cx
 rw [Yj h]
 have:(xs.take n).length=n:=by rw [List.length_take];omega
 rw [this]
theorem IU (key:List Int) (N:Int) {xs:List Int} (h:bX xs):bX (cx key N xs):=by
 intro x hx
 simp only [cx,cI,List.mem_map] at hx
 obtain ⟨m,_,rfl⟩:=hx
 split
 .exact IY _ _
 .exact h.get _
theorem aQz (key aC:List Int) (c:Int) (i:Nat):Bt (Au key aC c i):=by
 unfold Au
 refine bX.get (fun x hx=>?_) _
 simp only [B.block,B.out,List.mem_map] at hx
 obtain ⟨j,_,rfl⟩:=hx
 exact zV _
theorem UH {x k:Int} (hx:Bt x) (hk:Bt k):gI .u8 (gI .u8 x k) k=x:=by
 obtain ⟨a,rfl,ha⟩:=hx.nat
 obtain ⟨b,rfl,hb⟩:=hk.nat
 obtain ⟨e1,l1⟩:=P.aDu ha hb
 rw [e1,(P.aDu l1 hb).1,Nat.xor_assoc,Nat.xor_self,Nat.xor_zero]
theorem aSs (key:List Int) (N:Int) {xs:List Int} (h:bX xs):cx key N (cx key N xs)=xs:=by
 refine Li (n:=xs.length) (by rw [iT,iT]) rfl fun i hi=>?_
 have e:∀ ys:List Int,i<ys.length->(cx key N ys).getD i 0=gI .u8 (ys.getD i 0) (Au key (M.aC N) 1 i):=fun ys hy=>by
  unfold cx
  rw [rN _ _ _ _ _ _ hy,if_pos (by omega),Nat.sub_zero]
 rw [e _ (by rw [iT];exact hi),e _ hi,UH (h.get i) (aQz _ _ _ _)]
theorem US (key data:List Int):bX (M.tag key data):=fun x hx=>by
 simp only [M.tag,M.Pe,List.mem_map] at hx
 obtain ⟨m,_,rfl⟩:=hx
 exact zV _
theorem aGj (key:List Int) (N:Int) (ad c:List Int):bX (tg key N ad c):=US _ _
theorem pD {a b:List Int} (ha:bX a) (hb:bX b):bX (a++b):=fun x hx=>(List.mem_append.1 hx).elim (ha x) (hb x)
theorem Di {a:List Int} (n:Nat) (ha:bX a):bX (a.take n):=fun x hx=>ha x (List.mem_of_mem_take hx)
theorem Nm {a:List Int} (n:Nat) (ha:bX a):bX (a.drop n):=fun x hx=>ha x (List.mem_of_mem_drop hx)
theorem vO (n:Nat):bX (List.replicate n (0:Int)):=fun x hx=>by rw [(List.mem_replicate.1 hx).2];exact ⟨by decide,by decide⟩
theorem Ml (key:List Int) (N:Int):bX (M.once key N):=by
 intro x hx
 simp only [M.once,cI,List.mem_map] at hx
 obtain ⟨m,_,rfl⟩:=hx
 split
 .exact IY _ _
 .exact (vO 32).get _
theorem Vh {n:Nat} (h:n<=1073741824):M.pQ (n:Int)=(16-n%16)%16:=by
 obtain ⟨e,h0,h1⟩:=M.Vi (n:Int) ⟨by omega,by omega⟩
 unfold M.pQ;rw [e];omega
theorem Vg (n:Int):M.SI n=List.replicate (M.pQ n) 0:=by
 unfold M.SI
 rw [List.drop_zero,List.take_of_length_le (by simp)]
theorem Yw (a n:Int):bX (M.Fw a n):=by
 intro x hx
 simp only [M.Fw,List.mem_cons,List.not_mem_nil,or_false] at hx
 rcases hx with rfl | rfl | rfl | rfl | rfl | rfl | rfl | rfl | rfl | rfl | rfl | rfl | rfl | rfl | rfl | rfl <;> exact zV _
theorem aJs (ad:List Int) (la:Nat) (c:List Int) (n:Nat):M.BM ad la c n=ad++(List.replicate (M.pQ la) 0++(c++(List.replicate (M.pQ n) 0++M.Fw la n))):=by
 unfold M.BM
 rw [Vg,Vg]
 rfl
theorem IM {ad c:List Int} {la n:Nat} (ha:bX ad) (hc:bX c) (QW:ad.length=la) (hn:c.length=n) (bAx:la<=500000000) (Oc:n<=500000000) :
 bX (M.BM ad la c n)/\(M.BM ad la c n).length<=1073741824/\(M.BM ad la c n).length%16=0:=by
 have tQ:(M.Fw (la:Int) (n:Int)).length=16:=rfl
 have p1:=Vh (n:=la) (by omega)
 have p2:=Vh (n:=n) (by omega)
 rw [aJs]
 refine ⟨pD ha (pD (vO _) (pD hc (pD (vO _) (Yw _ _)))),?_,?_⟩
 .simp only [List.length_append,List.length_replicate,tQ,QW,hn];omega
 .simp only [List.length_append,List.length_replicate,tQ,QW,hn];omega
theorem JU (key:List Int) (N:Int) (ad:List Int) {bs:List Int} (n:Nat) (h:bX bs):bX (bM key N ad bs n):=
 pD (IU _ _ (Di _ h)) (pD (aGj _ _ _ _) (Nm _ h))
theorem Ns (key:List Int) (N:Int) (bs:List Int) {n:Nat} (h:n<=bs.length):(jG key N bs n).length=bs.length:=by
 simp only [jG,List.length_append,iT,List.length_take,List.length_drop];omega
end Q
def nO:Nat->List SV
 | 0=>[.int true .i64 0,.raw .nilFunc,.raw .nilFunc,.raw .nilFunc,.raw .nilFunc,.raw .nilFunc,.raw .nilFunc]
 | 1=>[.int true .i64 1,.fn (.func 41) [] [.ptr 50 true 0],.fn (.func 43) [] [.ptr 50 true 0],.fn (.func 45) [] [.ptr 50 true 0],.fn (.func 47) [] [.ptr 50 true 0],.fn (.func 49) [] [.ptr 50 true 0],.fn (.func 51) [] [.ptr 50 true 0]]
 | _=>[.int true .i64 2,.fn (.func 35) [] [],.fn (.func 36) [] [],.fn (.func 37) [] [],.fn (.func 38) [] [],.fn (.func 39) [] [],.fn (.func 40) [] []]
def Ko:Nat->List (Nat × SB)
 | 1=>[(50,.eQ [.raw (.pointer none)])]
 | _=>[]
def uC:SV->Option (Nat × List (Nat × Ew))
 | .agg (.int true .i64 0::_)=>some (0,[])
 | .agg (.int true .i64 1 :: .fn _ _ [.ptr L _ _]::_)=>some (1,[(50,.lab L 0)])
 | .agg (.int true .i64 2::_)=>some (2,[])
 | _=>none
noncomputable def exE:Nat->Option Sum:=dL (dL eY 37 aMg) 46 (aL aB 100 FI)
noncomputable def Ho (mc:List Int->List Int->List Int):Nat->Option Sum:=dL (dL (dL eY 38 (aL aB 100 EJ)) 48 (aL aB 100 (Tv mc))) 50 (aL aB 100 GW)
def SC (e:Nat) (key aC:List Int) (c:Int) (off len cap:Nat):List SV:=[.agg (nO e),.ai .u8 key,.int false .u32 c,.ai .u8 aC,.aH 60 false off len cap]
def stL (e:Nat) (xs:List Int) (t:TypeId):List (Nat × SB):=(60,.ints .u8 xs t)::(Ko e++Ej)
def tkL (e:Nat) (d:Nat->List Int):List (Nat × SB):=Ko e++sgB d
def bS (e:Nat):Prop:=e=0\/e=1\/e=2
def stO (key aC xs:List Int) (c:Int) (t:TypeId) (off len cap:Nat) (m r:List Prop):List Prop:=
 (key.length=32)::(aC.length=12)::(off+len<=xs.length)::(m++(len<=4611686018427387904)::(0<=c/\c<=4294967295)::(key=key)::(c=c)::(aC=aC)::(off=0+off)::(len=len)::(cap=cap)::(xs=xs/\t=t)::(aC.length=12)::(key.length=32)::r)
def stE (key aC:List Int) (c:Int) (off len:Nat) (xs:List Int) (t:TypeId):bK:={ val:=.eD [],wr:=[(60,.ints .u8 (cI key aC c off len xs) t)] }
theorem aCi (e:Nat) (he:e=0\/e=2) (key aC xs:List Int) (c:Int) (t:TypeId) (off len cap:Nat):aK (env exE 22) Tryz.f28 true [] 400 (SC e key aC c off len cap) (fun l=>look l (stL e xs t)) 100 100=some { stE key aC c off len xs t with bO:=stO key aC xs c t off len cap [] [] }:=by rcases he with rfl | rfl <;> kernel_rfl
theorem aPe (key aC xs:List Int) (c:Int) (t:TypeId) (off len cap:Nat):aK (env exE 22) Tryz.f28 true [] 400 (SC 1 key aC c off len cap) (fun l=>look l (stL 1 xs t)) 100 100=some { stE key aC c off len xs t with bO:=stO key aC xs c t off len cap [len<=cap] [aC.length=12,key.length=32] }:=by kernel_rfl
theorem aKr:∀ f S,exE f=some S->∀ Γ:Env,Γ.aO=aB->aG Tryz.prog Γ f S:=bE (bE fT 37 _ aFz) 46 _ aIl
theorem JN {e:Nat} (he:bS e) {key aC xs:List Int} {c:Int} {t:TypeId} {off len cap:Nat} (hk:key.length=32) (hn:aC.length=12) (hx:off+len<=xs.length) (hlc:len<=cap) (hl:len<=4611686018427387904) (hc:0<=c/\c<=4294967295) (Γ:Env) (hg:Γ.aO=aB) :
 aF Tryz.prog Γ 28 (SC e key aC c off len cap) (fun l=>look l (stL e xs t)) 100 100 (stE key aC c off len xs t):=by
 have hs:aG Tryz.prog (env exE 22) 28 (aK (env exE 22) Tryz.f28 true [] 400):=aN (bL exE 22) (bV exE aKr 22) mix Tryz.func28 (by kernel_rfl) true [] 400
 have rT:∀ m r:List Prop,(∀ q∈m,q)->(∀ q∈r,q)->∀ q∈stO key aC xs c t off len cap m r,q:=fun m r hm hr=>
  aM hk (aM hn (aM hx (qI hm (aM hl (aM hc (aM rfl (aM rfl (aM rfl (aM (by omega) (aM rfl (aM rfl (aM ⟨rfl,rfl⟩ (aM hn (aM hk hr))))))))))))))
 rcases he with rfl | rfl | rfl
 .exact (hs.call (aCi 0 (.inl rfl) key aC xs c t off len cap) (rT _ _ fO fO)).words (by rw [hg];rfl) (fun _=>rfl) (fun _ _ h=>h) (fun _=>rfl) rfl rfl
 .exact (hs.call (aPe key aC xs c t off len cap) (rT _ _ (aM hlc fO) (aM hn (aM hk fO)))).words (by rw [hg];rfl) (fun _=>rfl) (fun _ _ h=>h) (fun _=>rfl) rfl rfl
 .exact (hs.call (aCi 2 (.inr rfl) key aC xs c t off len cap) (rT _ _ fO fO)).words (by rw [hg];rfl) (fun _=>rfl) (fun _ _ h=>h) (fun _=>rfl) rfl rfl
def Ln (d:Nat->List Int) (r:List Prop):List Prop:=
 ((d 1).length=(d 1).length)::((d 1).length=(d 1).length)::((d 2).length=(d 2).length)::((d 2).length=(d 2).length)::((d 3).length=(d 3).length)::((d 3).length=(d 3).length)::((d 4).length=(d 4).length)::((d 4).length=(d 4).length)::((d 5).length=(d 5).length)::((d 5).length=(d 5).length) ::
   (d 1=d 1)::(d 2=d 2)::(d 3=d 3)::(d 4=d 4)::(d 5=d 5)::r
theorem oE {d:Nat->List Int} {r:List Prop} (h:∀ q∈r,q):∀ q∈Ln d r,q:=
 aM rfl (aM rfl (aM rfl (aM rfl (aM rfl (aM rfl (aM rfl (aM rfl (aM rfl (aM rfl (aM rfl (aM rfl (aM rfl (aM rfl (aM rfl h))))))))))))))
def iP (key D:List Int) (r:List Prop):List Prop:=(key.length=32)::bX key::bX D::(D.length<=1073741824)::(D.length%16=0)::r
theorem Wd (mc:List Int->List Int->List Int):∀ f S,Ho mc f=some S->∀ Γ:Env,Γ.aO=aB->aG Tryz.prog Γ f S:=bE (bE (bE fT 38 _ aGn) 48 _ (HW mc)) 50 _ aLt
theorem aCh (e:Nat) (he:e=0\/e=2) (key:List Int) (d:Nat->List Int):aK (env (Ho M.tag) 22) Tryz.f30 true [] 400 [.agg (nO e),.ai .u8 key,.aH 62 true 0 5 5] (fun l=>look l (tkL e d)) 100 100 =
 some { val:=.ai .u8 (M.tag key (M.cat d)),bO:=((M.tag key (M.cat d)).length=16)::((M.tag key (M.cat d)).length=16)::iP key (M.cat d) ((key=key)::Ln d [key.length=32]) }:=by rcases he with rfl | rfl <;> kernel_rfl
theorem aPa (mc:List Int->List Int->List Int) (key:List Int) (d:Nat->List Int):aK (env (Ho mc) 22) Tryz.f30 true [] 400 [.agg (nO 1),.ai .u8 key,.aH 62 true 0 5 5] (fun l=>look l (tkL 1 d)) 100 100 =
 some { val:=.ai .u8 (mc key (M.cat d)),bO:=((mc key (M.cat d)).length=16)::((mc key (M.cat d)).length=16)::((mc key (M.cat d)).length=16)::((mc key (M.cat d)).length=16)::(mc key (M.cat d)=M.tag key (M.cat d))::iP key (M.cat d) ((key=key)::Ln d [key.length=32,key.length=32]) }:=by kernel_rfl
theorem JK {e:Nat} (he:bS e) {key:List Int} {d:Nat->List Int} (hk:key.length=32) (hb:bX key) (hd:bX (M.cat d)) (hl:(M.cat d).length<=1073741824) (tQ:(M.cat d).length%16=0) (Γ:Env) (hg:Γ.aO=aB) :
 aF Tryz.prog Γ 30 [.agg (nO e),.ai .u8 key,.aH 62 true 0 5 5] (fun l=>look l (tkL e d)) 100 100 { val:=.ai .u8 (M.tag key (M.cat d)) }:=by
 have hs:aG Tryz.prog (env (Ho M.tag) 22) 30 (aK (env (Ho M.tag) 22) Tryz.f30 true [] 400):=aN (bL _ 22) (bV _ (Wd _) 22) mix Tryz.func30 (by kernel_rfl) true [] 400
 have hT:=M.nK key (M.cat d)
 have hw:∀ r:List Prop,(∀ q∈r,q)->∀ q∈iP key (M.cat d) r,q:=fun r hr=>aM hk (aM hb (aM hd (aM hl (aM tQ hr))))
 rcases he with rfl | rfl | rfl
 .exact (hs.call (aCh 0 (.inl rfl) key d) (aM hT (aM hT (hw _ (aM rfl (oE (aM hk fO))))))).words (by rw [hg];rfl) (fun _=>rfl) (fun _ _ h=>h) (fun _=>rfl) rfl rfl
 .exact (hs.call (aPa M.tag key d) (aM hT (aM hT (aM hT (aM hT (aM rfl (hw _ (aM rfl (oE (aM hk (aM hk fO)))))))))) ).words (by rw [hg];rfl) (fun _=>rfl) (fun _ _ h=>h) (fun _=>rfl) rfl rfl
 .exact (hs.call (aCh 2 (.inr rfl) key d) (aM hT (aM hT (hw _ (aM rfl (oE (aM hk fO))))))).words (by rw [hg];rfl) (fun _=>rfl) (fun _ _ h=>h) (fun _=>rfl) rfl rfl
theorem aDp (e:Nat) (he:e=0\/e=2) (key t:List Int) (d:Nat->List Int):aK (env (Ho M.tag) 22) Tryz.f57 true [] 400 [.agg (nO e),.ai .u8 key,.ai .u8 t,.aH 62 true 0 5 5] (fun l=>look l (tkL e d)) 100 100 =
 some { val:=.bool false (decide (M.tag key (M.cat d)=t)),bO:=((M.tag key (M.cat d)).length=16/\t.length=16)::(t.length=16)::iP key (M.cat d) ((key=key)::Ln d [key.length=32,t.length=16,key.length=32]) }:=by rcases he with rfl | rfl <;> kernel_rfl
theorem aSu (key t:List Int) (d:Nat->List Int):aK (env (Ho M.tag) 22) Tryz.f57 true [] 400 [.agg (nO 1),.ai .u8 key,.ai .u8 t,.aH 62 true 0 5 5] (fun l=>look l (tkL 1 d)) 100 100 =
 some { val:=.bool false (decide (M.tag key (M.cat d)=t)),bO:=(key.length=32)::bX key::(t.length=16)::bX t::bX (M.cat d)::((M.cat d).length<=1073741824)::((M.cat d).length%16=0)::(key=key)::(t=t)::Ln d [t.length=16,key.length=32,t.length=16,key.length=32] }:=by kernel_rfl
theorem OY {e:Nat} (he:bS e) {key t:List Int} {d:Nat->List Int} (hk:key.length=32) (hb:bX key) (ht:t.length=16) (htb:bX t) (hd:bX (M.cat d)) (hl:(M.cat d).length<=1073741824) (tQ:(M.cat d).length%16=0) (Γ:Env) (hg:Γ.aO=aB) :
 aF Tryz.prog Γ 57 [.agg (nO e),.ai .u8 key,.ai .u8 t,.aH 62 true 0 5 5] (fun l=>look l (tkL e d)) 100 100 { val:=.bool false (decide (M.tag key (M.cat d)=t)) }:=by
 have hs:aG Tryz.prog (env (Ho M.tag) 22) 57 (aK (env (Ho M.tag) 22) Tryz.f57 true [] 400):=aN (bL _ 22) (bV _ (Wd _) 22) mix Tryz.func57 (by kernel_rfl) true [] 400
 have hT:=M.nK key (M.cat d)
 have hw:∀ r:List Prop,(∀ q∈r,q)->∀ q∈iP key (M.cat d) r,q:=fun r hr=>aM hk (aM hb (aM hd (aM hl (aM tQ hr))))
 rcases he with rfl | rfl | rfl
 .exact (hs.call (aDp 0 (.inl rfl) key t d) (aM ⟨hT,ht⟩ (aM ht (hw _ (aM rfl (oE (aM hk (aM ht (aM hk fO))))))))).words (by rw [hg];rfl) (fun _=>rfl) (fun _ _ h=>h) (fun _=>rfl) rfl rfl
 .exact (hs.call (aSu key t d) (aM hk (aM hb (aM ht (aM htb (aM hd (aM hl (aM tQ (aM rfl (aM rfl (oE (aM ht (aM hk (aM ht (aM hk fO)))))))))))))) ).words (by rw [hg];rfl) (fun _=>rfl) (fun _ _ h=>h) (fun _=>rfl) rfl rfl
 .exact (hs.call (aDp 2 (.inr rfl) key t d) (aM ⟨hT,ht⟩ (aM ht (hw _ (aM rfl (oE (aM hk (aM ht (aM hk fO))))))))).words (by rw [hg];rfl) (fun _=>rfl) (fun _ _ h=>h) (fun _=>rfl) rfl rfl
def Qb (vs:List SV) (T:aX):Option Canon:=match vs with
 | [ev,ks,.int _ .u32 c,ns,.aH l _ off len cap]=>match uC ev,cL ks,cL ns,(T l).bind Bq with
   | some (e,vl),some (.u8,k),some (.u8,n),some (.u8,xs,ty)=>some { eL:=SC e k n c off len cap,T0:=stL e xs ty,vl:=(60,.lab l 0)::vl,e0:=stE k n c off len xs ty,conds:=[bS e,k.length=32,n.length=12,off+len<=xs.length,len<=cap,len<=4611686018427387904,0<=c/\c<=4294967295] }
   | _,_,_,_=>none
 | _=>none
theorem UW (Γ:Env) (hg:Γ.aO=aB):aG Tryz.prog Γ 28 (aL aB 100 Qb):=by
 refine aY hg fun vs T c hd hc=>?_
 unfold Qb at hd
 split at hd
 case h_2=>cases hd
 split at hd
 case h_2=>cases hd
 cases hd
 exact JN (hc _ (by simp)) (hc _ (by simp)) (hc _ (by simp)) (hc _ (by simp)) (hc _ (by simp)) (hc _ (by simp)) (hc _ (by simp)) Γ hg
def IN (L:Nat):List (Nat × Ew):=[(62,.lab L 0),(71,.cell L 0),(72,.cell L 1),(73,.cell L 2),(74,.cell L 3),(75,.cell L 4)]
def Py (vs:List SV) (T:aX):Option Canon:=match vs with
 | [ev,ks,.aH L _ 0 5 5]=>match uC ev,cL ks,(T L).bind roL with
   | some (e,vl),some (.u8,k),some [p1,p2,p3,p4,p5]=>match dQ T .u8 p1,dQ T .u8 p2,dQ T .u8 p3,dQ T .u8 p4,dQ T .u8 p5 with
     | some (o1,x1),some (o2,x2),some (o3,x3),some (o4,x4),some (o5,x5)=>some { eL:=[.agg (nO e),.ai .u8 k,.aH 62 true 0 5 5],T0:=tkL e (Ah x1 x2 x3 x4 x5),vl:=vl++IN L,e0:={ val:=.ai .u8 (M.tag k (x1++(x2++(x3++(x4++x5))))) },conds:=bS e::iP k (x1++(x2++(x3++(x4++x5)))) (o1++(o2++(o3++(o4++o5)))) }
     | _,_,_,_,_=>none
   | _,_,_=>none
 | _=>none
theorem UR (Γ:Env) (hg:Γ.aO=aB):aG Tryz.prog Γ 30 (aL aB 100 Py):=by
 refine aY hg fun vs T c hd hc=>?_
 unfold Py at hd
 split at hd
 case h_2=>cases hd
 split at hd
 case h_2=>cases hd
 split at hd
 case h_2=>cases hd
 cases hd
 rename_i o1 x1 o2 x2 o3 x3 o4 x4 o5 x5 _ _ _ _ _
 exact JK (d:=Ah x1 x2 x3 x4 x5) (hc _ (by simp)) (hc _ (by simp [iP])) (hc _ (by simp [iP])) (hc _ (by simp [iP,M.cat,Ah])) (hc _ (by simp [iP,M.cat,Ah])) (hc _ (by simp [iP,M.cat,Ah])) Γ hg
def Rf (vs:List SV) (T:aX):Option Canon:=match vs with
 | [ev,ks,ts,.aH L _ 0 5 5]=>match uC ev,cL ks,cL ts,(T L).bind roL with
   | some (e,vl),some (.u8,k),some (.u8,t),some [p1,p2,p3,p4,p5]=>match dQ T .u8 p1,dQ T .u8 p2,dQ T .u8 p3,dQ T .u8 p4,dQ T .u8 p5 with
     | some (o1,x1),some (o2,x2),some (o3,x3),some (o4,x4),some (o5,x5)=>some { eL:=[.agg (nO e),.ai .u8 k,.ai .u8 t,.aH 62 true 0 5 5],T0:=tkL e (Ah x1 x2 x3 x4 x5),vl:=vl++IN L,e0:={ val:=.bool false (decide (M.tag k (x1++(x2++(x3++(x4++x5))))=t)) },conds:=bS e::(t.length=16)::bX t::iP k (x1++(x2++(x3++(x4++x5)))) (o1++(o2++(o3++(o4++o5)))) }
     | _,_,_,_,_=>none
   | _,_,_,_=>none
 | _=>none
theorem aBo (Γ:Env) (hg:Γ.aO=aB):aG Tryz.prog Γ 57 (aL aB 100 Rf):=by
 refine aY hg fun vs T c hd hc=>?_
 unfold Rf at hd
 split at hd
 case h_2=>cases hd
 split at hd
 case h_2=>cases hd
 split at hd
 case h_2=>cases hd
 cases hd
 rename_i o1 x1 o2 x2 o3 x3 o4 x4 o5 x5 _ _ _ _ _
 exact OY (d:=Ah x1 x2 x3 x4 x5) (hc _ (by simp)) (hc _ (by simp [iP])) (hc _ (by simp [iP])) (hc _ (by simp)) (hc _ (by simp)) (hc _ (by simp [iP,M.cat,Ah])) (hc _ (by simp [iP,M.cat,Ah])) (hc _ (by simp [iP,M.cat,Ah])) Γ hg
noncomputable def Yb:Nat->Option Sum:=dL (dL (dL (dL (dL (dL eY 28 (aL aB 100 Qb)) 30 (aL aB 100 Py)) 57 (aL aB 100 Rf)) 29 (aL aB 100 FH)) 54 (aL aB 100 FM)) 55 (aL aB 100 GA)
theorem Wm:∀ f S,Yb f=some S->∀ Γ:Env,Γ.aO=aB->aG Tryz.prog Γ f S:=bE (bE (bE (bE (bE (bE fT 28 _ UW) 30 _ UR) 57 _ aBo) 29 _ aQl) 54 _ aQw) 55 _ aSd
def onL (e:Nat):List (Nat × SB):=Ko e++Ej
theorem bAb (e:Nat) (he:bS e) (key:List Int) (N:Int):aK (env Yb 22) Tryz.f27 true [] 400 [.agg (nO e),.ai .u8 key,.int false .u64 N] (fun l=>look l (onL e)) 100 100 =
 some { val:=.ai .u8 (M.once key N),bO:=[(M.once key N).length=32,(M.once key N).length=32,(M.once key N).length=32,bS e,key.length=32,(M.aC N).length=12,0+32<=32,32<=32,32<=4611686018427387904,(0:Int)<=0/\(0:Int)<=4294967295,key=key,(0:Int)=0,M.aC N=M.aC N,0=0,32=32,32=32,List.replicate 32 (0:Int)=List.replicate 32 0/\(23:Nat)=(23:TypeId),N=N,key.length=32] }:=by rcases he with rfl | rfl | rfl <;> kernel_rfl
theorem aCa {e:Nat} (he:bS e) {key:List Int} (hk:key.length=32) (N:Int) (Γ:Env) (hg:Γ.aO=aB):aF Tryz.prog Γ 27 [.agg (nO e),.ai .u8 key,.int false .u64 N] (fun l=>look l (onL e)) 100 100 { val:=.ai .u8 (M.once key N) }:=
 ((aN (bL Yb 22) (bV Yb Wm 22) mix Tryz.func27 (by kernel_rfl) true [] 400:aG Tryz.prog (env Yb 22) 27 _).call (bAb e he key N) (aA ⟨M.kL _ _,M.kL _ _,M.kL _ _,he,hk,rfl,by omega,by omega,by omega,by omega,rfl,rfl,rfl,rfl,rfl,rfl,⟨rfl,rfl⟩,rfl,hk,trivial⟩)).words (by rw [hg];rfl) (fun _=>rfl) (fun _ _ h=>h) (fun _=>rfl) rfl rfl
def HB (on:List Int->Int->List Int) (vs:List SV) (_:aX):Option Canon:=match vs with
 | [ev,ks,.int _ .u64 N]=>match uC ev,cL ks with
   | some (e,vl),some (.u8,k)=>some { eL:=[.agg (nO e),.ai .u8 k,.int false .u64 N],T0:=onL e,vl:=vl,e0:={ val:=.ai .u8 (on k N) },conds:=[on k N=M.once k N,bS e,k.length=32] }
   | _,_=>none
 | _=>none
theorem aMb (on:List Int->Int->List Int) (Γ:Env) (hg:Γ.aO=aB):aG Tryz.prog Γ 27 (aL aB 100 (HB on)):=by
 refine aY hg fun vs T c hd hc=>?_
 unfold HB at hd
 split at hd
 case h_2=>cases hd
 split at hd
 case h_2=>cases hd
 cases hd
 have e:=hc _ dC
 rw [e]
 exact aCa (hc _ (eM _ dC)) (hc _ (eM _ (eM _ dC))) _ Γ hg
noncomputable def aOb (on:List Int->Int->List Int):Nat->Option Sum:=dL Yb 27 (aL aB 100 (HB on))
theorem aAz (on:List Int->Int->List Int):∀ f S,aOb on f=some S->∀ Γ:Env,Γ.aO=aB->aG Tryz.prog Γ f S:=bE Wm 27 _ (aMb on)
noncomputable def nN (on:List Int->Int->List Int):Env:=env (aOb on) 22
theorem rD (on:List Int->Int->List Int):cD Tryz.prog (nN on):=bL _ 22
theorem rE (on:List Int->Int->List Int):cF Tryz.prog (nN on):=bV _ (aAz on) 22
def aeL:List (Nat × SB):=[(0,.eQ [.pX 407 (.ptr 40 true 0)]),(2,.eQ [.pX 407 (.ptr 42 true 0)]),(4,.eQ [.pX 407 (.ptr 44 true 0)]),(8,.eQ [.pX 407 (.ptr 48 true 0)]),(17,.eQ [.int true .i64 40]),(18,.eQ [.int true .i64 40])]++Ej
def aOi:List (Nat × Ew):=[(40,.lab 40 0),(42,.lab 42 0),(44,.lab 44 0),(48,.lab 48 0)]
def aeS:List (Nat × SB):=[(0,.eQ [.pX 407 (.ptr 40 true 0)]),(2,.eQ [.pX 407 (.ptr 42 true 0)]),(17,.eQ [.int true .i64 40]),(18,.eQ [.int true .i64 40])]++Ej
def UA:List (Nat × Ew):=[(40,.lab 40 0),(42,.lab 42 0)]
def Xo (e:Nat) (key:List Int) (N:Int) (la lb cb:Nat) (n:Int):List SV:=[.agg (nO e),.ai .u8 key,.int false .u64 N,.iH 63 la,.aH 62 false 0 lb cb,.int false .i64 n]
def seL (e:Nat) (ad bs:List Int) (t:TypeId):List (Nat × SB):=[(62,.ints .u8 bs t),(63,.gC .u8 ad)]++(Ko e++aeS)
def oeL (e:Nat) (ad bs:List Int) (t:TypeId):List (Nat × SB):=[(62,.ints .u8 bs t),(63,.gC .u8 ad)]++(Ko e++aeL)
def oeT (e:Nat) (ad bs:List Int) (t:TypeId):aX:=fun l=>look l (oeL e ad bs t)
def seT (e:Nat) (ad bs:List Int) (t:TypeId):aX:=fun l=>look l (seL e ad bs t)
noncomputable def seM (on:List Int->Int->List Int) (e:Nat) (ad bs:List Int) (t:TypeId) (k:Nat) (cf:Cf) (K:List Fr) (s:St):Option nM:=fX (nN on) (aZ 100 (seT e ad bs t)) 100 Tryz.f15.ntmps [] 400 k cf K s
def jF:Nat->Code->Code
 | 0,c=>c
 | n+1,.seq _ y=>jF n y
 | _,c=>c
def aMp (la lb cb n:Nat):List (Nat × SV):=[(3,.iH 63 la),(4,.aH 62 false 0 lb cb),(5,.int false .i64 (n:Int)),(6,.ptr 100 true 0),(14,.aH 62 false 0 n n),(15,.ptr 101 true 0)]
def aMs (e:Nat) (cs ok:List Int) (t:TypeId):List (Nat × SB):=[(62,.ints .u8 cs t),(100,.own (nO e) 36),(101,.ints .u8 ok 23)]
def aMo (lb cb n:Nat):List (Nat × SV):=[(4,.aH 62 false 0 lb cb),(5,.int false .i64 (n:Int)),(16,.ptr 100 true 0)]
def aMr (cs tg:List Int) (t:TypeId):List (Nat × SB):=[(62,.ints .u8 cs t),(100,.ints .u8 tg 77)]
namespace Q
def oS (n:Nat):Nat:=(if IntKind.i64.wrap ((n:Int)+16)=(n:Int) then 0 else 0+(n:Int).toNat*1)
def aEp (n:Nat) (cs x:List Int):List Int:=cs.take (oS n)++x.take (x.length.min ((IntKind.i64.wrap ((n:Int)+16)).toNat-(n:Int).toNat))++cs.drop (oS n+x.length.min ((IntKind.i64.wrap ((n:Int)+16)).toNat-(n:Int).toNat))
end Q
theorem aUj (e:Nat) (he:bS e) (on:List Int->Int->List Int) (key ad bs cs ok:List Int) (N:Int) (la lb cb n:Nat) (t:TypeId):eJ 100 Tryz.f15.ntmps (aZ 100 (seT e ad bs t)) [] (aMp la lb cb n) (aMs e cs ok t) 102 [62] [] (seM on e ad bs t 25 (.go (codeOf Tryz.f15)) [] ((yM (Xo e key N la lb cb (n:Int)) 100).hint [false,false,false])) =
 some (.go (jF 5 (codeOf Tryz.f15)),[],[bS e,key.length=32,(M.aC N).length=12,0+((n:Int).toNat-0)<=bs.length,(n:Int).toNat-0<=(n:Int).toNat-0,(n:Int).toNat-0<=4611686018427387904,(0:Int)<=1/\(1:Int)<=4294967295,key=key,(1:Int)=1,M.aC N=M.aC N,0=0+0,(n:Int).toNat-0=(n:Int).toNat-0,(n:Int).toNat-0=(n:Int).toNat-0,bs=bs/\t=t,N=N,key.length=32,
  (on key N).length=32,on key N=M.once key N,bS e,key.length=32,key=key,N=N,key.length=32,(0:Int)<=(n:Int)/\(n:Int)<=(cb:Int)/\(0:Int)<=(n:Int)/\(n:Int)<=(n:Int)/\(0:Int)<=0/\(0:Int)<=(n:Int),decide (IntKind.i64.wrap ((lb:Int)-(n:Int))<16)=false,decide ((n:Int)>(lb:Int))=false,decide ((n:Int)<0)=false,
  la=la,0=0,lb=lb,cb=cb,(n:Int)=(n:Int),0=0,(n:Int).toNat-0=n,(n:Int).toNat-0=n,cI key (M.aC N) 1 0 ((n:Int).toNat-0) bs=cs/\t=t,on key N=ok/\(23:Nat)=(23:TypeId)]):=by rcases he with rfl | rfl | rfl <;> kernel_rfl
def frO (e:Nat) (ad cs ok:List Int) (la n:Nat) (x y r:List Prop):List Prop:=
 let pa:=M.pQ la;let pn:=M.pQ n;let RA:=List.replicate pa (0:Int);let RN:=List.replicate pn (0:Int);let L16:=M.Fw la n
 let TA:=(RA.drop 0).take pa;let TC:=(cs.drop 0).take n;let TN:=(RN.drop 0).take pn;let T5:=(L16.drop 0).take 16
 let p2:=0+pa<=RA.length/\pa<=pa;let p3:=0+n<=cs.length/\n<=n;let p4:=0+pn<=RN.length/\pn<=pn;let p5:=16<=L16.length/\(0:Nat)<=0
 bS e::(x++iP ok (M.BM ad la TC n) (p2::p3::p4::p5::(ok=ok)::(y++(la=la)::(ad.length=ad.length)::(0=0)::(pa=pa)::(pa=pa)::p2::(TA.length=TA.length)::(0=0)::(n=n)::(n=n)::p3::(TC.length=TC.length)::(0=0)::(pn=pn)::(pn=pn)::p4::(TN.length=TN.length)::(16=16)::p5::(T5.length=T5.length) ::
  (ad=ad)::(TA=TA)::p2::(TC=TC)::p3::(TN=TN)::p4::(T5=T5)::p5::r)))
def fqO (la n:Nat) (r:List Prop):List Prop:=(0<=(n:Int)/\(n:Int)<=1073741824)::((n:Int)=(n:Int))::(0<=(la:Int)/\(la:Int)<=1073741824)::((la:Int)=(la:Int))::(IntKind.u64.wrap (n:Int)=IntKind.u64.wrap (n:Int))::(IntKind.u64.wrap (la:Int)=IntKind.u64.wrap (la:Int))::r
theorem aUi (e:Nat) (he:bS e) (on:List Int->Int->List Int) (ad bs cs ok tg:List Int) (la lb cb n:Nat) (t:TypeId):eJ 100 Tryz.f15.ntmps (aZ 100 (seT e ad bs t)) [] (aMo lb cb n) (aMr cs tg t) 101 [62] [] (seM on e ad bs t 3 (.go (jF 5 (codeOf Tryz.f15))) [] ((bQ (aMp la lb cb n) (aMs e cs ok t) 102 [62] []).hint [])) =
 some (.go (jF 6 (codeOf Tryz.f15)),[],((M.tag ok (M.BM ad la ((cs.drop 0).take n) n)).length=16)::frO e ad cs ok la n [] [] (fqO la n [ok.length=32,0=0,lb=lb,cb=cb,(n:Int)=(n:Int),cs=cs/\t=t,M.tag ok (M.BM ad la ((cs.drop 0).take n) n)=tg/\(77:Nat)=(77:TypeId)])):=by rcases he with rfl | rfl | rfl <;> kernel_rfl
theorem aUh (e:Nat) (he:bS e) (on:List Int->Int->List Int) (ad bs cs tg:List Int) (lb cb n:Nat) (t:TypeId):qF (nN on) (seT e ad bs t) 100 100 Tryz.f15 [] (seM on e ad bs t 400 (.go (jF 6 (codeOf Tryz.f15))) [] ((bQ (aMo lb cb n) (aMr cs tg t) 101 [62] []).hint [])) =
 some { bO:=[Q.oS n+((tg.drop 0).take 16).length.min ((IntKind.i64.wrap ((n:Int)+16)).toNat-(n:Int).toNat)<=cs.length,16<=tg.length,(0:Int)<=IntKind.i64.wrap ((n:Int)+16)/\IntKind.i64.wrap ((n:Int)+16)<=(cb:Int)/\(0:Int)<=IntKind.i64.wrap ((n:Int)+16)/\IntKind.i64.wrap ((n:Int)+16)<=IntKind.i64.wrap ((n:Int)+16)/\(0:Int)<=(n:Int)/\(n:Int)<=IntKind.i64.wrap ((n:Int)+16)],val:=.eD [.int false .i64 (IntKind.i64.wrap ((n:Int)+16)),.raw .nilIface],wr:=[(62,.ints .u8 (Q.aEp n cs ((tg.drop 0).take 16)) t)] }:=by rcases he with rfl | rfl | rfl <;> kernel_rfl
def Ev (e:Nat) (key:List Int) (N:Int) (la lb:Nat) (n:Int):List SV:=[.agg (nO e),.ai .u8 key,.int false .u64 N,.iH 63 la,.iH 62 lb,.int false .i64 n]
def axL (e:Nat) (ad bs:List Int):List (Nat × SB):=[(62,.gC .u8 bs),(63,.gC .u8 ad)]++(Ko e++aeS)
def oxL (e:Nat) (ad bs:List Int):List (Nat × SB):=[(62,.gC .u8 bs),(63,.gC .u8 ad)]++(Ko e++aeL)
def Xj (l:Nat):SV:=.eD [.int true .i64 0,.pX 407 (.ptr l true 0)]
theorem aTy (e:Nat) (he:bS e) (key ad bs:List Int) (N n:Int) (la lb:Nat):aK (nN M.once) Tryz.f15 true [true] 400 (Ev e key N la lb n) (fun l=>look l (axL e ad bs)) 100 100=some { val:=Xj 40,bO:=[decide (n<0)=true] }:=by rcases he with rfl | rfl | rfl <;> kernel_rfl
theorem aTx (e:Nat) (he:bS e) (key ad bs:List Int) (N n:Int) (la lb:Nat):aK (nN M.once) Tryz.f15 true [false,true] 400 (Ev e key N la lb n) (fun l=>look l (axL e ad bs)) 100 100=some { val:=Xj 40,bO:=[decide (n>(lb:Int))=true,decide (n<0)=false] }:=by rcases he with rfl | rfl | rfl <;> kernel_rfl
theorem aTw (e:Nat) (he:bS e) (key ad bs:List Int) (N n:Int) (la lb:Nat):aK (nN M.once) Tryz.f15 true [false,false,true] 400 (Ev e key N la lb n) (fun l=>look l (axL e ad bs)) 100 100=some { val:=Xj 42,bO:=[decide (IntKind.i64.wrap ((lb:Int)-n)<16)=true,decide (n>(lb:Int))=false,decide (n<0)=false] }:=by rcases he with rfl | rfl | rfl <;> kernel_rfl
theorem aVb (e:Nat) (he:bS e) (key ad bs:List Int) (N n:Int) (la lb:Nat):aK (nN M.once) Tryz.f34 true [true] 400 (Ev e key N la lb n) (fun l=>look l (oxL e ad bs)) 100 100=some { val:=Xj 40,bO:=[decide (n<0)=true] }:=by rcases he with rfl | rfl | rfl <;> kernel_rfl
theorem aVa (e:Nat) (he:bS e) (key ad bs:List Int) (N n:Int) (la lb:Nat):aK (nN M.once) Tryz.f34 true [false,true] 400 (Ev e key N la lb n) (fun l=>look l (oxL e ad bs)) 100 100=some { val:=Xj 40,bO:=[decide (n>(lb:Int))=true,decide (n<0)=false] }:=by rcases he with rfl | rfl | rfl <;> kernel_rfl
theorem aUz (e:Nat) (he:bS e) (key ad bs:List Int) (N n:Int) (la lb:Nat):aK (nN M.once) Tryz.f34 true [false,false,true] 400 (Ev e key N la lb n) (fun l=>look l (oxL e ad bs)) 100 100=some { val:=Xj 44,bO:=[decide (n<16)=true,decide (n>(lb:Int))=false,decide (n<0)=false] }:=by rcases he with rfl | rfl | rfl <;> kernel_rfl
def GV:Code->Code
 | .seq (.seq _ c) _=>c
 | c=>c
noncomputable def opM (on:List Int->Int->List Int) (e:Nat) (ad bs:List Int) (t:TypeId) (k:Nat) (cf:Cf) (K:List Fr) (s:St):Option nM:=fX (nN on) (aZ 100 (oeT e ad bs t)) 100 Tryz.f34.ntmps [] 400 k cf K s
def CS:List SV:=[.fn (.func 56) [] [.ptr 102 true 0,.ptr 103 true 0]]
def aCx (N:Int) (la lb cb n m:Nat):List (Nat × SV):=[(2,.int false .u64 N),(3,.iH 63 la),(4,.aH 62 false 0 lb cb),(5,.int false .i64 (n:Int)),(6,.ptr 100 true 0),(7,.ptr 101 true 0),(12,.int true .i64 0),(13,.ptr 102 true 0),(14,.int false .i64 (m:Int)),(15,.ptr 103 true 0),(16,.ptr 104 true 0)]
def aCw (e:Nat) (key ok bs:List Int) (m:Nat) (t:TypeId):List (Nat × SB):=[(62,.ints .u8 bs t),(100,.own (nO e) 36),(101,.ints .u8 key 23),(102,.own [.raw .nilIface] 41),(103,.own [.aH 62 false 0 m m] 25),(104,.ints .u8 ok 23)]
def EY (N:Int) (m:Nat) (b:Bool):List (Nat × SV):=[(2,.int false .u64 N),(6,.ptr 100 true 0),(7,.ptr 101 true 0),(12,.int true .i64 0),(13,.ptr 102 true 0),(14,.int false .i64 (m:Int)),(15,.ptr 103 true 0),(55,.bool false b)]
def EX (e:Nat) (key bs:List Int) (m:Nat) (t:TypeId):List (Nat × SB):=[(62,.ints .u8 bs t),(100,.own (nO e) 36),(101,.ints .u8 key 23),(102,.own [.raw .nilIface] 41),(103,.own [.aH 62 false 0 m m] 25)]
theorem aVi (e:Nat) (he:bS e) (on:List Int->Int->List Int) (key ad bs ok:List Int) (N:Int) (la lb cb n m:Nat) (t:TypeId):eJ 100 Tryz.f34.ntmps (aZ 100 (oeT e ad bs t)) [] (aCx N la lb cb n m) (aCw e key ok bs m t) 105 [62] CS (opM on e ad bs t 28 (.go (codeOf Tryz.f34)) [] ((yM (Xo e key N la lb cb (n:Int)) 100).hint [false,false,false])) =
 some (.go (jF 6 (codeOf Tryz.f34)),[],[(on key N).length=32,on key N=M.once key N,bS e,key.length=32,key=key,N=N,key.length=32,(0:Int)<=IntKind.i64.wrap ((n:Int)-16)/\IntKind.i64.wrap ((n:Int)-16)<=(cb:Int)/\(0:Int)<=IntKind.i64.wrap ((n:Int)-16)/\IntKind.i64.wrap ((n:Int)-16)<=IntKind.i64.wrap ((n:Int)-16)/\(0:Int)<=0/\(0:Int)<=IntKind.i64.wrap ((n:Int)-16),
  decide ((n:Int)<16)=false,decide ((n:Int)>(lb:Int))=false,decide ((n:Int)<0)=false,N=N,la=la,0=0,lb=lb,cb=cb,(n:Int)=(n:Int),IntKind.i64.wrap ((n:Int)-16)=(m:Int),bs=bs/\t=t,key=key/\(23:Nat)=(23:TypeId),0=0,(IntKind.i64.wrap ((n:Int)-16)).toNat-0=m,(IntKind.i64.wrap ((n:Int)-16)).toNat-0=m,on key N=ok/\(23:Nat)=(23:TypeId)]):=by rcases he with rfl | rfl | rfl <;> kernel_rfl
def Q.oT (n m:Nat):Nat:=if (n:Int)=(m:Int) then 0 else 0+(m:Int).toNat*1
def Q.tT (n m:Nat) (bs:List Int):List Int:=(bs.drop (Q.oT n m)).take 16
theorem aVh (e:Nat) (he:bS e) (on:List Int->Int->List Int) (key ad bs ok:List Int) (N:Int) (la lb cb n m:Nat) (t:TypeId) (b:Bool):eJ 100 Tryz.f34.ntmps (aZ 100 (oeT e ad bs t)) [] (EY N m b) (EX e key bs m t) 104 [62] CS (opM on e ad bs t 4 (.go (jF 6 (codeOf Tryz.f34))) [] ((bQ (aCx N la lb cb n m) (aCw e key ok bs m t) 105 [62] CS).hint [])) =
 some (.go (GV (jF 6 (codeOf Tryz.f34))),[.seq (jF 7 (codeOf Tryz.f34))],frO e ad bs ok la m [(Q.tT n m bs).length=16,bX (Q.tT n m bs)] [Q.tT n m bs=Q.tT n m bs] (fqO la m [Q.oT n m+16<=bs.length,16<=(n:Int).toNat-(m:Int).toNat,(0:Int)<=(n:Int)/\(n:Int)<=(cb:Int)/\(0:Int)<=(n:Int)/\(n:Int)<=(n:Int)/\(0:Int)<=(m:Int)/\(m:Int)<=(n:Int),ok.length=32,N=N,(m:Int)=(m:Int),
  (!decide (M.tag ok (M.BM ad la ((bs.drop 0).take m) m)=Q.tT n m bs))=b,bs=bs/\t=t,key=key/\(23:Nat)=(23:TypeId),0=0,m=m,m=m])):=by rcases he with rfl | rfl | rfl <;> kernel_rfl
theorem aVg (e:Nat) (he:bS e) (on:List Int->Int->List Int) (key ad bs:List Int) (N:Int) (m:Nat) (t:TypeId) (b:Bool):qF (nN on) (oeT e ad bs t) 100 100 Tryz.f34 [] (opM on e ad bs t 400 (.go (GV (jF 6 (codeOf Tryz.f34)))) [.seq (jF 7 (codeOf Tryz.f34))] ((bQ (EY N m b) (EX e key bs m t) 104 [62] CS).hint [true])) =
 some { bO:=[0+m<=bs.length,b=true],val:=Xj 48,wr:=[(62,.ints .u8 (bs.take 0++List.replicate m 0++bs.drop (0+m)) t)] }:=by rcases he with rfl | rfl | rfl <;> kernel_rfl
theorem aVf (e:Nat) (he:bS e) (on:List Int->Int->List Int) (key ad bs:List Int) (N:Int) (m:Nat) (t:TypeId) (b:Bool):qF (nN on) (oeT e ad bs t) 100 100 Tryz.f34 [] (opM on e ad bs t 400 (.go (GV (jF 6 (codeOf Tryz.f34)))) [.seq (jF 7 (codeOf Tryz.f34))] ((bQ (EY N m b) (EX e key bs m t) 104 [62] CS).hint [false])) =
 some { bO:=[bS e,key.length=32,(M.aC N).length=12,0+m<=bs.length,m<=m,m<=4611686018427387904,(0:Int)<=1/\(1:Int)<=4294967295,key=key,(1:Int)=1,M.aC N=M.aC N,0=0,m=m,m=m,bs=bs/\t=t,N=N,key.length=32,b=false],val:=.eD [.int false .i64 (m:Int),.raw .nilIface],wr:=[(62,.ints .u8 (cI key (M.aC N) 1 0 m bs) t)] }:=by rcases he with rfl | rfl | rfl <;> kernel_rfl
theorem Q.YV {n:Nat} {cs x:List Int} (hn:n+16<=1073741824) (hx:x.length=16):Q.aEp n cs x=cs.take n++(x++cs.drop (n+16)):=by
 have w2:IntKind.i64.wrap ((n:Int)+16)=((n+16:Nat):Int):=by rw [IntWalk.i64_in _ ⟨by omega,by omega⟩];omega
 have e1:Q.oS n=n:=by unfold Q.oS;rw [w2,if_neg (by omega)];omega
 unfold Q.aEp
 rw [e1,w2,hx]
 have e3:(16:Nat).min ((((n+16:Nat):Int)).toNat-(n:Int).toNat)=16:=by
  have:(((n+16:Nat):Int)).toNat-(n:Int).toNat=16:=by omega
  rw [this];rfl
 rw [e3,List.take_of_length_le (Nat.le_of_eq hx),List.append_assoc]
def seE (key:List Int) (N:Int) (ad bs:List Int) (n:Nat) (t:TypeId):bK:={ val:=.eD [.int false .i64 ((n+16:Nat):Int),.raw .nilIface],wr:=[(62,.ints .u8 (Q.bM key N ad bs n) t)] }
theorem WZ {e:Nat} (he:bS e) {key ad bs:List Int} {N:Int} {lb cb n:Nat} {t:TypeId} (hk:key.length=32) (ha:bX ad) (QD:bX (bs.take n)) (QW:ad.length<=500000000) (hn:n+16<=lb) (hl:lb<=cb) (hb:lb<=bs.length) (hcb:lb<=500000000) :
 aF Tryz.prog (nN M.once) 15 (Xo e key N ad.length lb cb n) (seT e ad bs t) 100 100 (seE key N ad bs n t):=by
 refine fS (rD _) (rE _) Tryz.func15 (by kernel_rfl) rfl (jX (by kernel_rfl)) rfl [] ?_
 intro w0 Mx V0 Qx eC H
 have aU:=rD M.once
 have aV:=rE M.once
 have w1:IntKind.i64.wrap ((lb:Int)-(n:Int))=(lb:Int)-n:=IntWalk.i64_in _ ⟨by omega,by omega⟩
 have w2:IntKind.i64.wrap ((n:Int)+16)=((n+16:Nat):Int):=by rw [IntWalk.i64_in _ ⟨by omega,by omega⟩];omega
 have Gz:(cI key (M.aC N) 1 0 n bs).length=bs.length:=fU _ _ _ _ _ _
 have hx:=Q.IU key N QD
 have bZ:cI key (M.aC N) 1 0 n bs=Q.jG key N bs n:=Q.Lx (by omega)
 have rV:(Q.cx key N (bs.take n)).length=n:=by rw [Q.iT,List.length_take];omega
 have CA:(M.aC N).length=12:=rfl
 have hol:=M.kL key N
 have hoB:=Q.Ml key N
 have htk:(Q.jG key N bs n).take n=Q.cx key N (bs.take n):=by
  unfold Q.jG;rw [List.take_append_of_le_length (by omega),List.take_of_length_le (by omega)]
 have QR:=Q.rP key N ad (Q.cx key N (bs.take n))
 have aRh:Q.bM key N ad bs n=(Q.jG key N bs n).take n++(Q.tg key N ad (Q.cx key N (bs.take n))++(Q.jG key N bs n).drop (n+16)):=by
  rw [htk];unfold Q.bM Q.jG
  have:List.drop (n+16) (Q.cx key N (bs.take n)++bs.drop n)=bs.drop (n+16):=by
   rw [List.drop_append,rV,List.drop_of_length_le (by omega),mZ,List.drop_drop]
   congr 1;omega
  rw [this]
 have d1:decide ((lb:Int)-(n:Int)<16)=false:=kN (by omega)
 have d2:decide ((n:Int)>(lb:Int))=false:=kN (by omega)
 have d3:decide ((n:Int)<0)=false:=kN (by omega)
 refine G.eJ aU aV mix eC [false,false,false] (aUj e he M.once key ad bs (cI key (M.aC N) 1 0 n bs) (M.once key N) N ad.length lb cb n t) (aA ?_) ?_
 .simp only [cA,w1]
  repeat' apply And.intro
  all_goals first | rfl | assumption | omega | trivial | exact cT _
 rw [bZ] at Gz |-
 rw [<- htk] at hx
 generalize kD:Q.jG key N bs n=cs at *
 have hd0:List.drop 0 cs=cs:=rfl
 have hct:(cs.take n).length=n:=by rw [List.length_take];omega
 obtain ⟨f1,f2,f3⟩:=Q.IM (la:=ad.length) (n:=n) ha hx rfl hct QW (by omega)
 have htg:M.tag (M.once key N) (M.BM ad ad.length (cs.take n) n)=Q.tg key N ad (Q.cx key N (bs.take n)):=by
  unfold Q.tg;rw [rV,<- htk]
 generalize Q.tg key N ad (Q.cx key N (bs.take n))=tg at *
 generalize kX:M.once key N=ok at *
 refine G.eJ aU aV mix eC [] (aUi e he M.once ad bs cs ok tg ad.length lb cb n t) (aA ?_) ?_
 .simp only [cA,frO,fqO,iP,List.cons_append,mZ,hd0,htg,List.length_replicate]
  repeat' apply And.intro
  all_goals first | rfl | assumption | omega | trivial | exact cT _
 have e2:List.take 16 (List.drop 0 tg)=tg:=by rw [List.drop_zero,List.take_of_length_le (by omega)]
 have e1:Q.oS n=n:=by unfold Q.oS;rw [w2,if_neg (by omega)];omega
 have e3:(16:Nat).min (n+16-n)=16:=by rw [Nat.add_sub_cancel_left];rfl
 refine G.oQ (cl:=[]) aU aV mix [] H (aUh e he M.once ad bs cs tg lb cb n t) (aA ?_) ?_ rfl ?_
 .simp only [cA,w2,e2,sJ,e1,QR,e3]
  repeat' apply And.intro
  all_goals first | rfl | assumption | omega | trivial | exact cT _
 .show SV.eD [.int false .i64 (IntKind.i64.wrap ((n:Int)+16)),.raw .nilIface]=_
  rw [w2];rfl
 .show [(62,SB.ints .u8 _ t)]=[(62,SB.ints .u8 _ t)]
  rw [e2,Q.YV (by omega) QR,aRh]
def opE (key:List Int) (N:Int) (bs:List Int) (m:Nat) (t:TypeId):Bool->bK
 | true=>{ val:=.eD [.int false .i64 (m:Int),.raw .nilIface],wr:=[(62,.ints .u8 (Q.jG key N bs m) t)] }
 | false=>{ val:=Xj 48,wr:=[(62,.ints .u8 (Q.DS bs m) t)] }
theorem XT {e:Nat} (he:bS e) {key ad bs:List Int} {N:Int} {lb cb m:Nat} {t:TypeId} {b:Bool} (hk:key.length=32) (ha:bX ad) (QD:bX (bs.take (m+16))) (QW:ad.length<=500000000) (hn:m+16<=lb) (hl:lb<=cb) (hb:lb<=bs.length) (hcb:lb<=500000000)
 (hd:decide (Q.tg key N ad (bs.take m)=(bs.drop m).take 16)=b) :
 aF Tryz.prog (nN M.once) 34 (Xo e key N ad.length lb cb ((m+16:Nat):Int)) (oeT e ad bs t) 100 100 (opE key N bs m t b):=by
 refine fS (rD _) (rE _) Tryz.func34 (by kernel_rfl) rfl (jX (by kernel_rfl)) rfl [] ?_
 intro w0 Mx V0 Qx eC H
 have aU:=rD M.once
 have aV:=rE M.once
 have w1:IntKind.i64.wrap (((m+16:Nat):Int)-16)=(m:Int):=by rw [IntWalk.i64_in _ ⟨by omega,by omega⟩];omega
 have hol:=M.kL key N
 have hoB:=Q.Ml key N
 have CA:(M.aC N).length=12:=rfl
 have d1:decide (((m+16:Nat):Int)<16)=false:=kN (by omega)
 have d2:decide (((m+16:Nat):Int)>(lb:Int))=false:=kN (by omega)
 have d3:decide (((m+16:Nat):Int)<0)=false:=kN (by omega)
 have hct:(bs.take m).length=m:=by rw [List.length_take];omega
 have aWs:M.tag (M.once key N) (M.BM ad ad.length (bs.take m) m)=Q.tg key N ad (bs.take m):=by unfold Q.tg;rw [hct]
 refine G.eJ aU aV mix eC [false,false,false] (aVi e he M.once key ad bs (M.once key N) N ad.length lb cb (m+16) m t) (aA ?_) ?_
 .simp only [cA,w1,sJ,Nat.sub_zero]
  repeat' apply And.intro
  all_goals first | rfl | assumption | omega | trivial | exact cT _
 have hbm:bX (bs.take m):=by
  have e:bs.take m=(bs.take (m+16)).take m:=by rw [List.take_take,Nat.min_eq_left (by omega)]
  rw [e];exact Q.Di _ QD
 obtain ⟨f1,f2,f3⟩:=Q.IM (la:=ad.length) (n:=m) ha hbm rfl hct QW (by omega)
 have QR:=Q.rP key N ad (bs.take m)
 have e1:Q.oT (m+16) m=m:=by unfold Q.oT;rw [if_neg (by omega)];omega
 have e2:Q.tT (m+16) m bs=(bs.drop m).take 16:=by unfold Q.tT;rw [e1]
 have hdl:((bs.drop m).take 16).length=16:=by rw [List.length_take,List.length_drop];omega
 have hdB:bX ((bs.drop m).take 16):=by
  have e:(bs.drop m).take 16=(bs.take (m+16)).drop m:=by rw [List.drop_take,Nat.add_sub_cancel_left]
  rw [e];exact Q.Nm _ QD
 generalize M.once key N=ok at *
 have hd0:List.drop 0 bs=bs:=rfl
 refine G.eJ aU aV mix eC [] (aVh e he M.once key ad bs ok N ad.length lb cb (m+16) m t (!b)) (aA ?_) ?_
 .simp only [cA,frO,fqO,iP,List.cons_append,mZ,sJ,e1,e2,hd0,aWs,hdl,hd,List.length_replicate]
  repeat' apply And.intro
  all_goals first | rfl | assumption | omega | trivial | exact cT _
 cases b
 .refine G.oQ (cl:=[]) aU aV mix [true] H (aVg e he M.once key ad bs N m t _) (aA ⟨by omega,rfl,trivial⟩) rfl rfl ?_
  show [(62,SB.ints .u8 _ t)]=[(62,SB.ints .u8 _ t)]
  simp only [List.take_zero,mZ,Nat.zero_add,Q.DS]
 .refine G.oQ (cl:=[]) aU aV mix [false] H (aVf e he M.once key ad bs N m t _) (aA ?_) rfl rfl ?_
  .simp only [cA]
   repeat' apply And.intro
   all_goals first | rfl | assumption | omega | trivial | exact cT _
  .show [(62,SB.ints .u8 _ t)]=[(62,SB.ints .u8 _ t)]
   rw [Q.Lx (by omega)]
def Ik (lb:Nat) (n:Int):Nat->Prop
 | 1=>n<0\/n>(lb:Int)
 | 2=>¬ n<0/\¬ n>(lb:Int)/\(lb:Int)-n<16
 | _=>¬ n<0/\¬ n>(lb:Int)/\n<16
def sxL:Nat->Nat
 | 1=>40
 | 2=>42
 | _=>44
theorem UT {e:Nat} (he:bS e) (key ad bs:List Int) (N n:Int) {la lb:Nat} (_:lb<=500000000) {o:Nat} (ho:o=1\/o=2) (h:Ik lb n o):aF Tryz.prog (nN M.once) 15 (Ev e key N la lb n) (fun l=>look l (axL e ad bs)) 100 100 { val:=Xj (sxL o) }:=by
 have hI:∀ hs,aG Tryz.prog (nN M.once) 15 (aK (nN M.once) Tryz.f15 true hs 400):=fun hs=>aN (rD _) (rE _) mix Tryz.func15 (by kernel_rfl) true hs 400
 rcases ho with rfl | rfl
 .by_cases h0:n<0
  .exact ((hI _).call (aTy e he key ad bs N n la lb) (aA ⟨decide_eq_true h0,trivial⟩)).words rfl (fun _=>rfl) (fun _ _ h=>h) (fun _=>rfl) rfl rfl
  .have h1:n>(lb:Int):=h.resolve_left h0
   exact ((hI _).call (aTx e he key ad bs N n la lb) (aA ⟨decide_eq_true h1,kN h0,trivial⟩)).words rfl (fun _=>rfl) (fun _ _ h=>h) (fun _=>rfl) rfl rfl
 .obtain ⟨h0,h1,h2⟩:=h
  exact ((hI _).call (aTw e he key ad bs N n la lb) (aA ⟨decide_eq_true (by rw [IntWalk.i64_in _ ⟨by omega,by omega⟩];exact h2),kN h1,kN h0,trivial⟩)).words rfl (fun _=>rfl) (fun _ _ h=>h) (fun _=>rfl) rfl rfl
theorem XQ {e:Nat} (he:bS e) (key ad bs:List Int) (N n:Int) {la lb:Nat} {o:Nat} (ho:o=1\/o=3) (h:Ik lb n o):aF Tryz.prog (nN M.once) 34 (Ev e key N la lb n) (fun l=>look l (oxL e ad bs)) 100 100 { val:=Xj (sxL o) }:=by
 have hI:∀ hs,aG Tryz.prog (nN M.once) 34 (aK (nN M.once) Tryz.f34 true hs 400):=fun hs=>aN (rD _) (rE _) mix Tryz.func34 (by kernel_rfl) true hs 400
 rcases ho with rfl | rfl
 .by_cases h0:n<0
  .exact ((hI _).call (aVb e he key ad bs N n la lb) (aA ⟨decide_eq_true h0,trivial⟩)).words rfl (fun _=>rfl) (fun _ _ h=>h) (fun _=>rfl) rfl rfl
  .have h1:n>(lb:Int):=h.resolve_left h0
   exact ((hI _).call (aVa e he key ad bs N n la lb) (aA ⟨decide_eq_true h1,kN h0,trivial⟩)).words rfl (fun _=>rfl) (fun _ _ h=>h) (fun _=>rfl) rfl rfl
 .obtain ⟨h0,h1,h2⟩:=h
  exact ((hI _).call (aUz e he key ad bs N n la lb) (aA ⟨decide_eq_true h2,kN h1,kN h0,trivial⟩)).words rfl (fun _=>rfl) (fun _ _ h=>h) (fun _=>rfl) rfl rfl
abbrev oN:=List Int->Int->List Int->List Int->Nat->List Int
abbrev yO:=Bool->List Int->Int->List Int->Nat->List Int
def aMq (x:List Int) (n:Nat) (t:TypeId):bK:={ val:=.eD [.int false .i64 ((n+16:Nat):Int),.raw .nilIface],wr:=[(62,.ints .u8 x t)] }
def aMx (x:List Int) (m:Nat) (t:TypeId):Bool->bK
 | true=>{ val:=.eD [.int false .i64 (m:Int),.raw .nilIface],wr:=[(62,.ints .u8 x t)] }
 | false=>{ val:=Xj 48,wr:=[(62,.ints .u8 x t)] }
def Q.wM:yO
 | true,k,N,bs,m=>Q.jG k N bs m
 | false,_,_,bs,m=>Q.DS bs m
structure Yf (sb:oN) (k:List Int) (N:Int) (ad bs:List Int) (n:Nat):Prop where
 h:sb k N ad bs n=Q.bM k N ad bs n
structure UB (ob:yO) (p:Bool) (k:List Int) (N:Int) (bs:List Int) (m:Nat):Prop where
 h:ob p k N bs m=Q.wM p k N bs m
structure Ul (p:Bool) (k:List Int) (N:Int) (ad bs:List Int) (m:Nat):Prop where
 h:decide (Q.tg k N ad (bs.take m)=(bs.drop m).take 16)=p
def aEa (sb:oN) (ev ks a:SV) (N n:Int) (L lb cb:Nat) (T:aX):Option Canon:=match uC ev,cL ks,dQ T .u8 a,(T L).bind Bq with
 | some (e,vl),some (.u8,k),some (oa,ad),some (.u8,bs,t)=>some { eL:=Xo e k N ad.length lb cb (n.toNat:Int),T0:=seL e ad bs t,vl:=(62,.lab L 0)::(63,.arg 3)::(vl++UA),e0:=aMq (sb k N ad bs n.toNat) n.toNat t,conds:=Yf sb k N ad bs n.toNat::bS e::(k.length=32)::bX ad::bX (bs.take n.toNat)::(ad.length<=500000000)::(n.toNat+16<=lb)::(lb<=cb)::(lb<=bs.length)::(lb<=500000000)::oa }
 | _,_,_,_=>none
def SF (o:Nat) (ev ks a b:SV) (N n:Int) (T:aX):Option Canon:=match uC ev,cL ks,dQ T .u8 a,dQ T .u8 b with
 | some (e,vl),some (.u8,k),some (oa,ad),some (ob,bs)=>some { eL:=Ev e k N ad.length bs.length n,T0:=axL e ad bs,vl:=(62,.arg 4)::(63,.arg 3)::(vl++UA),e0:={ val:=Xj (sxL o) },conds:=bS e::(bs.length<=500000000)::Ik bs.length n o::(oa++ob) }
 | _,_,_,_=>none
def Tq (sb:oN) (out:Int->Nat) (vs:List SV) (T:aX):Option Canon:=match vs with
 | [ev,ks,.int _ .u64 N,a,b,.int _ .i64 n]=>match out n,b with
   | 0,.aH L _ 0 lb cb=>aEa sb ev ks a N n L lb cb T
   | 1,_=>SF 1 ev ks a b N n T
   | 2,_=>SF 2 ev ks a b N n T
   | _,_=>none
 | _=>none
def SJ (ob:yO) (p:Bool) (ev ks a:SV) (N n:Int) (L lb cb:Nat) (T:aX):Option Canon:=match uC ev,cL ks,dQ T .u8 a,(T L).bind Bq with
 | some (e,vl),some (.u8,k),some (oa,ad),some (.u8,bs,t)=>some { eL:=Xo e k N ad.length lb cb ((n.toNat-16+16:Nat):Int),T0:=oeL e ad bs t,vl:=(62,.lab L 0)::(63,.arg 3)::(vl++aOi),e0:=aMx (ob p k N bs (n.toNat-16)) (n.toNat-16) t p,conds:=UB ob p k N bs (n.toNat-16)::bS e::(k.length=32)::bX ad::bX (bs.take (n.toNat-16+16))::(ad.length<=500000000)::(n.toNat-16+16<=lb)::(lb<=cb)::(lb<=bs.length)::(lb<=500000000)::Ul p k N ad bs (n.toNat-16)::oa }
 | _,_,_,_=>none
def SK (o:Nat) (ev ks a b:SV) (N n:Int) (T:aX):Option Canon:=match uC ev,cL ks,dQ T .u8 a,dQ T .u8 b with
 | some (e,vl),some (.u8,k),some (oa,ad),some (ob,bs)=>some { eL:=Ev e k N ad.length bs.length n,T0:=oxL e ad bs,vl:=(62,.arg 4)::(63,.arg 3)::(vl++aOi),e0:={ val:=Xj (sxL o) },conds:=bS e::Ik bs.length n o::(oa++ob) }
 | _,_,_,_=>none
def EZ (ob:yO) (out:Int->Nat) (vs:List SV) (T:aX):Option Canon:=match vs with
 | [ev,ks,.int _ .u64 N,a,b,.int _ .i64 n]=>match out n,b with
   | 0,.aH L _ 0 lb cb=>SJ ob true ev ks a N n L lb cb T
   | 1,_=>SK 1 ev ks a b N n T
   | 3,_=>SK 3 ev ks a b N n T
   | 4,.aH L _ 0 lb cb=>SJ ob false ev ks a N n L lb cb T
   | _,_=>none
 | _=>none
theorem XA {sb:oN} {ev ks a:SV} {N n:Int} {L lb cb:Nat} {T:aX} {c:Canon} (h:aEa sb ev ks a N n L lb cb T=some c) (hc:∀ q∈c.conds,q) (Γ:Env) (hg:Γ.aO=aB):aF Tryz.prog Γ 15 c.eL (fun l=>look l c.T0) 100 100 c.e0:=by
 unfold aEa at h
 split at h
 case h_2=>cases h
 cases h
 have e:sb _ _ _ _ _=_:=Yf.h (hc _ dC)
 rw [aMq,e]
 exact (WZ (hc _ (by simp)) (hc _ (by simp)) (hc _ (by simp)) (hc _ (by simp)) (hc _ (by simp)) (hc _ (by simp)) (hc _ (by simp)) (hc _ (by simp)) (hc _ (by simp))).words (by rw [hg];rfl) (fun _=>rfl) (fun _ _ h=>h) (fun _=>rfl) rfl rfl
theorem Va {o:Nat} (ho:o=1\/o=2) {ev ks a b:SV} {N n:Int} {T:aX} {c:Canon} (h:SF o ev ks a b N n T=some c) (hc:∀ q∈c.conds,q) (Γ:Env) (hg:Γ.aO=aB):aF Tryz.prog Γ 15 c.eL (fun l=>look l c.T0) 100 100 c.e0:=by
 unfold SF at h
 split at h
 case h_2=>cases h
 cases h
 exact (UT (hc _ (by simp)) _ _ _ _ _ (hc _ (by simp)) ho (hc _ (by simp))).words (by rw [hg];rfl) (fun _=>rfl) (fun _ _ h=>h) (fun _=>rfl) rfl rfl
theorem Vk {ob:yO} {p:Bool} {ev ks a:SV} {N n:Int} {L lb cb:Nat} {T:aX} {c:Canon} (h:SJ ob p ev ks a N n L lb cb T=some c) (hc:∀ q∈c.conds,q) (Γ:Env) (hg:Γ.aO=aB):aF Tryz.prog Γ 34 c.eL (fun l=>look l c.T0) 100 100 c.e0:=by
 unfold SJ at h
 split at h
 case h_2=>cases h
 cases h
 have e0:ob _ _ _ _ _=_:=UB.h (hc _ dC)
 rw [e0]
 have e:∀ (k bs:List Int) (m:Nat) (t:TypeId),aMx (Q.wM p k N bs m) m t p=opE k N bs m t p:=fun _ _ _ _=>by cases p <;> rfl
 rw [e]
 exact (XT (b:=p) (hc _ (by simp)) (hc _ (by simp)) (hc _ (by simp)) (hc _ (by simp)) (hc _ (by simp)) (hc _ (by simp)) (hc _ (by simp)) (hc _ (by simp)) (hc _ (by simp)) (hc (Ul p _ N _ _ (n.toNat-16)) (by simp)).h).words (by rw [hg];rfl) (fun _=>rfl) (fun _ _ h=>h) (fun _=>rfl) rfl rfl
theorem Vl {o:Nat} (ho:o=1\/o=3) {ev ks a b:SV} {N n:Int} {T:aX} {c:Canon} (h:SK o ev ks a b N n T=some c) (hc:∀ q∈c.conds,q) (Γ:Env) (hg:Γ.aO=aB):aF Tryz.prog Γ 34 c.eL (fun l=>look l c.T0) 100 100 c.e0:=by
 unfold SK at h
 split at h
 case h_2=>cases h
 cases h
 exact (XQ (hc _ (by simp)) _ _ _ _ _ ho (hc _ (by simp))).words (by rw [hg];rfl) (fun _=>rfl) (fun _ _ h=>h) (fun _=>rfl) rfl rfl
theorem HM (sb:oN) (out:Int->Nat) (Γ:Env) (hg:Γ.aO=aB):aG Tryz.prog Γ 15 (aL aB 100 (Tq sb out)):=by
 refine aY hg fun vs T c hd hc=>?_
 unfold Tq at hd
 split at hd
 case h_2=>cases hd
 split at hd
 .exact XA hd hc Γ hg
 .exact Va (.inl rfl) hd hc Γ hg
 .exact Va (.inr rfl) hd hc Γ hg
 .cases hd
theorem aIg (ob:yO) (out:Int->Nat) (Γ:Env) (hg:Γ.aO=aB):aG Tryz.prog Γ 34 (aL aB 100 (EZ ob out)):=by
 refine aY hg fun vs T c hd hc=>?_
 unfold EZ at hd
 split at hd
 case h_2=>cases hd
 split at hd
 .exact Vk hd hc Γ hg
 .exact Vl (.inl rfl) hd hc Γ hg
 .exact Vl (.inr rfl) hd hc Γ hg
 .exact Vk hd hc Γ hg
 .cases hd
def xyT (xs ys:List Int):aX:=fun l=>look l [(61,.gC .u8 xs),(62,.gC .u8 ys)]
noncomputable def saM (xs ys:List Int) (cf:Cf) (K:List Fr) (s:St):Option nM:=fX Aj (aZ 100 (xyT xs ys)) 100 Tryz.f17.ntmps [4] 400 3000 cf K s
def CO (la lb:Nat):List SV:=[.iH 61 la,.iH 62 lb]
def Pf (la lb:Nat) (i:Int):List (Nat × SV):=[(0,.iH 61 la),(1,.iH 62 lb),(5,.int false .i64 i)]
noncomputable def saR:Option nM:=saM [] [] (.go (codeOf Tryz.f17)) [] ((yM (CO 0 0) 100).hint [false])
noncomputable def aEb:Code:=Eu saR
noncomputable def saK:List Fr:=Be saR
theorem aUo (xs ys:List Int) (la lb:Nat) (i:Int) :
 (eJ 100 Tryz.f17.ntmps (aZ 100 (xyT xs ys)) [] (Pf la lb i) [] 100 [] [] (saM xs ys (.go (codeOf Tryz.f17)) [] ((yM (CO la lb) 100).hint [false]))) =
 some (.go (.loop aEb),saK,
  [((↑la:Int) != (↑lb:Int))=false,la=la,lb=lb,(0:Int)=i]):=by kernel_rfl
theorem aUn (xs ys:List Int) (la lb:Nat) (i i':Int) :
 (eJ 100 Tryz.f17.ntmps (aZ 100 (xyT xs ys)) [] (Pf la lb i') [] 100 [] [] (saM xs ys (.go aEb) [] ((bQ (Pf la lb i) [] 100 [] []).hint [true,false]))) =
 some (.at .normal,[],
  [(xs.getD i.toNat (0:Int) != ys.getD i.toNat (0:Int))=false,i.toNat<ys.length,(0:Int)<=i/\i<(↑lb:Int),i.toNat<xs.length,(0:Int)<=i/\i<(↑la:Int),
  decide (i<(↑la:Int))=true,la=la,lb=lb,IntKind.i64.wrap (i+(1:Int))=i']):=by kernel_rfl
theorem aUm (xs ys:List Int) (la lb:Nat) (i i':Int) :
 (eJ 100 Tryz.f17.ntmps (aZ 100 (xyT xs ys)) [] (Pf la lb i') [] 100 [] [] (saM xs ys (.go aEb) [] ((bQ (Pf la lb i) [] 100 [] []).hint [false]))) =
 some (.at (.exit 0),[],
  [decide (i<(↑la:Int))=false,la=la,lb=lb,i=i']):=by kernel_rfl
theorem aUl (xs ys:List Int) (la lb:Nat) (i:Int) :
 qF Aj (xyT xs ys) 100 100 Tryz.f17 [] (saM xs ys (.at (.exit 0)) saK ((bQ (Pf la lb i) [] 100 [] []).hint [])) =
 some { val:=SV.bool true true }:=by kernel_rfl
theorem XC (xs:List Int) (hl:xs.length<=1073741824) (Γ:Env) (hg:Γ.aO=aB):aF Tryz.prog Γ 17 (CO xs.length xs.length) (xyT xs xs) 100 100 { val:=.bool true true }:=by
 refine aF.words (Γ:=Aj) (vs:=CO xs.length xs.length) ?_ (by rw [hg];rfl) (fun _=>rfl) (fun _ _ h=>h) (fun _=>rfl) rfl rfl
 have aU:=Io
 have aV:=Ip
 refine fS aU aV Tryz.func17 (by kernel_rfl) rfl (jX (by kernel_rfl)) rfl [] ?_
 intro w0 M V0 Q' hb H
 refine G.eJ aU aV mix hb [false] (aUo xs xs xs.length xs.length 0) (aA ⟨by simp,rfl,rfl,rfl,trivial⟩) ?_
 refine G.loop (fun r s=>∃ i:Nat,i<=xs.length/\r=xs.length-i/\s=bQ (Pf xs.length xs.length i) [] 100 [] []) (r0:=xs.length) ⟨0,by omega,rfl,rfl⟩ ?_
 rintro r s ⟨i,hi,rfl,rfl⟩
 by_cases h:i<xs.length
 .refine G.qK aU aV mix hb [true,false] (aUn xs xs xs.length xs.length i ((i+1:Nat):Int)) (aA ?_) (xs.length-(i+1)) (by omega) ⟨i+1,by omega,rfl,rfl⟩
  rw [sJ]
  exact ⟨by simp,h,by omega,h,by omega,decide_eq_true (by omega),rfl,rfl,by rw [IntWalk.i64_in _ (by omega)];omega,trivial⟩
 .have e:i=xs.length:=by omega
  subst e
  refine G.eJ aU aV mix hb [false] (aUm xs xs xs.length xs.length _ _) (aA ⟨kN (by omega),rfl,rfl,rfl,trivial⟩) (G.leave (by simp) ?_)
  exact G.oQ (cl:=[]) aU aV mix [] H (aUl xs xs xs.length xs.length _) fO rfl rfl rfl
def EK (vs:List SV) (T:aX):Option Canon:=match vs with
 | [a,b]=>match dQ T .u8 a,dQ T .u8 b with
   | some (oa,xs),some (ob,ys)=>some { eL:=CO xs.length ys.length,T0:=[(61,.gC .u8 xs),(62,.gC .u8 ys)],vl:=[(61,.arg 0),(62,.arg 1)],e0:={ val:=.bool true true },conds:=(xs=ys)::(xs.length<=1073741824)::(oa++ob) }
   | _,_=>none
 | _=>none
theorem aHs (Γ:Env) (hg:Γ.aO=aB):aG Tryz.prog Γ 17 (aL aB 100 EK):=by
 refine aY hg fun vs T c hd hc=>?_
 unfold EK at hd
 split at hd
 case h_2=>cases hd
 split at hd
 case h_2=>cases hd
 cases hd
 have e:=hc _ dC
 subst e
 exact XC _ (hc _ (eM _ dC)) Γ hg
def aFd (L:Nat):Nat->List SV
 | 0=>nO 0
 | 1=>[.int true .i64 1,.fn (.func 41) [] [.ptr L true 0],.fn (.func 43) [] [.ptr L true 0],.fn (.func 45) [] [.ptr L true 0],.fn (.func 47) [] [.ptr L true 0],.fn (.func 49) [] [.ptr L true 0],.fn (.func 51) [] [.ptr L true 0]]
 | _=>nO 2
def DN (x:Int):List SV:=[.int false .i64 x,.raw (.pointer none)]
def ok0:Int->Nat:=fun _=>0
theorem aYw (x:Int) :
 aK (env eY 22) Tryz.f10 true [false,false] 400 (DN x) (fun _=>none) 100 100 =
 some
 { bO:=[(x==(2:Int))=false,(x==(1:Int))=false],
   val:=SV.agg [SV.int true IntKind.i64 (0:Int),SV.raw Value.nilFunc,SV.raw Value.nilFunc,SV.raw Value.nilFunc,SV.raw Value.nilFunc,SV.raw Value.nilFunc,SV.raw Value.nilFunc] }:=by kernel_rfl
theorem aYv (x:Int) :
 aK (env eY 22) Tryz.f10 true [true] 400 (DN x) (fun _=>none) 100 100 =
 some
 { bO:=[(x==(1:Int))=true],
   val:=
    SV.agg
     [SV.int true IntKind.i64 (1:Int),SV.fn (Fn.func (41:Nat)) [] [SV.ptr 100 true 0],SV.fn (Fn.func (43:Nat)) [] [SV.ptr 100 true 0],
      SV.fn (Fn.func (45:Nat)) [] [SV.ptr 100 true 0],SV.fn (Fn.func (47:Nat)) [] [SV.ptr 100 true 0],
      SV.fn (Fn.func (49:Nat)) [] [SV.ptr 100 true 0],SV.fn (Fn.func (51:Nat)) [] [SV.ptr 100 true 0]],
   new:=[SB.own [SV.raw (Value.pointer none)] 68] }:=by kernel_rfl
theorem aYu (x:Int) :
 aK (env eY 22) Tryz.f10 true [false,true] 400 (DN x) (fun _=>none) 100 100 =
 some
 { bO:=[(x==(2:Int))=true,(x==(1:Int))=false],
   val:=
    SV.agg
     [SV.int true IntKind.i64 (2:Int),SV.fn (Fn.func (35:Nat)) [] [],SV.fn (Fn.func (36:Nat)) [] [],SV.fn (Fn.func (37:Nat)) [] [],SV.fn (Fn.func (38:Nat)) [] [],
      SV.fn (Fn.func (39:Nat)) [] [],SV.fn (Fn.func (40:Nat)) [] []] }:=by kernel_rfl
noncomputable def Km (sb:oN):Nat->Option Sum:=dL eY 15 (aL aB 100 (Tq sb ok0))
def awK:List Int:=1::List.replicate 31 0
def awZ:List Int:=List.replicate 16 0
theorem bAa (sb:oN):aK (env (Km sb) 22) Tryz.f8 true [true] 400 [] (fun l=>look l aeS) 100 100 =
 some { val:=.bool true true,bO:=[true=true,Yf sb awK 0 [] awZ 0,bS 2,(32:Nat)=32,bX [],bX (awZ.take 0),0<=500000000,16<=16,16<=16,16<=16,16<=500000000,awK=awK,(0:Int)=0,0=0,0=0,16=16,16=16,(0:Int)=0,awZ=awZ/\5=5,([]:List Int)=[]] }:=by kernel_rfl
namespace M
def jO (xs:List Int):List Int:=(List.range 32).map fun i=>xs.getD i 0
theorem aJc {xs:List Int} (h:xs.length=32):jO xs=xs:=by
 unfold jO
 apply List.ext_getElem
 .simp [h]
 .intro j h1 h2
  simp only [List.getElem_map,List.getElem_range]
  rw [gY,List.getElem?_eq_getElem h2];rfl
theorem Dq (xs:List Int):(jO xs).length=32:=by simp [jO]
end M
def TQ (L:Nat):Nat->List (Nat × SB)
 | 1=>[(L,.own [.raw (.pointer none)] 68)]
 | _=>[]
def Hq:Nat->Nat
 | 1=>1
 | _=>0
def stC (L e:Nat) (n:SV) (key:List Int):List SV:=n::(aFd L e++(cN .u8 32 key++[.bool true true]))
def oC (x:Int):Nat:=if x=1 then 1 else if x=2 then 2 else 0
theorem wB (x:Int):bS (oC x):=by
 unfold oC bS
 split
 .exact .inr (.inl rfl)
 .split
  .exact .inr (.inr rfl)
  .exact .inl rfl
structure Ey (e:Nat) (x:Int):Prop where
 h:oC x=e
def aOc:Nat->bK
 | 0=>{ val:=.agg (nO 0) }
 | 1=>{ val:=.agg (aFd 100 1),new:=[.own [.raw (.pointer none)] 68] }
 | _=>{ val:=.agg (nO 2) }
theorem aBd {e:Nat} {x:Int} (h:oC x=e) (Γ:Env) (hg:Γ.aO=aB):aF Tryz.prog Γ 10 (DN x) (fun _=>none) 100 100 (aOc e):=by
 have hI:∀ hs,aG Tryz.prog (env eY 22) 10 (aK (env eY 22) Tryz.f10 true hs 400):=fun hs=>aN (bL eY 22) (bV eY fT 22) mix Tryz.func10 (by kernel_rfl) true hs 400
 unfold oC at h
 split at h
 .rename_i h1
  subst h
  exact ((hI _).call (aYv x) (aA ⟨by simp [h1],trivial⟩)).words (by rw [hg];rfl) (fun _=>rfl) (fun _ _ h=>h) (fun _=>rfl) rfl rfl
 .rename_i h1
  split at h
  .rename_i h2
   subst h
   exact ((hI _).call (aYu x) (aA ⟨by simp [h2],by simp [h1],trivial⟩)).words (by rw [hg];rfl) (fun _=>rfl) (fun _ _ h=>h) (fun _=>rfl) rfl rfl
  .rename_i h2
   subst h
   exact ((hI _).call (aYw x) (aA ⟨by simp [h2],by simp [h1],trivial⟩)).words (by rw [hg];rfl) (fun _=>rfl) (fun _ _ h=>h) (fun _=>rfl) rfl rfl
def GF (e:Nat) (vs:List SV) (_:aX):Option Canon:=match vs with
 | [.int _ .i64 x,.raw (.pointer none)]=>some { eL:=DN x,T0:=[],vl:=[],e0:=aOc e,conds:=[Ey e x] }
 | _=>none
theorem aKw (e:Nat) (Γ:Env) (hg:Γ.aO=aB):aG Tryz.prog Γ 10 (aL aB 100 (GF e)):=by
 refine aY hg fun vs T c hd hc=>?_
 unfold GF at hd
 split at hd
 case h_2=>cases hd
 cases hd
 exact aBd (Ey.h (hc _ (by simp))) Γ hg
def HA (vs:List SV) (_:aX):Option Canon:=match vs with
 | []=>some { eL:=[],T0:=aeS,vl:=UA,e0:={ val:=.bool true true },conds:=[] }
 | _=>none
theorem Wl (sb:oN):∀ f S,Km sb f=some S->∀ Γ:Env,Γ.aO=aB->aG Tryz.prog Γ f S:=bE fT 15 _ (HM sb ok0)
theorem aBz (Γ:Env) (hg:Γ.aO=aB):aF Tryz.prog Γ 8 [] (fun l=>look l aeS) 100 100 { val:=.bool true true }:=by
 have hI:aG Tryz.prog (env (Km Q.bM) 22) 8 (aK (env (Km Q.bM) 22) Tryz.f8 true [true] 400):=aN (bL _ 22) (bV _ (Wl _) 22) mix Tryz.func8 (by kernel_rfl) true [true] 400
 refine (hI.call (bAa Q.bM) (aA ?_)).words (by rw [hg];rfl) (fun _=>rfl) (fun _ _ h=>h) (fun _=>rfl) rfl rfl
 simp only [cA]
 repeat' apply And.intro
 all_goals first | rfl | trivial | omega | exact ⟨rfl⟩ | exact .inr (.inr rfl) | exact fun _ h=>by cases h
theorem aMa (Γ:Env) (hg:Γ.aO=aB):aG Tryz.prog Γ 8 (aL aB 100 HA):=by
 refine aY hg fun vs T c hd hc=>?_
 unfold HA at hd
 split at hd
 case h_2=>cases hd
 cases hd
 exact aBz Γ hg
def aCn:List (Nat × List Bool):=[(16,[false,false,false]),(32,[true])]
noncomputable def Uk (ex:Nat->Option Sum):List (Nat × List Bool)->Nat->Option Sum
 | []=>ex
 | (f,h)::r=>Bh (Uk ex r) f h
theorem Dh {ex:Nat->Option Sum} (hex:∀ f S,ex f=some S->∀ Γ:Env,Γ.aO=aB->aG Tryz.prog Γ f S):∀ l:List (Nat × List Bool),∀ f S,Uk ex l f=some S->∀ Γ:Env,Γ.aO=aB->aG Tryz.prog Γ f S
 | []=>hex
 | (f,h)::r=>lG (Dh hex r) f h
def erP (t:List UInt8):SB:=.eQ [.raw (.string ⟨t.toArray⟩)]
def erO:List (Nat × SB):=[(40,erP [112,105,110,116,108,101,58,32,97,114,103,117,109,101,110,116]),(42,erP [112,105,110,116,108,101,58,32,110,111,32,114,111,111,109]),(44,erP [112,105,110,116,108,101,58,32,116,111,111,32,115,104,111,114,116]),(46,erP [112,105,110,116,108,101,58,32,110,111,32,110,117,109,98,101,114,32,108,101,102,116]),(48,erP [112,105,110,116,108,101,58,32,110,111,116,32,97,117,116,104,101,110,116,105,99])]
def rcL (e:Nat) (N:Int) (key:List Int):List (Nat × SB):=(60,.own (stC 50 e (.int false .u64 N) key) 67)::(Ko e++aeS)
def rcT (e:Nat) (N:Int) (key:List Int):aX:=fun l=>look l (rcL e N key)
noncomputable def rcM (sb:oN) (e:Nat) (N:Int) (key:List Int) (k:Nat) (cf:Cf) (K:List Fr) (s:St):Option nM:=fX (env (Km sb) 22) (aZ 100 (rcT e N key)) 100 Tryz.f13.ntmps [] 400 k cf K s
def rcG:List (Nat × SV):=[(0,.ptr 60 true 0),(3,.ptr 100 true 0)]
def rcB (nx:List Int):List (Nat × SB):=[(100,.own (cN .u8 48 nx) 70)]
def BC:List Int:=List.replicate 48 0
def EO (nx:List Int):List Int:=(List.range 48).map fun i=>nx.getD i 0
abbrev sH:Int:=18446744073709551615
theorem aUq (e:Nat) (he:bS e) (sb:oN) (key nx:List Int) (N:Int):eJ 100 Tryz.f13.ntmps (aZ 100 (rcT e N key)) [] rcG (rcB nx) 101 [] [] (rcM sb e N key 30 (.go (codeOf Tryz.f13)) [] ((yM [.ptr 60 true 0] 100).hint []))=some (.go (jF 5 (codeOf Tryz.f13)),[],
 [Yf sb (M.jO key) sH [] BC 32,bS e,(M.jO key).length=32,bX [],bX (BC.take 32),0<=500000000,48<=48,48<=48,48<=48,48<=500000000,M.jO key=M.jO key,sH=sH,0=0,0=0,48=48,48=48,(32:Int)=32,BC=BC/\70=70,([]:List Int)=[],sb (M.jO key) sH [] BC 32=EO nx/\70=70]):=by
 rcases he with rfl | rfl | rfl <;> kernel_rfl
theorem aUp (e:Nat) (he:bS e) (sb:oN) (key nx:List Int) (N:Int):qF (env (Km sb) 22) (rcT e N key) 100 100 Tryz.f13 [] (rcM sb e N key 400 (.go (jF 5 (codeOf Tryz.f13))) [] ((bQ rcG (rcB nx) 101 [] []).hint []))=some { val:=.raw .nilIface,wr:=[(60,.own (stC 50 e (.int false .u64 N) nx) 67)] }:=by
 rcases he with rfl | rfl | rfl <;> kernel_rfl
namespace Q
end Q
theorem pI (key:List Int) (N:Int) (ad bs:List Int) (n:Nat) (h:n+16<=bs.length):(Q.bM key N ad bs n).length=bs.length:=by
 unfold Q.bM
 have:=Q.rP key N ad (Q.cx key N (bs.take n))
 simp only [List.length_append,Q.iT,this,List.length_take,List.length_drop]
 omega
theorem XH {e:Nat} (he:bS e) {key:List Int} {N:Int} (hk:key.length=32) (Γ:Env) (hg:Γ.aO=aB) :
 aF Tryz.prog Γ 13 [.ptr 60 true 0] (rcT e N key) 100 100 { val:=.raw .nilIface,wr:=[(60,.own (stC 50 e (.int false .u64 N) (Q.bM key sH [] BC 32)) 67)] }:=by
 refine aF.words (Γ:=env (Km Q.bM) 22) (vs:=[.ptr 60 true 0]) ?_ (by rw [hg];rfl) (fun _=>rfl) (fun _ _ h=>h) (fun _=>rfl) rfl rfl
 have aU:=bL (Km Q.bM) 22
 have aV:=bV _ (Wl Q.bM) 22
 refine fS aU aV Tryz.func13 (by kernel_rfl) rfl (jX (by kernel_rfl)) rfl [] ?_
 intro w0 Mx V0 Qx hb H
 have hk3:=M.aJc hk
 have hl:(Q.bM key sH [] BC 32).length=48:=pI _ _ _ _ _ (cT 48)
 have hr:Q.bM key sH [] BC 32=EO (Q.bM key sH [] BC 32):=by
  unfold EO
  apply List.ext_getElem
  .simp [hl]
  .intro j h1 h2
   simp only [List.getElem_map,List.getElem_range]
   rw [gY,List.getElem?_eq_getElem h1];rfl
 have hz:bX (BC.take 32):=Q.Di _ (Q.vO 48)
 refine G.eJ aU aV mix hb [] (aUq e he Q.bM key (Q.bM key sH [] BC 32) N) (aA ?_) ?_
 .rw [hk3]
  simp only [cA]
  repeat' apply And.intro
  all_goals first | assumption | exact ⟨rfl⟩ | omega | trivial | exact (fun _ h=>by cases h)
 exact G.oQ (cl:=[]) aU aV mix [] H (aUp e he Q.bM key _ N) fO rfl rfl rfl
namespace Q
def rx (key:List Int):List Int:=bM key sH [] BC 32
end Q
structure DR (rx:List Int->List Int) (k:List Int):Prop where
 h:rx k=Q.rx k
def EP (rx:List Int->List Int) (vs:List SV) (T:aX):Option Canon:=match vs with
 | [.ptr l _ 0]=>match T l with
   | some (.own cs _)=>match cs.head?,uC (.agg ((cs.drop 1).take 7)),uA ((cs.drop 8).take 32),cs.drop 40 with
     | some (.int _ .u64 N),some (e,vl),some (.u8,k),[.bool true true]=>some { eL:=[.ptr 60 true 0],T0:=rcL e N k,vl:=(60,.lab l 0)::(vl++UA),e0:={ val:=.raw .nilIface,wr:=[(60,.own (stC 50 e (.int false .u64 N) (rx k)) 67)] },conds:=[DR rx k,bS e,k.length=32] }
     | _,_,_,_=>none
   | _=>none
 | _=>none
theorem aHv (rx:List Int->List Int) (Γ:Env) (hg:Γ.aO=aB):aG Tryz.prog Γ 13 (aL aB 100 (EP rx)):=by
 refine aY hg fun vs T c hd hc=>?_
 unfold EP at hd
 split at hd
 case h_2=>cases hd
 split at hd
 case h_2=>cases hd
 split at hd
 case h_2=>cases hd
 cases hd
 have e:rx _=_:=DR.h (hc _ dC)
 rw [e]
 exact XH (hc _ (eM _ dC)) (hc _ (eM _ (eM _ dC))) Γ hg
noncomputable def aFc (sb:oN) (rx:List Int->List Int) (e:Nat):Nat->Option Sum:=Uk (dL (dL (dL (dL (dL eY 15 (aL aB 100 (Tq sb ok0))) 17 (aL aB 100 EK)) 8 (aL aB 100 HA)) 10 (aL aB 100 (GF e))) 13 (aL aB 100 (EP rx))) aCn
theorem Wi (sb:oN) (rx:List Int->List Int) (e:Nat):∀ f S,aFc sb rx e f=some S->∀ Γ:Env,Γ.aO=aB->aG Tryz.prog Γ f S:=
 Dh (bE (bE (bE (bE (bE fT 15 _ (HM sb ok0)) 17 _ aHs) 8 _ aMa) 10 _ (aKw e)) 13 _ (aHv rx)) aCn
noncomputable def Oz (sb:oN) (rx:List Int->List Int) (e:Nat):Env:=env (aFc sb rx e) 22
theorem Us (sb:oN) (rx:List Int->List Int) (e:Nat):cD Tryz.prog (Oz sb rx e):=bL _ 22
theorem Ut (sb:oN) (rx:List Int->List Int) (e:Nat):cF Tryz.prog (Oz sb rx e):=bV _ (Wi sb rx e) 22
theorem Pu (sb:oN) (rx:List Int->List Int) (e e':Nat):(Oz sb rx e).aO=(Oz sb rx e').aO:=by kernel_rfl
section
open Go.ChangeShapes Go.WideShapes
section
variable {H:Type} {enc:TypeId × Value->H} {P:Program} {w:World} {held:Bool}
theorem wf_u8 {n:Int} (h:(Lit.int .u8 n).wf=true):Bt n:=by
 have:=bounds_u8 h
 exact ⟨this.1,by omega⟩
theorem Dl {fuel:Nat} {tb t5:TypeId} {cs:List Value} {x:DataW H × List MemPlace} (ht:P.underlying tb=some (.slice t5)) (h5:P.underlying t5=some (.int .u8)) (hc:P.cellsOf t5=1)
 (h:DataW.trod enc P w 0 (fun _=>true) held fuel tb cs=some x):∃ v xs,cs=[v]/\zB w .u8 v xs/\bX xs:=by
 rcases open_ints ht h5 hc h with ⟨rfl,_⟩ | ⟨a,len,cap,zs,rfl,_,hle,_,hz,_,fP,hwf⟩
 .exact ⟨_,[],rfl,.inl ⟨.nil,rfl⟩,fun _ h=>by cases h⟩
 .simp only [if_true] at hz
  refine ⟨_,zs.take len,rfl,?_,fun z hzm=>wf_u8 (hwf z (List.mem_of_mem_take hzm))⟩
  by_cases h0:cap=0
  .subst h0
   have:len=0:=by omega
   subst this
   exact .inl ⟨⟨_,rfl⟩,by simp⟩
  .have Ae:=fP 0 (by omega)
   obtain ⟨b,o,s⟩:=a
   have hs:s=none:=by
    have:=World.cell?_spot Ae
    cases s with
    | none=>rfl
    | some s=>simp [Addr.add] at this
   subst hs
   have hlen:(zs.take len).length=len:=by rw [List.length_take];omega
   refine .inr ⟨b,o,cap,by rw [hlen],?_,by omega,fun j u hj=>?_⟩
   .rw [bJ] at Ae
    unfold World.cell? at Ae
    simp only at Ae
    cases hb:w.heap[b]? with
    | none=>rw [hb] at Ae;simp at Ae
    | some y=>exact (Array.getElem?_eq_some_iff.1 hb).1
   .rw [List.map_take,List.getElem?_take] at hj
    split at hj
    .rename_i hjl
     rw [List.getElem?_map] at hj
     obtain ⟨z,hzj,rfl⟩:=Option.map_eq_some_iff.1 hj
     have:=fP j (by omega)
     rw [bJ] at this
     rw [this,gY,hzj]
     rfl
    .cases hj
def intOf:Value->Int
 | .int _ z=>z
 | _=>0
theorem Ny {fuel:Nat} {ta t5:TypeId} {n:Nat} {cs:List Value} {x:DataW H × List MemPlace} (ht:P.underlying ta=some (.array n t5)) (h5:P.underlying t5=some (.int .u8)) (hc:P.cellsOf t5=1) (kF:P.cellsOf ta=n)
 (h:DataW.trod enc P w 0 (fun _=>true) held fuel ta cs=some x):∃ xs,xs.length=n/\cs=xs.map (Value.int .u8)/\bX xs:=by
 obtain ⟨xs,m,_,_,hlen,hn,BH⟩:=DataW.trod_array ht h
 rw [kF] at hlen
 have key:∀ i,i<n->∃ z,cs[i]?=some (.int .u8 z)/\Bt z:=by
  intro i hi
  have h1:=BH i hi
  rw [hc,Nat.mul_one,List.getElem?_eq_getElem (by omega)] at h1
  obtain ⟨z,hz,_,hw⟩:=DataW.trod_int h5 h1
  refine ⟨z,?_,wf_u8 hw⟩
  have:=congrArg (·[0]?) hz
  simpa [List.getElem?_take,List.getElem?_drop] using this
 refine ⟨cs.map intOf,by simp [hlen],?_,fun z hz=>?_⟩
 .rw [List.map_map]
  refine List.ext_getElem? fun i=>?_
  rw [List.getElem?_map]
  by_cases hi:i<n
  .obtain ⟨z,hz,_⟩:=key i hi
   rw [hz];rfl
  .rw [List.getElem?_eq_none (by omega)];rfl
 .obtain ⟨v,hv,rfl⟩:=List.mem_map.1 hz
  obtain ⟨i,hi⟩:=List.getElem?_of_mem hv
  have Ju:i<n:=by rw [<- hlen];exact (List.getElem?_eq_some_iff.1 hi).1
  obtain ⟨z,hz,hb⟩:=key i Ju
  rw [hi] at hz
  cases hz
  exact hb
end
end
end Go.Proofs.YtnodfocobmghiaaGreatDoor.Sx
