/- Plain Lean for slow.Tag: the clamped key, the bytes that are held, a block's step, the last sum. -/
import Derived.ProofKit
import Derived.OpenShut
import Derived.Test.YticicdfijghigaaGreatDoorQL
open Go
set_option maxRecDepth 100000
namespace Go.Proofs.YticicdfijghigaaGreatDoor.Sx
namespace M
theorem Vh {x:Int} (h:Bt x):bU .u8 x 15=(IntKind.i64.wrap x).tmod 16:=by
 have key:∀ n:Fin 256,bU .u8 ((n.val:Nat):Int) 15=(IntKind.i64.wrap ((n.val:Nat):Int)).tmod 16:=by decide +kernel
 obtain ⟨h0,h1⟩:=h
 have:=key ⟨x.toNat,by omega⟩
 simpa [Int.toNat_of_nonneg h0] using this
theorem Rz {x:Int} (h:Bt x):bU .u8 x 252=IntKind.i64.wrap (IntKind.i64.wrap x-(IntKind.i64.wrap x).tmod 4):=by
 have key:∀ n:Fin 256,bU .u8 ((n.val:Nat):Int) 252=IntKind.i64.wrap (IntKind.i64.wrap ((n.val:Nat):Int)-(IntKind.i64.wrap ((n.val:Nat):Int)).tmod 4):=by decide +kernel
 obtain ⟨h0,h1⟩:=h
 have:=key ⟨x.toNat,by omega⟩
 simpa [Int.toNat_of_nonneg h0] using this
theorem Df {x:Int} (h:Bt x):0<=bU .u8 x 15/\bU .u8 x 15<=15:=by
 have key:∀ n:Fin 256,0<=bU .u8 ((n.val:Nat):Int) 15/\bU .u8 ((n.val:Nat):Int) 15<=15:=by decide +kernel
 obtain ⟨h0,h1⟩:=h
 have:=key ⟨x.toNat,by omega⟩
 simpa [Int.toNat_of_nonneg h0] using this
theorem xW {x:Int} (h:Bt x):0<=bU .u8 x 252/\bU .u8 x 252<=255:=by
 have key:∀ n:Fin 256,0<=bU .u8 ((n.val:Nat):Int) 252/\bU .u8 ((n.val:Nat):Int) 252<=255:=by decide +kernel
 obtain ⟨h0,h1⟩:=h
 have:=key ⟨x.toNat,by omega⟩
 simpa [Int.toNat_of_nonneg h0] using this
theorem pH {x:Int} (h:Bt x):IntKind.i64.wrap x=x:=by
 obtain ⟨h0,h1⟩:=h
 exact IntWalk.i64_in _ ⟨by omega,by omega⟩
def tX (k:List Int):Int:=V [k.getD 0 0,k.getD 1 0,k.getD 2 0,bU .u8 (k.getD 3 0) 15,bU .u8 (k.getD 4 0) 252,k.getD 5 0,k.getD 6 0,bU .u8 (k.getD 7 0) 15]
def sH (k:List Int):Int:=V [bU .u8 (k.getD 8 0) 252,k.getD 9 0,k.getD 10 0,bU .u8 (k.getD 11 0) 15,bU .u8 (k.getD 12 0) 252,k.getD 13 0,k.getD 14 0,bU .u8 (k.getD 15 0) 15]
def kS (k:List Int):List Int:=[k.getD 0 0,k.getD 1 0,k.getD 2 0,bU .u8 (k.getD 3 0) 15,bU .u8 (k.getD 4 0) 252,k.getD 5 0,k.getD 6 0,bU .u8 (k.getD 7 0) 15,bU .u8 (k.getD 8 0) 252,k.getD 9 0,k.getD 10 0,bU .u8 (k.getD 11 0) 15,bU .u8 (k.getD 12 0) 252,k.getD 13 0,k.getD 14 0,bU .u8 (k.getD 15 0) 15,k.getD 16 0,k.getD 17 0,k.getD 18 0,k.getD 19 0,k.getD 20 0,k.getD 21 0,k.getD 22 0,k.getD 23 0,k.getD 24 0,k.getD 25 0,k.getD 26 0,k.getD 27 0,k.getD 28 0,k.getD 29 0,k.getD 30 0,k.getD 31 0]
def wT (k:List Int):Int:=V [k.getD 16 0,k.getD 17 0,k.getD 18 0,k.getD 19 0,k.getD 20 0,k.getD 21 0,k.getD 22 0,k.getD 23 0]
def xZ (k:List Int):Int:=V [k.getD 24 0,k.getD 25 0,k.getD 26 0,k.getD 27 0,k.getD 28 0,k.getD 29 0,k.getD 30 0,k.getD 31 0]
theorem bR.Pt:bR []:=fun _ h=>by cases h
theorem bR.bO {x:Int} {r:List Int} (h:Bt x) (hr:bR r):bR (x::r):=fun y hy=>by
 rcases List.mem_cons.1 hy with rfl | hy
 .exact h
 .exact hr y hy
theorem SN {k:List Int} (h:bR k) (i:Nat):Bt (bU .u8 (k.getD i 0) 15):=by have:=Df (h.get i);exact ⟨by omega,by omega⟩
theorem Yy {k:List Int} (h:bR k) (i:Nat):Bt (bU .u8 (k.getD i 0) 252):=by have:=xW (h.get i);exact ⟨by omega,by omega⟩
theorem JM {k:List Int} (h:bR k):bR (kS k):=
 bR.bO (h.get 0) (bR.bO (h.get 1) (bR.bO (h.get 2) (bR.bO (SN h 3) (bR.bO (Yy h 4) (bR.bO (h.get 5) (bR.bO (h.get 6) (bR.bO (SN h 7) (bR.bO (Yy h 8) (bR.bO (h.get 9) (bR.bO (h.get 10) (bR.bO (SN h 11) (bR.bO (Yy h 12) (bR.bO (h.get 13) (bR.bO (h.get 14) (bR.bO (SN h 15) (bR.bO (h.get 16) (bR.bO (h.get 17) (bR.bO (h.get 18) (bR.bO (h.get 19) (bR.bO (h.get 20) (bR.bO (h.get 21) (bR.bO (h.get 22) (bR.bO (h.get 23) (bR.bO (h.get 24) (bR.bO (h.get 25) (bR.bO (h.get 26) (bR.bO (h.get 27) (bR.bO (h.get 28) (bR.bO (h.get 29) (bR.bO (h.get 30) (bR.bO (h.get 31) bR.Pt)))))))))))))))))))))))))))))))
theorem Yz {l:List Int} (h:bR l) (hl:l.length=8):U (V l):=by
 obtain ⟨a,b,c,d,e,f,g,k,rfl⟩:∃ a b c d e f g k,l=[a,b,c,d,e,f,g,k]:=by
  match l,hl with
  | [a,b,c,d,e,f,g,k],_=>exact ⟨a,b,c,d,e,f,g,k,rfl⟩
 have q:∀ x∈[a,b,c,d,e,f,g,k],0<=x/\x<256:=h
 have:=q a (by simp);have:=q b (by simp);have:=q c (by simp);have:=q d (by simp);have:=q e (by simp);have:=q f (by simp);have:=q g (by simp);have:=q k (by simp)
 simp only [tK,By]
 unfold U
 omega
theorem aYd {k:List Int} (h:bR k):U (tX k)/\U (sH k)/\tX k+18446744073709551616*sH k<21267647932558653966460912964485513216:=by
 have u1:U (tX k):=Yz (bR.bO (h.get 0) (bR.bO (h.get 1) (bR.bO (h.get 2) (bR.bO (SN h 3) (bR.bO (Yy h 4) (bR.bO (h.get 5) (bR.bO (h.get 6) (bR.bO (SN h 7) bR.Pt)))))))) rfl
 have u2:U (sH k):=Yz (bR.bO (Yy h 8) (bR.bO (h.get 9) (bR.bO (h.get 10) (bR.bO (SN h 11) (bR.bO (Yy h 12) (bR.bO (h.get 13) (bR.bO (h.get 14) (bR.bO (SN h 15) bR.Pt)))))))) rfl
 refine ⟨u1,u2,?_⟩
 have b1:sH k<1152921504606846976:=by
  unfold sH
  simp only [tK,By]
  have SN:=Df (h.get 15)
  have:=h.get 9;have:=h.get 10;have:=h.get 13;have:=h.get 14
  have:=Df (h.get 11);have:=xW (h.get 12);have:=xW (h.get 8)
  unfold Bt at *
  omega
 unfold U at u1
 omega
theorem aYc {k:List Int} (h:bR k):U (wT k)/\U (xZ k):=
 ⟨Yz (bR.bO (h.get 16) (bR.bO (h.get 17) (bR.bO (h.get 18) (bR.bO (h.get 19) (bR.bO (h.get 20) (bR.bO (h.get 21) (bR.bO (h.get 22) (bR.bO (h.get 23) bR.Pt)))))))) rfl,Yz (bR.bO (h.get 24) (bR.bO (h.get 25) (bR.bO (h.get 26) (bR.bO (h.get 27) (bR.bO (h.get 28) (bR.bO (h.get 29) (bR.bO (h.get 30) (bR.bO (h.get 31) bR.Pt)))))))) rfl⟩
theorem aQd {k:List Int} (h:bR k):V (cl k)=tX k+18446744073709551616*sH k:=by
 unfold cl
 rw [QK]
 have z:V [0]=0:=by decide
 rw [z,Int.mul_zero,Int.add_zero]
 have e:Ru (lo k)=[k.getD 0 0,k.getD 1 0,k.getD 2 0,bU .u8 (k.getD 3 0) 15,bU .u8 (k.getD 4 0) 252,k.getD 5 0,k.getD 6 0,bU .u8 (k.getD 7 0) 15,bU .u8 (k.getD 8 0) 252,k.getD 9 0,k.getD 10 0,bU .u8 (k.getD 11 0) 15,bU .u8 (k.getD 12 0) 252,k.getD 13 0,k.getD 14 0,bU .u8 (k.getD 15 0) 15]:=by
  rw [Vh (h.get 3),Vh (h.get 7),Vh (h.get 11),Vh (h.get 15),Rz (h.get 4),Rz (h.get 8),Rz (h.get 12)]
  have w0:=pH (h.get 0);have w1:=pH (h.get 1);have w2:=pH (h.get 2)
  have w5:=pH (h.get 5);have w6:=pH (h.get 6);have w9:=pH (h.get 9)
  have w10:=pH (h.get 10);have w13:=pH (h.get 13);have w14:=pH (h.get 14)
  have l:Ru (lo k)=[IntKind.i64.wrap (k.getD 0 0),IntKind.i64.wrap (k.getD 1 0),IntKind.i64.wrap (k.getD 2 0),(IntKind.i64.wrap (k.getD 3 0)).tmod 16,IntKind.i64.wrap (IntKind.i64.wrap (k.getD 4 0)-(IntKind.i64.wrap (k.getD 4 0)).tmod 4),IntKind.i64.wrap (k.getD 5 0),IntKind.i64.wrap (k.getD 6 0),(IntKind.i64.wrap (k.getD 7 0)).tmod 16,IntKind.i64.wrap (IntKind.i64.wrap (k.getD 8 0)-(IntKind.i64.wrap (k.getD 8 0)).tmod 4),IntKind.i64.wrap (k.getD 9 0),IntKind.i64.wrap (k.getD 10 0),(IntKind.i64.wrap (k.getD 11 0)).tmod 16,IntKind.i64.wrap (IntKind.i64.wrap (k.getD 12 0)-(IntKind.i64.wrap (k.getD 12 0)).tmod 4),IntKind.i64.wrap (k.getD 13 0),IntKind.i64.wrap (k.getD 14 0),(IntKind.i64.wrap (k.getD 15 0)).tmod 16]:=rfl
  rw [l,w0,w1,w2,w5,w6,w9,w10,w13,w14]
 rw [e,aQe]
 rfl
theorem bBs (k:List Int):V (hi k)=wT k+18446744073709551616*xZ k:=by
 have e:hi k=[k.getD 16 0,k.getD 17 0,k.getD 18 0,k.getD 19 0,k.getD 20 0,k.getD 21 0,k.getD 22 0,k.getD 23 0,k.getD 24 0,k.getD 25 0,k.getD 26 0,k.getD 27 0,k.getD 28 0,k.getD 29 0,k.getD 30 0,k.getD 31 0]:=rfl
 rw [e,aQe]
 rfl
theorem aLc {k:List Int} (h:bR k):bR (hi k):=by
 intro x hx
 simp only [hi,List.mem_map] at hx
 obtain ⟨j,_,rfl⟩:=hx
 exact h.get _
def held (D:List Int) (t:Nat):List Int:=(List.range (t%16)).map fun j=>D.getD (16*(t/16)+j) 0
theorem Of (D:List Int) (t:Nat):(held D t).length=t%16:=by simp [held]
theorem AB (D:List Int) {t:Nat} (h:t%16<15):held D t++[D.getD t 0]=held D (t+1):=by
 unfold held
 have e1:(t+1)%16=t%16+1:=by omega
 have e2:(t+1)/16=t/16:=by omega
 have e3:16*(t/16)+t%16=t:=by omega
 rw [e1,e2,List.range_succ,List.map_append,List.map_singleton,e3]
theorem aAr (D:List Int) {t:Nat} (h:t%16=15):held D t=[D.getD (16*(t/16)) 0,D.getD (16*(t/16)+1) 0,D.getD (16*(t/16)+2) 0,D.getD (16*(t/16)+3) 0,D.getD (16*(t/16)+4) 0,D.getD (16*(t/16)+5) 0,D.getD (16*(t/16)+6) 0,D.getD (16*(t/16)+7) 0,D.getD (16*(t/16)+8) 0,D.getD (16*(t/16)+9) 0,D.getD (16*(t/16)+10) 0,D.getD (16*(t/16)+11) 0,D.getD (16*(t/16)+12) 0,D.getD (16*(t/16)+13) 0,D.getD (16*(t/16)+14) 0]:=by
 unfold held;rw [h];rfl
theorem JP (D:List Int) {t:Nat} (h:t%16=0):held D t=[]:=by unfold held;rw [h];rfl
theorem KC (D:List Int) {k:Nat} (h:16*k+16<=1073741824):aM D ((16*k:Nat):Int) 16=[D.getD (16*k) 0,D.getD (16*k+1) 0,D.getD (16*k+2) 0,D.getD (16*k+3) 0,D.getD (16*k+4) 0,D.getD (16*k+5) 0,D.getD (16*k+6) 0,D.getD (16*k+7) 0,D.getD (16*k+8) 0,D.getD (16*k+9) 0,D.getD (16*k+10) 0,D.getD (16*k+11) 0,D.getD (16*k+12) 0,D.getD (16*k+13) 0,D.getD (16*k+14) 0,D.getD (16*k+15) 0,1]:=by
 have e:aM D ((16*k:Nat):Int) 16=((List.range 16).map fun j:Nat=>D.getD (16*k+j) 0)++[1]:=by
  unfold aM
  congr 1
  refine List.map_congr_left fun j hj=>?_
  have hj:j<16:=by simpa using hj
  rw [IntWalk.i64_in _ ⟨by omega,by omega⟩]
  congr 1
 rw [e];rfl
theorem Nu (r:Int) {D:List Int} {k:Nat} (h:16*k+16<=D.length):acc r D (k+1)=((acc r D k+V (aM D ((16*k:Nat):Int) 16))*r)%p:=by
 show ((acc r D k+V (aM D (16*(k:Int)) (min 16 (D.length-16*k))))*r)%p=_
 rw [show min 16 (D.length-16*k)=16 from by omega,show (16*(k:Int))=((16*k:Nat):Int) from by omega]
theorem Kw {R:Int} (h0:0<=R) (h:R<bA):n3 (w0 R) (w1 R) (w2 R)=R:=by
 unfold n3 w0 w1 w2;unfold bA at h;omega
theorem SS (R:Int):U (w0 R)/\U (w1 R)/\U (w2 R):=by unfold U w0 w1 w2;omega
theorem YP:bA=p:=rfl
theorem Io (x:Int):0<=x%bA/\x%bA<bA:=⟨Int.emod_nonneg _ (by decide),Int.emod_lt_of_pos _ (by decide)⟩
theorem step_eq {R Y S y0 y1:Int} (hS:S=(R+Y)%bA):(n3 (w0 S) (w1 S) (w2 S)*(y0+18446744073709551616*y1))%bA=((R+Y)*(y0+18446744073709551616*y1))%p:=by
 obtain ⟨h0,h1⟩:=Io (R+Y)
 rw [<- hS] at h0 h1
 rw [Kw h0 h1,hS,YP,Int.mul_emod,Int.emod_emod_of_dvd _ (Int.dvd_refl p),<- Int.mul_emod]
def cat (d:Nat->List Int):List Int:=d 1++(d 2++(d 3++(d 4++d 5)))
def off (d:Nat->List Int):Nat->Nat
 | 0=>0
 | j+1=>off d j+(d (j+1)).length
theorem aEf (d:Nat->List Int):off d 5=(cat d).length:=by simp [off,cat];omega
theorem aCz (d:Nat->List Int) {J i:Nat} (hJ:J<5) (hi:i<(d (J+1)).length):(cat d).getD (off d J+i) 0=(d (J+1)).getD i 0:=by
 have L:∀ (a b:List Int) (n:Nat),n<a.length->(a++b).getD n 0=a.getD n 0:=fun a b n h=>by simp [List.getD_eq_getElem?_getD,List.getElem?_append_left h]
 have R:∀ (a b:List Int) (n:Nat),(a++b).getD (a.length+n) 0=b.getD n 0:=fun a b n=>by simp [List.getD_eq_getElem?_getD,List.getElem?_append_right]
 unfold cat
 match J,hJ with
 | 0,_=>rw [show off d 0+i=i from by simp [off],L _ _ _ hi]
 | 1,_=>rw [show off d 1+i=(d 1).length+i from by simp [off],R,L _ _ _ hi]
 | 2,_=>rw [show off d 2+i=(d 1).length+((d 2).length+i) from by simp [off];omega,R,R,L _ _ _ hi]
 | 3,_=>rw [show off d 3+i=(d 1).length+((d 2).length+((d 3).length+i)) from by simp [off];omega,R,R,R,L _ _ _ hi]
 | 4,_=>rw [show off d 4+i=(d 1).length+((d 2).length+((d 3).length+((d 4).length+i))) from by simp [off];omega,R,R,R,R]
theorem IZ (d:Nat->List Int) {J:Nat} (hJ:J<5):off d J+(d (J+1)).length<=(cat d).length:=by
 rw [<- aEf]
 match J,hJ with
 | 0,_=>simp only [off];omega
 | 1,_=>simp only [off];omega
 | 2,_=>simp only [off];omega
 | 3,_=>simp only [off];omega
 | 4,_=>simp only [off];omega
theorem aJv (N:Int) {j:Nat} (h:j<16):nb (w0 N+18446744073709551616*w1 N) j=nb N j:=by
 have e:w0 N+18446744073709551616*w1 N=N%340282366920938463463374607431768211456:=by unfold w0 w1;omega
 rw [e]
 unfold nb
 have hk:∀ k:Nat,k<16->(256:Int)^16=256^k*(256*256^(15-k)):=fun k hk=>by
  have:(256:Int)^16=256^(k+(1+(15-k))):=by congr 1;omega
  rw [this,Int.pow_add,Int.pow_add];rfl
 have hP:(0:Int)<256^j:=Int.pow_pos (by decide)
 have e1:(340282366920938463463374607431768211456:Int)=256^j*(256*256^(15-j)):=by
  rw [<- hk j h];decide
 rw [e1]
 generalize (256:Int)^j=P at *
 generalize (256:Int)^(15-j)=Q
 have e2:N=N%(P*(256*Q))+P*(256*Q)*(N/(P*(256*Q))):=(Int.emod_add_mul_ediv N _).symm
 have e3:N/P=N%(P*(256*Q))/P+256*Q*(N/(P*(256*Q))):=by
  conv=>lhs;rw [e2,Int.mul_assoc,Int.add_mul_ediv_left _ _ (by omega)]
 rw [e3,Int.mul_assoc,Int.add_mul_emod_self_left]
theorem IG {key D:List Int} (hk:bR key) (hD:D.length%16=0) :
 tag key D=(List.range 16).map (nb (w0 (acc (V (cl key)) D (D.length/16)+(wT key+18446744073709551616*xZ key))+18446744073709551616*w1 (acc (V (cl key)) D (D.length/16)+(wT key+18446744073709551616*xZ key)))):=by
 unfold tag
 rw [VV (aLc hk),show (D.length+15)/16=D.length/16 from by omega,<- bBs key]
 have e:vs (fun j=>(hi key).getD j 0) 16=V (hi key):=bBt (hi key) 16 (by simp [hi])
 rw [e]
 refine List.map_congr_left fun j hj=>?_
 have hj:j<16:=by simpa using hj
 rw [aJv _ hj]
end M
theorem G.Km {P:Program} {Γ Γ':Env} (hg:Γ'.aR=Γ.aR) {w0:World} {M:Nat->Prop} {B:aZ} {N F0:Nat} {V0:aY} {cf:Cf} {K:List Fr} {s:St} {Q:Exit->Act->World->Prop} (h:G P Γ' w0 M B N F0 V0 cf K s Q):G P Γ w0 M B N F0 V0 cf K s Q:=
 fun V a w hi=>h V a w ⟨hi.tmp,hi.keys,hi.size,hi.defers,hi.eG,fun n l e=>hi.aR n l (hg ▸ e),hi.top,hi.le,hi.low,hi.ch,hi.nx,hi.hi⟩
theorem qF.Km {Γ Γ':Env} (hg:Γ'.aR=Γ.aR) {B:aZ} {F0:Nat} {V0:aY} (h:qF Γ B F0 V0):qF Γ' B F0 V0:=⟨h.top,fun n l e=>h.aR n l (hg ▸ e),h.cut,h.cells⟩
def C5 (c:Nat):Prop:=c=0\/c=6\/c=7\/c=8\/c=9
theorem sY (iJ fZ nI:Nat):cB Tryz.prog (ΓT iJ fZ nI):=bQ _ 22
theorem sZ (iJ fZ nI:Nat):cI Tryz.prog (ΓT iJ fZ nI):=bW _ (aMd iJ fZ nI) 22
theorem oJ (a b c a' b' c':Nat):(ΓT a b c).aR=(ΓT a' b' c').aR:=by kernel_rfl
theorem aJc {c:Nat} (hc:C5 c):SgA c:=by
 rcases hc with rfl | rfl | rfl | rfl | rfl
 .exact aRp
 .exact aRo
 .exact aRn
 .exact aRm
 .exact aRl
theorem aIz {c:Nat} (hc:C5 c):SgX c:=by
 rcases hc with rfl | rfl | rfl | rfl | rfl
 .exact aRj
 .exact aRi
 .exact aRh
 .exact aRg
 .exact aRf
theorem aJb {c J:Nat} (hc:C5 c) (hJ:J<4):Eg c J:=by
 obtain rfl | rfl | rfl | rfl:J=0\/J=1\/J=2\/J=3:=by omega
 .rcases hc with rfl | rfl | rfl | rfl | rfl
  .exact aIu
  .exact aIq
  .exact aIm
  .exact aIi
  .exact aIe
 .rcases hc with rfl | rfl | rfl | rfl | rfl
  .exact aIt
  .exact aIp
  .exact aIl
  .exact aIh
  .exact aId
 .rcases hc with rfl | rfl | rfl | rfl | rfl
  .exact aIs
  .exact aIo
  .exact aIk
  .exact aIg
  .exact aIc
 .rcases hc with rfl | rfl | rfl | rfl | rfl
  .exact aIr
  .exact aIn
  .exact aIj
  .exact aIf
  .exact aIb
theorem aJa {c iJ fZ:Nat} (hc:C5 c) (Eo:iJ=7\/(iJ=8/\c≠0)) (Bf:C5 fZ):nK c iJ fZ:=by
 rcases hc with rfl | rfl | rfl | rfl | rfl
 .rcases Eo with rfl | ⟨rfl,dD⟩
  .rcases Bf with rfl | rfl | rfl | rfl | rfl
   .exact XW
   .exact XV
   .exact XU
   .exact XT
   .exact XS
  .exact (dD rfl).elim
 .rcases Eo with rfl | ⟨rfl,dD⟩
  .rcases Bf with rfl | rfl | rfl | rfl | rfl
   .exact XR
   .exact XQ
   .exact XP
   .exact XO
   .exact XN
  .rcases Bf with rfl | rfl | rfl | rfl | rfl
   .exact XM
   .exact XL
   .exact XK
   .exact XJ
   .exact XI
 .rcases Eo with rfl | ⟨rfl,dD⟩
  .rcases Bf with rfl | rfl | rfl | rfl | rfl
   .exact XH
   .exact XG
   .exact XF
   .exact XE
   .exact XD
  .rcases Bf with rfl | rfl | rfl | rfl | rfl
   .exact XC
   .exact XB
   .exact XA
   .exact WZ
   .exact WY
 .rcases Eo with rfl | ⟨rfl,dD⟩
  .rcases Bf with rfl | rfl | rfl | rfl | rfl
   .exact WX
   .exact WW
   .exact WV
   .exact WU
   .exact WT
  .rcases Bf with rfl | rfl | rfl | rfl | rfl
   .exact WS
   .exact WR
   .exact WQ
   .exact WO
   .exact WN
 .rcases Eo with rfl | ⟨rfl,dD⟩
  .rcases Bf with rfl | rfl | rfl | rfl | rfl
   .exact WM
   .exact WL
   .exact WK
   .exact WJ
   .exact WI
  .rcases Bf with rfl | rfl | rfl | rfl | rfl
   .exact WH
   .exact WG
   .exact WE
   .exact WD
   .exact WC
theorem KU {c m n:Nat} {ks held pX xs:List Int} {y0 y1 R j i':Int} {i:Nat} (hh:held.length<15) (hi:i<n) (hn:n=xs.length) (hl:n<=1073741824) (h':held++[xs.getD i 0]=pX) (fR:i'=((i+1:Nat):Int)) :
 ∀ q∈FD c m n ks held pX xs y0 y1 R j (i:Int) i',q:=by
 have e1:IntKind.i64.wrap ((i:Int)+1)=i':=by rw [fR,IntWalk.i64_in _ ⟨by omega,by omega⟩];omega
 have e2:((((held++[xs.getD i 0]).length:Int)==16)=false):=by
  rw [List.length_append,List.length_singleton]
  exact beq_eq_false_iff_ne.2 (by omega)
 have e3:(held.length+[xs.getD i 0].length)*1<=140737488355328:=by simp only [List.length_singleton];omega
 have e4:i<xs.length:=by omega
 have e5:(0:Int)<=(i:Int)/\(i:Int)<(n:Int):=by omega
 have e6:decide ((i:Int)<(n:Int))=true:=decide_eq_true e5.2
 refine aA ?_
 unfold FD
 rw [Int.toNat_natCast]
 cases c with
 | zero=>exact ⟨e2,e3,e4,e5,e6,rfl,rfl,rfl,e1,⟨rfl,rfl⟩,rfl,rfl,rfl,rfl,h',rfl,trivial⟩
 | succ c=>exact ⟨e2,e3,e4,e5,e6,rfl,rfl,rfl,e1,⟨rfl,rfl⟩,rfl,rfl,rfl,rfl,rfl,rfl,rfl,h',rfl,rfl,trivial⟩
theorem KR {c m n:Nat} {ks held xs:List Int} {y0 y1 R j i J:Int} (hi:i=(n:Int)) (hj:j=J):∀ q∈FA c m n ks held xs y0 y1 R j i J,q:=by
 have e1:decide (i<(n:Int))=false:=decide_eq_false (by omega)
 refine aA ?_
 unfold FA
 cases c with
 | zero=>exact ⟨e1,hj,rfl,rfl,rfl,⟨rfl,rfl⟩,rfl,rfl,rfl,rfl,rfl,rfl,trivial⟩
 | succ c=>exact ⟨e1,hj,rfl,rfl,rfl,⟨rfl,rfl⟩,rfl,rfl,rfl,rfl,rfl,rfl,rfl,rfl,rfl,rfl,trivial⟩
theorem KT {c m n:Nat} {ks held xs:List Int} {y0 y1 R j:Int}:∀ q∈FC c m n ks held xs y0 y1 R j,q:=by
 refine aA ?_
 unfold FC
 cases c with
 | zero=>exact ⟨rfl,rfl,rfl,rfl,⟨rfl,rfl⟩,rfl,rfl,rfl,rfl,rfl,rfl,trivial⟩
 | succ c=>exact ⟨rfl,rfl,rfl,rfl,⟨rfl,rfl⟩,rfl,rfl,rfl,rfl,rfl,rfl,rfl,rfl,rfl,rfl,trivial⟩
open M in
theorem KS {c iJ fZ m n:Nat} {ks xs:List Int} {y0 y1 R R' b0 b1 b2 b3 b4 b5 b6 b7 b8 b9 dC dB dA dH dG x j i' S:Int} {i:Nat} (hS:0<=S/\S<bA) (hm:m=nl [y0,y1]) (Bf:fZ=if ln S=0\/m=0 then 0 else ln S+m+4)
 (fG:U y0) (iA:U y1) (hy:y0+18446744073709551616*y1<21267647932558653966460912964485513216) (Eo:iJ=7/\(c≠0->ln R=0)\/iJ=8/\ln R≠0) (hR:0<=R/\R<bA)
 (hb:bR [b0,b1,b2,b3,b4,b5,b6,b7,b8,b9,dC,dB,dA,dH,dG,x,1]) (hi:i<n) (hn:n=xs.length) (hl:n<=1073741824) (fR:i'=((i+1:Nat):Int)) (hR':R'=Xq S y0 y1) :
 ∀ q∈FB c iJ fZ m n ks xs y0 y1 R R' b0 b1 b2 b3 b4 b5 b6 b7 b8 b9 dC dB dA dH dG x j (i:Int) i' S,q:=by
 have e1:IntKind.i64.wrap ((i:Int)+1)=i':=by rw [fR,IntWalk.i64_in _ ⟨by omega,by omega⟩];omega
 have e4:i<xs.length:=by omega
 have e5:(0:Int)<=(i:Int)/\(i:Int)<(n:Int):=by omega
 have e6:decide ((i:Int)<(n:Int))=true:=decide_eq_true e5.2
 have u:=SS S
 have v:=SS R
 have s1:n3 (w0 S) (w1 S) (w2 S)<bA:=by rw [Kw hS.1 hS.2];exact hS.2
 have r1:n3 (w0 R) (w1 R) (w2 R)<bA:=by rw [Kw hR.1 hR.2];exact hR.2
 have v0:U (V [b0,b1,b2,b3,b4,b5,b6,b7]):=Yz (bR.bO (hb b0 (by simp)) (bR.bO (hb b1 (by simp)) (bR.bO (hb b2 (by simp)) (bR.bO (hb b3 (by simp)) (bR.bO (hb b4 (by simp)) (bR.bO (hb b5 (by simp)) (bR.bO (hb b6 (by simp)) (bR.bO (hb b7 (by simp)) bR.Pt)))))))) rfl
 have v1:U (V [b8,b9,dC,dB,dA,dH,dG,x]):=Yz (bR.bO (hb b8 (by simp)) (bR.bO (hb b9 (by simp)) (bR.bO (hb dC (by simp)) (bR.bO (hb dB (by simp)) (bR.bO (hb dA (by simp)) (bR.bO (hb dH (by simp)) (bR.bO (hb dG (by simp)) (bR.bO (hb x (by simp)) bR.Pt)))))))) rfl
 subst hR'
 unfold FB
 rw [Int.toNat_natCast]
 intro q hq
 rcases List.mem_append.1 hq with hq | hq
 .exact aA (l:=[ln S=nl [w0 S,w1 S,w2 S],m=nl [y0,y1],fZ=(if ln S=0\/m=0 then 0 else ln S+m+4),U (w0 S),U (w1 S),U (w2 S),n3 (w0 S) (w1 S) (w2 S)<bA,U y0,U y1,y0+18446744073709551616*y1<21267647932558653966460912964485513216,0=0,ln S=ln S,iJ=iJ,0=0,m=m,6=6,w0 S::w1 S::w2 S::List.replicate (iJ-3) 0=w0 S::w1 S::w2 S::List.replicate (iJ-3) 0,[y0,y1,0,0,0,0]=[y0,y1,0,0,0,0]]) ⟨rfl,hm,Bf,u.1,u.2.1,u.2.2,s1,fG,iA,hy,rfl,rfl,rfl,rfl,rfl,rfl,rfl,rfl,trivial⟩ q hq
 .rcases List.mem_append.1 hq with hq | hq
  .cases c with
   | zero=>cases hq
   | succ c=>
     rcases Eo with ⟨rfl,h0⟩ | ⟨rfl,h0⟩
     .exact aA (l:=[ln R=nl [w0 R,w1 R,w2 R],ln R=0]) ⟨rfl,h0 (by omega),trivial⟩ q hq
     .exact aA (l:=[ln R=nl [w0 R,w1 R,w2 R],ln R≠0,U (w0 R),U (w1 R),U (w2 R),n3 (w0 R) (w1 R) (w2 R)<bA]) ⟨rfl,h0,v.1,v.2.1,v.2.2,r1,trivial⟩ q hq
  .rcases List.mem_append.1 hq with hq | hq
   .exact aA (l:=[U (V [b0,b1,b2,b3,b4,b5,b6,b7]),U (V [b8,b9,dC,dB,dA,dH,dG,x]),(1:Int)=1]) ⟨v0,v1,rfl,trivial⟩ q hq
   .rcases List.mem_append.1 hq with hq | hq
    .cases c with
     | zero=>cases hq
     | succ c=>exact aA (l:=[0=0,ln R=ln R,c+1=c+1,w0 R::w1 R::w2 R::List.replicate (c+1-3) 0=w0 R::w1 R::w2 R::List.replicate (c+1-3) 0]) ⟨rfl,rfl,rfl,rfl,trivial⟩ q hq
    .rcases List.mem_append.1 hq with hq | hq
     .refine aA ?_ q hq
      exact ⟨rfl,hb,rfl,rfl,rfl,e4,e5,e6,rfl,rfl,rfl,e1,⟨rfl,rfl⟩,rfl,rfl,rfl,rfl,trivial⟩
     .cases fZ with
      | zero=>exact aA (l:=[([]:List Int)=[],xs=xs]) ⟨rfl,rfl,trivial⟩ q hq
      | succ fZ=>
        refine aA ?_ q hq
        exact ⟨rfl,rfl,rfl,rfl,rfl,rfl,trivial⟩
namespace M
def rm (S:Int) (m:Nat):Nat:=if ln S=0\/m=0 then 0 else ln S+m+4
theorem aDx (S y0 y1:Int):C5 (rm S (nl [y0,y1])):=by
 unfold rm C5
 split
 .exact Or.inl rfl
 .rename_i h
  have h3:ln S<=3:=by unfold ln;rcases nl3 (w0 S) (w1 S) (w2 S) with h | h | h | h <;> omega
  have h2:nl [y0,y1]<=2:=by rcases RU y0 y1 with h | h | h <;> omega
  omega
theorem ln0 {S:Int} (h0:0<=S) (h1:S<bA) (h:ln S=0):S=0:=by
 have e:=Kw h0 h1
 unfold ln at h
 rcases nl3 (w0 S) (w1 S) (w2 S) with ⟨_,a,b,c⟩ | h' | h' | h'
 .rw [<- e,a,b,c];rfl
 all_goals omega
theorem YD {S y0 y1:Int} (h0:0<=S) (h1:S<bA) (h:rm S (nl [y0,y1])=0):Xq S y0 y1=0:=by
 unfold rm at h
 split at h
 .rename_i h2
  unfold Xq
  rw [Kw h0 h1]
  rcases h2 with h2 | h2
  .rw [ln0 h0 h1 h2];simp
  .rcases RU y0 y1 with ⟨_,rfl,rfl⟩ | h' | h'
   .simp
   all_goals omega
 .omega
end M
def QQ (c:Nat) (R:Int):Prop:=C5 c/\(c=0->R=0)/\0<=R/\R<M.bA
theorem KP {c:Nat} {R Y:Int} (h:QQ c R):EZ c R Y=(R+Y)%M.bA:=by
 obtain ⟨hc,h0,h1,h2⟩:=h
 cases c with
 | zero=>rw [h0 rfl];rfl
 | succ c=>show (M.n3 (M.w0 R) (M.w1 R) (M.w2 R)+Y)%M.bA=_;rw [M.Kw h1 h2]
noncomputable def QO (key:List Int) (d:Nat->List Int) (j:SV) (J:Nat) (i:Int) (c:Nat) (R:Int) (t:Nat):St:=Av j (d (J+1)).length i (M.kS key) (M.tX key) (M.sH key) (M.nl [M.tX key,M.sH key]) c R (M.held (M.cat d) t) (d (J+1))
def eP (key:List Int) (d:Nat->List Int) (t:Nat):Int:=M.acc (M.tX key+18446744073709551616*M.sH key) (M.cat d) (t/16)
set_option maxHeartbeats 4000000 in
theorem Ms {nI:Nat} {key:List Int} {d:Nat->List Int} (hk:bR key) (hd:bR (M.cat d)) (hl:(M.cat d).length<=1073741824) {J:Nat} (hJ:J<5) {w0:World} {Mx:Nat->Prop} {V0:aY} (hb:qF (ΓT 7 0 nI) (bH 100 (yR d)) 100 V0) {K:List Fr} {Q:Exit->Act->World->Prop}
 (hx:∀ c,QQ c (eP key d (M.off d (J+1)))->G Tryz.prog (ΓT 7 0 nI) w0 Mx (bH 100 (yR d)) Tryz.f56.ntmps 100 V0 (.at (.exit 5)) K (QO key d (.int true .i64 (J:Nat)) J (d (J+1)).length c (eP key d (M.off d (J+1))) (M.off d (J+1))) Q)
 {c:Nat} (hc:QQ c (eP key d (M.off d J))):G Tryz.prog (ΓT 7 0 nI) w0 Mx (bH 100 (yR d)) Tryz.f56.ntmps 100 V0 (.go (.loop pF)) K (QO key d (.int false .i64 (J:Nat)) J 0 c (eP key d (M.off d J)) (M.off d J)) Q:=by
 obtain ⟨u0,u1,u2⟩:=M.aYd hk
 have uG:=M.IZ d hJ
 have Ed:qF (ΓT 7 0 0) (bH 100 (yR d)) 100 V0:=hb.Km (oJ _ _ _ _ _ _)
 refine G.loop (fun r s=>∃ i c:Nat,i<=(d (J+1)).length/\r=(d (J+1)).length-i/\QQ c (eP key d (M.off d J+i))/\s=QO key d (.int false .i64 (J:Nat)) J (i:Nat) c (eP key d (M.off d J+i)) (M.off d J+i)) (r0:=(d (J+1)).length) ⟨0,c,by omega,rfl,hc,rfl⟩ ?_
 rintro r s ⟨i,c,hi,rfl,hR,rfl⟩
 by_cases cJ:i<(d (J+1)).length
 .have sE:=M.aCz d hJ cJ
  by_cases h15:(M.off d J+i)%16=15
  ·
   have zM:(M.off d J+i+1)/16=(M.off d J+i)/16+1:=by omega
   have tY:16*((M.off d J+i)/16)+16<=(M.cat d).length:=by omega
   have GR:(M.cat d).getD (16*((M.off d J+i)/16)+15) 0=(d (J+1)).getD i 0:=by rw [<- sE];congr 1;omega
   have fA:=M.KC (M.cat d) (k:=(M.off d J+i)/16) (by omega)
   have DF:=M.aDe hd ((16*((M.off d J+i)/16):Nat):Int) 16
   rw [fA,GR] at DF
   have aZg:=M.Nu (M.tX key+18446744073709551616*M.sH key) tY
   obtain ⟨hC,hR0,hR1,hR2⟩:=hR
   have hR:QQ c (eP key d (M.off d J+i)):=⟨hC,hR0,hR1,hR2⟩
   generalize hRR:eP key d (M.off d J+i)=R at *
   have hS:=KP (Y:=M.V (M.aM (M.cat d) ((16*((M.off d J+i)/16):Nat):Int) 16)) hR
   generalize hSS:EZ c R (M.V (M.aM (M.cat d) ((16*((M.off d J+i)/16):Nat):Int) 16))=S at *
   have hSb:0<=S/\S<M.bA:=by rw [hS];exact M.Io _
   have hQ:eP key d (M.off d J+(i+1))=Xq S (M.tX key) (M.sH key):=by
    show M.acc _ (M.cat d) ((M.off d J+(i+1))/16)=_
    rw [<- Nat.add_assoc,zM,aZg]
    unfold Xq
    rw [M.step_eq hS,<- hRR]
    rfl
   obtain ⟨iJ,Eo,aTp⟩:∃ iJ,(iJ=7\/(iJ=8/\c≠0))/\(iJ=7/\(c≠0->M.ln R=0)\/iJ=8/\M.ln R≠0):=by
    by_cases h:M.ln R=0
    .exact ⟨7,Or.inl rfl,Or.inl ⟨rfl,fun _=>h⟩⟩
    .by_cases Ao:c=0
     .exact ⟨7,Or.inl rfl,Or.inl ⟨rfl,fun dD=>(dD Ao).elim⟩⟩
     .exact ⟨8,Or.inr ⟨rfl,Ao⟩,Or.inr ⟨rfl,h⟩⟩
   have dR:=aJa hC Eo (M.aDx S (M.tX key) (M.sH key))
   have aTg:M.rm S (M.nl [M.tX key,M.sH key])=0->Xq S (M.tX key) (M.sH key)=0:=M.YD hSb.1 hSb.2
   have aTf:=M.aDx S (M.tX key) (M.sH key)
   have aTe:M.rm S (M.nl [M.tX key,M.sH key])=if M.ln S=0\/M.nl [M.tX key,M.sH key]=0 then 0 else M.ln S+M.nl [M.tX key,M.sH key]+4:=rfl
   generalize M.rm S (M.nl [M.tX key,M.sH key])=fZ at *
   refine G.op 9 0 ?_
   unfold QO
   rw [M.aAr _ h15]
   have hr:=dR (M.kS key) d (M.tX key) (M.sH key) (M.nl [M.tX key,M.sH key]) R (Xq S (M.tX key) (M.sH key)) ((M.cat d).getD (16*((M.off d J+i)/16)) 0) ((M.cat d).getD (16*((M.off d J+i)/16)+1) 0) ((M.cat d).getD (16*((M.off d J+i)/16)+2) 0) ((M.cat d).getD (16*((M.off d J+i)/16)+3) 0) ((M.cat d).getD (16*((M.off d J+i)/16)+4) 0) ((M.cat d).getD (16*((M.off d J+i)/16)+5) 0) ((M.cat d).getD (16*((M.off d J+i)/16)+6) 0) ((M.cat d).getD (16*((M.off d J+i)/16)+7) 0) ((M.cat d).getD (16*((M.off d J+i)/16)+8) 0) ((M.cat d).getD (16*((M.off d J+i)/16)+9) 0) ((M.cat d).getD (16*((M.off d J+i)/16)+10) 0) ((M.cat d).getD (16*((M.off d J+i)/16)+11) 0) ((M.cat d).getD (16*((M.off d J+i)/16)+12) 0) ((M.cat d).getD (16*((M.off d J+i)/16)+13) 0) ((M.cat d).getD (16*((M.off d J+i)/16)+14) 0) (d (J+1)) (J:Nat) (d (J+1)).length (i:Nat) ((i+1:Nat):Int)
   refine G.Km (Γ':=ΓT iJ fZ 0) (oJ _ _ _ _ _ _) ?_
   refine G.fL (sY _ _ _) (sZ _ _ _) mix (hb.Km (oJ _ _ _ _ _ _)) [true] hr ?_ (G.Km (Γ':=ΓT 7 0 nI) (oJ _ _ _ _ _ _) (G.again fun V _ _ fR=>⟨(d (J+1)).length-(i+1),by omega,_,⟨i+1,fZ,by omega,rfl,?_,?_⟩,V,fR⟩))
   .rw [Int.toNat_natCast,<- M.bBu,<- GR,<- fA,hSS]
    rw [<- GR] at DF
    exact KS hSb rfl aTe u0 u1 u2 aTp ⟨hR1,hR2⟩ DF cJ rfl (by omega) rfl rfl
   .rw [hQ]
    exact ⟨aTf,aTg,by unfold Xq;exact (M.Io _).1,by unfold Xq;exact (M.Io _).2⟩
   .rw [hQ]
    show _=Av _ _ _ _ _ _ _ _ _ (M.held (M.cat d) (M.off d J+(i+1))) _
    rw [M.JP _ (by omega)]
    rfl
  ·
   have zM:(M.off d J+(i+1))/16=(M.off d J+i)/16:=by omega
   have hQ:eP key d (M.off d J+(i+1))=eP key d (M.off d J+i):=by unfold eP;rw [zM]
   have hh:M.held (M.cat d) (M.off d J+i)++[(d (J+1)).getD i 0]=M.held (M.cat d) (M.off d J+(i+1)):=by rw [<- sE];exact M.AB _ (by omega)
   refine G.Km (Γ':=ΓT 7 0 0) (oJ _ _ _ _ _ _) ?_
   refine G.fL (sY _ _ _) (sZ _ _ _) mix Ed [true,false] (aJc hR.1 (M.kS key) d (M.tX key) (M.sH key) (M.nl [M.tX key,M.sH key]) _ _ (M.held (M.cat d) (M.off d J+(i+1))) (d (J+1)) (J:Nat) (d (J+1)).length (i:Nat) ((i+1:Nat):Int)) ?_ (G.Km (Γ':=ΓT 7 0 nI) (oJ _ _ _ _ _ _) (G.again fun V _ _ fR=>⟨(d (J+1)).length-(i+1),by omega,_,⟨i+1,c,by omega,rfl,?_,?_⟩,V,fR⟩))
   .exact KU (by rw [M.Of];omega) cJ rfl (by omega) hh rfl
   .rw [hQ];exact hR
   .rw [hQ];rfl
 .obtain rfl:i=(d (J+1)).length:=by omega
  refine G.Km (Γ':=ΓT 7 0 0) (oJ _ _ _ _ _ _) ?_
  refine G.fL (sY _ _ _) (sZ _ _ _) mix Ed [false] (aIz hR.1 (M.kS key) d (M.tX key) (M.sH key) (M.nl [M.tX key,M.sH key]) _ _ (d (J+1)) (J:Nat) (d (J+1)).length ((d (J+1)).length:Nat) (J:Nat)) (KR rfl rfl) (G.Km (Γ':=ΓT 7 0 nI) (oJ _ _ _ _ _ _) (G.leave (fun h=>by cases h) ?_))
  exact hx c hR
theorem aIy (d:Nat->List Int) (y0 y1:Int) (m:Nat) (R:Int) (k:Nat->Int) (xs:List Int) (n:Nat) (i:Int) :
 Lf (ΓT 7 0 0) (yR d) 100 100 Tryz.f56 (CN 7 0 0 d (.at (.exit 5)) (xA 4) ((Av (.int true .i64 4) n i [k 0,k 1,k 2,k 3,k 4,k 5,k 6,k 7,k 8,k 9,k 10,k 11,k 12,k 13,k 14,k 15,k 16,k 17,k 18,k 19,k 20,k 21,k 22,k 23,k 24,k 25,k 26,k 27,k 28,k 29,k 30,k 31] y0 y1 m 0 R [] xs).hint [false])) =
 sh (0:Int) fun z0=>
 sh (0:Nat) fun z1=>
 some {bK:=[z1=M.nl [M.V [k 16,k 17,k 18,k 19,k 20,k 21,k 22,k 23],M.V [k 24,k 25,k 26,k 27,k 28,k 29,k 30,k 31]],z1=z1,M.nl [M.V [k 16,k 17,k 18,k 19,k 20,k 21,k 22,k 23],M.V [k 24,k 25,k 26,k 27,k 28,k 29,k 30,k 31]]=z1,(6:Nat)=(6:Nat),[M.V [k 16,k 17,k 18,k 19,k 20,k 21,k 22,k 23],M.V [k 24,k 25,k 26,k 27,k 28,k 29,k 30,k 31],z0,z0,z0,z0]=[M.V [k 16,k 17,k 18,k 19,k 20,k 21,k 22,k 23],M.V [k 24,k 25,k 26,k 27,k 28,k 29,k 30,k 31],z0,z0,z0,z0],bR [k 0,k 1,k 2,k 3,k 4,k 5,k 6,k 7,k 8,k 9,k 10,k 11,k 12,k 13,k 14,k 15,k 16,k 17,k 18,k 19,k 20,k 21,k 22,k 23,k 24,k 25,k 26,k 27,k 28,k 29,k 30,k 31],[k 0,k 1,k 2,k 3,k 4,k 5,k 6,k 7,k 8,k 9,k 10,k 11,k 12,k 13,k 14,k 15,k 16,k 17,k 18,k 19,k 20,k 21,k 22,k 23,k 24,k 25,k 26,k 27,k 28,k 29,k 30,k 31]=[k 0,k 1,k 2,k 3,k 4,k 5,k 6,k 7,k 8,k 9,k 10,k 11,k 12,k 13,k 14,k 15,k 16,k 17,k 18,k 19,k 20,k 21,k 22,k 23,k 24,k 25,k 26,k 27,k 28,k 29,k 30,k 31],false=false],val:=SV.agg [SV.int false IntKind.u8 z0,SV.int false IntKind.u8 z0,SV.int false IntKind.u8 z0,SV.int false IntKind.u8 z0,SV.int false IntKind.u8 z0,SV.int false IntKind.u8 z0,SV.int false IntKind.u8 z0,SV.int false IntKind.u8 z0,SV.int false IntKind.u8 z0,SV.int false IntKind.u8 z0,SV.int false IntKind.u8 z0,SV.int false IntKind.u8 z0,SV.int false IntKind.u8 z0,SV.int false IntKind.u8 z0,SV.int false IntKind.u8 z0,SV.int false IntKind.u8 z0]}:=by kernel_rfl
theorem aIx (d:Nat->List Int) (y0 y1:Int) (m:Nat) (R:Int) (k:Nat->Int) (xs:List Int) (n:Nat) (i:Int) :
 Lf (ΓT 7 0 1) (yR d) 100 100 Tryz.f56 (CN 7 0 1 d (.at (.exit 5)) (xA 4) ((Av (.int true .i64 4) n i [k 0,k 1,k 2,k 3,k 4,k 5,k 6,k 7,k 8,k 9,k 10,k 11,k 12,k 13,k 14,k 15,k 16,k 17,k 18,k 19,k 20,k 21,k 22,k 23,k 24,k 25,k 26,k 27,k 28,k 29,k 30,k 31] y0 y1 m 0 R [] xs).hint [false])) =
 sh (M.V [k 16,k 17,k 18,k 19,k 20,k 21,k 22,k 23]) fun z0=>
 sh (0:Int) fun z1=>
 sh (1:Nat) fun z2=>
 sh (0:Nat) fun z3=>
 some {bK:=[M.U z0,z3=z3,z2=z2,z2=z2,[M.V [k 16,k 17,k 18,k 19,k 20,k 21,k 22,k 23]]=[M.V [k 16,k 17,k 18,k 19,k 20,k 21,k 22,k 23]],z2=M.nl [M.V [k 16,k 17,k 18,k 19,k 20,k 21,k 22,k 23],M.V [k 24,k 25,k 26,k 27,k 28,k 29,k 30,k 31]],z3=z3,M.nl [M.V [k 16,k 17,k 18,k 19,k 20,k 21,k 22,k 23],M.V [k 24,k 25,k 26,k 27,k 28,k 29,k 30,k 31]]=z2,(6:Nat)=(6:Nat),[M.V [k 16,k 17,k 18,k 19,k 20,k 21,k 22,k 23],M.V [k 24,k 25,k 26,k 27,k 28,k 29,k 30,k 31],z1,z1,z1,z1]=[M.V [k 16,k 17,k 18,k 19,k 20,k 21,k 22,k 23],M.V [k 24,k 25,k 26,k 27,k 28,k 29,k 30,k 31],z1,z1,z1,z1],bR [k 0,k 1,k 2,k 3,k 4,k 5,k 6,k 7,k 8,k 9,k 10,k 11,k 12,k 13,k 14,k 15,k 16,k 17,k 18,k 19,k 20,k 21,k 22,k 23,k 24,k 25,k 26,k 27,k 28,k 29,k 30,k 31],[k 0,k 1,k 2,k 3,k 4,k 5,k 6,k 7,k 8,k 9,k 10,k 11,k 12,k 13,k 14,k 15,k 16,k 17,k 18,k 19,k 20,k 21,k 22,k 23,k 24,k 25,k 26,k 27,k 28,k 29,k 30,k 31]=[k 0,k 1,k 2,k 3,k 4,k 5,k 6,k 7,k 8,k 9,k 10,k 11,k 12,k 13,k 14,k 15,k 16,k 17,k 18,k 19,k 20,k 21,k 22,k 23,k 24,k 25,k 26,k 27,k 28,k 29,k 30,k 31],false=false],val:=SV.agg [SV.int false IntKind.u8 (M.nb z0 z3),SV.int false IntKind.u8 (M.nb z0 z2),SV.int false IntKind.u8 (M.nb z0 (2:Nat)),SV.int false IntKind.u8 (M.nb z0 (3:Nat)),SV.int false IntKind.u8 (M.nb z0 (4:Nat)),SV.int false IntKind.u8 (M.nb z0 (5:Nat)),SV.int false IntKind.u8 (M.nb z0 (6:Nat)),SV.int false IntKind.u8 (M.nb z0 (7:Nat)),SV.int false IntKind.u8 (M.nb z0 (8:Nat)),SV.int false IntKind.u8 (M.nb z0 (9:Nat)),SV.int false IntKind.u8 (M.nb z0 (10:Nat)),SV.int false IntKind.u8 (M.nb z0 (11:Nat)),SV.int false IntKind.u8 (M.nb z0 (12:Nat)),SV.int false IntKind.u8 (M.nb z0 (13:Nat)),SV.int false IntKind.u8 (M.nb z0 (14:Nat)),SV.int false IntKind.u8 (M.nb z0 (15:Nat))]}:=by kernel_rfl
theorem aIw (d:Nat->List Int) (y0 y1:Int) (m:Nat) (R:Int) (k:Nat->Int) (xs:List Int) (n:Nat) (i:Int) :
 Lf (ΓT 7 0 2) (yR d) 100 100 Tryz.f56 (CN 7 0 2 d (.at (.exit 5)) (xA 4) ((Av (.int true .i64 4) n i [k 0,k 1,k 2,k 3,k 4,k 5,k 6,k 7,k 8,k 9,k 10,k 11,k 12,k 13,k 14,k 15,k 16,k 17,k 18,k 19,k 20,k 21,k 22,k 23,k 24,k 25,k 26,k 27,k 28,k 29,k 30,k 31] y0 y1 m 0 R [] xs).hint [false])) =
 sh (M.V [k 16,k 17,k 18,k 19,k 20,k 21,k 22,k 23]+(18446744073709551616:Int)*M.V [k 24,k 25,k 26,k 27,k 28,k 29,k 30,k 31]) fun z0=>
 sh (0:Int) fun z1=>
 sh (6:Nat) fun z2=>
 sh (2:Nat) fun z3=>
 sh (0:Nat) fun z4=>
 some {bK:=[z2=z2\/z2=(7:Nat)\/z2=(8:Nat)\/z2=(9:Nat),M.U (M.V [k 16,k 17,k 18,k 19,k 20,k 21,k 22,k 23]),M.U (M.V [k 24,k 25,k 26,k 27,k 28,k 29,k 30,k 31]),z1<=z1/\z1<(8:Int),z3=M.nl [M.V [k 16,k 17,k 18,k 19,k 20,k 21,k 22,k 23],M.V [k 24,k 25,k 26,k 27,k 28,k 29,k 30,k 31],z1],z4=z4,z3=z3,z2=z2,[M.V [k 16,k 17,k 18,k 19,k 20,k 21,k 22,k 23],M.V [k 24,k 25,k 26,k 27,k 28,k 29,k 30,k 31],z1,z1,z1,z1]=[M.V [k 16,k 17,k 18,k 19,k 20,k 21,k 22,k 23],M.V [k 24,k 25,k 26,k 27,k 28,k 29,k 30,k 31],z1,z1,z1,z1],z3=M.nl [M.V [k 16,k 17,k 18,k 19,k 20,k 21,k 22,k 23],M.V [k 24,k 25,k 26,k 27,k 28,k 29,k 30,k 31]],z4=z4,M.nl [M.V [k 16,k 17,k 18,k 19,k 20,k 21,k 22,k 23],M.V [k 24,k 25,k 26,k 27,k 28,k 29,k 30,k 31]]=z3,z2=z2,[M.V [k 16,k 17,k 18,k 19,k 20,k 21,k 22,k 23],M.V [k 24,k 25,k 26,k 27,k 28,k 29,k 30,k 31],z1,z1,z1,z1]=[M.V [k 16,k 17,k 18,k 19,k 20,k 21,k 22,k 23],M.V [k 24,k 25,k 26,k 27,k 28,k 29,k 30,k 31],z1,z1,z1,z1],bR [k 0,k 1,k 2,k 3,k 4,k 5,k 6,k 7,k 8,k 9,k 10,k 11,k 12,k 13,k 14,k 15,k 16,k 17,k 18,k 19,k 20,k 21,k 22,k 23,k 24,k 25,k 26,k 27,k 28,k 29,k 30,k 31],[k 0,k 1,k 2,k 3,k 4,k 5,k 6,k 7,k 8,k 9,k 10,k 11,k 12,k 13,k 14,k 15,k 16,k 17,k 18,k 19,k 20,k 21,k 22,k 23,k 24,k 25,k 26,k 27,k 28,k 29,k 30,k 31]=[k 0,k 1,k 2,k 3,k 4,k 5,k 6,k 7,k 8,k 9,k 10,k 11,k 12,k 13,k 14,k 15,k 16,k 17,k 18,k 19,k 20,k 21,k 22,k 23,k 24,k 25,k 26,k 27,k 28,k 29,k 30,k 31],false=false],val:=SV.agg [SV.int false IntKind.u8 (M.nb z0 z4),SV.int false IntKind.u8 (M.nb z0 (1:Nat)),SV.int false IntKind.u8 (M.nb z0 z3),SV.int false IntKind.u8 (M.nb z0 (3:Nat)),SV.int false IntKind.u8 (M.nb z0 (4:Nat)),SV.int false IntKind.u8 (M.nb z0 (5:Nat)),SV.int false IntKind.u8 (M.nb z0 z2),SV.int false IntKind.u8 (M.nb z0 (7:Nat)),SV.int false IntKind.u8 (M.nb z0 (8:Nat)),SV.int false IntKind.u8 (M.nb z0 (9:Nat)),SV.int false IntKind.u8 (M.nb z0 (10:Nat)),SV.int false IntKind.u8 (M.nb z0 (11:Nat)),SV.int false IntKind.u8 (M.nb z0 (12:Nat)),SV.int false IntKind.u8 (M.nb z0 (13:Nat)),SV.int false IntKind.u8 (M.nb z0 (14:Nat)),SV.int false IntKind.u8 (M.nb z0 (15:Nat))]}:=by kernel_rfl
theorem aVn {c:Nat} (hc:c=6\/c=7\/c=8\/c=9) (nI:Nat) (d:Nat->List Int) (y0 y1:Int) (m:Nat) (R:Int) (k:Nat->Int) (xs:List Int) (n:Nat) (i:Int) :
 Lf (ΓT 7 0 nI) (yR d) 100 100 Tryz.f56 (CN 7 0 nI d (.at (.exit 5)) (xA 4) ((Av (.int true .i64 4) n i [k 0,k 1,k 2,k 3,k 4,k 5,k 6,k 7,k 8,k 9,k 10,k 11,k 12,k 13,k 14,k 15,k 16,k 17,k 18,k 19,k 20,k 21,k 22,k 23,k 24,k 25,k 26,k 27,k 28,k 29,k 30,k 31] y0 y1 m c R [] xs).hint [false])) =
 sh (18446744073709551616:Int) fun z4=>
 sh (M.n3 (M.w0 R) (M.w1 R) (M.w2 R)+(M.V [k 16,k 17,k 18,k 19,k 20,k 21,k 22,k 23]+z4*M.V [k 24,k 25,k 26,k 27,k 28,k 29,k 30,k 31])) fun z0=>
 sh (M.w0 z0+z4*M.w1 z0) fun z1=>
 sh (0:Int) fun z2=>
 sh (0:Nat) fun z3=>
 some {bK:=[c=6\/c=7\/c=8\/c=9,M.U (M.w0 z0),M.U (M.w1 z0),z2<=M.w2 z0/\M.w2 z0<(8:Int),M.ln z0=M.nl [M.w0 z0,M.w1 z0,M.w2 z0],z3=z3,M.ln z0=M.ln z0,c=c,[M.w0 z0,M.w1 z0,M.w2 z0]++List.replicate (c-3) z2=[M.w0 z0,M.w1 z0,M.w2 z0]++List.replicate (c-3) z2,c=6\/c=7\/c=8\/c=9,M.U (M.w0 R),M.U (M.w1 R),z2<=M.w2 R/\M.w2 R<(4:Int),M.U (M.V [k 16,k 17,k 18,k 19,k 20,k 21,k 22,k 23]),M.U (M.V [k 24,k 25,k 26,k 27,k 28,k 29,k 30,k 31]),M.ln R=M.nl [M.w0 R,M.w1 R,M.w2 R],M.nl [M.V [k 16,k 17,k 18,k 19,k 20,k 21,k 22,k 23],M.V [k 24,k 25,k 26,k 27,k 28,k 29,k 30,k 31]]=M.nl [M.V [k 16,k 17,k 18,k 19,k 20,k 21,k 22,k 23],M.V [k 24,k 25,k 26,k 27,k 28,k 29,k 30,k 31]],z3=z3,M.ln R=M.ln R,c=c,z3=z3,M.nl [M.V [k 16,k 17,k 18,k 19,k 20,k 21,k 22,k 23],M.V [k 24,k 25,k 26,k 27,k 28,k 29,k 30,k 31]]=M.nl [M.V [k 16,k 17,k 18,k 19,k 20,k 21,k 22,k 23],M.V [k 24,k 25,k 26,k 27,k 28,k 29,k 30,k 31]],(6:Nat)=(6:Nat),[M.w0 R,M.w1 R,M.w2 R]++List.replicate (c-3) z2=[M.w0 R,M.w1 R,M.w2 R]++List.replicate (c-3) z2,[M.V [k 16,k 17,k 18,k 19,k 20,k 21,k 22,k 23],M.V [k 24,k 25,k 26,k 27,k 28,k 29,k 30,k 31],z2,z2,z2,z2]=[M.V [k 16,k 17,k 18,k 19,k 20,k 21,k 22,k 23],M.V [k 24,k 25,k 26,k 27,k 28,k 29,k 30,k 31],z2,z2,z2,z2],bR [k 0,k 1,k 2,k 3,k 4,k 5,k 6,k 7,k 8,k 9,k 10,k 11,k 12,k 13,k 14,k 15,k 16,k 17,k 18,k 19,k 20,k 21,k 22,k 23,k 24,k 25,k 26,k 27,k 28,k 29,k 30,k 31],[k 0,k 1,k 2,k 3,k 4,k 5,k 6,k 7,k 8,k 9,k 10,k 11,k 12,k 13,k 14,k 15,k 16,k 17,k 18,k 19,k 20,k 21,k 22,k 23,k 24,k 25,k 26,k 27,k 28,k 29,k 30,k 31]=[k 0,k 1,k 2,k 3,k 4,k 5,k 6,k 7,k 8,k 9,k 10,k 11,k 12,k 13,k 14,k 15,k 16,k 17,k 18,k 19,k 20,k 21,k 22,k 23,k 24,k 25,k 26,k 27,k 28,k 29,k 30,k 31],false=false],val:=SV.agg [SV.int false IntKind.u8 (M.nb z1 z3),SV.int false IntKind.u8 (M.nb z1 (1:Nat)),SV.int false IntKind.u8 (M.nb z1 (2:Nat)),SV.int false IntKind.u8 (M.nb z1 (3:Nat)),SV.int false IntKind.u8 (M.nb z1 (4:Nat)),SV.int false IntKind.u8 (M.nb z1 (5:Nat)),SV.int false IntKind.u8 (M.nb z1 (6:Nat)),SV.int false IntKind.u8 (M.nb z1 (7:Nat)),SV.int false IntKind.u8 (M.nb z1 (8:Nat)),SV.int false IntKind.u8 (M.nb z1 (9:Nat)),SV.int false IntKind.u8 (M.nb z1 (10:Nat)),SV.int false IntKind.u8 (M.nb z1 (11:Nat)),SV.int false IntKind.u8 (M.nb z1 (12:Nat)),SV.int false IntKind.u8 (M.nb z1 (13:Nat)),SV.int false IntKind.u8 (M.nb z1 (14:Nat)),SV.int false IntKind.u8 (M.nb z1 (15:Nat))]}:=by rcases hc with rfl | rfl | rfl | rfl <;> kernel_rfl
def sgE (key:List Int) (d:Nat->List Int):bJ:={ val:=.agg ((M.tag key (M.cat d)).map (.int false .u8)) }
def Hr (key:List Int) (d:Nat->List Int):Int:=eP key d (M.cat d).length+(M.wT key+18446744073709551616*M.xZ key)
theorem aIa {key:List Int} {d:Nat->List Int} (hk:bR key) (tY:(M.cat d).length%16=0) {W:Int} (hW:M.w0 (Hr key d)+18446744073709551616*M.w1 (Hr key d)=W) :
 (SV.agg [SV.int false .u8 (M.nb W 0),SV.int false .u8 (M.nb W 1),SV.int false .u8 (M.nb W 2),SV.int false .u8 (M.nb W 3),SV.int false .u8 (M.nb W 4),SV.int false .u8 (M.nb W 5),SV.int false .u8 (M.nb W 6),SV.int false .u8 (M.nb W 7),SV.int false .u8 (M.nb W 8),SV.int false .u8 (M.nb W 9),SV.int false .u8 (M.nb W 10),SV.int false .u8 (M.nb W 11),SV.int false .u8 (M.nb W 12),SV.int false .u8 (M.nb W 13),SV.int false .u8 (M.nb W 14),SV.int false .u8 (M.nb W 15)])=(sgE key d).val:=by
 unfold sgE
 rw [M.IG hk tY,M.aQd hk]
 show _=SV.agg (((List.range 16).map (M.nb (M.w0 (Hr key d)+18446744073709551616*M.w1 (Hr key d)))).map (SV.int false .u8))
 rw [hW];rfl
open M in
theorem aRk {c:Nat} (_:c=6\/c=7\/c=8\/c=9) {R Z0 Z1:Int} (hR:0<=R/\R<bA) (h0:U Z0) (h1:U Z1) :
 U (w0 (n3 (w0 R) (w1 R) (w2 R)+(Z0+18446744073709551616*Z1)))/\U (w1 (n3 (w0 R) (w1 R) (w2 R)+(Z0+18446744073709551616*Z1)))/\(0<=w2 (n3 (w0 R) (w1 R) (w2 R)+(Z0+18446744073709551616*Z1))/\w2 (n3 (w0 R) (w1 R) (w2 R)+(Z0+18446744073709551616*Z1))<8)/\(0<=w2 R/\w2 R<4):=by
 obtain ⟨a,b,c'⟩:=SS (n3 (w0 R) (w1 R) (w2 R)+(Z0+18446744073709551616*Z1))
 refine ⟨a,b,?_,?_⟩
 .rw [Kw hR.1 hR.2]
  unfold U at h0 h1;unfold bA at hR;unfold w2;omega
 .unfold bA at hR;unfold w2;omega
set_option maxHeartbeats 4000000 in
theorem aIv {key:List Int} {d:Nat->List Int} (hk:bR key) (tY:(M.cat d).length%16=0) {w0:World} {Mx:Nat->Prop} {V0:aY} {Q:Exit->Act->World->Prop}
 (H:∀ x s e',Le (ΓT 7 0 (M.nl [M.wT key,M.xZ key])) (yR d) 100 100 Tryz.f56 x s=some e'->(∀ q∈e'.bK,q)->e'.val=(sgE key d).val->e'.new=(sgE key d).new->e'.wr=(sgE key d).wr->G Tryz.prog (ΓT 7 0 (M.nl [M.wT key,M.xZ key])) w0 Mx (bH 100 (yR d)) Tryz.f56.ntmps 100 V0 (.at x) [] s Q)
 {c:Nat} (hR:QQ c (eP key d (M.cat d).length)) :
 G Tryz.prog (ΓT 7 0 (M.nl [M.wT key,M.xZ key])) w0 Mx (bH 100 (yR d)) Tryz.f56.ntmps 100 V0 (.at (.exit 5)) (xA 4) (QO key d (.int true .i64 (4:Nat)) 4 (d 5).length c (eP key d (M.cat d).length) (M.cat d).length) Q:=by
 have hz:=M.aYc hk
 obtain ⟨z0,z1⟩:=hz
 have hB:bR (M.kS key):=M.JM hk
 have aT:=sY 7 0 (M.nl [M.wT key,M.xZ key])
 have aX:=sZ 7 0 (M.nl [M.wT key,M.xZ key])
 obtain ⟨hC,hR0,hR1,hR2⟩:=hR
 have sD:=fun W h=>aIa (W:=W) hk tY h
 have hN:Hr key d=eP key d (M.cat d).length+(M.wT key+18446744073709551616*M.xZ key):=rfl
 unfold QO
 rw [M.JP _ tY]
 have big:∀ c,(c=6\/c=7\/c=8\/c=9)->M.w0 (Hr key d)+18446744073709551616*M.w1 (Hr key d)=M.w0 (M.n3 (M.w0 (eP key d (M.cat d).length)) (M.w1 (eP key d (M.cat d).length)) (M.w2 (eP key d (M.cat d).length))+(M.wT key+18446744073709551616*M.xZ key))+18446744073709551616*M.w1 (M.n3 (M.w0 (eP key d (M.cat d).length)) (M.w1 (eP key d (M.cat d).length)) (M.w2 (eP key d (M.cat d).length))+(M.wT key+18446744073709551616*M.xZ key)):=by
  intro c hc
  rw [hN,M.Kw hR1 hR2]
 have ob:∀ c,(c=6\/c=7\/c=8\/c=9)->_:=fun c hc=>aRk (c:=c) hc ⟨hR1,hR2⟩ z0 z1
 rcases hC with rfl | hC
 .have QX:=hR0 rfl
  rw [QX,Int.zero_add] at hN
  rw [QX]
  have e0:M.w0 (Hr key d)=M.wT key:=by rw [hN];unfold M.U at z0 z1;unfold M.w0;omega
  have e1:M.w1 (Hr key d)=M.xZ key:=by rw [hN];unfold M.U at z0 z1;unfold M.w1;omega
  have en:M.nl [M.wT key,M.xZ key,0]=M.nl [M.wT key,M.xZ key]:=M.gH [M.wT key,M.xZ key]
  rw [e0,e1] at sD
  generalize Hv:M.nl [M.wT key,M.xZ key]=nI at *
  rcases M.RU (M.wT key) (M.xZ key) with ⟨h,y0,y1⟩ | ⟨h,y0,y1⟩ | ⟨h,y0⟩
  .rw [Hv] at h;subst h
   refine G.qR (cl:=[]) aT aX mix [false] H (aIy d _ _ _ _ (fun j=>(M.kS key).getD j 0) _ _ _) (aA ?_) (sD 0 (by rw [y0,y1];rfl)) rfl rfl
   exact ⟨Hv.symm,rfl,Hv,rfl,rfl,hB,rfl,rfl,trivial⟩
  .rw [Hv] at h;subst h
   refine G.qR (cl:=[]) aT aX mix [false] H (aIx d _ _ _ _ (fun j=>(M.kS key).getD j 0) _ _ _) (aA ?_) (sD (M.wT key) (by rw [y1];omega)) rfl rfl
   exact ⟨z0,rfl,rfl,rfl,rfl,Hv.symm,rfl,Hv,rfl,rfl,hB,rfl,rfl,trivial⟩
  .rw [Hv] at h;subst h
   refine G.qR (cl:=[]) aT aX mix [false] H (aIw d _ _ _ _ (fun j=>(M.kS key).getD j 0) _ _ _) (aA ?_) (sD _ rfl) rfl rfl
   exact ⟨.inl rfl,z0,z1,⟨by decide,by decide⟩,en.symm,rfl,rfl,rfl,rfl,Hv.symm,rfl,Hv,rfl,rfl,hB,rfl,rfl,trivial⟩
 obtain ⟨o1,o2,o3,o4⟩:=ob c hC
 have u:=M.SS (eP key d (M.cat d).length)
 refine G.qR (cl:=[]) aT aX mix [false] H (aVn hC (M.nl [M.wT key,M.xZ key]) d _ _ _ _ (fun j=>(M.kS key).getD j 0) _ _ _) (aA ?_) (sD _ (big c hC)) rfl rfl
 exact ⟨hC,o1,o2,o3,rfl,rfl,rfl,rfl,rfl,hC,u.1,u.2.1,o4,z0,z1,rfl,rfl,rfl,rfl,rfl,rfl,rfl,rfl,rfl,rfl,hB,rfl,rfl,trivial⟩
set_option maxHeartbeats 4000000 in
theorem XX {key:List Int} {d:Nat->List Int} (hk:bR key) (hd:bR (M.cat d)) (hl:(M.cat d).length<=1073741824) (tY:(M.cat d).length%16=0) :
 aE Tryz.prog (ΓT 7 0 (M.nl [M.wT key,M.xZ key])) 56 (DM key) (yR d) 100 100 (sgE key d):=by
 refine gQ (sY _ _ _) (sZ _ _ _) Tryz.func56 (by kernel_rfl) rfl (Nat.le_of_ble_eq_true (by kernel_rfl)) rfl [] ?_
 intro w0 Mx V0 Q hb H
 have UK:=fun c hR=>aIv hk tY H (c:=c) hR
 have hB:bR (M.kS key):=M.JM hk
 generalize M.nl [M.wT key,M.xZ key]=nI at *
 have Ed:qF (ΓT 7 0 0) (bH 100 (yR d)) 100 V0:=hb.Km (oJ _ _ _ _ _ _)
 have h5:=M.aEf d
 have next:∀ J,J<4->(∀ c,QQ c (eP key d (M.off d (J+1)))->G Tryz.prog (ΓT 7 0 nI) w0 Mx (bH 100 (yR d)) Tryz.f56.ntmps 100 V0 (.go (.loop pF)) (xA (J+1)) (QO key d (.int false .i64 ((J+1:Nat):Int)) (J+1) 0 c (eP key d (M.off d (J+1))) (M.off d (J+1))) Q) ->
  ∀ c,QQ c (eP key d (M.off d J))->G Tryz.prog (ΓT 7 0 nI) w0 Mx (bH 100 (yR d)) Tryz.f56.ntmps 100 V0 (.go (.loop pF)) (xA J) (QO key d (.int false .i64 (J:Nat)) J 0 c (eP key d (M.off d J)) (M.off d J)) Q:=by
  intro J hJ hG c hR
  refine Ms hk hd hl (by omega) hb (fun c hR=>?_) hR
  refine G.Km (Γ':=ΓT 7 0 0) (oJ _ _ _ _ _ _) ?_
  exact G.fL (sY _ _ _) (sZ _ _ _) mix Ed [] (aJb hR.1 hJ (M.kS key) d (M.tX key) (M.sH key) (M.nl [M.tX key,M.sH key]) _ _ (d (J+1)) (d (J+1)).length ((d (J+1)).length:Nat)) KT (G.Km (Γ':=ΓT 7 0 nI) (oJ _ _ _ _ _ _) (hG c hR))
 have last:∀ c,QQ c (eP key d (M.off d 4))->G Tryz.prog (ΓT 7 0 nI) w0 Mx (bH 100 (yR d)) Tryz.f56.ntmps 100 V0 (.go (.loop pF)) (xA 4) (QO key d (.int false .i64 ((4:Nat):Int)) 4 0 c (eP key d (M.off d 4)) (M.off d 4)) Q:=by
  intro c hR
  refine Ms hk hd hl (by omega) hb (fun c hR=>?_) hR
  have hR':QQ c (eP key d (M.off d 5)):=hR
  show G Tryz.prog (ΓT 7 0 nI) w0 Mx (bH 100 (yR d)) Tryz.f56.ntmps 100 V0 (.at (.exit 5)) (xA 4) (QO key d (.int true .i64 (4:Nat)) 4 (d 5).length c (eP key d (M.off d 5)) (M.off d 5)) Q
  rw [h5] at hR' |-
  exact UK c hR'
 have all:=next 0 (by decide) (next 1 (by decide) (next 2 (by decide) (next 3 (by decide) last)))
 have ha0:eP key d (M.off d 0)=0:=by simp [eP,M.off,M.acc]
 refine G.Km (Γ':=ΓT 7 0 0) (oJ _ _ _ _ _ _) ?_
 refine G.fL (sY _ _ _) (sZ _ _ _) mix Ed [] (aVo key (M.kS key) d (M.tX key) (M.sH key) (M.nl [M.tX key,M.sH key])) (aA ?_) (G.Km (Γ':=ΓT 7 0 nI) (oJ _ _ _ _ _ _) ?_)
 .exact ⟨hB,rfl,rfl,rfl,rfl,rfl,⟨rfl,rfl⟩,rfl,rfl,rfl,rfl,rfl,rfl,trivial⟩
 .have:=all 0 ⟨.inl rfl,fun _=>ha0,by rw [ha0];decide,by rw [ha0];decide⟩
  rw [ha0] at this
  exact this
def Ap (x1 x2 x3 x4 x5:List Int):Nat->List Int
 | 1=>x1
 | 2=>x2
 | 3=>x3
 | 4=>x4
 | _=>x5
def roL:SB->Option (List SV)
 | .own cs _=>some cs
 | .fN cs=>some cs
 | _=>none
def FE (vs:List SV) (T:aZ):Option Canon:=match vs with
 | [ks,.aH L _ 0 5 5]=>match cK ks,(T L).bind roL with
   | some (.u8,k),some [p1,p2,p3,p4,p5]=>match cW T .u8 p1,cW T .u8 p2,cW T .u8 p3,cW T .u8 p4,cW T .u8 p5 with
     | some (o1,x1),some (o2,x2),some (o3,x3),some (o4,x4),some (o5,x5)=>some { eR:=[.ai .u8 k,.aH 62 true 0 5 5],T0:=sgB (Ap x1 x2 x3 x4 x5),vl:=[(62,.lab L 0),(71,.cell L 0),(72,.cell L 1),(73,.cell L 2),(74,.cell L 3),(75,.cell L 4)],e0:={ val:=.ai .u8 (M.tag k (x1++(x2++(x3++(x4++x5))))) },conds:=(k.length=32)::bR k::bR (x1++(x2++(x3++(x4++x5))))::((x1++(x2++(x3++(x4++x5)))).length<=1073741824)::((x1++(x2++(x3++(x4++x5)))).length%16=0)::(o1++(o2++(o3++(o4++o5)))) }
     | _,_,_,_,_=>none
   | _,_=>none
 | _=>none
theorem aHj (a b c:Nat):(ΓT a b c).aR=aB:=by kernel_rfl
theorem aHz (Γ:Env) (hg:Γ.aR=aB):aI Tryz.prog Γ 56 (aL aB 100 FE):=by
 refine aW hg fun vs T c hd hc=>?_
 unfold FE at hd
 split at hd
 case h_2=>cases hd
 split at hd
 case h_2=>cases hd
 split at hd
 case h_2=>cases hd
 cases hd
 rename_i k _ _ _ _ _ _ _ _ _ _ _ _ o1 x1 o2 x2 o3 x3 o4 x4 o5 x5 _ _ _ _ _
 have h32:k.length=32:=hc _ cM
 have h:aE Tryz.prog _ 56 (DM k) (yR (Ap x1 x2 x3 x4 x5)) 100 100 (sgE k (Ap x1 x2 x3 x4 x5)):=XX (hc _ (by simp)) (hc _ (by simp [M.cat,Ap])) (hc _ (by simp [M.cat,Ap])) (hc _ (by simp [M.cat,Ap]))
 refine h.words (hg.trans (aHj _ _ _).symm) (fun V=>?_) (fun _ _ h=>h) (fun V=>?_) rfl rfl
 .simp only [DM,aG,bI V h32]
 .show den V (.agg ((M.tag k (M.cat (Ap x1 x2 x3 x4 x5))).map (.int false .u8)))=_
  simp only [den,xU]
  rfl
namespace P
theorem aEj {x r q:Int}:(x*(r-p*q))%p=(x*r)%p:=by
 rw [Int.mul_sub,show x*(p*q)=p*(x*q) by rw [Int.mul_left_comm],Ul]
theorem Gy {r q:Int} (d:List Int):∀ j,hor (r-p*q) d j=hor r d j
 | 0=>rfl
 | j+1=>by simp only [hor];rw [Gy d j,aEj]
theorem Ss {r q:Int} (d:List Int):Px (r-p*q) d=Px r d:=by
 unfold Px
 rw [Gy,aEj]
theorem BT {k:List Int} (hk:∀ i,sN (k.getD i 0)):∀ i,sN ((dQ k).getD i 0):=rT fun x hx=>by
 unfold dQ at hx
 rcases List.mem_append.1 hx with h | h
 .obtain ⟨i,_,rfl⟩:=List.mem_map.1 h
  have Xm:∀ a b:Int,sN (bU .u8 a b):=fun a b=>by
   have e:bU .u8 a b=((BitVec.ofInt 8 a &&& BitVec.ofInt 8 b).toNat:Int)%256:=rfl
   unfold sN
   rw [e];omega
  unfold Iv
  split
  .exact Xm _ _
  .split
   .exact hk _
   .exact Xm _ _
  .exact hk _
 .simp only [List.mem_singleton] at h
  subst h
  exact ⟨by decide,by decide⟩
def Yl (key data:List Int):Int:=(Px (Uh (dQ (key.take 16))) data+V2 (key.drop 16))%340282366920938463463374607431768211456
theorem aKi {key data:List Int} (hk:key.length=32) (hkb:∀ x∈key,sN x) (hd:∀ x∈data,sN x) :
 tag (Er (put ⟨num (dQ (key.take 16)),List.replicate 5 0,key.drop 16,nL,0⟩ data)) (put ⟨num (dQ (key.take 16)),List.replicate 5 0,key.drop 16,nL,0⟩ data).mask =
  (List.range 8).map (byteOf (Yl key data%18446744073709551616))++(List.range 8).map (byteOf (Yl key data/18446744073709551616)):=by
 have hb:=Ik (BT (k:=key.take 16) (rT fun x hx=>hkb x (List.mem_of_mem_take hx)))
 obtain ⟨hO,q,hq⟩:=hb
 obtain ⟨h1,h2,h3⟩:=aLi (mask:=key.drop 16) hO (by rw [List.length_drop];omega) hd
 obtain ⟨t1,t2⟩:=Ze h1 (s:=key.drop 16) (rT fun x hx=>hkb x (List.mem_of_mem_drop hx))
 rw [h2,hq,Ss] at t1 t2
 rw [h3]
 unfold tag aFi
 rw [t1,t2]
 rfl
end P
namespace P
theorem aDa {T:Int} (h:0<=T):(List.range 8).map (byteOf (T%18446744073709551616))++(List.range 8).map (byteOf (T/18446744073709551616))=(List.range 16).map fun i=>T/((256^i:Nat):Int)%256:=by
 have lo:∀ i,i<8->byteOf (T%18446744073709551616) i=T/((256^i:Nat):Int)%256:=by
  intro i hi
  rw [rY (by omega) hi]
  match i,hi with
  | 0,_=>show T%18446744073709551616/1%256=T/1%256;omega
  | 1,_=>show T%18446744073709551616/256%256=T/256%256;omega
  | 2,_=>show T%18446744073709551616/65536%256=T/65536%256;omega
  | 3,_=>show T%18446744073709551616/16777216%256=T/16777216%256;omega
  | 4,_=>show T%18446744073709551616/4294967296%256=T/4294967296%256;omega
  | 5,_=>show T%18446744073709551616/1099511627776%256=T/1099511627776%256;omega
  | 6,_=>show T%18446744073709551616/281474976710656%256=T/281474976710656%256;omega
  | 7,_=>show T%18446744073709551616/72057594037927936%256=T/72057594037927936%256;omega
 have fR:∀ i,i<8->byteOf (T/18446744073709551616) i=T/((256^(8+i):Nat):Int)%256:=by
  intro i hi
  rw [rY (by omega) hi]
  have e:((256^(8+i):Nat):Int)=18446744073709551616*((256^i:Nat):Int):=by rw [Nat.pow_add,Int.natCast_mul];rfl
  rw [e,Int.ediv_ediv_of_nonneg (by decide)]
 have split:(List.range 16).map (fun i=>T/((256^i:Nat):Int)%256)=(List.range 8).map (fun i=>T/((256^i:Nat):Int)%256)++(List.range 8).map (fun i=>T/((256^(8+i):Nat):Int)%256):=by
  rw [show (16:Nat)=8+8 from rfl,List.range_add,List.map_append,List.map_map]
  rfl
 rw [split]
 congr 1
 .exact List.map_congr_left fun i h=>lo i (by simpa using h)
 .exact List.map_congr_left fun i h=>fR i (by simpa using h)
end P
namespace P
theorem xL (l r:List Int) {i:Nat} (h:i<l.length):(l++r).getD i 0=l.getD i 0:=by simp [List.getD_eq_getElem?_getD,List.getElem?_append_left h]
theorem fQ {d:List Int} {k i:Nat} (h:k+16<=d.length) (hi:i<16):((d.drop k).take 16++[1]).getD i 0=d.getD (k+i) 0:=by
 rw [xL _ _ (by rw [List.length_take,List.length_drop];omega)]
 simp [List.getD_eq_getElem?_getD,List.getElem?_take,hi,List.getElem?_drop]
theorem aDc {d:List Int} {k:Nat} (h:k+16<=d.length):((d.drop k).take 16++[1]).getD 16 0=1:=by
 have e:((d.drop k).take 16).length=16:=by rw [List.length_take,List.length_drop];omega
 rw [List.getD_eq_getElem?_getD,List.getElem?_append_right (by omega),e];rfl
theorem aDj {d:List Int} {k:Nat} (h:16*k+16<=d.length) (hl:d.length<=1073741824):Uh ((d.drop (16*k)).take 16++[1])=M.V (M.aM d ((16*k:Nat):Int) 16):=by
 rw [M.KC d (by omega)]
 unfold Uh
 rw [fQ h (i:=0) (by decide),fQ h (i:=1) (by decide),fQ h (i:=2) (by decide),fQ h (i:=3) (by decide),fQ h (i:=4) (by decide),fQ h (i:=5) (by decide),fQ h (i:=6) (by decide),fQ h (i:=7) (by decide),fQ h (i:=8) (by decide),fQ h (i:=9) (by decide),fQ h (i:=10) (by decide),fQ h (i:=11) (by decide),fQ h (i:=12) (by decide),fQ h (i:=13) (by decide),fQ h (i:=14) (by decide),fQ h (i:=15) (by decide),aDc h]
 simp only [M.tK,M.By,Nat.add_zero]
 omega
theorem Wt (r:Int) {d:List Int} (hl:d.length<=1073741824):∀ j,16*j<=d.length->hor r d j=M.acc r d j
 | 0,_=>rfl
 | j+1,h=>by
   rw [M.Nu r (by omega),<- Wt r hl j (by omega),<- aDj (by omega) hl]
   rfl
theorem dF (k:List Int) {i:Nat} (h:i<16):(k.take 16).getD i 0=k.getD i 0:=by simp [List.getD_eq_getElem?_getD,List.getElem?_take,h]
theorem BU (k:List Int):dQ k=[k.getD 0 0,k.getD 1 0,k.getD 2 0,bU .u8 (k.getD 3 0) 15,bU .u8 (k.getD 4 0) 252,k.getD 5 0,k.getD 6 0,bU .u8 (k.getD 7 0) 15,bU .u8 (k.getD 8 0) 252,k.getD 9 0,k.getD 10 0,bU .u8 (k.getD 11 0) 15,bU .u8 (k.getD 12 0) 252,k.getD 13 0,k.getD 14 0,bU .u8 (k.getD 15 0) 15,0]:=rfl
theorem BX (k:List Int):Uh (dQ (k.take 16))=M.tX k+18446744073709551616*M.sH k:=by
 rw [BU,dF k (i:=0) (by decide),dF k (i:=1) (by decide),dF k (i:=2) (by decide),dF k (i:=3) (by decide),dF k (i:=4) (by decide),dF k (i:=5) (by decide),dF k (i:=6) (by decide),dF k (i:=7) (by decide),dF k (i:=8) (by decide),dF k (i:=9) (by decide),dF k (i:=10) (by decide),dF k (i:=11) (by decide),dF k (i:=12) (by decide),dF k (i:=13) (by decide),dF k (i:=14) (by decide),dF k (i:=15) (by decide)]
 unfold Uh M.tX M.sH
 simp only [M.tK,M.By,List.getD_cons_zero,List.getD_cons_succ]
 omega
theorem mZ (k:List Int) (i:Nat):(k.drop 16).getD i 0=k.getD (16+i) 0:=by simp [List.getD_eq_getElem?_getD,List.getElem?_drop]
theorem aUq (k:List Int):V2 (k.drop 16)=M.wT k+18446744073709551616*M.xZ k:=by
 have e:∀ a,S (k.drop 16) a 8=k.getD (16+(a+0)) 0+256*k.getD (16+(a+1)) 0+65536*k.getD (16+(a+2)) 0+16777216*k.getD (16+(a+3)) 0+4294967296*k.getD (16+(a+4)) 0+1099511627776*k.getD (16+(a+5)) 0+281474976710656*k.getD (16+(a+6)) 0+72057594037927936*k.getD (16+(a+7)) 0:=by
  intro a
  simp only [S,mZ]
  rw [show ((256^0:Nat):Int)=1 from rfl,show ((256^1:Nat):Int)=256 from rfl,show ((256^2:Nat):Int)=65536 from rfl,show ((256^3:Nat):Int)=16777216 from rfl,show ((256^4:Nat):Int)=4294967296 from rfl,show ((256^5:Nat):Int)=1099511627776 from rfl,show ((256^6:Nat):Int)=281474976710656 from rfl,show ((256^7:Nat):Int)=72057594037927936 from rfl]
  omega
 unfold V2
 rw [e 0,e 8]
 unfold M.wT M.xZ
 simp only [M.tK,M.By,Nat.reduceAdd]
 omega
theorem ZH {key D:List Int} (hk:bR key) (hl:D.length<=1073741824) (tY:D.length%16=0) :
 Yl key D=M.w0 (M.acc (M.V (M.cl key)) D (D.length/16)+(M.wT key+18446744073709551616*M.xZ key))+18446744073709551616*M.w1 (M.acc (M.V (M.cl key)) D (D.length/16)+(M.wT key+18446744073709551616*M.xZ key)):=by
 unfold Yl Px
 rw [if_pos tY,BX,<- M.aQd hk,aUq,Wt _ hl _ (by omega)]
 unfold M.w0 M.w1
 omega
theorem ZG {key D:List Int} (hk:key.length=32) (hb:bR key) (hd:bR D) (hl:D.length<=1073741824) (tY:D.length%16=0) :
 tag (Er (put ⟨num (dQ (key.take 16)),List.replicate 5 0,key.drop 16,nL,0⟩ D)) (put ⟨num (dQ (key.take 16)),List.replicate 5 0,key.drop 16,nL,0⟩ D).mask=M.tag key D:=by
 have h0:0<=Yl key D:=by unfold Yl;omega
 rw [aKi hk hb hd,aDa h0,M.IG hb tY,ZH hb hl tY]
 refine List.map_congr_left fun i _=>?_
 unfold M.nb
 rw [Int.natCast_pow]
 rfl
end P
noncomputable def US (cp:List Int->List Int):Nat->Option Sum:=dM (dM (dM (dM gB 77 (aL aB 100 tG)) 126 (aL aB 100 (Vc cp))) 84 (aL aB 100 GD)) 85 (aL aB 100 Qi)
theorem aBx (cp:List Int->List Int):∀ f S,US cp f=some S->∀ Γ:Env,Γ.aR=aB->aI Tryz.prog Γ f S:=bD (bD (bD (bD gL 77 _ Ci) 126 _ (JZ cp)) 84 _ aJy) 85 _ VR
def of0 (cp:List Int->List Int) (key:List Int):P.MS:=⟨c5 (cp (dJ 16 key)),c5 (List.replicate 5 0),Ua fun j=>key.getD (16+j) 0,Ua fun _=>0,(0:Int).toNat⟩
def Ub (cp:List Int->List Int) (key:List Int) (d:Nat->List Int):Nat->P.MS
 | 0=>of0 cp key
 | j+1=>P.nf (P.put (Ub cp key d j) (d (j+1)))
def ofQ (cp:List Int->List Int) (key:List Int) (d:Nat->List Int):Nat->List Prop
 | 0=>qM (cp (dJ 16 key)) (List.replicate 5 0) (fun j=>key.getD (16+j) 0) (fun _=>0) 0 (of0 cp key)
 | j+1=>qMS (P.put (Ub cp key d j) (d (j+1))) (Ub cp key d (j+1))
def ofO (cp:List Int->List Int) (key:List Int) (d:Nat->List Int) (r:List Prop):Nat->List Prop
 | 0=>r
 | j+1=>(Ub cp key d j).WF::((d (j+1)).length<=1000000000000)::((d (j+1)).length=(d (j+1)).length)::((d (j+1)).length=(d (j+1)).length)::(ofQ cp key d j++(d (j+1)=d (j+1))::ofO cp key d r j)
theorem aWy (cp:List Int->List Int) (key:List Int) (d:Nat->List Int):aJ (env (US cp) 4) Tryz.f48 true [] 1500 [.raw (.pointer none),.agg (cO .u8 32 key),.aH 62 true 0 5 5] (yR d) 100 100 =
 some { bK:=(Ub cp key d 5).WF::(ofQ cp key d 5++ofO cp key d [(dJ 16 key).length=16,cp (dJ 16 key)=P.num (P.dQ (dJ 16 key)),dJ 16 key=dJ 16 key] 5),val:=.agg (cO .u8 16 (P.Fm (Ub cp key d 5))) }:=by kernel_rfl
namespace P
def new (key:List Int):MS:=⟨num (dQ (key.take 16)),List.replicate 5 0,key.drop 16,nL,0⟩
theorem aJu {key:List Int} (h:key.length=32):(new key).WF:=⟨rfl,rfl,by simp only [new,List.length_drop];omega,rfl,(by decide:0<16),rfl⟩
theorem pS {key:List Int} (h:key.length=32):dJ 16 key=key.take 16:=by
 unfold dJ
 apply List.ext_getElem
 .simp;omega
 .intro i h1 h2
  have hi:i<16:=by simpa using h1
  simp [List.getD_eq_getElem?_getD,show i<key.length by omega]
end P
theorem Qs {key:List Int} (h:key.length=32):of0 (fun b=>P.num (P.dQ b)) key=P.new key:=by
 unfold of0 P.new
 have e1:(Ua fun j=>key.getD (16+j) 0)=key.drop 16:=by
  have:(key.drop 16).length=16:=by rw [List.length_drop];omega
  rw [<- zV this]
  unfold Ua
  refine List.map_congr_left fun j _=>?_
  rw [P.mZ]
 have e5:c5 (P.num (P.dQ (key.take 16)))=P.num (P.dQ (key.take 16)):=jB (P.nG _)
 rw [P.pS h,e1]
 show P.MS.mk (c5 (P.num (P.dQ (key.take 16)))) _ _ _ _=_
 rw [e5]
 rfl
theorem Ij {key:List Int} (h:key.length=32) (d:Nat->List Int):∀ j,(Ub (fun b=>P.num (P.dQ b)) key d j).WF
 | 0=>by
   rw [Ub,Qs h];exact P.aJu h
 | j+1=>by
   have hw:=P.Ii (Ij h d j) (d (j+1))
   rw [Ub,P.Lw hw];exact hw
theorem rR {key:List Int} (h:key.length=32) (d:Nat->List Int) (j:Nat):Ub (fun b=>P.num (P.dQ b)) key d (j+1)=P.put (Ub (fun b=>P.num (P.dQ b)) key d j) (d (j+1)):=P.Lw (P.Ii (Ij h d j) (d (j+1)))
theorem aRy {key:List Int} (h:key.length=32) (d:Nat->List Int):Ub (fun b=>P.num (P.dQ b)) key d 5=P.put (P.new key) (M.cat d):=by
 unfold M.cat
 rw [P.lP,P.lP,P.lP,P.lP,rR h,rR h,rR h,rR h,rR h,Ub,Qs h]
theorem JB {key:List Int} (h:key.length=32) (d:Nat->List Int):∀ j,∀ q∈ofQ (fun b=>P.num (P.dQ b)) key d j,q
 | 0=>by
   rw [ofQ,Qs h]
   refine Fs (by rw [P.pS h];rfl) rfl (fun j _=>?_) (fun j _=>(P.Vm j).symm) rfl
   simp only [P.new,P.mZ]
 | j+1=>by
   rw [ofQ,rR h]
   exact Cc rfl
theorem JC {key:List Int} (h:key.length=32) (d:Nat->List Int) {r:List Prop} (hr:∀ q∈r,q):∀ j,(∀ i,i<j->(d (i+1)).length<=1000000000000)->∀ q∈ofO (fun b=>P.num (P.dQ b)) key d r j,q
 | 0,_=>hr
 | j+1,hd=>aO (Ij h d j) (aO (hd j (by omega)) (aO rfl (aO rfl (qT (JB h d j) (aO rfl (JC h d hr j fun i hi=>hd i (by omega)))))))
theorem M.nV (key data:List Int):(M.tag key data).length=16:=by simp [M.tag,M.Pr]
theorem YW {key:List Int} {d:Nat->List Int} (hk:key.length=32) (hb:bR key) (hd:bR (M.cat d)) (hl:(M.cat d).length<=1073741824) (tY:(M.cat d).length%16=0) (Γ:Env) (hg:Γ.aR=aB) :
 aE Tryz.prog Γ 48 [.raw (.pointer none),.ai .u8 key,.aH 62 true 0 5 5] (yR d) 100 100 { val:=.ai .u8 (M.tag key (M.cat d)) }:=by
 have hs:aI Tryz.prog (env (US fun b=>P.num (P.dQ b)) 4) 48 (aJ (env (US fun b=>P.num (P.dQ b)) 4) Tryz.f48 true [] 1500):=aN (bQ _ 4) (bW _ (aBx _) 4) mix Tryz.func48 (by kernel_rfl) true [] 1500
 have hlen:∀ i,i<5->(d (i+1)).length<=1000000000000:=fun i hi=>by
  have:=M.IZ d hi
  omega
 have h:=hs.call (aWy (fun b=>P.num (P.dQ b)) key d) (aO (Ij hk d 5) (qT (JB hk d 5) (JC hk d (aO (by rw [P.pS hk,List.length_take];omega) (aO rfl (aO rfl iF))) 5 hlen)))
 have ht:P.Fm (Ub (fun b=>P.num (P.dQ b)) key d 5)=M.tag key (M.cat d):=by
  rw [aRy hk]
  exact P.ZG hk hb hd hl tY
 rw [ht] at h
 refine h.words (by rw [hg];rfl) (fun V=>?_) (fun _ _ h=>h) (fun V=>bI V (M.nV _ _)) rfl rfl
 simp only [aG,bI V hk]
def Us (mc:List Int->List Int->List Int) (vs:List SV) (T:aZ):Option Canon:=match vs with
 | [.raw (.pointer none),ks,.aH L _ 0 5 5]=>match cK ks,(T L).bind roL with
   | some (.u8,k),some [p1,p2,p3,p4,p5]=>match cW T .u8 p1,cW T .u8 p2,cW T .u8 p3,cW T .u8 p4,cW T .u8 p5 with
     | some (o1,x1),some (o2,x2),some (o3,x3),some (o4,x4),some (o5,x5)=>some { eR:=[.raw (.pointer none),.ai .u8 k,.aH 62 true 0 5 5],T0:=sgB (Ap x1 x2 x3 x4 x5),vl:=[(62,.lab L 0),(71,.cell L 0),(72,.cell L 1),(73,.cell L 2),(74,.cell L 3),(75,.cell L 4)],e0:={ val:=.ai .u8 (mc k (x1++(x2++(x3++(x4++x5))))) },conds:=(mc k (x1++(x2++(x3++(x4++x5))))=M.tag k (x1++(x2++(x3++(x4++x5)))))::(k.length=32)::bR k::bR (x1++(x2++(x3++(x4++x5))))::((x1++(x2++(x3++(x4++x5)))).length<=1073741824)::((x1++(x2++(x3++(x4++x5)))).length%16=0)::(o1++(o2++(o3++(o4++o5)))) }
     | _,_,_,_,_=>none
   | _,_=>none
 | _=>none
theorem JA (mc:List Int->List Int->List Int) (Γ:Env) (hg:Γ.aR=aB):aI Tryz.prog Γ 48 (aL aB 100 (Us mc)):=by
 refine aW hg fun vs T c hd hc=>?_
 unfold Us at hd
 split at hd
 case h_2=>cases hd
 split at hd
 case h_2=>cases hd
 split at hd
 case h_2=>cases hd
 cases hd
 rename_i k _ _ _ _ _ _ _ _ _ _ _ _ o1 x1 o2 x2 o3 x3 o4 x4 o5 x5 _ _ _ _ _
 have e:=hc _ cM
 have h:=YW (d:=Ap x1 x2 x3 x4 x5) (hc _ (List.mem_cons_of_mem _ cM)) (hc _ (List.mem_cons_of_mem _ (List.mem_cons_of_mem _ cM))) (hc _ (List.mem_cons_of_mem _ (List.mem_cons_of_mem _ (List.mem_cons_of_mem _ cM)))) (hc _ (List.mem_cons_of_mem _ (List.mem_cons_of_mem _ (List.mem_cons_of_mem _ (List.mem_cons_of_mem _ cM))))) (hc _ (List.mem_cons_of_mem _ (List.mem_cons_of_mem _ (List.mem_cons_of_mem _ (List.mem_cons_of_mem _ (List.mem_cons_of_mem _ cM)))))) Γ hg
 have e':mc k (M.cat (Ap x1 x2 x3 x4 x5))=M.tag k (M.cat (Ap x1 x2 x3 x4 x5)):=e
 rw [<- e'] at h
 exact h
noncomputable def Pm (si:List Int->List Int->Int->List Int) (x4 tn:Nat->List Int->List Int->List Int) (on:List Int->List Int):Env:=env (aPn si x4 tn on) 4
theorem VD (si:List Int->List Int->Int->List Int) (x4 tn:Nat->List Int->List Int->List Int) (on:List Int->List Int):cB Tryz.prog (Pm si x4 tn on):=bQ _ 4
theorem VE (si:List Int->List Int->Int->List Int) (x4 tn:Nat->List Int->List Int->List Int) (on:List Int->List Int):cI Tryz.prog (Pm si x4 tn on):=bW _ (aBy si x4 tn on) 4
def TX (key nonce:List Int) (c:Int) (off len cap:Nat):List SV:=[.raw (.pointer none),.ai .u8 key,.int false .u32 c,.ai .u8 nonce,.aH 60 false off len cap]
noncomputable def QR (si:List Int->List Int->Int->List Int) (x4 tn:Nat->List Int->List Int->List Int) (on:List Int->List Int) (xs:List Int) (t:TypeId) (cf:Cf) (K:List Fr) (s:St):Option pU:=gY (Pm si x4 tn on) (bH 100 (tZ xs t)) 100 Tryz.f46.ntmps [3,9] 400 3000 cf K s
def qP (off len cap:Nat) (a:Int):List (Nat × SV):=[(0,.raw (.pointer none)),(4,.aH 60 false off len cap),(10,.ptr 100 true 0),(11,.int false .i64 a)]
def qO (xs s:List Int) (t:TypeId):List (Nat × SB):=[(60,.ints .u8 xs t),(100,.ints .u32 s 113)]
namespace Q
def oA (off cap:Nat) (a:Int):Nat:=if (cap:Int)=a then off else off+a.toNat*1
def pd (off len cap:Nat) (a:Int) (xs:List Int):List Int:=(xs.drop (oA off cap a)).take ((len:Int).toNat-a.toNat)
def qd (p:List Int):List Int:=p.take (p.length.min 64)
def ld (q:List Int):List Int:=(List.replicate 64 0).take 0++q++(List.replicate 64 0).drop (0+q.length)
def go (len:Nat) (a k:Int):Prop:=decide (IntKind.i64.wrap ((len:Int)-a)>=k)=true
def no (len:Nat) (a k:Int):Prop:=decide (IntKind.i64.wrap ((len:Int)-a)>=k)=false
def sa (len:Nat) (a k:Int):Prop:=decide (IntKind.i64.wrap ((len:Int)-a)>=k)=decide (IntKind.i64.wrap ((len:Int)-a)>=k)
def sl (len cap:Nat) (a:Int):Prop:=(0:Int)<=(cap:Int)/\(cap:Int)<=(cap:Int)/\(0:Int)<=(len:Int)/\(len:Int)<=(cap:Int)/\(0:Int)<=a/\a<=(len:Int)
end Q
noncomputable def mxR:Option pU:=QR (fun _ _ _=>[]) (fun _ _ _=>[]) (fun _ _ _=>[]) (fun _=>[]) [] 0 (.go (codeOf Tryz.f46)) [] ((zJ (TX [] [] 0 0 0 0) 100).hint [])
noncomputable def aFy:Code:=Ew mxR
noncomputable def mxK:List Fr:=Ev mxR
noncomputable def aOp:Option pU:=QR (fun _ _ _=>[]) (fun _ _ _=>[]) (fun _ _ _=>[]) (fun _=>[]) [] 0 (.at (.exit 0)) mxK ((cA (qP 0 0 0 0) (qO [] [] 0) 101 [60] []).hint [])
noncomputable def aFz:Code:=Ew aOp
noncomputable def TY:List Fr:=Ev aOp
theorem aXk (si:List Int->List Int->Int->List Int) (x4 tn:Nat->List Int->List Int->List Int) (on:List Int->List Int) (key nonce xs iR s':List Int) (c:Int) (t:TypeId) (off len cap:Nat) (a':Int):fL 100 Tryz.f46.ntmps (bH 100 (tZ xs t)) [] (qP off len cap a') (qO iR s' t) 101 [60] [] (QR si x4 tn on xs t (.go (codeOf Tryz.f46)) [] ((zJ (TX key nonce c off len cap) 100).hint [])) =
 some (.go (.loop aFy),mxK,[(si key nonce c).length=16,si key nonce c=B.init key nonce c,key.length=32,nonce.length=12,key=key,c=c,nonce=nonce,nonce.length=12,key.length=32,off=off,len=len,cap=cap,0=a',xs=iR/\t=t,si key nonce c=s'/\(113:Nat)=(113:TypeId)]):=by kernel_rfl
theorem aXj (si:List Int->List Int->Int->List Int) (x4 tn:Nat->List Int->List Int->List Int) (on:List Int->List Int) (hY xs iR s s':List Int) (t:TypeId) (off len cap:Nat) (a a':Int):fL 100 Tryz.f46.ntmps (bH 100 (tZ hY t)) [] (qP off len cap a') (qO iR s' t) 101 [60] [] (QR si x4 tn on hY t (.go aFy) [] ((cA (qP off len cap a) (qO xs s t) 101 [60] []).hint [true])) =
 some (.at .normal,[],[12<s.length,13<=s.length,x4 (Q.oA off cap a) s xs=Q.x4 (Q.oA off cap a) s xs,s.length=16,Q.oA off cap a+256<=xs.length,s=s,Q.oA off cap a=0+Q.oA off cap a,xs=xs/\t=t,s.length=16,256<=(len:Int).toNat-a.toNat,Q.sl len cap a,Q.go len a 256,Q.sa len a 256,
  off=off,len=len,cap=cap,IntKind.i64.wrap (a+256)=a',x4 (Q.oA off cap a) s xs=iR/\t=t,s.set 12 (IntKind.u32.wrap (s.getD 12 0+4))=s'/\(113:Nat)=(113:TypeId)]):=by kernel_rfl
theorem aXi (si:List Int->List Int->Int->List Int) (x4 tn:Nat->List Int->List Int->List Int) (on:List Int->List Int) (hY xs iR s s':List Int) (t:TypeId) (off len cap:Nat) (a a':Int):fL 100 Tryz.f46.ntmps (bH 100 (tZ hY t)) [] (qP off len cap a') (qO iR s' t) 101 [60] [] (QR si x4 tn on hY t (.go aFy) [] ((cA (qP off len cap a) (qO xs s t) 101 [60] []).hint [false])) =
 some (.at (.exit 0),[],[Q.no len a 256,Q.sa len a 256,off=off,len=len,cap=cap,a=a',xs=iR/\t=t,s=s'/\(113:Nat)=(113:TypeId)]):=by kernel_rfl
theorem aXh (si:List Int->List Int->Int->List Int) (x4 tn:Nat->List Int->List Int->List Int) (on:List Int->List Int) (hY xs iR s s':List Int) (t:TypeId) (off len cap:Nat) (a a':Int):fL 100 Tryz.f46.ntmps (bH 100 (tZ hY t)) [] (qP off len cap a') (qO iR s' t) 101 [60] [] (QR si x4 tn on hY t (.at (.exit 0)) mxK ((cA (qP off len cap a) (qO xs s t) 101 [60] []).hint [])) =
 some (.go (.loop aFz),TY,[off=off,len=len,cap=cap,a=a',xs=iR/\t=t,s=s'/\(113:Nat)=(113:TypeId)]):=by kernel_rfl
theorem aXg (si:List Int->List Int->Int->List Int) (x4 tn:Nat->List Int->List Int->List Int) (on:List Int->List Int) (hY xs iR s s':List Int) (t:TypeId) (off len cap:Nat) (a a':Int):fL 100 Tryz.f46.ntmps (bH 100 (tZ hY t)) [] (qP off len cap a') (qO iR s' t) 101 [60] [] (QR si x4 tn on hY t (.go aFz) [] ((cA (qP off len cap a) (qO xs s t) 101 [60] []).hint [true])) =
 some (.at .normal,[],[12<s.length,13<=s.length,tn (Q.oA off cap a) (on s) xs=Q.tn (Q.oA off cap a) (on s) xs,(on s).length=64,Q.oA off cap a+64<=xs.length,Q.oA off cap a=0+Q.oA off cap a,on s=on s,xs=xs/\t=t,on s=Q.one s,s.length=16,s=s,s.length=16,64<=(len:Int).toNat-a.toNat,Q.sl len cap a,Q.go len a 64,Q.sa len a 64,
  off=off,len=len,cap=cap,IntKind.i64.wrap (a+64)=a',tn (Q.oA off cap a) (on s) xs=iR/\t=t,s.set 12 (IntKind.u32.wrap (s.getD 12 0+1))=s'/\(113:Nat)=(113:TypeId)]):=by kernel_rfl
theorem aXf (si:List Int->List Int->Int->List Int) (x4 tn:Nat->List Int->List Int->List Int) (on:List Int->List Int) (hY xs iR s s':List Int) (t:TypeId) (off len cap:Nat) (a a':Int):fL 100 Tryz.f46.ntmps (bH 100 (tZ hY t)) [] (qP off len cap a') (qO iR s' t) 101 [60] [] (QR si x4 tn on hY t (.go aFz) [] ((cA (qP off len cap a) (qO xs s t) 101 [60] []).hint [false])) =
 some (.at (.exit 2),[],[Q.no len a 64,Q.sa len a 64,off=off,len=len,cap=cap,a=a',xs=iR/\t=t,s=s'/\(113:Nat)=(113:TypeId)]):=by kernel_rfl
theorem aXe (si:List Int->List Int->Int->List Int) (x4 tn:Nat->List Int->List Int->List Int) (on:List Int->List Int) (hY xs s:List Int) (t:TypeId) (off len cap:Nat) (a:Int):sX (Pm si x4 tn on) (tZ hY t) 100 100 Tryz.f46 [] (QR si x4 tn on hY t (.at (.exit 2)) TY ((cA (qP off len cap a) (qO xs s t) 101 [60] []).hint [false])) =
 some { bK:=[decide (IntKind.i64.wrap ((len:Int)-a)>0)=false,decide (IntKind.i64.wrap ((len:Int)-a)>0)=decide (IntKind.i64.wrap ((len:Int)-a)>0)],val:=.eL [],wr:=[(60,.ints .u8 xs t)] }:=by kernel_rfl
def Q.lt (tn:Nat->List Int->List Int->List Int) (b p:List Int):List Int:=((tn 0 b (ld (qd p))).drop 0).take 64
def Q.mv (o m:Nat) (xs y:List Int):List Int:=xs.take o++y.take (Nat.min y.length m)++xs.drop (o+Nat.min y.length m)
theorem aXd (si:List Int->List Int->Int->List Int) (x4 tn:Nat->List Int->List Int->List Int) (on:List Int->List Int) (hY xs s:List Int) (t:TypeId) (off len cap:Nat) (a:Int):sX (Pm si x4 tn on) (tZ hY t) 100 100 Tryz.f46 [] (QR si x4 tn on hY t (.at (.exit 2)) TY ((cA (qP off len cap a) (qO xs s t) 101 [60] []).hint [true])) =
 some { bK:=[Q.oA off cap a+Nat.min (Q.lt tn (on s) (Q.pd off len cap a xs)).length ((len:Int).toNat-a.toNat)<=xs.length,64<=(tn 0 (on s) (Q.ld (Q.qd (Q.pd off len cap a xs)))).length,tn 0 (on s) (Q.ld (Q.qd (Q.pd off len cap a xs)))=Q.tn 0 (on s) (Q.ld (Q.qd (Q.pd off len cap a xs))),(on s).length=64,0+64<=(Q.ld (Q.qd (Q.pd off len cap a xs))).length,0=0,on s=on s,Q.ld (Q.qd (Q.pd off len cap a xs))=Q.ld (Q.qd (Q.pd off len cap a xs))/\(122:Nat)=(122:TypeId),on s=Q.one s,s.length=16,s=s,s.length=16,(0:Nat)<=0/\0+(Q.qd (Q.pd off len cap a xs)).length<=64,Q.oA off cap a+((len:Int).toNat-a.toNat)<=xs.length,Q.sl len cap a,decide (IntKind.i64.wrap ((len:Int)-a)>0)=true,decide (IntKind.i64.wrap ((len:Int)-a)>0)=decide (IntKind.i64.wrap ((len:Int)-a)>0)],val:=.eL [],wr:=[(60,.ints .u8 (Q.mv (Q.oA off cap a) ((len:Int).toNat-a.toNat) xs (Q.lt tn (on s) (Q.pd off len cap a xs))) t)] }:=by kernel_rfl
namespace Q
theorem VJ (a b:Int):IntKind.u32.wrap (IntKind.u32.wrap a+b)=IntKind.u32.wrap (a+b):=by simp only [IntKind.wrap_u32];omega
def S (key nonce:List Int) (c:Int) (j:Nat):List Int:=B.init key nonce (IntKind.u32.wrap (c+(j:Int)))
theorem iN (key nonce:List Int) (c:Int) (j:Nat):(S key nonce c j).length=16:=rfl
theorem bBv (key nonce:List Int) (c:Int) (j:Nat):(S key nonce c j).getD 12 0=IntKind.u32.wrap (c+(j:Int)):=rfl
theorem aUr (key nonce:List Int) (c d:Int) (j:Nat):(S key nonce c j).set 12 d=B.init key nonce d:=rfl
theorem Sb (key nonce:List Int) (c:Int) (j k:Nat):(S key nonce c j).set 12 (IntKind.u32.wrap ((S key nonce c j).getD 12 0+(k:Int)))=S key nonce c (j+k):=by
 rw [bBv,aUr,VJ]
 unfold S
 congr 2
 omega
theorem S_0 (key nonce:List Int) {c:Int} (hc:0<=c/\c<=4294967295):S key nonce c 0=B.init key nonce c:=by
 unfold S
 rw [show c+((0:Nat):Int)=c by omega,IntWalk.u32_in c hc]
theorem aRx (key nonce:List Int) (c:Int) (j:Nat):one (S key nonce c j)=B.block key nonce (IntKind.u32.wrap (c+(j:Int))):=rfl
theorem Dn (s:List Int):(one s).length=64:=by simp [one,B.out]
theorem Qq (key nonce:List Int) (c:Int) (j:Nat) {m:Nat} (hm:m<64):(one (S key nonce c j)).getD m 0=zB key nonce c (64*j+m):=by
 rw [aRx]
 unfold zB
 rw [show (64*j+m)/64=j by omega,show (64*j+m)%64=m by omega]
theorem aBl (key nonce:List Int) (c:Int) (j:Nat) {m:Nat} (_:m<256):jA (S key nonce c j) m=zB key nonce c (64*j+m):=by
 have e:st4 (S key nonce c j) (m/64)=S key nonce c (j+m/64):=Sb key nonce c j (m/64)
 unfold jA
 rw [e]
 show (one (S key nonce c (j+m/64))).getD (m%64) 0=_
 rw [Qq _ _ _ _ (by omega)]
 congr 1
 omega
theorem qW (off n:Nat) (f:Nat->Int) (xs:List Int) {m:Nat} (h:m<xs.length):(sA off n f xs).getD m 0=if off<=m/\m<off+n then iK .u8 (xs.getD m 0) (f (m-off)) else xs.getD m 0:=by
 simp [sA,List.getD_eq_getElem?_getD,h]
theorem Fy {n:Nat} {a b:List Int} (ha:a.length=n) (hb:b.length=n) (h:∀ i,i<n->a.getD i 0=b.getD i 0):a=b:=by
 apply List.ext_getElem (by omega)
 intro i h1 h2
 have:=h i (by omega)
 rw [List.getD_eq_getElem?_getD,List.getD_eq_getElem?_getD,List.getElem?_eq_getElem h1,List.getElem?_eq_getElem h2] at this
 simpa using this
theorem xM {off n k:Nat} {f g:Nat->Int} {xs:List Int} (h:∀ m,m<k->g m=f (n+m)):sA (off+n) k g (sA off n f xs)=sA off (n+k) f xs:=by
 refine Fy (n:=xs.length) (by rw [gR,gR]) (by rw [gR]) fun i hi=>?_
 rw [qW _ _ _ _ (by rw [gR];exact hi),qW _ _ _ _ hi,qW _ _ _ _ hi]
 by_cases h1:off<=i/\i<off+n
 .rw [if_neg (by omega),if_pos h1,if_pos (by omega)]
 .rw [if_neg h1]
  by_cases h2:off+n<=i/\i<off+n+k
  .rw [if_pos h2,if_pos (by omega),h _ (by omega)]
   congr 2;omega
  .rw [if_neg h2,if_neg (by omega)]
theorem aQo {key nonce:List Int} {c:Int} {off j:Nat} {xs:List Int}:x4 (off+64*j) (S key nonce c j) (cG key nonce c off (64*j) xs)=cG key nonce c off (64*(j+4)) xs:=by
 rw [uS,uS,show 64*(j+4)=64*j+256 by omega]
 exact xM fun m hm=>aBl key nonce c j hm
theorem aQp {key nonce:List Int} {c:Int} {off j:Nat} {xs:List Int}:tn (off+64*j) (one (S key nonce c j)) (cG key nonce c off (64*j) xs)=cG key nonce c off (64*(j+1)) xs:=by
 rw [uS,uS,show 64*(j+1)=64*j+64 by omega]
 exact xM fun m hm=>Qq key nonce c j hm
theorem FW (off:Nat) {cap a:Nat} (h:a<cap):oA off cap (a:Int)=off+a:=by
 unfold oA
 rw [if_neg (by omega)];omega
theorem xL (l r:List Int) {i:Nat} (h:i<l.length):(l++r).getD i 0=l.getD i 0:=by simp [List.getD_eq_getElem?_getD,List.getElem?_append_left h]
theorem Ry (l r:List Int) {i:Nat} (h:l.length<=i):(l++r).getD i 0=r.getD (i-l.length) 0:=by simp [List.getD_eq_getElem?_getD,List.getElem?_append_right h]
theorem mZ (l:List Int) (k i:Nat):(l.drop k).getD i 0=l.getD (k+i) 0:=by simp [List.getD_eq_getElem?_getD,List.getElem?_drop]
theorem dF (l:List Int) {k i:Nat} (h:i<k):(l.take k).getD i 0=l.getD i 0:=by simp [List.getD_eq_getElem?_getD,h]
theorem aSh {o r:Nat} {b xs:List Int} (hr:r<=64) (hx:o+r<=xs.length):mv o r xs (lt tn b ((xs.drop o).take r))=sA o r (b.getD · 0) xs:=by
 have hp:((xs.drop o).take r).length=r:=by rw [List.length_take,List.length_drop];omega
 have hq:qd ((xs.drop o).take r)=(xs.drop o).take r:=by
  unfold qd
  rw [hp]
  exact List.take_of_length_le (by rw [hp];exact Nat.le_min.2 ⟨Nat.le_refl _,hr⟩)
 have hl:(ld ((xs.drop o).take r)).length=64:=by
  unfold ld
  rw [List.take_zero,List.nil_append,List.length_append,List.length_drop,hp,List.length_replicate];omega
 have ht:(lt tn b ((xs.drop o).take r)).length=64:=by
  unfold lt
  rw [hq,List.drop_zero,List.length_take]
  unfold tn
  rw [gR,hl];rfl
 unfold mv
 rw [ht,show Nat.min 64 r=r from Nat.min_eq_right hr]
 have h1:(xs.take o).length=o:=by rw [List.length_take];omega
 have h2:((lt tn b ((xs.drop o).take r)).take r).length=r:=by rw [List.length_take,ht];omega
 refine Fy (n:=xs.length) (by simp only [List.length_append,h1,h2,List.length_drop];omega) (gR _ _ _ _) fun i hi=>?_
 rw [qW _ _ _ _ hi]
 by_cases hA:i<o
 .rw [if_neg (by omega),List.append_assoc,xL _ _ (by omega),dF _ hA]
 .by_cases hB:i<o+r
  .rw [if_pos (by omega),xL _ _ (by rw [List.length_append];omega),Ry _ _ (by omega),h1,dF _ (by omega)]
   unfold lt
   rw [hq,List.drop_zero,dF _ (by omega)]
   unfold tn
   rw [qW _ _ _ _ (by rw [hl];omega),if_pos (by omega),Nat.sub_zero]
   congr 1
   unfold ld
   rw [List.take_zero,List.nil_append,xL _ _ (by rw [hp];omega),dF _ (by omega),mZ]
   congr 1;omega
  .rw [if_neg (by omega),Ry _ _ (by rw [List.length_append];omega),List.length_append,h1,h2,mZ]
   congr 1;omega
end Q
theorem ZB {key nonce xs:List Int} {c:Int} {t:TypeId} {off len cap:Nat} (hk:key.length=32) (hn:nonce.length=12) (hx:off+len<=xs.length) (hlc:len<=cap) (hl:len<=4611686018427387904) (hc:0<=c/\c<=4294967295) :
 aE Tryz.prog (Pm B.init Q.x4 Q.tn Q.one) 46 (TX key nonce c off len cap) (tZ xs t) 100 100 { val:=.eL [],wr:=[(60,.ints .u8 (cG key nonce c off len xs) t)] }:=by
 have aT:=VD B.init Q.x4 Q.tn Q.one
 have aX:=VE B.init Q.x4 Q.tn Q.one
 refine gQ aT aX Tryz.func46 (by kernel_rfl) rfl (Nat.le_of_ble_eq_true (by kernel_rfl)) rfl [] ?_
 intro w0 M V0 Q' eF H
 have wi:∀ a:Nat,a<=len->IntKind.i64.wrap ((len:Int)-(a:Int))=((len-a:Nat):Int):=fun a ha=>by rw [IntWalk.i64_in _ (by omega)];omega
 have Fk:∀ n,(cG key nonce c off n xs).length=xs.length:=fun n=>fK _ _ _ _ _ _
 refine G.fL aT aX mix eF [] (aXk B.init Q.x4 Q.tn Q.one key nonce xs xs (Q.S key nonce c 0) c t off len cap 0) (aA ?_) ?_
 .exact ⟨rfl,rfl,hk,hn,rfl,rfl,rfl,hn,hk,rfl,rfl,rfl,rfl,⟨rfl,rfl⟩,⟨(Q.S_0 key nonce hc).symm,rfl⟩,trivial⟩
 refine G.loop (fun r s=>∃ i:Nat,256*i<=len/\r=len-256*i/\s=cA (qP off len cap ((256*i:Nat):Int)) (qO (cG key nonce c off (64*(4*i)) xs) (Q.S key nonce c (4*i)) t) 101 [60] []) (r0:=len) ⟨0,by omega,by omega,by rw [show 64*(4*0)=0 by omega,Dg];rfl⟩ ?_
 rintro r s ⟨i,hi,rfl,rfl⟩
 by_cases h:256<=len-256*i
 .have eo:Q.oA off cap ((256*i:Nat):Int)=off+64*(4*i):=by rw [Q.FW off (by omega)];omega
  refine G.lF aT aX mix eF [true] (aXj B.init Q.x4 Q.tn Q.one xs _ (cG key nonce c off (64*(4*(i+1))) xs) (Q.S key nonce c (4*i)) (Q.S key nonce c (4*(i+1))) t off len cap ((256*i:Nat):Int) ((256*(i+1):Nat):Int)) (aA ?_) (len-256*(i+1)) (by omega) ⟨i+1,by omega,rfl,rfl⟩
  rw [eo]
  refine ⟨by rw [Q.iN];decide,by rw [Q.iN];decide,rfl,Q.iN _ _ _ _,by rw [Fk];omega,rfl,by omega,⟨rfl,rfl⟩,Q.iN _ _ _ _,by omega,by unfold Q.sl;omega,?_,rfl,rfl,rfl,rfl,?_,⟨?_,rfl⟩,⟨?_,rfl⟩,trivial⟩
  .unfold Q.go
   rw [wi _ hi];exact decide_eq_true (by omega)
  .rw [IntWalk.i64_in _ (by omega)];omega
  .rw [Q.aQo];rfl
  .exact Q.Sb key nonce c (4*i) 4
 have Kx:∀ i,64*i<=len->¬ 64<=len-64*i->G Tryz.prog (Pm B.init Q.x4 Q.tn Q.one) w0 M (bH 100 (tZ xs t)) Tryz.f46.ntmps 100 V0 (.at (.exit 2)) TY (cA (qP off len cap ((64*i:Nat):Int)) (qO (cG key nonce c off (64*i) xs) (Q.S key nonce c i) t) 101 [60] []) Q':=by
  intro i hi h
  by_cases hz:0<len-64*i
  .have eo:Q.oA off cap ((64*i:Nat):Int)=off+64*i:=Q.FW off (by omega)
   have e1:(len:Int).toNat-((64*i:Nat):Int).toNat=len-64*i:=by omega
   have hpd:Q.pd off len cap ((64*i:Nat):Int) (cG key nonce c off (64*i) xs)=((cG key nonce c off (64*i) xs).drop (off+64*i)).take (len-64*i):=by unfold Q.pd;rw [eo,e1]
   have Pf:(((cG key nonce c off (64*i) xs).drop (off+64*i)).take (len-64*i)).length=len-64*i:=by rw [List.length_take,List.length_drop,Fk];omega
   have hql:(Q.qd (((cG key nonce c off (64*i) xs).drop (off+64*i)).take (len-64*i))).length<=64:=by unfold Q.qd;rw [List.length_take];exact Nat.le_trans (Nat.min_le_left _ _) (Nat.min_le_right _ _)
   have hld:∀ q:List Int,q.length<=64->(Q.ld q).length=64:=fun q hq=>by
    unfold Q.ld
    rw [List.take_zero,List.nil_append,List.length_append,List.length_drop,List.length_replicate];omega
   have hB:=Q.Dn (Q.S key nonce c i)
   refine G.qR (cl:=[]) aT aX mix [true] H (aXd B.init Q.x4 Q.tn Q.one xs _ (Q.S key nonce c i) t off len cap ((64*i:Nat):Int)) (aA ?_) rfl rfl ?_
   .rw [eo,e1,hpd]
    refine ⟨?_,by rw [Q.tn,Q.gR,hld _ hql];decide,rfl,hB,by rw [hld _ hql];decide,rfl,rfl,⟨rfl,rfl⟩,rfl,Q.iN _ _ _ _,rfl,Q.iN _ _ _ _,⟨Nat.le_refl _,by omega⟩,by rw [Fk];omega,by unfold Q.sl;omega,?_,rfl,trivial⟩
    .rw [Fk]
     have:=Nat.min_le_right (Q.lt Q.tn (Q.one (Q.S key nonce c i)) (((cG key nonce c off (64*i) xs).drop (off+64*i)).take (len-64*i))).length (len-64*i)
     exact Nat.le_trans (Nat.add_le_add_left this _) (by omega)
    .rw [wi _ hi];exact decide_eq_true (by omega)
   .show [(60,SB.ints .u8 _ t)]=[(60,SB.ints .u8 _ t)]
    rw [eo,e1,hpd,Q.aSh (by omega) (by rw [Fk];omega),Q.uS,Q.xM fun m hm=>Q.Qq key nonce c i (by omega),show 64*i+(len-64*i)=len by omega]
    rfl
  .refine G.qR (cl:=[]) aT aX mix [false] H (aXe B.init Q.x4 Q.tn Q.one xs _ (Q.S key nonce c i) t off len cap ((64*i:Nat):Int)) (aA ⟨?_,rfl,trivial⟩) rfl rfl ?_
   .rw [wi _ hi];exact decide_eq_false (by omega)
   .rw [show 64*i=len by omega]
 refine G.fL aT aX mix eF [false] (aXi B.init Q.x4 Q.tn Q.one xs _ (cG key nonce c off (64*(4*i)) xs) (Q.S key nonce c (4*i)) (Q.S key nonce c (4*i)) t off len cap ((256*i:Nat):Int) ((64*(4*i):Nat):Int)) (aA ?_) (G.leave (by simp) ?_)
 .refine ⟨?_,rfl,rfl,rfl,rfl,by omega,⟨rfl,rfl⟩,⟨rfl,rfl⟩,trivial⟩
  unfold Q.no
  rw [wi _ hi];exact decide_eq_false (by omega)
 have hi4:64*(4*i)<=len:=by omega
 clear h hi
 generalize 4*i=j0 at hi4
 refine G.fL aT aX mix eF [] (aXh B.init Q.x4 Q.tn Q.one xs _ (cG key nonce c off (64*j0) xs) (Q.S key nonce c j0) (Q.S key nonce c j0) t off len cap ((64*j0:Nat):Int) ((64*j0:Nat):Int)) (aA ?_) ?_
 .exact ⟨rfl,rfl,rfl,rfl,⟨rfl,rfl⟩,⟨rfl,rfl⟩,trivial⟩
 refine G.loop (fun r s=>∃ j:Nat,64*j<=len/\r=len-64*j/\s=cA (qP off len cap ((64*j:Nat):Int)) (qO (cG key nonce c off (64*j) xs) (Q.S key nonce c j) t) 101 [60] []) (r0:=len-64*j0) ⟨j0,hi4,rfl,rfl⟩ ?_
 clear hi4
 rintro r s ⟨j,hj,rfl,rfl⟩
 by_cases h:64<=len-64*j
 .have eo:Q.oA off cap ((64*j:Nat):Int)=off+64*j:=Q.FW off (by omega)
  refine G.lF aT aX mix eF [true] (aXg B.init Q.x4 Q.tn Q.one xs _ (cG key nonce c off (64*(j+1)) xs) (Q.S key nonce c j) (Q.S key nonce c (j+1)) t off len cap ((64*j:Nat):Int) ((64*(j+1):Nat):Int)) (aA ?_) (len-64*(j+1)) (by omega) ⟨j+1,by omega,rfl,rfl⟩
  rw [eo]
  refine ⟨by rw [Q.iN];decide,by rw [Q.iN];decide,rfl,Q.Dn _,by rw [Fk];omega,by omega,rfl,⟨rfl,rfl⟩,rfl,Q.iN _ _ _ _,rfl,Q.iN _ _ _ _,by omega,by unfold Q.sl;omega,?_,rfl,rfl,rfl,rfl,?_,⟨Q.aQp,rfl⟩,⟨Q.Sb key nonce c j 1,rfl⟩,trivial⟩
  .unfold Q.go
   rw [wi _ hj];exact decide_eq_true (by omega)
  .rw [IntWalk.i64_in _ (by omega)];omega
 .refine G.fL aT aX mix eF [false] (aXf B.init Q.x4 Q.tn Q.one xs _ (cG key nonce c off (64*j) xs) (Q.S key nonce c j) (Q.S key nonce c j) t off len cap ((64*j:Nat):Int) ((64*j:Nat):Int)) (aA ?_) (G.leave (by simp) (Kx j hj h))
  refine ⟨?_,rfl,rfl,rfl,rfl,rfl,⟨rfl,rfl⟩,⟨rfl,rfl⟩,trivial⟩
  unfold Q.no
  rw [wi _ hj];exact decide_eq_false (by omega)
def GC (vs:List SV) (T:aZ):Option Canon:=match vs with
 | [.raw (.pointer none),ks,.int _ .u32 c,ns,.aH l _ off len cap]=>match cK ks,cK ns with
   | some (.u8,k),some (.u8,n)=>match T l with
     | some B=>match Bq B with
       | some (.u8,xs,ty)=>some { eR:=TX k n c off len cap,T0:=[(60,.ints .u8 xs ty)],vl:=[(60,.lab l 0)],e0:={ val:=.eL [],wr:=[(60,.ints .u8 (cG k n c off len xs) ty)] },conds:=[k.length=32,n.length=12,off+len<=xs.length,len<=cap,len<=4611686018427387904,0<=c/\c<=4294967295] }
       | _=>none
     | none=>none
   | _,_=>none
 | _=>none
theorem aJx (Γ:Env) (hg:Γ.aR=aB):aI Tryz.prog Γ 46 (aL aB 100 GC):=by
 refine aW hg fun vs T c hd hc=>?_
 unfold GC at hd
 split at hd
 case h_2=>cases hd
 split at hd
 case h_2=>cases hd
 split at hd
 case h_2=>cases hd
 split at hd
 case h_2=>cases hd
 cases hd
 exact (ZB (hc _ (by simp)) (hc _ (by simp)) (hc _ (by simp)) (hc _ (by simp)) (hc _ (by simp)) (hc _ (by simp))).words (by rw [hg];rfl) (fun _=>rfl) (fun _ _ h=>h) (fun _=>rfl) rfl rfl
namespace P
def orT (a b:List Int):Nat->Int
 | 0=>0
 | j+1=>kN .u8 (orT a b j) (iK .u8 (a.getD j 0) (b.getD j 0))
def EV (x:Int):Int:=bZ .u64 (kN .u64 x (W (0-x))) 63
def DH (a b:List Int):Int:=iK .u64 1 (EV (W (orT a b 16)))
theorem bv8 (a:Nat) (h:a<256):(BitVec.ofInt 8 (a:Int)).toNat=a:=by
 rw [BitVec.ofInt_natCast,BitVec.toNat_ofNat];exact Nat.mod_eq_of_lt h
theorem or8 {a b:Nat} (ha:a<256) (hb:b<256):kN .u8 (a:Int) (b:Int)=((a ||| b:Nat):Int)/\a ||| b<256:=by
 have hl:a ||| b<2^8:=Nat.or_lt_two_pow (by omega) (by omega)
 refine ⟨?_,by omega⟩
 show (((BitVec.ofInt 8 (a:Int) ||| BitVec.ofInt 8 (b:Int)).toNat:Nat):Int)%256=_
 rw [BitVec.toNat_or,bv8 a ha,bv8 b hb]
 omega
theorem aFf {a b:Nat} (ha:a<256) (hb:b<256):iK .u8 (a:Int) (b:Int)=((a ^^^ b:Nat):Int)/\a ^^^ b<256:=by
 have hl:a ^^^ b<2^8:=Nat.xor_lt_two_pow (by omega) (by omega)
 refine ⟨?_,by omega⟩
 show (((BitVec.ofInt 8 (a:Int) ^^^ BitVec.ofInt 8 (b:Int)).toNat:Nat):Int)%256=_
 rw [BitVec.toNat_xor,bv8 a ha,bv8 b hb]
 omega
theorem aQi {x y:Nat}:x ^^^ y=0<->x=y:=by
 constructor
 .intro h
  have:x ^^^ y ^^^ y=0 ^^^ y:=by rw [h]
  rwa [Nat.xor_assoc,Nat.xor_self,Nat.xor_zero,Nat.zero_xor] at this
 .rintro rfl
  exact Nat.xor_self x
theorem IV {a b:List Int} (ha:bR a) (hb:bR b):∀ j,∃ n:Nat,orT a b j=(n:Int)/\n<256/\(n=0<->∀ i,i<j->a.getD i 0=b.getD i 0)
 | 0=>⟨0,rfl,by decide,⟨fun _ i hi=>absurd hi (Nat.not_lt_zero i),fun _=>rfl⟩⟩
 | j+1=>by
   obtain ⟨n,e,hn,hz⟩:=IV ha hb j
   obtain ⟨x,ex,hx⟩:=(ha.get j).nat
   obtain ⟨y,ey,hy⟩:=(hb.get j).nat
   obtain ⟨x1,x2⟩:=aFf hx hy
   obtain ⟨o1,o2⟩:=or8 hn x2
   refine ⟨n ||| (x ^^^ y),by rw [orT,e,ex,ey,x1,o1],o2,?_⟩
   rw [Nat.or_eq_zero_iff,hz,aQi]
   constructor
   .rintro ⟨h1,h2⟩ i hi
    by_cases hij:i<j
    .exact h1 i hij
    .have:i=j:=by omega
     subst this
     rw [ex,ey,h2]
   .intro h
    refine ⟨fun i hi=>h i (by omega),?_⟩
    have:=h j (by omega)
    rw [ex,ey] at this
    omega
theorem aQx {n:Nat} (h:n<256):iK .u64 1 (EV (W (n:Int)))=if n=0 then 1 else 0:=by
 have key:∀ n:Fin 256,iK .u64 1 (EV (W ((n.val:Nat):Int)))=if n.val=0 then 1 else 0:=by decide +kernel
 exact key ⟨n,h⟩
theorem aMi {a b:List Int} (ha:bR a) (hb:bR b) (la:a.length=16) (lb:b.length=16):DH a b=if a=b then 1 else 0:=by
 obtain ⟨n,e,hn,hz⟩:=IV ha hb 16
 unfold DH
 rw [e,aQx hn]
 by_cases h:a=b
 .rw [if_pos h,if_pos (hz.2 fun i _=>by rw [h])]
 .rw [if_neg h,if_neg fun q=>h (Q.Fy la lb (hz.1 q))]
end P
theorem aUa (a b:List Int):aJ (env gB 4) Tryz.f86 true [] 1500 [.agg (cO .u8 16 a),.agg (cO .u8 16 b)] Dt 100 100=some { val:=.int false .u64 (P.DH a b) }:=by kernel_rfl
theorem PK {a b:List Int} (la:a.length=16) (lb:b.length=16) (Γ:Env) (hg:Γ.aR=aB):aE Tryz.prog Γ 86 [.ai .u8 a,.ai .u8 b] Dt 100 100 { val:=.int false .u64 (P.DH a b) }:=by
 have hs:aI Tryz.prog (env gB 4) 86 (aJ (env gB 4) Tryz.f86 true [] 1500):=aN (bQ gB 4) (kX 4) mix Tryz.func86 (by kernel_rfl) true [] 1500
 refine (hs.call (aUa a b) iF).words (by rw [hg];rfl) (fun V=>?_) (fun _ _ h=>h) (fun V=>rfl) rfl rfl
 simp only [aG,bI V la,bI V lb]
def HB (et:List Int->List Int->Int) (vs:List SV) (_:aZ):Option Canon:=match vs with
 | [v,u]=>match cK v,cK u with
   | some (.u8,a),some (.u8,b)=>some { eR:=[.ai .u8 a,.ai .u8 b],T0:=[],vl:=[],e0:={ val:=.int false .u64 (et a b) },conds:=[et a b=P.DH a b,a.length=16,b.length=16] }
   | _,_=>none
 | _=>none
theorem aMg (et:List Int->List Int->Int) (Γ:Env) (hg:Γ.aR=aB):aI Tryz.prog Γ 86 (aL aB 100 (HB et)):=by
 refine aW hg fun vs T c hd hc=>?_
 unfold HB at hd
 split at hd
 case h_2=>cases hd
 split at hd
 case h_2=>cases hd
 cases hd
 have e:=hc _ cM
 have h:=PK (hc _ (List.mem_cons_of_mem _ cM)) (hc _ (List.mem_cons_of_mem _ (List.mem_cons_of_mem _ cM))) Γ hg
 rw [<- e] at h
 exact h
noncomputable def UW (mc:List Int->List Int->List Int) (et:List Int->List Int->Int):Nat->Option Sum:=dM (dM (dM gB 77 (aL aB 100 tG)) 48 (aL aB 100 (Us mc))) 86 (aL aB 100 (HB et))
theorem aCg (mc:List Int->List Int->List Int) (et:List Int->List Int->Int):∀ f S,UW mc et f=some S->∀ Γ:Env,Γ.aR=aB->aI Tryz.prog Γ f S:=bD (bD (bD gL 77 _ Ci) 48 _ (JA mc)) 86 _ (aMg et)
def ckO (mc:List Int->List Int->List Int) (et:List Int->List Int->Int) (key t D:List Int) (d:Nat->List Int):List Prop:=
 let T:=mc key D
 [(et T t==1)=(et T t==1),et T t=P.DH T t,T.length=16,t.length=16,T=T,t=t,t.length=16,T=M.tag key D,key.length=32,bR key,bR D,D.length<=1073741824,D.length%16=0,key=key,
  (d 1).length=(d 1).length,(d 1).length=(d 1).length,(d 2).length=(d 2).length,(d 2).length=(d 2).length,(d 3).length=(d 3).length,(d 3).length=(d 3).length,(d 4).length=(d 4).length,(d 4).length=(d 4).length,(d 5).length=(d 5).length,(d 5).length=(d 5).length,
  d 1=d 1,d 2=d 2,d 3=d 3,d 4=d 4,d 5=d 5,key.length=32]
theorem bAw (mc:List Int->List Int->List Int) (et:List Int->List Int->Int) (key t:List Int) (d:Nat->List Int):aJ (env (UW mc et) 4) Tryz.f50 true [] 1500 [.raw (.pointer none),.ai .u8 key,.ai .u8 t,.aH 62 true 0 5 5] (yR d) 100 100 =
 some { val:=.bool false (et (mc key (M.cat d)) t==1),bK:=ckO mc et key t (M.cat d) d }:=by kernel_rfl
theorem aCy {key t:List Int} {d:Nat->List Int} (hk:key.length=32) (hb:bR key) (ht:t.length=16) (htb:bR t) (hd:bR (M.cat d)) (hl:(M.cat d).length<=1073741824) (tY:(M.cat d).length%16=0) (Γ:Env) (hg:Γ.aR=aB) :
 aE Tryz.prog Γ 50 [.raw (.pointer none),.ai .u8 key,.ai .u8 t,.aH 62 true 0 5 5] (yR d) 100 100 { val:=.bool false (decide (M.tag key (M.cat d)=t)) }:=by
 have hs:aI Tryz.prog (env (UW M.tag P.DH) 4) 50 (aJ (env (UW M.tag P.DH) 4) Tryz.f50 true [] 1500):=aN (bQ _ 4) (bW _ (aCg _ _) 4) mix Tryz.func50 (by kernel_rfl) true [] 1500
 have hT:=M.nV key (M.cat d)
 have hTB:bR (M.tag key (M.cat d)):=fun x hx=>by
  simp only [M.tag,M.Pr,List.mem_map] at hx
  obtain ⟨m,_,rfl⟩:=hx
  rw [IntKind.wrap_u8]
  exact ⟨Int.emod_nonneg _ (by decide),Int.emod_lt_of_pos _ (by decide)⟩
 have h:=hs.call (bAw M.tag P.DH key t d) (aA (show _/\_/\_/\_/\_/\_/\_/\_/\_/\_/\_/\_/\_/\_/\_/\_/\_/\_/\_/\_/\_/\_/\_/\_/\_/\_/\_/\_/\_/\_/\True from
  ⟨rfl,rfl,hT,ht,rfl,rfl,ht,rfl,hk,hb,hd,hl,tY,rfl,rfl,rfl,rfl,rfl,rfl,rfl,rfl,rfl,rfl,rfl,rfl,rfl,rfl,rfl,rfl,hk,trivial⟩))
 refine h.words (by rw [hg];rfl) (fun V=>rfl) (fun _ _ h=>h) (fun V=>?_) rfl rfl
 have e:(P.DH (M.tag key (M.cat d)) t==1)=decide (M.tag key (M.cat d)=t):=by
  rw [P.aMi hTB htb hT ht]
  by_cases q:M.tag key (M.cat d)=t
  .rw [if_pos q,decide_eq_true q];rfl
  .rw [if_neg q,decide_eq_false q];rfl
 show den V (.bool false (P.DH (M.tag key (M.cat d)) t==1))=_
 rw [e]
def HU (vs:List SV) (T:aZ):Option Canon:=match vs with
 | [.raw (.pointer none),ks,ts,.aH L _ 0 5 5]=>match cK ks,cK ts,(T L).bind roL with
   | some (.u8,k),some (.u8,t),some [p1,p2,p3,p4,p5]=>match cW T .u8 p1,cW T .u8 p2,cW T .u8 p3,cW T .u8 p4,cW T .u8 p5 with
     | some (o1,x1),some (o2,x2),some (o3,x3),some (o4,x4),some (o5,x5)=>some { eR:=[.raw (.pointer none),.ai .u8 k,.ai .u8 t,.aH 62 true 0 5 5],T0:=sgB (Ap x1 x2 x3 x4 x5),vl:=[(62,.lab L 0),(71,.cell L 0),(72,.cell L 1),(73,.cell L 2),(74,.cell L 3),(75,.cell L 4)],e0:={ val:=.bool false (decide (M.tag k (x1++(x2++(x3++(x4++x5))))=t)) },conds:=(k.length=32)::bR k::(t.length=16)::bR t::bR (x1++(x2++(x3++(x4++x5))))::((x1++(x2++(x3++(x4++x5)))).length<=1073741824)::((x1++(x2++(x3++(x4++x5)))).length%16=0)::(o1++(o2++(o3++(o4++o5)))) }
     | _,_,_,_,_=>none
   | _,_,_=>none
 | _=>none
theorem aNi (Γ:Env) (hg:Γ.aR=aB):aI Tryz.prog Γ 50 (aL aB 100 HU):=by
 refine aW hg fun vs T c hd hc=>?_
 unfold HU at hd
 split at hd
 case h_2=>cases hd
 split at hd
 case h_2=>cases hd
 split at hd
 case h_2=>cases hd
 cases hd
 rename_i o1 x1 o2 x2 o3 x3 o4 x4 o5 x5 _ _ _ _ _
 exact aCy (d:=Ap x1 x2 x3 x4 x5) (hc _ cM) (hc _ (List.mem_cons_of_mem _ cM)) (hc _ (List.mem_cons_of_mem _ (List.mem_cons_of_mem _ cM))) (hc _ (List.mem_cons_of_mem _ (List.mem_cons_of_mem _ (List.mem_cons_of_mem _ cM)))) (hc _ (List.mem_cons_of_mem _ (List.mem_cons_of_mem _ (List.mem_cons_of_mem _ (List.mem_cons_of_mem _ cM))))) (hc _ (List.mem_cons_of_mem _ (List.mem_cons_of_mem _ (List.mem_cons_of_mem _ (List.mem_cons_of_mem _ (List.mem_cons_of_mem _ cM)))))) (hc _ (List.mem_cons_of_mem _ (List.mem_cons_of_mem _ (List.mem_cons_of_mem _ (List.mem_cons_of_mem _ (List.mem_cons_of_mem _ (List.mem_cons_of_mem _ cM))))))) Γ hg
namespace M
def nonce (N:Int):List Int:=[0,0,0,0,IntKind.u8.wrap (bZ IntKind.u64 N 0),IntKind.u8.wrap (bZ IntKind.u64 N 8),IntKind.u8.wrap (bZ IntKind.u64 N 16),IntKind.u8.wrap (bZ IntKind.u64 N 24),IntKind.u8.wrap (bZ IntKind.u64 N 32),IntKind.u8.wrap (bZ IntKind.u64 N 40),IntKind.u8.wrap (bZ IntKind.u64 N 48),IntKind.u8.wrap (bZ IntKind.u64 N 56)]
def once (key:List Int) (N:Int):List Int:=cG key (nonce N) 0 0 32 (List.replicate 32 0)
def le (N:Int) (j:Nat):Int:=IntKind.u8.wrap (bZ IntKind.u64 N ((8*j:Nat):Int))
def Ay (n:Int):Int:=(IntKind.i64.wrap (16-n.tmod 16)).tmod 16
def qB (n:Int):Nat:=(Ay n).toNat
def Fz (a n:Int):List Int:=[le (IntKind.u64.wrap a) 0,le (IntKind.u64.wrap a) 1,le (IntKind.u64.wrap a) 2,le (IntKind.u64.wrap a) 3,le (IntKind.u64.wrap a) 4,le (IntKind.u64.wrap a) 5,le (IntKind.u64.wrap a) 6,le (IntKind.u64.wrap a) 7,le (IntKind.u64.wrap n) 0,le (IntKind.u64.wrap n) 1,le (IntKind.u64.wrap n) 2,le (IntKind.u64.wrap n) 3,le (IntKind.u64.wrap n) 4,le (IntKind.u64.wrap n) 5,le (IntKind.u64.wrap n) 6,le (IntKind.u64.wrap n) 7]
def TO (n:Int):List Int:=List.take (qB n) (List.drop 0 (List.replicate (qB n) 0))
def Xz (ad:List Int) (la:Nat) (c:List Int) (n:Nat):List Int:=ad++(TO la++(c++(TO n++List.take 16 (List.drop 0 (Fz la n)))))
theorem lA (key:List Int) (N:Int):(once key N).length=32:=by unfold once;rw [fK];rfl
end M
theorem aXb (N:Int):aJ (env gB 22) Tryz.f23 true [] 400 [.int false .u64 N] (fun l=>look l []) 100 100=some { val:=.agg [.int true .u8 0,.int true .u8 0,.int true .u8 0,.int true .u8 0,.int false .u8 (IntKind.u8.wrap (bZ IntKind.u64 N 0)),.int false .u8 (IntKind.u8.wrap (bZ IntKind.u64 N 8)),.int false .u8 (IntKind.u8.wrap (bZ IntKind.u64 N 16)),.int false .u8 (IntKind.u8.wrap (bZ IntKind.u64 N 24)),.int false .u8 (IntKind.u8.wrap (bZ IntKind.u64 N 32)),.int false .u8 (IntKind.u8.wrap (bZ IntKind.u64 N 40)),.int false .u8 (IntKind.u8.wrap (bZ IntKind.u64 N 48)),.int false .u8 (IntKind.u8.wrap (bZ IntKind.u64 N 56))] }:=by kernel_rfl
theorem Jk:∀ f S,gB f=some S->∀ Γ:Env,Γ.aR=aB->aI Tryz.prog Γ f S:=fun f S h Γ _=>qU f S h Γ
theorem YX (N:Int):aE Tryz.prog (env gB 22) 23 [.int false .u64 N] (fun l=>look l []) 100 100 { val:=.ai .u8 (M.nonce N) }:=
 ((aN (bQ gB 22) (bW gB Jk 22) mix Tryz.func23 (by kernel_rfl) true [] 400:aI Tryz.prog (env gB 22) 23 _).call (aXb N) (by simp)).re rfl (fun _=>rfl) trivial trivial
def GB (vs:List SV) (_:aZ):Option Canon:=match vs with
 | [.int _ .u64 N]=>some { eR:=[.int false .u64 N],T0:=[],vl:=[],e0:={ val:=.ai .u8 (M.nonce N) } }
 | _=>none
theorem aSe (Γ:Env) (hg:Γ.aR=aB):aI Tryz.prog Γ 23 (aL aB 100 GB):=by
 refine aW hg fun vs T c hd hc=>?_
 unfold GB at hd
 split at hd
 case h_2=>cases hd
 cases hd
 exact (YX _).words (by rw [hg];rfl) (fun _=>rfl) (fun _ _ h=>h) (fun _=>rfl) rfl rfl
theorem aXw (N:Int):aJ (env gB 22) Tryz.f39 true [] 400 [.int false .u64 N] (fun l=>look l []) 100 100=some { val:=.aH 100 true 0 8 8,new:=[.own [.int false .u8 (M.le N 0),.int false .u8 (M.le N 1),.int false .u8 (M.le N 2),.int false .u8 (M.le N 3),.int false .u8 (M.le N 4),.int false .u8 (M.le N 5),.int false .u8 (M.le N 6),.int false .u8 (M.le N 7)] 5] }:=by kernel_rfl
theorem ZJ (N:Int):aE Tryz.prog (env gB 22) 39 [.int false .u64 N] (fun l=>look l []) 100 100 { val:=.aH 100 true 0 8 8,new:=[.own [.int false .u8 (M.le N 0),.int false .u8 (M.le N 1),.int false .u8 (M.le N 2),.int false .u8 (M.le N 3),.int false .u8 (M.le N 4),.int false .u8 (M.le N 5),.int false .u8 (M.le N 6),.int false .u8 (M.le N 7)] 5] }:=
 (aN (bQ gB 22) (bW gB Jk 22) mix Tryz.func39 (by kernel_rfl) true [] 400:aI Tryz.prog (env gB 22) 39 _).call (aXw N) (by simp)
def GI (vs:List SV) (_:aZ):Option Canon:=match vs with
 | [.int _ .u64 N]=>some { eR:=[.int false .u64 N],T0:=[],vl:=[],e0:={ val:=.aH 100 true 0 8 8,new:=[.own [.int false .u8 (M.le N 0),.int false .u8 (M.le N 1),.int false .u8 (M.le N 2),.int false .u8 (M.le N 3),.int false .u8 (M.le N 4),.int false .u8 (M.le N 5),.int false .u8 (M.le N 6),.int false .u8 (M.le N 7)] 5] } }
 | _=>none
theorem aSp (Γ:Env) (hg:Γ.aR=aB):aI Tryz.prog Γ 39 (aL aB 100 GI):=by
 refine aW hg fun vs T c hd hc=>?_
 unfold GI at hd
 split at hd
 case h_2=>cases hd
 cases hd
 exact (ZJ _).words (by rw [hg];rfl) (fun _=>rfl) (fun _ _ h=>h) (fun _=>rfl) rfl rfl
theorem bAc (n:Int):aJ (env gB 22) Tryz.f40 true [] 400 [.int false .i64 n] (fun l=>look l []) 100 100=some { bK:=[0<=M.Ay n/\M.Ay n<=M.Ay n/\1*M.Ay n<=281474976710656/\M.Ay n<9223372036854775808],val:=.aH 100 false 0 (M.qB n) (M.qB n),new:=[.ints .u8 (List.replicate (M.qB n) 0) 5] }:=by kernel_rfl
theorem M.Wc (n:Int) (h:0<=n/\n<=1073741824):M.Ay n=(16-n%16)%16/\0<=M.Ay n/\M.Ay n<16:=by
 have e:M.Ay n=(16-n%16)%16:=by
  unfold M.Ay
  rw [Int.tmod_eq_emod_of_nonneg h.1,IntWalk.i64_in _ ⟨by omega,by omega⟩,Int.tmod_eq_emod_of_nonneg (by omega)]
 rw [e];omega
theorem aBp {n:Int} (h:0<=n/\n<=1073741824):aE Tryz.prog (env gB 22) 40 [.int false .i64 n] (fun l=>look l []) 100 100 { val:=.aH 100 false 0 (M.qB n) (M.qB n),new:=[.ints .u8 (List.replicate (M.qB n) 0) 5] }:=
 ((aN (bQ gB 22) (bW gB Jk 22) mix Tryz.func40 (by kernel_rfl) true [] 400:aI Tryz.prog (env gB 22) 40 _).call (bAc n) (aA ⟨by have:=M.Wc n h;omega,trivial⟩)).re rfl (fun _=>rfl) ⟨rfl,trivial⟩ trivial
def GY (vs:List SV) (_:aZ):Option Canon:=match vs with
 | [.int _ .i64 n]=>some { eR:=[.int false .i64 n],T0:=[],vl:=[],e0:={ val:=.aH 100 false 0 (M.qB n) (M.qB n),new:=[.ints .u8 (List.replicate (M.qB n) 0) 5] },conds:=[0<=n/\n<=1073741824] }
 | _=>none
theorem aTv (Γ:Env) (hg:Γ.aR=aB):aI Tryz.prog Γ 40 (aL aB 100 GY):=by
 refine aW hg fun vs T c hd hc=>?_
 unfold GY at hd
 split at hd
 case h_2=>cases hd
 cases hd
 exact (aBp (hc _ (by simp))).words (by rw [hg];rfl) (fun _=>rfl) (fun _ _ h=>h) (fun _=>rfl) rfl rfl
theorem Ac (x:Int):Bt (IntKind.u8.wrap x):=by
 rw [IntKind.wrap_u8]
 exact ⟨Int.emod_nonneg _ (by decide),Int.emod_lt_of_pos _ (by decide)⟩
theorem Rw (x y:Int):Bt (iK .u8 x y):=Ac _
namespace Q
def cx (key:List Int) (N:Int) (xs:List Int):List Int:=cG key (M.nonce N) 1 0 xs.length xs
def tg (key:List Int) (N:Int) (ad c:List Int):List Int:=M.tag (M.once key N) (M.Xz ad ad.length c c.length)
def iL (key:List Int) (N:Int) (ad bs:List Int) (n:Nat):List Int:=cx key N (bs.take n)++(tg key N ad (cx key N (bs.take n))++bs.drop (n+16))
def mV (key:List Int) (N:Int) (bs:List Int) (m:Nat):List Int:=cx key N (bs.take m)++bs.drop m
def EN (bs:List Int) (m:Nat):List Int:=List.replicate m 0++bs.drop m
theorem oZ (key:List Int) (N:Int) (xs:List Int):(cx key N xs).length=xs.length:=fK _ _ _ _ _ _
theorem xN (key:List Int) (N:Int) (ad c:List Int):(tg key N ad c).length=16:=by simp [tg,M.tag,M.Pr]
theorem Zd {key nonce:List Int} {c:Int} {n:Nat} {xs:List Int} (h:n<=xs.length):cG key nonce c 0 n xs=cG key nonce c 0 n (xs.take n)++xs.drop n:=by
 have hl:(cG key nonce c 0 n (xs.take n)).length=n:=by rw [fK,List.length_take];omega
 refine Fy (n:=xs.length) (fK _ _ _ _ _ _) (by rw [List.length_append,hl,List.length_drop];omega) fun i hi=>?_
 rw [oV _ _ _ _ _ _ hi]
 by_cases h1:i<n
 .rw [if_pos (by omega),xL _ _ (by omega),oV _ _ _ _ _ _ (by rw [List.length_take];omega),if_pos (by omega),dF _ h1]
 .rw [if_neg (by omega),Ry _ _ (by omega),hl,mZ]
  congr 1;omega
theorem Mk {key:List Int} {N:Int} {n:Nat} {xs:List Int} (h:n<=xs.length):cG key (M.nonce N) 1 0 n xs=mV key N xs n:=by
 unfold mV cx
 rw [Zd h]
 have:(xs.take n).length=n:=by rw [List.length_take];omega
 rw [this]
theorem JY (key:List Int) (N:Int) {xs:List Int} (h:bR xs):bR (cx key N xs):=by
 intro x hx
 simp only [cx,cG,List.mem_map] at hx
 obtain ⟨m,_,rfl⟩:=hx
 split
 .exact Rw _ _
 .exact h.get _
theorem aSs (key nonce:List Int) (c:Int) (i:Nat):Bt (zB key nonce c i):=by
 unfold zB
 refine bR.get (fun x hx=>?_) _
 simp only [B.block,B.out,List.mem_map] at hx
 obtain ⟨j,_,rfl⟩:=hx
 exact Ac _
theorem VH {x k:Int} (hx:Bt x) (hk:Bt k):iK .u8 (iK .u8 x k) k=x:=by
 obtain ⟨a,rfl,ha⟩:=hx.nat
 obtain ⟨b,rfl,hb⟩:=hk.nat
 obtain ⟨e1,l1⟩:=P.aFf ha hb
 rw [e1,(P.aFf l1 hb).1,Nat.xor_assoc,Nat.xor_self,Nat.xor_zero]
theorem aEy (key:List Int) (N:Int) {xs:List Int} (h:bR xs):cx key N (cx key N xs)=xs:=by
 refine Fy (n:=xs.length) (by rw [oZ,oZ]) rfl fun i hi=>?_
 have e:∀ ys:List Int,i<ys.length->(cx key N ys).getD i 0=iK .u8 (ys.getD i 0) (zB key (M.nonce N) 1 i):=fun ys hy=>by
  unfold cx
  rw [oV _ _ _ _ _ _ hy,if_pos (by omega),Nat.sub_zero]
 rw [e _ (by rw [oZ];exact hi),e _ hi,VH (h.get i) (aSs _ _ _ _)]
theorem VT (key data:List Int):bR (M.tag key data):=fun x hx=>by
 simp only [M.tag,M.Pr,List.mem_map] at hx
 obtain ⟨m,_,rfl⟩:=hx
 exact Ac _
theorem IF (key:List Int) (N:Int) (ad c:List Int):bR (tg key N ad c):=VT _ _
theorem lR {a b:List Int} (ha:bR a) (hb:bR b):bR (a++b):=fun x hx=>(List.mem_append.1 hx).elim (ha x) (hb x)
theorem wG {a:List Int} (n:Nat) (ha:bR a):bR (a.take n):=fun x hx=>ha x (List.mem_of_mem_take hx)
theorem Nx {a:List Int} (n:Nat) (ha:bR a):bR (a.drop n):=fun x hx=>ha x (List.mem_of_mem_drop hx)
theorem Ag (n:Nat):bR (List.replicate n (0:Int)):=fun x hx=>by rw [(List.mem_replicate.1 hx).2];exact ⟨by decide,by decide⟩
theorem Mz (key:List Int) (N:Int):bR (M.once key N):=by
 intro x hx
 simp only [M.once,cG,List.mem_map] at hx
 obtain ⟨m,_,rfl⟩:=hx
 split
 .exact Rw _ _
 .exact (Ag 32).get _
theorem Wb {n:Nat} (h:n<=1073741824):M.qB (n:Int)=(16-n%16)%16:=by
 obtain ⟨e,h0,h1⟩:=M.Wc (n:Int) ⟨by omega,by omega⟩
 unfold M.qB;rw [e];omega
theorem Wa (n:Int):M.TO n=List.replicate (M.qB n) 0:=by
 unfold M.TO
 rw [List.drop_zero,List.take_of_length_le (by simp)]
theorem Zq (a n:Int):bR (M.Fz a n):=by
 intro x hx
 simp only [M.Fz,List.mem_cons,List.not_mem_nil,or_false] at hx
 rcases hx with rfl | rfl | rfl | rfl | rfl | rfl | rfl | rfl | rfl | rfl | rfl | rfl | rfl | rfl | rfl | rfl <;> exact Ac _
theorem aLg (ad:List Int) (la:Nat) (c:List Int) (n:Nat):M.Xz ad la c n=ad++(List.replicate (M.qB la) 0++(c++(List.replicate (M.qB n) 0++M.Fz la n))):=by
 unfold M.Xz
 rw [Wa,Wa]
 rfl
theorem JS {ad c:List Int} {la n:Nat} (ha:bR ad) (hc:bR c) (SC:ad.length=la) (hn:c.length=n) (bCf:la<=500000000) (Ou:n<=500000000) :
 bR (M.Xz ad la c n)/\(M.Xz ad la c n).length<=1073741824/\(M.Xz ad la c n).length%16=0:=by
 have tY:(M.Fz (la:Int) (n:Int)).length=16:=rfl
 have p1:=Wb (n:=la) (by omega)
 have p2:=Wb (n:=n) (by omega)
 rw [aLg]
 refine ⟨lR ha (lR (Ag _) (lR hc (lR (Ag _) (Zq _ _)))),?_,?_⟩
 .simp only [List.length_append,List.length_replicate,tY,SC,hn];omega
 .simp only [List.length_append,List.length_replicate,tY,SC,hn];omega
theorem KV (key:List Int) (N:Int) (ad:List Int) {bs:List Int} (n:Nat) (h:bR bs):bR (iL key N ad bs n):=
 lR (JY _ _ (wG _ h)) (lR (IF _ _ _ _) (Nx _ h))
theorem Dh (key:List Int) (N:Int) (ad p t r:List Int) (ht:t.length=16):iL key N ad (p++(t++r)) p.length=cx key N p++(tg key N ad (cx key N p)++r):=by
 unfold iL
 rw [List.take_left,<- ht,List.drop_length_add_append,List.drop_left]
theorem Dm (key:List Int) (N:Int) (c r:List Int):mV key N (c++r) c.length=cx key N c++r:=by
 unfold mV
 rw [List.take_left,List.drop_left]
end Q
def qD:Nat->List SV
 | 0=>[.int true .i64 0,.raw .nilFunc,.raw .nilFunc,.raw .nilFunc,.raw .nilFunc,.raw .nilFunc,.raw .nilFunc]
 | 1=>[.int true .i64 1,.fn (.func 41) [] [.ptr 50 true 0],.fn (.func 43) [] [.ptr 50 true 0],.fn (.func 45) [] [.ptr 50 true 0],.fn (.func 47) [] [.ptr 50 true 0],.fn (.func 49) [] [.ptr 50 true 0],.fn (.func 51) [] [.ptr 50 true 0]]
 | _=>[.int true .i64 2,.fn (.func 53) [] [],.fn (.func 54) [] [],.fn (.func 55) [] [],.fn (.func 56) [] [],.fn (.func 57) [] [],.fn (.func 58) [] []]
def EG:Nat->List (Nat × SB)
 | 1=>[(50,.fN [.raw (.pointer none)])]
 | _=>[]
def yG:SV->Option (Nat × List (Nat × Ic))
 | .agg (.int true .i64 0::_)=>some (0,[])
 | .agg (.int true .i64 1 :: .fn _ _ [.ptr L _ _]::_)=>some (1,[(50,.lab L 0)])
 | .agg (.int true .i64 2::_)=>some (2,[])
 | _=>none
noncomputable def exE:Nat->Option Sum:=dM (dM gB 55 aNv) 46 (aL aB 100 GC)
noncomputable def Hz (mc:List Int->List Int->List Int):Nat->Option Sum:=dM (dM (dM gB 56 (aL aB 100 FE)) 48 (aL aB 100 (Us mc))) 50 (aL aB 100 HU)
def TE (e:Nat) (key nonce:List Int) (c:Int) (off len cap:Nat):List SV:=[.agg (qD e),.ai .u8 key,.int false .u32 c,.ai .u8 nonce,.aH 60 false off len cap]
def stL (e:Nat) (xs:List Int) (t:TypeId):List (Nat × SB):=(60,.ints .u8 xs t)::(EG e++Hq)
def tkL (e:Nat) (d:Nat->List Int):List (Nat × SB):=EG e++sgB d
def dE (e:Nat):Prop:=e=0\/e=1\/e=2
def stO (key nonce xs:List Int) (c:Int) (t:TypeId) (off len cap:Nat) (m r:List Prop):List Prop:=
 (key.length=32)::(nonce.length=12)::(off+len<=xs.length)::(m++(len<=4611686018427387904)::(0<=c/\c<=4294967295)::(key=key)::(c=c)::(nonce=nonce)::(off=0+off)::(len=len)::(cap=cap)::(xs=xs/\t=t)::(nonce.length=12)::(key.length=32)::r)
def stE (key nonce:List Int) (c:Int) (off len:Nat) (xs:List Int) (t:TypeId):bJ:={ val:=.eL [],wr:=[(60,.ints .u8 (cG key nonce c off len xs) t)] }
theorem aDq (e:Nat) (he:e=0\/e=2) (key nonce xs:List Int) (c:Int) (t:TypeId) (off len cap:Nat):aJ (env exE 22) Tryz.f22 true [] 400 (TE e key nonce c off len cap) (fun l=>look l (stL e xs t)) 100 100=some { stE key nonce c off len xs t with bK:=stO key nonce xs c t off len cap [] [] }:=by rcases he with rfl | rfl <;> kernel_rfl
theorem aQw (key nonce xs:List Int) (c:Int) (t:TypeId) (off len cap:Nat):aJ (env exE 22) Tryz.f22 true [] 400 (TE 1 key nonce c off len cap) (fun l=>look l (stL 1 xs t)) 100 100=some { stE key nonce c off len xs t with bK:=stO key nonce xs c t off len cap [len<=cap] [nonce.length=12,key.length=32] }:=by kernel_rfl
theorem aMe:∀ f S,exE f=some S->∀ Γ:Env,Γ.aR=aB->aI Tryz.prog Γ f S:=bD (bD gL 55 _ aHl) 46 _ aJx
theorem KO {e:Nat} (he:dE e) {key nonce xs:List Int} {c:Int} {t:TypeId} {off len cap:Nat} (hk:key.length=32) (hn:nonce.length=12) (hx:off+len<=xs.length) (hlc:len<=cap) (hl:len<=4611686018427387904) (hc:0<=c/\c<=4294967295) (Γ:Env) (hg:Γ.aR=aB) :
 aE Tryz.prog Γ 22 (TE e key nonce c off len cap) (fun l=>look l (stL e xs t)) 100 100 (stE key nonce c off len xs t):=by
 have hs:aI Tryz.prog (env exE 22) 22 (aJ (env exE 22) Tryz.f22 true [] 400):=aN (bQ exE 22) (bW exE aMe 22) mix Tryz.func22 (by kernel_rfl) true [] 400
 have sR:∀ m r:List Prop,(∀ q∈m,q)->(∀ q∈r,q)->∀ q∈stO key nonce xs c t off len cap m r,q:=fun m r hm hr=>
  aO hk (aO hn (aO hx (qT hm (aO hl (aO hc (aO rfl (aO rfl (aO rfl (aO (by omega) (aO rfl (aO rfl (aO ⟨rfl,rfl⟩ (aO hn (aO hk hr))))))))))))))
 rcases he with rfl | rfl | rfl
 .exact (hs.call (aDq 0 (.inl rfl) key nonce xs c t off len cap) (sR _ _ iF iF)).words (by rw [hg];rfl) (fun _=>rfl) (fun _ _ h=>h) (fun _=>rfl) rfl rfl
 .exact (hs.call (aQw key nonce xs c t off len cap) (sR _ _ (aO hlc iF) (aO hn (aO hk iF)))).words (by rw [hg];rfl) (fun _=>rfl) (fun _ _ h=>h) (fun _=>rfl) rfl rfl
 .exact (hs.call (aDq 2 (.inr rfl) key nonce xs c t off len cap) (sR _ _ iF iF)).words (by rw [hg];rfl) (fun _=>rfl) (fun _ _ h=>h) (fun _=>rfl) rfl rfl
def Mb (d:Nat->List Int) (r:List Prop):List Prop:=
 ((d 1).length=(d 1).length)::((d 1).length=(d 1).length)::((d 2).length=(d 2).length)::((d 2).length=(d 2).length)::((d 3).length=(d 3).length)::((d 3).length=(d 3).length)::((d 4).length=(d 4).length)::((d 4).length=(d 4).length)::((d 5).length=(d 5).length)::((d 5).length=(d 5).length) ::
   (d 1=d 1)::(d 2=d 2)::(d 3=d 3)::(d 4=d 4)::(d 5=d 5)::r
theorem oP {d:Nat->List Int} {r:List Prop} (h:∀ q∈r,q):∀ q∈Mb d r,q:=
 aO rfl (aO rfl (aO rfl (aO rfl (aO rfl (aO rfl (aO rfl (aO rfl (aO rfl (aO rfl (aO rfl (aO rfl (aO rfl (aO rfl (aO rfl h))))))))))))))
def iX (key D:List Int) (r:List Prop):List Prop:=(key.length=32)::bR key::bR D::(D.length<=1073741824)::(D.length%16=0)::r
theorem Ww (mc:List Int->List Int->List Int):∀ f S,Hz mc f=some S->∀ Γ:Env,Γ.aR=aB->aI Tryz.prog Γ f S:=bD (bD (bD gL 56 _ aHz) 48 _ (JA mc)) 50 _ aNi
theorem aDp (e:Nat) (he:e=0\/e=2) (key:List Int) (d:Nat->List Int):aJ (env (Hz M.tag) 22) Tryz.f24 true [] 400 [.agg (qD e),.ai .u8 key,.aH 62 true 0 5 5] (fun l=>look l (tkL e d)) 100 100 =
 some { val:=.ai .u8 (M.tag key (M.cat d)),bK:=((M.tag key (M.cat d)).length=16)::((M.tag key (M.cat d)).length=16)::iX key (M.cat d) ((key=key)::Mb d [key.length=32]) }:=by rcases he with rfl | rfl <;> kernel_rfl
theorem aQs (mc:List Int->List Int->List Int) (key:List Int) (d:Nat->List Int):aJ (env (Hz mc) 22) Tryz.f24 true [] 400 [.agg (qD 1),.ai .u8 key,.aH 62 true 0 5 5] (fun l=>look l (tkL 1 d)) 100 100 =
 some { val:=.ai .u8 (mc key (M.cat d)),bK:=((mc key (M.cat d)).length=16)::((mc key (M.cat d)).length=16)::((mc key (M.cat d)).length=16)::((mc key (M.cat d)).length=16)::(mc key (M.cat d)=M.tag key (M.cat d))::iX key (M.cat d) ((key=key)::Mb d [key.length=32,key.length=32]) }:=by kernel_rfl
theorem KM {e:Nat} (he:dE e) {key:List Int} {d:Nat->List Int} (hk:key.length=32) (hb:bR key) (hd:bR (M.cat d)) (hl:(M.cat d).length<=1073741824) (tY:(M.cat d).length%16=0) (Γ:Env) (hg:Γ.aR=aB) :
 aE Tryz.prog Γ 24 [.agg (qD e),.ai .u8 key,.aH 62 true 0 5 5] (fun l=>look l (tkL e d)) 100 100 { val:=.ai .u8 (M.tag key (M.cat d)) }:=by
 have hs:aI Tryz.prog (env (Hz M.tag) 22) 24 (aJ (env (Hz M.tag) 22) Tryz.f24 true [] 400):=aN (bQ _ 22) (bW _ (Ww _) 22) mix Tryz.func24 (by kernel_rfl) true [] 400
 have hT:=M.nV key (M.cat d)
 have hw:∀ r:List Prop,(∀ q∈r,q)->∀ q∈iX key (M.cat d) r,q:=fun r hr=>aO hk (aO hb (aO hd (aO hl (aO tY hr))))
 rcases he with rfl | rfl | rfl
 .exact (hs.call (aDp 0 (.inl rfl) key d) (aO hT (aO hT (hw _ (aO rfl (oP (aO hk iF))))))).words (by rw [hg];rfl) (fun _=>rfl) (fun _ _ h=>h) (fun _=>rfl) rfl rfl
 .exact (hs.call (aQs M.tag key d) (aO hT (aO hT (aO hT (aO hT (aO rfl (hw _ (aO rfl (oP (aO hk (aO hk iF)))))))))) ).words (by rw [hg];rfl) (fun _=>rfl) (fun _ _ h=>h) (fun _=>rfl) rfl rfl
 .exact (hs.call (aDp 2 (.inr rfl) key d) (aO hT (aO hT (hw _ (aO rfl (oP (aO hk iF))))))).words (by rw [hg];rfl) (fun _=>rfl) (fun _ _ h=>h) (fun _=>rfl) rfl rfl
theorem aFa (e:Nat) (he:e=0\/e=2) (key t:List Int) (d:Nat->List Int):aJ (env (Hz M.tag) 22) Tryz.f29 true [] 400 [.agg (qD e),.ai .u8 key,.ai .u8 t,.aH 62 true 0 5 5] (fun l=>look l (tkL e d)) 100 100 =
 some { val:=.bool false (decide (M.tag key (M.cat d)=t)),bK:=((M.tag key (M.cat d)).length=16/\t.length=16)::(t.length=16)::iX key (M.cat d) ((key=key)::Mb d [key.length=32,t.length=16,key.length=32]) }:=by rcases he with rfl | rfl <;> kernel_rfl
theorem aUl (key t:List Int) (d:Nat->List Int):aJ (env (Hz M.tag) 22) Tryz.f29 true [] 400 [.agg (qD 1),.ai .u8 key,.ai .u8 t,.aH 62 true 0 5 5] (fun l=>look l (tkL 1 d)) 100 100 =
 some { val:=.bool false (decide (M.tag key (M.cat d)=t)),bK:=(key.length=32)::bR key::(t.length=16)::bR t::bR (M.cat d)::((M.cat d).length<=1073741824)::((M.cat d).length%16=0)::(key=key)::(t=t)::Mb d [t.length=16,key.length=32,t.length=16,key.length=32] }:=by kernel_rfl
theorem QD {e:Nat} (he:dE e) {key t:List Int} {d:Nat->List Int} (hk:key.length=32) (hb:bR key) (ht:t.length=16) (htb:bR t) (hd:bR (M.cat d)) (hl:(M.cat d).length<=1073741824) (tY:(M.cat d).length%16=0) (Γ:Env) (hg:Γ.aR=aB) :
 aE Tryz.prog Γ 29 [.agg (qD e),.ai .u8 key,.ai .u8 t,.aH 62 true 0 5 5] (fun l=>look l (tkL e d)) 100 100 { val:=.bool false (decide (M.tag key (M.cat d)=t)) }:=by
 have hs:aI Tryz.prog (env (Hz M.tag) 22) 29 (aJ (env (Hz M.tag) 22) Tryz.f29 true [] 400):=aN (bQ _ 22) (bW _ (Ww _) 22) mix Tryz.func29 (by kernel_rfl) true [] 400
 have hT:=M.nV key (M.cat d)
 have hw:∀ r:List Prop,(∀ q∈r,q)->∀ q∈iX key (M.cat d) r,q:=fun r hr=>aO hk (aO hb (aO hd (aO hl (aO tY hr))))
 rcases he with rfl | rfl | rfl
 .exact (hs.call (aFa 0 (.inl rfl) key t d) (aO ⟨hT,ht⟩ (aO ht (hw _ (aO rfl (oP (aO hk (aO ht (aO hk iF))))))))).words (by rw [hg];rfl) (fun _=>rfl) (fun _ _ h=>h) (fun _=>rfl) rfl rfl
 .exact (hs.call (aUl key t d) (aO hk (aO hb (aO ht (aO htb (aO hd (aO hl (aO tY (aO rfl (aO rfl (oP (aO ht (aO hk (aO ht (aO hk iF)))))))))))))) ).words (by rw [hg];rfl) (fun _=>rfl) (fun _ _ h=>h) (fun _=>rfl) rfl rfl
 .exact (hs.call (aFa 2 (.inr rfl) key t d) (aO ⟨hT,ht⟩ (aO ht (hw _ (aO rfl (oP (aO hk (aO ht (aO hk iF))))))))).words (by rw [hg];rfl) (fun _=>rfl) (fun _ _ h=>h) (fun _=>rfl) rfl rfl
def Qm (vs:List SV) (T:aZ):Option Canon:=match vs with
 | [ev,ks,.int _ .u32 c,ns,.aH l _ off len cap]=>match yG ev,cK ks,cK ns,(T l).bind Bq with
   | some (e,vl),some (.u8,k),some (.u8,n),some (.u8,xs,ty)=>some { eR:=TE e k n c off len cap,T0:=stL e xs ty,vl:=(60,.lab l 0)::vl,e0:=stE k n c off len xs ty,conds:=[dE e,k.length=32,n.length=12,off+len<=xs.length,len<=cap,len<=4611686018427387904,0<=c/\c<=4294967295] }
   | _,_,_,_=>none
 | _=>none
theorem VW (Γ:Env) (hg:Γ.aR=aB):aI Tryz.prog Γ 22 (aL aB 100 Qm):=by
 refine aW hg fun vs T c hd hc=>?_
 unfold Qm at hd
 split at hd
 case h_2=>cases hd
 split at hd
 case h_2=>cases hd
 cases hd
 exact KO (hc _ (by simp)) (hc _ (by simp)) (hc _ (by simp)) (hc _ (by simp)) (hc _ (by simp)) (hc _ (by simp)) (hc _ (by simp)) Γ hg
def JT (L:Nat):List (Nat × Ic):=[(62,.lab L 0),(71,.cell L 0),(72,.cell L 1),(73,.cell L 2),(74,.cell L 3),(75,.cell L 4)]
def Qj (vs:List SV) (T:aZ):Option Canon:=match vs with
 | [ev,ks,.aH L _ 0 5 5]=>match yG ev,cK ks,(T L).bind roL with
   | some (e,vl),some (.u8,k),some [p1,p2,p3,p4,p5]=>match cW T .u8 p1,cW T .u8 p2,cW T .u8 p3,cW T .u8 p4,cW T .u8 p5 with
     | some (o1,x1),some (o2,x2),some (o3,x3),some (o4,x4),some (o5,x5)=>some { eR:=[.agg (qD e),.ai .u8 k,.aH 62 true 0 5 5],T0:=tkL e (Ap x1 x2 x3 x4 x5),vl:=vl++JT L,e0:={ val:=.ai .u8 (M.tag k (x1++(x2++(x3++(x4++x5))))) },conds:=dE e::iX k (x1++(x2++(x3++(x4++x5)))) (o1++(o2++(o3++(o4++o5)))) }
     | _,_,_,_,_=>none
   | _,_,_=>none
 | _=>none
theorem VS (Γ:Env) (hg:Γ.aR=aB):aI Tryz.prog Γ 24 (aL aB 100 Qj):=by
 refine aW hg fun vs T c hd hc=>?_
 unfold Qj at hd
 split at hd
 case h_2=>cases hd
 split at hd
 case h_2=>cases hd
 split at hd
 case h_2=>cases hd
 cases hd
 rename_i o1 x1 o2 x2 o3 x3 o4 x4 o5 x5 _ _ _ _ _
 exact KM (d:=Ap x1 x2 x3 x4 x5) (hc _ (by simp)) (hc _ (by simp [iX])) (hc _ (by simp [iX])) (hc _ (by simp [iX,M.cat,Ap])) (hc _ (by simp [iX,M.cat,Ap])) (hc _ (by simp [iX,M.cat,Ap])) Γ hg
def Rv (vs:List SV) (T:aZ):Option Canon:=match vs with
 | [ev,ks,ts,.aH L _ 0 5 5]=>match yG ev,cK ks,cK ts,(T L).bind roL with
   | some (e,vl),some (.u8,k),some (.u8,t),some [p1,p2,p3,p4,p5]=>match cW T .u8 p1,cW T .u8 p2,cW T .u8 p3,cW T .u8 p4,cW T .u8 p5 with
     | some (o1,x1),some (o2,x2),some (o3,x3),some (o4,x4),some (o5,x5)=>some { eR:=[.agg (qD e),.ai .u8 k,.ai .u8 t,.aH 62 true 0 5 5],T0:=tkL e (Ap x1 x2 x3 x4 x5),vl:=vl++JT L,e0:={ val:=.bool false (decide (M.tag k (x1++(x2++(x3++(x4++x5))))=t)) },conds:=dE e::(t.length=16)::bR t::iX k (x1++(x2++(x3++(x4++x5)))) (o1++(o2++(o3++(o4++o5)))) }
     | _,_,_,_,_=>none
   | _,_,_,_=>none
 | _=>none
theorem aCx (Γ:Env) (hg:Γ.aR=aB):aI Tryz.prog Γ 29 (aL aB 100 Rv):=by
 refine aW hg fun vs T c hd hc=>?_
 unfold Rv at hd
 split at hd
 case h_2=>cases hd
 split at hd
 case h_2=>cases hd
 split at hd
 case h_2=>cases hd
 cases hd
 rename_i o1 x1 o2 x2 o3 x3 o4 x4 o5 x5 _ _ _ _ _
 exact QD (d:=Ap x1 x2 x3 x4 x5) (hc _ (by simp)) (hc _ (by simp [iX])) (hc _ (by simp [iX])) (hc _ (by simp)) (hc _ (by simp)) (hc _ (by simp [iX,M.cat,Ap])) (hc _ (by simp [iX,M.cat,Ap])) (hc _ (by simp [iX,M.cat,Ap])) Γ hg
noncomputable def Yw:Nat->Option Sum:=dM (dM (dM (dM (dM (dM gB 22 (aL aB 100 Qm)) 24 (aL aB 100 Qj)) 29 (aL aB 100 Rv)) 23 (aL aB 100 GB)) 39 (aL aB 100 GI)) 40 (aL aB 100 GY)
theorem Xd:∀ f S,Yw f=some S->∀ Γ:Env,Γ.aR=aB->aI Tryz.prog Γ f S:=bD (bD (bD (bD (bD (bD gL 22 _ VW) 24 _ VS) 29 _ aCx) 23 _ aSe) 39 _ aSp) 40 _ aTv
def onL (e:Nat):List (Nat × SB):=EG e++Hq
theorem bBb (e:Nat) (he:dE e) (key:List Int) (N:Int):aJ (env Yw 22) Tryz.f21 true [] 400 [.agg (qD e),.ai .u8 key,.int false .u64 N] (fun l=>look l (onL e)) 100 100 =
 some { val:=.ai .u8 (M.once key N),bK:=[(M.once key N).length=32,(M.once key N).length=32,(M.once key N).length=32,dE e,key.length=32,(M.nonce N).length=12,0+32<=32,32<=32,32<=4611686018427387904,(0:Int)<=0/\(0:Int)<=4294967295,key=key,(0:Int)=0,M.nonce N=M.nonce N,0=0,32=32,32=32,List.replicate 32 (0:Int)=List.replicate 32 0/\(23:Nat)=(23:TypeId),N=N,key.length=32] }:=by rcases he with rfl | rfl | rfl <;> kernel_rfl
theorem aDh {e:Nat} (he:dE e) {key:List Int} (hk:key.length=32) (N:Int) (Γ:Env) (hg:Γ.aR=aB):aE Tryz.prog Γ 21 [.agg (qD e),.ai .u8 key,.int false .u64 N] (fun l=>look l (onL e)) 100 100 { val:=.ai .u8 (M.once key N) }:=
 ((aN (bQ Yw 22) (bW Yw Xd 22) mix Tryz.func21 (by kernel_rfl) true [] 400:aI Tryz.prog (env Yw 22) 21 _).call (bBb e he key N) (aA ⟨M.lA _ _,M.lA _ _,M.lA _ _,he,hk,rfl,by omega,by omega,by omega,by omega,rfl,rfl,rfl,rfl,rfl,rfl,⟨rfl,rfl⟩,rfl,hk,trivial⟩)).words (by rw [hg];rfl) (fun _=>rfl) (fun _ _ h=>h) (fun _=>rfl) rfl rfl
def HY (on:List Int->Int->List Int) (vs:List SV) (_:aZ):Option Canon:=match vs with
 | [ev,ks,.int _ .u64 N]=>match yG ev,cK ks with
   | some (e,vl),some (.u8,k)=>some { eR:=[.agg (qD e),.ai .u8 k,.int false .u64 N],T0:=onL e,vl:=vl,e0:={ val:=.ai .u8 (on k N) },conds:=[on k N=M.once k N,dE e,k.length=32] }
   | _,_=>none
 | _=>none
theorem aNo (on:List Int->Int->List Int) (Γ:Env) (hg:Γ.aR=aB):aI Tryz.prog Γ 21 (aL aB 100 (HY on)):=by
 refine aW hg fun vs T c hd hc=>?_
 unfold HY at hd
 split at hd
 case h_2=>cases hd
 split at hd
 case h_2=>cases hd
 cases hd
 have e:=hc _ cM
 rw [e]
 exact aDh (hc _ (List.mem_cons_of_mem _ cM)) (hc _ (List.mem_cons_of_mem _ (List.mem_cons_of_mem _ cM))) _ Γ hg
noncomputable def aPq (on:List Int->Int->List Int):Nat->Option Sum:=dM Yw 21 (aL aB 100 (HY on))
theorem aCh (on:List Int->Int->List Int):∀ f S,aPq on f=some S->∀ Γ:Env,Γ.aR=aB->aI Tryz.prog Γ f S:=bD Xd 21 _ (aNo on)
noncomputable def nX (on:List Int->Int->List Int):Env:=env (aPq on) 22
theorem rM (on:List Int->Int->List Int):cB Tryz.prog (nX on):=bQ _ 22
theorem rN (on:List Int->Int->List Int):cI Tryz.prog (nX on):=bW _ (aCh on) 22
def SM:List (Nat × SB):=[(0,.fN [.sI 428 (.ptr 40 true 0)]),(2,.fN [.sI 428 (.ptr 42 true 0)]),(4,.fN [.sI 428 (.ptr 44 true 0)]),(8,.fN [.sI 428 (.ptr 48 true 0)]),(17,.fN [.int true .i64 40]),(18,.fN [.int true .i64 40])]++Hq
def EK:List (Nat × Ic):=[(40,.lab 40 0),(42,.lab 42 0),(44,.lab 44 0),(48,.lab 48 0)]
def Yh (e:Nat) (key:List Int) (N:Int) (la lb cb:Nat) (n:Int):List SV:=[.agg (qD e),.ai .u8 key,.int false .u64 N,.eV 63 la,.aH 62 false 0 lb cb,.int false .i64 n]
def seL (e:Nat) (ad bs:List Int) (t:TypeId):List (Nat × SB):=[(62,.ints .u8 bs t),(63,.gO .u8 ad)]++(EG e++SM)
def CO (e:Nat) (ad bs:List Int) (t:TypeId):aZ:=fun l=>look l (seL e ad bs t)
noncomputable def seM (on:List Int->Int->List Int) (e:Nat) (ad bs:List Int) (t:TypeId) (k:Nat) (cf:Cf) (K:List Fr) (s:St):Option pU:=gY (nX on) (bH 100 (CO e ad bs t)) 100 Tryz.f9.ntmps [] 400 k cf K s
def gG:Nat->Code->Code
 | 0,c=>c
 | n+1,.seq _ y=>gG n y
 | _,c=>c
def aOe (la lb cb n:Nat):List (Nat × SV):=[(3,.eV 63 la),(4,.aH 62 false 0 lb cb),(5,.int false .i64 (n:Int)),(6,.ptr 100 true 0),(14,.aH 62 false 0 n n),(15,.ptr 101 true 0)]
def aOh (e:Nat) (cs ok:List Int) (t:TypeId):List (Nat × SB):=[(62,.ints .u8 cs t),(100,.own (qD e) 38),(101,.ints .u8 ok 23)]
def aOd (lb cb n:Nat):List (Nat × SV):=[(4,.aH 62 false 0 lb cb),(5,.int false .i64 (n:Int)),(16,.ptr 100 true 0)]
def aOg (cs tg:List Int) (t:TypeId):List (Nat × SB):=[(62,.ints .u8 cs t),(100,.ints .u8 tg 59)]
namespace Q
def oS (n:Nat):Nat:=(if IntKind.i64.wrap ((n:Int)+16)=(n:Int) then 0 else 0+(n:Int).toNat*1)
def aGd (n:Nat) (cs x:List Int):List Int:=cs.take (oS n)++x.take (x.length.min ((IntKind.i64.wrap ((n:Int)+16)).toNat-(n:Int).toNat))++cs.drop (oS n+x.length.min ((IntKind.i64.wrap ((n:Int)+16)).toNat-(n:Int).toNat))
end Q
theorem aVr (e:Nat) (he:dE e) (on:List Int->Int->List Int) (key ad bs cs ok:List Int) (N:Int) (la lb cb n:Nat) (t:TypeId):fL 100 Tryz.f9.ntmps (bH 100 (CO e ad bs t)) [] (aOe la lb cb n) (aOh e cs ok t) 102 [62] [] (seM on e ad bs t 25 (.go (codeOf Tryz.f9)) [] ((zJ (Yh e key N la lb cb (n:Int)) 100).hint [false,false,false])) =
 some (.go (gG 5 (codeOf Tryz.f9)),[],[dE e,key.length=32,(M.nonce N).length=12,0+((n:Int).toNat-0)<=bs.length,(n:Int).toNat-0<=(n:Int).toNat-0,(n:Int).toNat-0<=4611686018427387904,(0:Int)<=1/\(1:Int)<=4294967295,key=key,(1:Int)=1,M.nonce N=M.nonce N,0=0+0,(n:Int).toNat-0=(n:Int).toNat-0,(n:Int).toNat-0=(n:Int).toNat-0,bs=bs/\t=t,N=N,key.length=32,
  (on key N).length=32,on key N=M.once key N,dE e,key.length=32,key=key,N=N,key.length=32,(0:Int)<=(n:Int)/\(n:Int)<=(cb:Int)/\(0:Int)<=(n:Int)/\(n:Int)<=(n:Int)/\(0:Int)<=0/\(0:Int)<=(n:Int),decide (IntKind.i64.wrap ((lb:Int)-(n:Int))<16)=false,decide ((n:Int)>(lb:Int))=false,decide ((n:Int)<0)=false,
  la=la,0=0,lb=lb,cb=cb,(n:Int)=(n:Int),0=0,(n:Int).toNat-0=n,(n:Int).toNat-0=n,cG key (M.nonce N) 1 0 ((n:Int).toNat-0) bs=cs/\t=t,on key N=ok/\(23:Nat)=(23:TypeId)]):=by rcases he with rfl | rfl | rfl <;> kernel_rfl
def frO (e:Nat) (ad cs ok:List Int) (la n:Nat) (x y r:List Prop):List Prop:=
 let pa:=M.qB la;let pn:=M.qB n;let RA:=List.replicate pa (0:Int);let RN:=List.replicate pn (0:Int);let L16:=M.Fz la n
 let TA:=(RA.drop 0).take pa;let TC:=(cs.drop 0).take n;let TN:=(RN.drop 0).take pn;let T5:=(L16.drop 0).take 16
 let p2:=0+pa<=RA.length/\pa<=pa;let p3:=0+n<=cs.length/\n<=n;let p4:=0+pn<=RN.length/\pn<=pn;let p5:=16<=L16.length/\(0:Nat)<=0
 dE e::(x++iX ok (M.Xz ad la TC n) (p2::p3::p4::p5::(ok=ok)::(y++(la=la)::(ad.length=ad.length)::(0=0)::(pa=pa)::(pa=pa)::p2::(TA.length=TA.length)::(0=0)::(n=n)::(n=n)::p3::(TC.length=TC.length)::(0=0)::(pn=pn)::(pn=pn)::p4::(TN.length=TN.length)::(16=16)::p5::(T5.length=T5.length) ::
  (ad=ad)::(TA=TA)::p2::(TC=TC)::p3::(TN=TN)::p4::(T5=T5)::p5::r)))
def fqO (la n:Nat) (r:List Prop):List Prop:=(0<=(n:Int)/\(n:Int)<=1073741824)::((n:Int)=(n:Int))::(0<=(la:Int)/\(la:Int)<=1073741824)::((la:Int)=(la:Int))::(IntKind.u64.wrap (n:Int)=IntKind.u64.wrap (n:Int))::(IntKind.u64.wrap (la:Int)=IntKind.u64.wrap (la:Int))::r
theorem aVq (e:Nat) (he:dE e) (on:List Int->Int->List Int) (ad bs cs ok tg:List Int) (la lb cb n:Nat) (t:TypeId):fL 100 Tryz.f9.ntmps (bH 100 (CO e ad bs t)) [] (aOd lb cb n) (aOg cs tg t) 101 [62] [] (seM on e ad bs t 3 (.go (gG 5 (codeOf Tryz.f9))) [] ((cA (aOe la lb cb n) (aOh e cs ok t) 102 [62] []).hint [])) =
 some (.go (gG 6 (codeOf Tryz.f9)),[],((M.tag ok (M.Xz ad la ((cs.drop 0).take n) n)).length=16)::frO e ad cs ok la n [] [] (fqO la n [ok.length=32,0=0,lb=lb,cb=cb,(n:Int)=(n:Int),cs=cs/\t=t,M.tag ok (M.Xz ad la ((cs.drop 0).take n) n)=tg/\(59:Nat)=(59:TypeId)])):=by rcases he with rfl | rfl | rfl <;> kernel_rfl
theorem aVp (e:Nat) (he:dE e) (on:List Int->Int->List Int) (ad bs cs tg:List Int) (lb cb n:Nat) (t:TypeId):sX (nX on) (CO e ad bs t) 100 100 Tryz.f9 [] (seM on e ad bs t 400 (.go (gG 6 (codeOf Tryz.f9))) [] ((cA (aOd lb cb n) (aOg cs tg t) 101 [62] []).hint [])) =
 some { bK:=[Q.oS n+((tg.drop 0).take 16).length.min ((IntKind.i64.wrap ((n:Int)+16)).toNat-(n:Int).toNat)<=cs.length,16<=tg.length,(0:Int)<=IntKind.i64.wrap ((n:Int)+16)/\IntKind.i64.wrap ((n:Int)+16)<=(cb:Int)/\(0:Int)<=IntKind.i64.wrap ((n:Int)+16)/\IntKind.i64.wrap ((n:Int)+16)<=IntKind.i64.wrap ((n:Int)+16)/\(0:Int)<=(n:Int)/\(n:Int)<=IntKind.i64.wrap ((n:Int)+16)],val:=.eL [.int false .i64 (IntKind.i64.wrap ((n:Int)+16)),.raw .nilIface],wr:=[(62,.ints .u8 (Q.aGd n cs ((tg.drop 0).take 16)) t)] }:=by rcases he with rfl | rfl | rfl <;> kernel_rfl
def Ey (e:Nat) (key:List Int) (N:Int) (la lb:Nat) (n:Int):List SV:=[.agg (qD e),.ai .u8 key,.int false .u64 N,.eV 63 la,.eV 62 lb,.int false .i64 n]
def RL (e:Nat) (ad bs:List Int):List (Nat × SB):=[(62,.gO .u8 bs),(63,.gO .u8 ad)]++(EG e++SM)
def Yc (l:Nat):SV:=.eL [.int true .i64 0,.sI 428 (.ptr l true 0)]
theorem aVh (e:Nat) (he:dE e) (key ad bs:List Int) (N n:Int) (la lb:Nat):aJ (nX M.once) Tryz.f9 true [true] 400 (Ey e key N la lb n) (fun l=>look l (RL e ad bs)) 100 100=some { val:=Yc 40,bK:=[decide (n<0)=true] }:=by rcases he with rfl | rfl | rfl <;> kernel_rfl
theorem aVg (e:Nat) (he:dE e) (key ad bs:List Int) (N n:Int) (la lb:Nat):aJ (nX M.once) Tryz.f9 true [false,true] 400 (Ey e key N la lb n) (fun l=>look l (RL e ad bs)) 100 100=some { val:=Yc 40,bK:=[decide (n>(lb:Int))=true,decide (n<0)=false] }:=by rcases he with rfl | rfl | rfl <;> kernel_rfl
theorem aVf (e:Nat) (he:dE e) (key ad bs:List Int) (N n:Int) (la lb:Nat):aJ (nX M.once) Tryz.f9 true [false,false,true] 400 (Ey e key N la lb n) (fun l=>look l (RL e ad bs)) 100 100=some { val:=Yc 42,bK:=[decide (IntKind.i64.wrap ((lb:Int)-n)<16)=true,decide (n>(lb:Int))=false,decide (n<0)=false] }:=by rcases he with rfl | rfl | rfl <;> kernel_rfl
theorem aWq (e:Nat) (he:dE e) (key ad bs:List Int) (N n:Int) (la lb:Nat):aJ (nX M.once) Tryz.f12 true [true] 400 (Ey e key N la lb n) (fun l=>look l (RL e ad bs)) 100 100=some { val:=Yc 40,bK:=[decide (n<0)=true] }:=by rcases he with rfl | rfl | rfl <;> kernel_rfl
theorem aWp (e:Nat) (he:dE e) (key ad bs:List Int) (N n:Int) (la lb:Nat):aJ (nX M.once) Tryz.f12 true [false,true] 400 (Ey e key N la lb n) (fun l=>look l (RL e ad bs)) 100 100=some { val:=Yc 40,bK:=[decide (n>(lb:Int))=true,decide (n<0)=false] }:=by rcases he with rfl | rfl | rfl <;> kernel_rfl
theorem aWo (e:Nat) (he:dE e) (key ad bs:List Int) (N n:Int) (la lb:Nat):aJ (nX M.once) Tryz.f12 true [false,false,true] 400 (Ey e key N la lb n) (fun l=>look l (RL e ad bs)) 100 100=some { val:=Yc 44,bK:=[decide (n<16)=true,decide (n>(lb:Int))=false,decide (n<0)=false] }:=by rcases he with rfl | rfl | rfl <;> kernel_rfl
def HT:Code->Code
 | .seq (.seq _ c) _=>c
 | c=>c
noncomputable def opM (on:List Int->Int->List Int) (e:Nat) (ad bs:List Int) (t:TypeId) (k:Nat) (cf:Cf) (K:List Fr) (s:St):Option pU:=gY (nX on) (bH 100 (CO e ad bs t)) 100 Tryz.f12.ntmps [] 400 k cf K s
def DQ:List SV:=[.fn (.func 28) [] [.ptr 102 true 0,.ptr 103 true 0]]
def aEe (N:Int) (la lb cb n m:Nat):List (Nat × SV):=[(2,.int false .u64 N),(3,.eV 63 la),(4,.aH 62 false 0 lb cb),(5,.int false .i64 (n:Int)),(6,.ptr 100 true 0),(7,.ptr 101 true 0),(12,.int true .i64 0),(13,.ptr 102 true 0),(14,.int false .i64 (m:Int)),(15,.ptr 103 true 0),(16,.ptr 104 true 0)]
def aEd (e:Nat) (key ok bs:List Int) (m:Nat) (t:TypeId):List (Nat × SB):=[(62,.ints .u8 bs t),(100,.own (qD e) 38),(101,.ints .u8 key 23),(102,.own [.raw .nilIface] 28),(103,.own [.aH 62 false 0 m m] 25),(104,.ints .u8 ok 23)]
def FT (N:Int) (m:Nat) (b:Bool):List (Nat × SV):=[(2,.int false .u64 N),(6,.ptr 100 true 0),(7,.ptr 101 true 0),(12,.int true .i64 0),(13,.ptr 102 true 0),(14,.int false .i64 (m:Int)),(15,.ptr 103 true 0),(55,.bool false b)]
def FR (e:Nat) (key bs:List Int) (m:Nat) (t:TypeId):List (Nat × SB):=[(62,.ints .u8 bs t),(100,.own (qD e) 38),(101,.ints .u8 key 23),(102,.own [.raw .nilIface] 28),(103,.own [.aH 62 false 0 m m] 25)]
theorem aWx (e:Nat) (he:dE e) (on:List Int->Int->List Int) (key ad bs ok:List Int) (N:Int) (la lb cb n m:Nat) (t:TypeId):fL 100 Tryz.f12.ntmps (bH 100 (CO e ad bs t)) [] (aEe N la lb cb n m) (aEd e key ok bs m t) 105 [62] DQ (opM on e ad bs t 28 (.go (codeOf Tryz.f12)) [] ((zJ (Yh e key N la lb cb (n:Int)) 100).hint [false,false,false])) =
 some (.go (gG 6 (codeOf Tryz.f12)),[],[(on key N).length=32,on key N=M.once key N,dE e,key.length=32,key=key,N=N,key.length=32,(0:Int)<=IntKind.i64.wrap ((n:Int)-16)/\IntKind.i64.wrap ((n:Int)-16)<=(cb:Int)/\(0:Int)<=IntKind.i64.wrap ((n:Int)-16)/\IntKind.i64.wrap ((n:Int)-16)<=IntKind.i64.wrap ((n:Int)-16)/\(0:Int)<=0/\(0:Int)<=IntKind.i64.wrap ((n:Int)-16),
  decide ((n:Int)<16)=false,decide ((n:Int)>(lb:Int))=false,decide ((n:Int)<0)=false,N=N,la=la,0=0,lb=lb,cb=cb,(n:Int)=(n:Int),IntKind.i64.wrap ((n:Int)-16)=(m:Int),bs=bs/\t=t,key=key/\(23:Nat)=(23:TypeId),0=0,(IntKind.i64.wrap ((n:Int)-16)).toNat-0=m,(IntKind.i64.wrap ((n:Int)-16)).toNat-0=m,on key N=ok/\(23:Nat)=(23:TypeId)]):=by rcases he with rfl | rfl | rfl <;> kernel_rfl
def Q.oT (n m:Nat):Nat:=if (n:Int)=(m:Int) then 0 else 0+(m:Int).toNat*1
def Q.tT (n m:Nat) (bs:List Int):List Int:=(bs.drop (Q.oT n m)).take 16
theorem aWw (e:Nat) (he:dE e) (on:List Int->Int->List Int) (key ad bs ok:List Int) (N:Int) (la lb cb n m:Nat) (t:TypeId) (b:Bool):fL 100 Tryz.f12.ntmps (bH 100 (CO e ad bs t)) [] (FT N m b) (FR e key bs m t) 104 [62] DQ (opM on e ad bs t 4 (.go (gG 6 (codeOf Tryz.f12))) [] ((cA (aEe N la lb cb n m) (aEd e key ok bs m t) 105 [62] DQ).hint [])) =
 some (.go (HT (gG 6 (codeOf Tryz.f12))),[.seq (gG 7 (codeOf Tryz.f12))],frO e ad bs ok la m [(Q.tT n m bs).length=16,bR (Q.tT n m bs)] [Q.tT n m bs=Q.tT n m bs] (fqO la m [Q.oT n m+16<=bs.length,16<=(n:Int).toNat-(m:Int).toNat,(0:Int)<=(n:Int)/\(n:Int)<=(cb:Int)/\(0:Int)<=(n:Int)/\(n:Int)<=(n:Int)/\(0:Int)<=(m:Int)/\(m:Int)<=(n:Int),ok.length=32,N=N,(m:Int)=(m:Int),
  (!decide (M.tag ok (M.Xz ad la ((bs.drop 0).take m) m)=Q.tT n m bs))=b,bs=bs/\t=t,key=key/\(23:Nat)=(23:TypeId),0=0,m=m,m=m])):=by rcases he with rfl | rfl | rfl <;> kernel_rfl
theorem aWv (e:Nat) (he:dE e) (on:List Int->Int->List Int) (key ad bs:List Int) (N:Int) (m:Nat) (t:TypeId) (b:Bool):sX (nX on) (CO e ad bs t) 100 100 Tryz.f12 [] (opM on e ad bs t 400 (.go (HT (gG 6 (codeOf Tryz.f12)))) [.seq (gG 7 (codeOf Tryz.f12))] ((cA (FT N m b) (FR e key bs m t) 104 [62] DQ).hint [true])) =
 some { bK:=[0+m<=bs.length,b=true],val:=Yc 48,wr:=[(62,.ints .u8 (bs.take 0++List.replicate m 0++bs.drop (0+m)) t)] }:=by rcases he with rfl | rfl | rfl <;> kernel_rfl
theorem aWu (e:Nat) (he:dE e) (on:List Int->Int->List Int) (key ad bs:List Int) (N:Int) (m:Nat) (t:TypeId) (b:Bool):sX (nX on) (CO e ad bs t) 100 100 Tryz.f12 [] (opM on e ad bs t 400 (.go (HT (gG 6 (codeOf Tryz.f12)))) [.seq (gG 7 (codeOf Tryz.f12))] ((cA (FT N m b) (FR e key bs m t) 104 [62] DQ).hint [false])) =
 some { bK:=[dE e,key.length=32,(M.nonce N).length=12,0+m<=bs.length,m<=m,m<=4611686018427387904,(0:Int)<=1/\(1:Int)<=4294967295,key=key,(1:Int)=1,M.nonce N=M.nonce N,0=0,m=m,m=m,bs=bs/\t=t,N=N,key.length=32,b=false],val:=.eL [.int false .i64 (m:Int),.raw .nilIface],wr:=[(62,.ints .u8 (cG key (M.nonce N) 1 0 m bs) t)] }:=by rcases he with rfl | rfl | rfl <;> kernel_rfl
theorem VI (key nonce:List Int) (c:Int) (off n:Nat) {xs:List Int} (h:bR xs):bR (cG key nonce c off n xs):=by
 intro x hx
 simp only [cG,List.mem_map] at hx
 obtain ⟨m,_,rfl⟩:=hx
 split
 .exact Rw _ _
 .exact h.get _
theorem Q.ZW {n:Nat} {cs x:List Int} (hn:n+16<=1073741824) (hx:x.length=16):Q.aGd n cs x=cs.take n++(x++cs.drop (n+16)):=by
 have w2:IntKind.i64.wrap ((n:Int)+16)=((n+16:Nat):Int):=by rw [IntWalk.i64_in _ ⟨by omega,by omega⟩];omega
 have e1:Q.oS n=n:=by unfold Q.oS;rw [w2,if_neg (by omega)];omega
 unfold Q.aGd
 rw [e1,w2,hx]
 have e3:(16:Nat).min ((((n+16:Nat):Int)).toNat-(n:Int).toNat)=16:=by
  have:(((n+16:Nat):Int)).toNat-(n:Int).toNat=16:=by omega
  rw [this];rfl
 rw [e3,List.take_of_length_le (Nat.le_of_eq hx),List.append_assoc]
def seE (key:List Int) (N:Int) (ad bs:List Int) (n:Nat) (t:TypeId):bJ:={ val:=.eL [.int false .i64 ((n+16:Nat):Int),.raw .nilIface],wr:=[(62,.ints .u8 (Q.iL key N ad bs n) t)] }
theorem XZ {e:Nat} (he:dE e) {key ad bs:List Int} {N:Int} {lb cb n:Nat} {t:TypeId} (hk:key.length=32) (ha:bR ad) (RG:bR bs) (SC:ad.length<=500000000) (hn:n+16<=lb) (hl:lb<=cb) (hb:lb<=bs.length) (hcb:cb<=500000000) :
 aE Tryz.prog (nX M.once) 9 (Yh e key N ad.length lb cb n) (CO e ad bs t) 100 100 (seE key N ad bs n t):=by
 refine gQ (rM _) (rN _) Tryz.func9 (by kernel_rfl) rfl (Nat.le_of_ble_eq_true (by kernel_rfl)) rfl [] ?_
 intro w0 Mx V0 Qx eF H
 have aT:=rM M.once
 have aX:=rN M.once
 have w1:IntKind.i64.wrap ((lb:Int)-(n:Int))=(lb:Int)-n:=IntWalk.i64_in _ ⟨by omega,by omega⟩
 have w2:IntKind.i64.wrap ((n:Int)+16)=((n+16:Nat):Int):=by rw [IntWalk.i64_in _ ⟨by omega,by omega⟩];omega
 have Fk:(cG key (M.nonce N) 1 0 n bs).length=bs.length:=fK _ _ _ _ _ _
 have hx:=VI key (M.nonce N) 1 0 n RG
 have bT:cG key (M.nonce N) 1 0 n bs=Q.mV key N bs n:=Q.Mk (by omega)
 have pT:(Q.cx key N (bs.take n)).length=n:=by rw [Q.oZ,List.length_take];omega
 have CX:(M.nonce N).length=12:=rfl
 have hol:=M.lA key N
 have hoB:=Q.Mz key N
 have htk:(Q.mV key N bs n).take n=Q.cx key N (bs.take n):=by
  unfold Q.mV;rw [List.take_append_of_le_length (by omega),List.take_of_length_le (by omega)]
 have CC:=Q.xN key N ad (Q.cx key N (bs.take n))
 have Uw:Q.iL key N ad bs n=(Q.mV key N bs n).take n++(Q.tg key N ad (Q.cx key N (bs.take n))++(Q.mV key N bs n).drop (n+16)):=by
  rw [htk];unfold Q.iL Q.mV
  have:List.drop (n+16) (Q.cx key N (bs.take n)++bs.drop n)=bs.drop (n+16):=by
   rw [List.drop_append,pT,List.drop_of_length_le (by omega),List.nil_append,List.drop_drop]
   congr 1;omega
  rw [this]
 have d1:decide ((lb:Int)-(n:Int)<16)=false:=decide_eq_false (by omega)
 have d2:decide ((n:Int)>(lb:Int))=false:=decide_eq_false (by omega)
 have d3:decide ((n:Int)<0)=false:=decide_eq_false (by omega)
 refine G.fL aT aX mix eF [false,false,false] (aVr e he M.once key ad bs (cG key (M.nonce N) 1 0 n bs) (M.once key N) N ad.length lb cb n t) (aA ?_) ?_
 .simp only [bX,w1]
  repeat' apply And.intro
  all_goals first | rfl | assumption | omega | trivial | exact Nat.le_refl _
 rw [bT] at Fk hx |-
 generalize lX:Q.mV key N bs n=cs at *
 have hd0:List.drop 0 cs=cs:=rfl
 have hct:(cs.take n).length=n:=by rw [List.length_take];omega
 obtain ⟨f1,f2,f3⟩:=Q.JS (la:=ad.length) (n:=n) ha (Q.wG n hx) rfl hct SC (by omega)
 have htg:M.tag (M.once key N) (M.Xz ad ad.length (cs.take n) n)=Q.tg key N ad (Q.cx key N (bs.take n)):=by
  unfold Q.tg;rw [pT,<- htk]
 generalize Q.tg key N ad (Q.cx key N (bs.take n))=tg at *
 generalize lU:M.once key N=ok at *
 refine G.fL aT aX mix eF [] (aVq e he M.once ad bs cs ok tg ad.length lb cb n t) (aA ?_) ?_
 .simp only [bX,frO,fqO,iX,List.cons_append,List.nil_append,hd0,htg,List.length_replicate]
  repeat' apply And.intro
  all_goals first | rfl | assumption | omega | trivial | exact Nat.le_refl _
 have e2:List.take 16 (List.drop 0 tg)=tg:=by rw [List.drop_zero,List.take_of_length_le (by omega)]
 have e1:Q.oS n=n:=by unfold Q.oS;rw [w2,if_neg (by omega)];omega
 have e3:(16:Nat).min (n+16-n)=16:=by rw [Nat.add_sub_cancel_left];rfl
 refine G.qR (cl:=[]) aT aX mix [] H (aVp e he M.once ad bs cs tg lb cb n t) (aA ?_) ?_ rfl ?_
 .simp only [bX,w2,e2,Int.toNat_natCast,e1,CC,e3]
  repeat' apply And.intro
  all_goals first | rfl | assumption | omega | trivial | exact Nat.le_refl _
 .show SV.eL [.int false .i64 (IntKind.i64.wrap ((n:Int)+16)),.raw .nilIface]=_
  rw [w2];rfl
 .show [(62,SB.ints .u8 _ t)]=[(62,SB.ints .u8 _ t)]
  rw [e2,Q.ZW (by omega) CC,Uw]
def opE (key:List Int) (N:Int) (bs:List Int) (m:Nat) (t:TypeId):Bool->bJ
 | true=>{ val:=.eL [.int false .i64 (m:Int),.raw .nilIface],wr:=[(62,.ints .u8 (Q.mV key N bs m) t)] }
 | false=>{ val:=Yc 48,wr:=[(62,.ints .u8 (Q.EN bs m) t)] }
theorem YT {e:Nat} (he:dE e) {key ad bs:List Int} {N:Int} {lb cb m:Nat} {t:TypeId} {b:Bool} (hk:key.length=32) (ha:bR ad) (RG:bR bs) (SC:ad.length<=500000000) (hn:m+16<=lb) (hl:lb<=cb) (hb:lb<=bs.length) (hcb:cb<=500000000)
 (hd:decide (Q.tg key N ad (bs.take m)=(bs.drop m).take 16)=b) :
 aE Tryz.prog (nX M.once) 12 (Yh e key N ad.length lb cb ((m+16:Nat):Int)) (CO e ad bs t) 100 100 (opE key N bs m t b):=by
 refine gQ (rM _) (rN _) Tryz.func12 (by kernel_rfl) rfl (Nat.le_of_ble_eq_true (by kernel_rfl)) rfl [] ?_
 intro w0 Mx V0 Qx eF H
 have aT:=rM M.once
 have aX:=rN M.once
 have w1:IntKind.i64.wrap (((m+16:Nat):Int)-16)=(m:Int):=by rw [IntWalk.i64_in _ ⟨by omega,by omega⟩];omega
 have hol:=M.lA key N
 have hoB:=Q.Mz key N
 have CX:(M.nonce N).length=12:=rfl
 have d1:decide (((m+16:Nat):Int)<16)=false:=decide_eq_false (by omega)
 have d2:decide (((m+16:Nat):Int)>(lb:Int))=false:=decide_eq_false (by omega)
 have d3:decide (((m+16:Nat):Int)<0)=false:=decide_eq_false (by omega)
 have hct:(bs.take m).length=m:=by rw [List.length_take];omega
 have aYk:M.tag (M.once key N) (M.Xz ad ad.length (bs.take m) m)=Q.tg key N ad (bs.take m):=by unfold Q.tg;rw [hct]
 refine G.fL aT aX mix eF [false,false,false] (aWx e he M.once key ad bs (M.once key N) N ad.length lb cb (m+16) m t) (aA ?_) ?_
 .simp only [bX,w1,Int.toNat_natCast,Nat.sub_zero]
  repeat' apply And.intro
  all_goals first | rfl | assumption | omega | trivial | exact Nat.le_refl _
 obtain ⟨f1,f2,f3⟩:=Q.JS (la:=ad.length) (n:=m) ha (Q.wG m RG) rfl hct SC (by omega)
 have CC:=Q.xN key N ad (bs.take m)
 have e1:Q.oT (m+16) m=m:=by unfold Q.oT;rw [if_neg (by omega)];omega
 have e2:Q.tT (m+16) m bs=(bs.drop m).take 16:=by unfold Q.tT;rw [e1]
 have hdl:((bs.drop m).take 16).length=16:=by rw [List.length_take,List.length_drop];omega
 have hdB:bR ((bs.drop m).take 16):=Q.wG _ (Q.Nx _ RG)
 generalize M.once key N=ok at *
 have hd0:List.drop 0 bs=bs:=rfl
 refine G.fL aT aX mix eF [] (aWw e he M.once key ad bs ok N ad.length lb cb (m+16) m t (!b)) (aA ?_) ?_
 .simp only [bX,frO,fqO,iX,List.cons_append,List.nil_append,Int.toNat_natCast,e1,e2,hd0,aYk,hdl,hd,List.length_replicate]
  repeat' apply And.intro
  all_goals first | rfl | assumption | omega | trivial | exact Nat.le_refl _
 cases b
 .refine G.qR (cl:=[]) aT aX mix [true] H (aWv e he M.once key ad bs N m t _) (aA ⟨by omega,rfl,trivial⟩) rfl rfl ?_
  show [(62,SB.ints .u8 _ t)]=[(62,SB.ints .u8 _ t)]
  simp only [List.take_zero,List.nil_append,Nat.zero_add,Q.EN]
 .refine G.qR (cl:=[]) aT aX mix [false] H (aWu e he M.once key ad bs N m t _) (aA ?_) rfl rfl ?_
  .simp only [bX]
   repeat' apply And.intro
   all_goals first | rfl | assumption | omega | trivial | exact Nat.le_refl _
  .show [(62,SB.ints .u8 _ t)]=[(62,SB.ints .u8 _ t)]
   rw [Q.Mk (by omega)]
def tL (lb:Nat) (n:Int):Nat->Prop
 | 1=>n<0\/n>(lb:Int)
 | 2=>¬ n<0/\¬ n>(lb:Int)/\(lb:Int)-n<16
 | _=>¬ n<0/\¬ n>(lb:Int)/\n<16
def sxL:Nat->Nat
 | 1=>40
 | 2=>42
 | _=>44
theorem VU {e:Nat} (he:dE e) (key ad bs:List Int) (N n:Int) {la lb:Nat} (_:lb<=500000000) {o:Nat} (ho:o=1\/o=2) (h:tL lb n o):aE Tryz.prog (nX M.once) 9 (Ey e key N la lb n) (fun l=>look l (RL e ad bs)) 100 100 { val:=Yc (sxL o) }:=by
 have hI:∀ hs,aI Tryz.prog (nX M.once) 9 (aJ (nX M.once) Tryz.f9 true hs 400):=fun hs=>aN (rM _) (rN _) mix Tryz.func9 (by kernel_rfl) true hs 400
 rcases ho with rfl | rfl
 .by_cases h0:n<0
  .exact ((hI _).call (aVh e he key ad bs N n la lb) (aA ⟨decide_eq_true h0,trivial⟩)).words rfl (fun _=>rfl) (fun _ _ h=>h) (fun _=>rfl) rfl rfl
  .have h1:n>(lb:Int):=h.resolve_left h0
   exact ((hI _).call (aVg e he key ad bs N n la lb) (aA ⟨decide_eq_true h1,decide_eq_false h0,trivial⟩)).words rfl (fun _=>rfl) (fun _ _ h=>h) (fun _=>rfl) rfl rfl
 .obtain ⟨h0,h1,h2⟩:=h
  exact ((hI _).call (aVf e he key ad bs N n la lb) (aA ⟨decide_eq_true (by rw [IntWalk.i64_in _ ⟨by omega,by omega⟩];exact h2),decide_eq_false h1,decide_eq_false h0,trivial⟩)).words rfl (fun _=>rfl) (fun _ _ h=>h) (fun _=>rfl) rfl rfl
theorem YQ {e:Nat} (he:dE e) (key ad bs:List Int) (N n:Int) {la lb:Nat} {o:Nat} (ho:o=1\/o=3) (h:tL lb n o):aE Tryz.prog (nX M.once) 12 (Ey e key N la lb n) (fun l=>look l (RL e ad bs)) 100 100 { val:=Yc (sxL o) }:=by
 have hI:∀ hs,aI Tryz.prog (nX M.once) 12 (aJ (nX M.once) Tryz.f12 true hs 400):=fun hs=>aN (rM _) (rN _) mix Tryz.func12 (by kernel_rfl) true hs 400
 rcases ho with rfl | rfl
 .by_cases h0:n<0
  .exact ((hI _).call (aWq e he key ad bs N n la lb) (aA ⟨decide_eq_true h0,trivial⟩)).words rfl (fun _=>rfl) (fun _ _ h=>h) (fun _=>rfl) rfl rfl
  .have h1:n>(lb:Int):=h.resolve_left h0
   exact ((hI _).call (aWp e he key ad bs N n la lb) (aA ⟨decide_eq_true h1,decide_eq_false h0,trivial⟩)).words rfl (fun _=>rfl) (fun _ _ h=>h) (fun _=>rfl) rfl rfl
 .obtain ⟨h0,h1,h2⟩:=h
  exact ((hI _).call (aWo e he key ad bs N n la lb) (aA ⟨decide_eq_true h2,decide_eq_false h1,decide_eq_false h0,trivial⟩)).words rfl (fun _=>rfl) (fun _ _ h=>h) (fun _=>rfl) rfl rfl
abbrev zQ:=List Int->Int->List Int->List Int->Nat->List Int
abbrev yS:=Bool->List Int->Int->List Int->Nat->List Int
def aOf (x:List Int) (n:Nat) (t:TypeId):bJ:={ val:=.eL [.int false .i64 ((n+16:Nat):Int),.raw .nilIface],wr:=[(62,.ints .u8 x t)] }
def aOm (x:List Int) (m:Nat) (t:TypeId):Bool->bJ
 | true=>{ val:=.eL [.int false .i64 (m:Int),.raw .nilIface],wr:=[(62,.ints .u8 x t)] }
 | false=>{ val:=Yc 48,wr:=[(62,.ints .u8 x t)] }
def Q.Uc:yS
 | true,k,N,bs,m=>Q.mV k N bs m
 | false,_,_,bs,m=>Q.EN bs m
structure EL (sb:zQ) (k:List Int) (N:Int) (ad bs:List Int) (n:Nat):Prop where
 h:sb k N ad bs n=Q.iL k N ad bs n
structure EM (ob:yS) (p:Bool) (k:List Int) (N:Int) (bs:List Int) (m:Nat):Prop where
 h:ob p k N bs m=Q.Uc p k N bs m
structure Me (p:Bool) (k:List Int) (N:Int) (ad bs:List Int) (m:Nat):Prop where
 h:decide (Q.tg k N ad (bs.take m)=(bs.drop m).take 16)=p
def aFl (sb:zQ) (ev ks a:SV) (N n:Int) (L lb cb:Nat) (T:aZ):Option Canon:=match yG ev,cK ks,cW T .u8 a,(T L).bind Bq with
 | some (e,vl),some (.u8,k),some (oa,ad),some (.u8,bs,t)=>some { eR:=Yh e k N ad.length lb cb (n.toNat:Int),T0:=seL e ad bs t,vl:=(62,.lab L 0)::(63,.arg 3)::(vl++EK),e0:=aOf (sb k N ad bs n.toNat) n.toNat t,conds:=EL sb k N ad bs n.toNat::dE e::(k.length=32)::bR ad::bR bs::(ad.length<=500000000)::(n.toNat+16<=lb)::(lb<=cb)::(lb<=bs.length)::(cb<=500000000)::oa }
 | _,_,_,_=>none
def TH (o:Nat) (ev ks a b:SV) (N n:Int) (T:aZ):Option Canon:=match yG ev,cK ks,cW T .u8 a,cW T .u8 b with
 | some (e,vl),some (.u8,k),some (oa,ad),some (ob,bs)=>some { eR:=Ey e k N ad.length bs.length n,T0:=RL e ad bs,vl:=(62,.arg 4)::(63,.arg 3)::(vl++EK),e0:={ val:=Yc (sxL o) },conds:=dE e::(bs.length<=500000000)::tL bs.length n o::(oa++ob) }
 | _,_,_,_=>none
def Un (sb:zQ) (out:Int->Nat) (vs:List SV) (T:aZ):Option Canon:=match vs with
 | [ev,ks,.int _ .u64 N,a,b,.int _ .i64 n]=>match out n,b with
   | 0,.aH L _ 0 lb cb=>aFl sb ev ks a N n L lb cb T
   | 1,_=>TH 1 ev ks a b N n T
   | 2,_=>TH 2 ev ks a b N n T
   | _,_=>none
 | _=>none
def TQ (ob:yS) (p:Bool) (ev ks a:SV) (N n:Int) (L lb cb:Nat) (T:aZ):Option Canon:=match yG ev,cK ks,cW T .u8 a,(T L).bind Bq with
 | some (e,vl),some (.u8,k),some (oa,ad),some (.u8,bs,t)=>some { eR:=Yh e k N ad.length lb cb ((n.toNat-16+16:Nat):Int),T0:=seL e ad bs t,vl:=(62,.lab L 0)::(63,.arg 3)::(vl++EK),e0:=aOm (ob p k N bs (n.toNat-16)) (n.toNat-16) t p,conds:=EM ob p k N bs (n.toNat-16)::dE e::(k.length=32)::bR ad::bR bs::(ad.length<=500000000)::(n.toNat-16+16<=lb)::(lb<=cb)::(lb<=bs.length)::(cb<=500000000)::Me p k N ad bs (n.toNat-16)::oa }
 | _,_,_,_=>none
def TR (o:Nat) (ev ks a b:SV) (N n:Int) (T:aZ):Option Canon:=match yG ev,cK ks,cW T .u8 a,cW T .u8 b with
 | some (e,vl),some (.u8,k),some (oa,ad),some (ob,bs)=>some { eR:=Ey e k N ad.length bs.length n,T0:=RL e ad bs,vl:=(62,.arg 4)::(63,.arg 3)::(vl++EK),e0:={ val:=Yc (sxL o) },conds:=dE e::tL bs.length n o::(oa++ob) }
 | _,_,_,_=>none
def Ur (ob:yS) (out:Int->Nat) (vs:List SV) (T:aZ):Option Canon:=match vs with
 | [ev,ks,.int _ .u64 N,a,b,.int _ .i64 n]=>match out n,b with
   | 0,.aH L _ 0 lb cb=>TQ ob true ev ks a N n L lb cb T
   | 1,_=>TR 1 ev ks a b N n T
   | 3,_=>TR 3 ev ks a b N n T
   | 4,.aH L _ 0 lb cb=>TQ ob false ev ks a N n L lb cb T
   | _,_=>none
 | _=>none
theorem YA {sb:zQ} {ev ks a:SV} {N n:Int} {L lb cb:Nat} {T:aZ} {c:Canon} (h:aFl sb ev ks a N n L lb cb T=some c) (hc:∀ q∈c.conds,q) (Γ:Env) (hg:Γ.aR=aB):aE Tryz.prog Γ 9 c.eR (fun l=>look l c.T0) 100 100 c.e0:=by
 unfold aFl at h
 split at h
 case h_2=>cases h
 cases h
 have e:sb _ _ _ _ _=_:=EL.h (hc _ cM)
 rw [aOf,e]
 exact (XZ (hc _ (by simp)) (hc _ (by simp)) (hc _ (by simp)) (hc _ (by simp)) (hc _ (by simp)) (hc _ (by simp)) (hc _ (by simp)) (hc _ (by simp)) (hc _ (by simp))).words (by rw [hg];rfl) (fun _=>rfl) (fun _ _ h=>h) (fun _=>rfl) rfl rfl
theorem Vu {o:Nat} (ho:o=1\/o=2) {ev ks a b:SV} {N n:Int} {T:aZ} {c:Canon} (h:TH o ev ks a b N n T=some c) (hc:∀ q∈c.conds,q) (Γ:Env) (hg:Γ.aR=aB):aE Tryz.prog Γ 9 c.eR (fun l=>look l c.T0) 100 100 c.e0:=by
 unfold TH at h
 split at h
 case h_2=>cases h
 cases h
 exact (VU (hc _ (by simp)) _ _ _ _ _ (hc _ (by simp)) ho (hc _ (by simp))).words (by rw [hg];rfl) (fun _=>rfl) (fun _ _ h=>h) (fun _=>rfl) rfl rfl
theorem We {ob:yS} {p:Bool} {ev ks a:SV} {N n:Int} {L lb cb:Nat} {T:aZ} {c:Canon} (h:TQ ob p ev ks a N n L lb cb T=some c) (hc:∀ q∈c.conds,q) (Γ:Env) (hg:Γ.aR=aB):aE Tryz.prog Γ 12 c.eR (fun l=>look l c.T0) 100 100 c.e0:=by
 unfold TQ at h
 split at h
 case h_2=>cases h
 cases h
 have e0:ob _ _ _ _ _=_:=EM.h (hc _ cM)
 rw [e0]
 have e:∀ (k bs:List Int) (m:Nat) (t:TypeId),aOm (Q.Uc p k N bs m) m t p=opE k N bs m t p:=fun _ _ _ _=>by cases p <;> rfl
 rw [e]
 exact (YT (b:=p) (hc _ (by simp)) (hc _ (by simp)) (hc _ (by simp)) (hc _ (by simp)) (hc _ (by simp)) (hc _ (by simp)) (hc _ (by simp)) (hc _ (by simp)) (hc _ (by simp)) (hc (Me p _ N _ _ (n.toNat-16)) (by simp)).h).words (by rw [hg];rfl) (fun _=>rfl) (fun _ _ h=>h) (fun _=>rfl) rfl rfl
theorem Wf {o:Nat} (ho:o=1\/o=3) {ev ks a b:SV} {N n:Int} {T:aZ} {c:Canon} (h:TR o ev ks a b N n T=some c) (hc:∀ q∈c.conds,q) (Γ:Env) (hg:Γ.aR=aB):aE Tryz.prog Γ 12 c.eR (fun l=>look l c.T0) 100 100 c.e0:=by
 unfold TR at h
 split at h
 case h_2=>cases h
 cases h
 exact (YQ (hc _ (by simp)) _ _ _ _ _ ho (hc _ (by simp))).words (by rw [hg];rfl) (fun _=>rfl) (fun _ _ h=>h) (fun _=>rfl) rfl rfl
theorem IK (sb:zQ) (out:Int->Nat) (Γ:Env) (hg:Γ.aR=aB):aI Tryz.prog Γ 9 (aL aB 100 (Un sb out)):=by
 refine aW hg fun vs T c hd hc=>?_
 unfold Un at hd
 split at hd
 case h_2=>cases hd
 split at hd
 .exact YA hd hc Γ hg
 .exact Vu (.inl rfl) hd hc Γ hg
 .exact Vu (.inr rfl) hd hc Γ hg
 .cases hd
theorem IY (ob:yS) (out:Int->Nat) (Γ:Env) (hg:Γ.aR=aB):aI Tryz.prog Γ 12 (aL aB 100 (Ur ob out)):=by
 refine aW hg fun vs T c hd hc=>?_
 unfold Ur at hd
 split at hd
 case h_2=>cases hd
 split at hd
 .exact We hd hc Γ hg
 .exact Wf (.inl rfl) hd hc Γ hg
 .exact Wf (.inr rfl) hd hc Γ hg
 .exact We hd hc Γ hg
 .cases hd
def UB (x:Int):List SV:=[.int false .i64 x,.raw (.pointer none)]
def UA:Nat->bJ
 | 1=>{ val:=.agg [.int true .i64 1,.fn (.func 41) [] [.ptr 100 true 0],.fn (.func 43) [] [.ptr 100 true 0],.fn (.func 45) [] [.ptr 100 true 0],.fn (.func 47) [] [.ptr 100 true 0],.fn (.func 49) [] [.ptr 100 true 0],.fn (.func 51) [] [.ptr 100 true 0]],new:=[.own [.raw (.pointer none)] 46] }
 | _=>{ val:=.agg (qD 2) }
def mkF:Nat->Bool
 | 1=>true
 | _=>false
theorem aXu (x:Int):aJ (env gB 22) Tryz.f10 true [true] 400 (UB x) (fun _=>none) 100 100=some { UA 1 with bK:=[(x.tmod (2:Int) != (0:Int))=true] }:=by kernel_rfl
theorem aXt (x:Int):aJ (env gB 22) Tryz.f10 true [false] 400 (UB x) (fun _=>none) 100 100=some { UA 2 with bK:=[(x.tmod (2:Int) != (0:Int))=false] }:=by kernel_rfl
theorem ZF {e:Nat} (he:e=1\/e=2) {x:Int} (h:(x.tmod 2 != 0)=mkF e) (Γ:Env) (hg:Γ.aR=aB):aE Tryz.prog Γ 10 (UB x) (fun _=>none) 100 100 (UA e):=by
 have hI:∀ hs,aI Tryz.prog (env gB 22) 10 (aJ (env gB 22) Tryz.f10 true hs 400):=fun hs=>aN (bQ gB 22) (bW gB gL 22) mix Tryz.func10 (by kernel_rfl) true hs 400
 rcases he with rfl | rfl
 .exact ((hI _).call (aXu x) (aA ⟨h,trivial⟩)).words (by rw [hg];rfl) (fun _=>rfl) (fun _ _ h=>h) (fun _=>rfl) rfl rfl
 .exact ((hI _).call (aXt x) (aA ⟨h,trivial⟩)).words (by rw [hg];rfl) (fun _=>rfl) (fun _ _ h=>h) (fun _=>rfl) rfl rfl
def GG (e:Nat) (vs:List SV) (_:aZ):Option Canon:=match vs with
 | [.int _ .i64 x,.raw (.pointer none)]=>some { eR:=UB x,T0:=[],vl:=[],e0:=UA e,conds:=[e=1\/e=2,(x.tmod 2 != 0)=mkF e] }
 | _=>none
theorem aKa (e:Nat) (Γ:Env) (hg:Γ.aR=aB):aI Tryz.prog Γ 10 (aL aB 100 (GG e)):=by
 refine aW hg fun vs T c hd hc=>?_
 unfold GG at hd
 split at hd
 case h_2=>cases hd
 cases hd
 exact ZF (hc _ (by simp)) (hc _ (by simp)) Γ hg
def Xp (xs ys:List Int):aZ:=fun l=>look l [(61,.gO .u8 xs),(62,.gO .u8 ys)]
def xT (xs:List Int):aZ:=fun l=>look l [(61,.gO .u8 xs)]
noncomputable def rmM (xs:List Int) (cf:Cf) (K:List Fr) (s:St):Option pU:=gY qN (bH 100 (xT xs)) 100 Tryz.f8.ntmps [3] 400 3000 cf K s
def aFo (n:Nat):List SV:=[.eV 61 n]
def Hu (n m:Nat) (i:Int):List (Nat × SV):=[(0,.eV 61 n),(3,.aH 100 false 0 m m),(4,.int false .i64 i)]
def Ht (zs:List Int):List (Nat × SB):=[(100,.ints .u8 zs 5)]
noncomputable def rmR:Option pU:=rmM [] (.go (codeOf Tryz.f8)) [] ((zJ (aFo 0) 100).hint [])
noncomputable def TL:Code:=Ew rmR
noncomputable def rmK:List Fr:=Ev rmR
theorem aWg (xs zs:List Int) (n m:Nat) (i:Int) :
 (fL 100 Tryz.f8.ntmps (bH 100 (xT xs)) [] (Hu n m i) (Ht zs) 101 [] [] (rmM xs (.go (codeOf Tryz.f8)) [] ((zJ (aFo n) 100).hint []))) =
 some (.go (.loop TL),rmK,
  [(0:Int)<=IntKind.i64.wrap ((↑n:Int)+(70:Int)) /\
    IntKind.i64.wrap ((↑n:Int)+(70:Int))<=IntKind.i64.wrap ((↑n:Int)+(70:Int)) /\
     (1:Int)*IntKind.i64.wrap ((↑n:Int)+(70:Int))<=(281474976710656:Int)/\IntKind.i64.wrap ((↑n:Int)+(70:Int))<(9223372036854775808:Int),
  n=n,(0:Nat)=(0:Nat),(IntKind.i64.wrap ((↑n:Int)+(70:Int))).toNat=m,(IntKind.i64.wrap ((↑n:Int)+(70:Int))).toNat=m,(0:Int)=i,
  List.replicate (IntKind.i64.wrap ((↑n:Int)+(70:Int))).toNat (0:Int)=zs/\(5:Nat)=(5:TypeId)]):=by kernel_rfl
theorem aWf (xs zs zs':List Int) (n m:Nat) (i i':Int) :
 (fL 100 Tryz.f8.ntmps (bH 100 (xT xs)) [] (Hu n m i') (Ht zs') 101 [] [] (rmM xs (.go TL) [] ((cA (Hu n m i) (Ht zs) 101 [] []).hint [true,true]))) =
 some (.at .normal,[],
  [(0:Nat)+i.toNat*(1:Nat)<(zs.set ((0:Nat)+i.toNat*(1:Nat)) (IntKind.u8.wrap (IntKind.i64.wrap ((161:Int)+i.tmod (7:Int))))).length,(0:Int)<=i/\i<(↑m:Int),
  i.toNat<xs.length,(0:Int)<=i/\i<(↑n:Int),decide (i<(↑n:Int))=true,(0:Nat)+i.toNat*(1:Nat)<zs.length,(0:Int)<=i/\i<(↑m:Int),decide (i<(↑m:Int))=true,
  n=n,(0:Nat)=(0:Nat),m=m,m=m,IntKind.i64.wrap (i+(1:Int))=i',
  (zs.set ((0:Nat)+i.toNat*(1:Nat)) (IntKind.u8.wrap (IntKind.i64.wrap ((161:Int)+i.tmod (7:Int))))).set ((0:Nat)+i.toNat*(1:Nat)) (xs.getD i.toNat (0:Int))=zs' /\
   (5:TypeId)=(5:TypeId)]):=by kernel_rfl
theorem aWe (xs zs zs':List Int) (n m:Nat) (i i':Int) :
 (fL 100 Tryz.f8.ntmps (bH 100 (xT xs)) [] (Hu n m i') (Ht zs') 101 [] [] (rmM xs (.go TL) [] ((cA (Hu n m i) (Ht zs) 101 [] []).hint [true,false]))) =
 some (.at .normal,[],
  [decide (i<(↑n:Int))=false,(0:Nat)+i.toNat*(1:Nat)<zs.length,(0:Int)<=i/\i<(↑m:Int),decide (i<(↑m:Int))=true,n=n,(0:Nat)=(0:Nat),m=m,m=m,
  IntKind.i64.wrap (i+(1:Int))=i',zs.set ((0:Nat)+i.toNat*(1:Nat)) (IntKind.u8.wrap (IntKind.i64.wrap ((161:Int)+i.tmod (7:Int))))=zs'/\(5:TypeId)=(5:TypeId)]):=by kernel_rfl
theorem aWd (xs zs zs':List Int) (n m:Nat) (i i':Int) :
 (fL 100 Tryz.f8.ntmps (bH 100 (xT xs)) [] (Hu n m i') (Ht zs') 101 [] [] (rmM xs (.go TL) [] ((cA (Hu n m i) (Ht zs) 101 [] []).hint [false]))) =
 some (.at (.exit 0),[],
  [decide (i<(↑m:Int))=false,n=n,(0:Nat)=(0:Nat),m=m,m=m,i=i',zs=zs'/\(5:TypeId)=(5:TypeId)]):=by kernel_rfl
theorem aWc (xs zs:List Int) (n m:Nat) (i:Int) :
 sX qN (xT xs) 100 100 Tryz.f8 [] (rmM xs (.at (.exit 0)) rmK ((cA (Hu n m i) (Ht zs) 101 [] []).hint [])) =
 some { val:=SV.aH 100 false 0 m m,new:=[SB.ints IntKind.u8 zs 5] }:=by kernel_rfl
noncomputable def saM (xs ys:List Int) (cf:Cf) (K:List Fr) (s:St):Option pU:=gY qN (bH 100 (Xp xs ys)) 100 Tryz.f11.ntmps [4] 400 3000 cf K s
def Ei (la lb:Nat):List SV:=[.eV 61 la,.eV 62 lb]
def sB (la lb:Nat) (i:Int):List (Nat × SV):=[(0,.eV 61 la),(1,.eV 62 lb),(5,.int false .i64 i)]
noncomputable def saR:Option pU:=saM [] [] (.go (codeOf Tryz.f11)) [] ((zJ (Ei 0 0) 100).hint [false])
noncomputable def aFm:Code:=Ew saR
noncomputable def saK:List Fr:=Ev saR
theorem aWb (xs ys:List Int) (la lb:Nat) (i:Int) :
 (fL 100 Tryz.f11.ntmps (bH 100 (Xp xs ys)) [] (sB la lb i) [] 100 [] [] (saM xs ys (.go (codeOf Tryz.f11)) [] ((zJ (Ei la lb) 100).hint [false]))) =
 some (.go (.loop aFm),saK,
  [((↑la:Int) != (↑lb:Int))=false,la=la,lb=lb,(0:Int)=i]):=by kernel_rfl
theorem aWa (xs ys:List Int) (la lb:Nat) (i i':Int) :
 (fL 100 Tryz.f11.ntmps (bH 100 (Xp xs ys)) [] (sB la lb i') [] 100 [] [] (saM xs ys (.go aFm) [] ((cA (sB la lb i) [] 100 [] []).hint [true,false]))) =
 some (.at .normal,[],
  [(xs.getD i.toNat (0:Int) != ys.getD i.toNat (0:Int))=false,i.toNat<ys.length,(0:Int)<=i/\i<(↑lb:Int),i.toNat<xs.length,(0:Int)<=i/\i<(↑la:Int),
  decide (i<(↑la:Int))=true,la=la,lb=lb,IntKind.i64.wrap (i+(1:Int))=i']):=by kernel_rfl
theorem aVz (xs ys:List Int) (la lb:Nat) (i i':Int) :
 (fL 100 Tryz.f11.ntmps (bH 100 (Xp xs ys)) [] (sB la lb i') [] 100 [] [] (saM xs ys (.go aFm) [] ((cA (sB la lb i) [] 100 [] []).hint [false]))) =
 some (.at (.exit 0),[],
  [decide (i<(↑la:Int))=false,la=la,lb=lb,i=i']):=by kernel_rfl
theorem aVy (xs ys:List Int) (la lb:Nat) (i:Int) :
 sX qN (Xp xs ys) 100 100 Tryz.f11 [] (saM xs ys (.at (.exit 0)) saK ((cA (sB la lb i) [] 100 [] []).hint [])) =
 some { val:=SV.bool true true }:=by kernel_rfl
noncomputable def sdM (xs ys:List Int) (cf:Cf) (K:List Fr) (s:St):Option pU:=gY qN (bH 100 (Xp xs ys)) 100 Tryz.f13.ntmps [2] 400 3000 cf K s
noncomputable def sdR:Option pU:=sdM [] [] (.go (codeOf Tryz.f13)) [] ((zJ (Ei 0 0) 100).hint [])
noncomputable def TJ:Code:=Ew sdR
noncomputable def sdK:List Fr:=Ev sdR
theorem aVw (xs ys:List Int) (la lb:Nat) (i:Int) :
 (fL 100 Tryz.f13.ntmps (bH 100 (Xp xs ys)) [] (sB la lb i) [] 100 [] [] (sdM xs ys (.go (codeOf Tryz.f13)) [] ((zJ (Ei la lb) 100).hint []))) =
 some (.go (.loop TJ),sdK,
  [la=la,lb=lb,(0:Int)=i]):=by kernel_rfl
theorem aVv (xs ys:List Int) (la lb:Nat) (i i':Int) :
 (fL 100 Tryz.f13.ntmps (bH 100 (Xp xs ys)) [] (sB la lb i') [] 100 [] [] (sdM xs ys (.go TJ) [] ((cA (sB la lb i) [] 100 [] []).hint [true,true,false,false]))) =
 some (.at .normal,[],
  [decide (i>=(↑lb:Int))=false,(xs.getD i.toNat (0:Int) != ys.getD i.toNat (0:Int))=false,i.toNat<ys.length,(0:Int)<=i/\i<(↑lb:Int),i.toNat<xs.length,
  (0:Int)<=i/\i<(↑la:Int),decide (i<(↑lb:Int))=true,decide (i<(↑la:Int))=true,la=la,lb=lb,IntKind.i64.wrap (i+(1:Int))=i']):=by kernel_rfl
theorem aVu (xs ys:List Int) (la lb:Nat) (i i':Int) :
 (fL 100 Tryz.f13.ntmps (bH 100 (Xp xs ys)) [] (sB la lb i') [] 100 [] [] (sdM xs ys (.go TJ) [] ((cA (sB la lb i) [] 100 [] []).hint [true,false,true,false]))) =
 some (.at .normal,[],
  [(xs.getD i.toNat (0:Int) != IntKind.u8.wrap (IntKind.i64.wrap ((161:Int)+i.tmod (7:Int))))=false,i.toNat<xs.length,(0:Int)<=i/\i<(↑la:Int),decide (i>=(↑lb:Int))=true,
  decide (i<(↑lb:Int))=false,decide (i<(↑la:Int))=true,la=la,lb=lb,IntKind.i64.wrap (i+(1:Int))=i']):=by kernel_rfl
theorem aVt (xs ys:List Int) (la lb:Nat) (i i':Int) :
 (fL 100 Tryz.f13.ntmps (bH 100 (Xp xs ys)) [] (sB la lb i') [] 100 [] [] (sdM xs ys (.go TJ) [] ((cA (sB la lb i) [] 100 [] []).hint [false]))) =
 some (.at (.exit 0),[],
  [decide (i<(↑la:Int))=false,la=la,lb=lb,i=i']):=by kernel_rfl
theorem aVs (xs ys:List Int) (la lb:Nat) (i:Int) :
 sX qN (Xp xs ys) 100 100 Tryz.f13 [] (sdM xs ys (.at (.exit 0)) sdK ((cA (sB la lb i) [] 100 [] []).hint [])) =
 some { val:=SV.bool true true }:=by kernel_rfl
namespace Q
def mk (i:Nat):Int:=IntKind.u8.wrap (IntKind.i64.wrap (161+(i:Int).tmod 7))
def kM (xs:List Int):List Int:=xs++(List.range 70).map fun j=>mk (xs.length+j)
theorem tP (xs:List Int):(kM xs).length=xs.length+70:=by simp [kM]
theorem IL (xs:List Int) {i:Nat} (h:i<xs.length):(kM xs).getD i 0=xs.getD i 0:=by
 simp [kM,List.getD_eq_getElem?_getD,List.getElem?_append_left h]
theorem IM (xs:List Int) {i:Nat} (h:xs.length<=i) (h2:i<xs.length+70):(kM xs).getD i 0=mk i:=by
 have e:i-xs.length<70:=by omega
 simp [kM,List.getD_eq_getElem?_getD,List.getElem?_append_right h,e]
 congr 1;omega
theorem aKb (i:Nat):0<=mk i/\mk i<256:=by
 unfold mk
 rw [IntKind.wrap_u8]
 omega
def wZ (zs:List Int) (n i:Nat):List Int:=zs.take i++List.replicate (n-i) 0
theorem aHs (zs:List Int) (n:Nat):wZ zs n 0=List.replicate n 0:=by simp [wZ]
theorem KK {zs:List Int} {n:Nat} (h:zs.length=n):wZ zs n n=zs:=by simp [wZ,<- h]
theorem Nz {zs:List Int} {n i:Nat} (h:zs.length=n) (hi:i<=n):(wZ zs n i).length=n:=by
 simp [wZ,h];omega
theorem Mn {zs:List Int} {n i:Nat} (h:zs.length=n) (hi:i<n):(wZ zs n i).set i (zs.getD i 0)=wZ zs n (i+1):=by
 unfold wZ
 have hl:(zs.take i).length=i:=by rw [List.length_take];omega
 rw [List.set_append_right _ _ (by omega),hl,Nat.sub_self,show n-i=(n-(i+1))+1 by omega,List.replicate_succ,List.set_cons_zero]
 have e:zs.take (i+1)=zs.take i++[zs.getD i 0]:=by
  rw [List.take_add_one,List.getD_eq_getElem?_getD,List.getElem?_eq_getElem (by omega)];rfl
 rw [e,List.append_assoc];rfl
end Q
theorem aJh (xs:List Int) (hl:xs.length<=1073741824) (Γ:Env) (hg:Γ.aR=aB):aE Tryz.prog Γ 8 [.eV 61 xs.length] (xT xs) 100 100 { val:=.aH 100 false 0 (xs.length+70) (xs.length+70),new:=[.ints .u8 (Q.kM xs) 5] }:=by
 refine aE.words (Γ:=qN) (vs:=aFo xs.length) ?_ (by rw [hg];rfl) (fun _=>rfl) (fun _ _ h=>h) (fun _=>rfl) rfl rfl
 have aT:=uO
 have aX:=uP
 have hL:=Q.tP xs
 have w70:IntKind.i64.wrap ((xs.length:Int)+70)=((xs.length+70:Nat):Int):=by rw [IntWalk.i64_in _ (by omega)];omega
 refine gQ aT aX Tryz.func8 (by kernel_rfl) rfl (Nat.le_of_ble_eq_true (by kernel_rfl)) rfl [] ?_
 intro w0 M V0 Q' hb H
 refine G.fL aT aX mix hb [] (aWg xs (Q.wZ (Q.kM xs) (xs.length+70) 0) xs.length (xs.length+70) 0) (aA ?_) ?_
 .rw [w70,Int.toNat_natCast]
  exact ⟨by omega,rfl,rfl,rfl,rfl,rfl,⟨(Q.aHs _ _).symm,rfl⟩,trivial⟩
 refine G.loop (fun r s=>∃ i:Nat,i<=xs.length+70/\r=xs.length+70-i/\s=cA (Hu xs.length (xs.length+70) i) (Ht (Q.wZ (Q.kM xs) (xs.length+70) i)) 101 [] []) (r0:=xs.length+70) ⟨0,by omega,rfl,rfl⟩ ?_
 rintro r s ⟨i,hi,rfl,rfl⟩
 have QZ:=Q.Nz hL hi
 have w1:IntKind.i64.wrap ((i:Int)+1)=((i+1:Nat):Int):=by rw [IntWalk.i64_in _ (by omega)];omega
 by_cases h:i<xs.length+70
 .by_cases h1:i<xs.length
  .refine G.lF aT aX mix hb [true,true] (aWf xs _ (Q.wZ (Q.kM xs) (xs.length+70) (i+1)) xs.length (xs.length+70) i ((i+1:Nat):Int)) (aA ?_) (xs.length+70-(i+1)) (by omega) ⟨i+1,by omega,rfl,rfl⟩
   have e1:0+(i:Int).toNat*1=i:=by omega
   rw [e1,Int.toNat_natCast]
   refine ⟨by rw [List.length_set,QZ];exact h,by omega,h1,by omega,decide_eq_true (by omega),by rw [QZ];exact h,by omega,decide_eq_true (by omega),rfl,rfl,rfl,rfl,w1,⟨?_,rfl⟩,trivial⟩
   rw [List.set_set,<- Q.IL xs h1,Q.Mn hL h]
  .refine G.lF aT aX mix hb [true,false] (aWe xs _ (Q.wZ (Q.kM xs) (xs.length+70) (i+1)) xs.length (xs.length+70) i ((i+1:Nat):Int)) (aA ?_) (xs.length+70-(i+1)) (by omega) ⟨i+1,by omega,rfl,rfl⟩
   have e1:0+(i:Int).toNat*1=i:=by omega
   rw [e1]
   refine ⟨decide_eq_false (by omega),by rw [QZ];exact h,by omega,decide_eq_true (by omega),rfl,rfl,rfl,rfl,w1,⟨?_,rfl⟩,trivial⟩
   rw [<- Q.Mn hL h,Q.IM xs (by omega) h]
   rfl
 .have e:i=xs.length+70:=by omega
  subst e
  refine G.fL aT aX mix hb [false] (aWd xs _ (Q.kM xs) xs.length (xs.length+70) _ ((xs.length+70:Nat):Int)) (aA ?_) (G.leave (by simp) ?_)
  .exact ⟨decide_eq_false (by omega),rfl,rfl,rfl,rfl,rfl,⟨Q.KK hL,rfl⟩,trivial⟩
  exact G.qR (cl:=[]) aT aX mix [] H (aWc xs _ xs.length (xs.length+70) _) iF rfl rfl rfl
theorem YC (xs:List Int) (hl:xs.length<=1073741824) (Γ:Env) (hg:Γ.aR=aB):aE Tryz.prog Γ 11 (Ei xs.length xs.length) (Xp xs xs) 100 100 { val:=.bool true true }:=by
 refine aE.words (Γ:=qN) (vs:=Ei xs.length xs.length) ?_ (by rw [hg];rfl) (fun _=>rfl) (fun _ _ h=>h) (fun _=>rfl) rfl rfl
 have aT:=uO
 have aX:=uP
 refine gQ aT aX Tryz.func11 (by kernel_rfl) rfl (Nat.le_of_ble_eq_true (by kernel_rfl)) rfl [] ?_
 intro w0 M V0 Q' hb H
 refine G.fL aT aX mix hb [false] (aWb xs xs xs.length xs.length 0) (aA ⟨by simp,rfl,rfl,rfl,trivial⟩) ?_
 refine G.loop (fun r s=>∃ i:Nat,i<=xs.length/\r=xs.length-i/\s=cA (sB xs.length xs.length i) [] 100 [] []) (r0:=xs.length) ⟨0,by omega,rfl,rfl⟩ ?_
 rintro r s ⟨i,hi,rfl,rfl⟩
 by_cases h:i<xs.length
 .refine G.lF aT aX mix hb [true,false] (aWa xs xs xs.length xs.length i ((i+1:Nat):Int)) (aA ?_) (xs.length-(i+1)) (by omega) ⟨i+1,by omega,rfl,rfl⟩
  rw [Int.toNat_natCast]
  exact ⟨by simp,h,by omega,h,by omega,decide_eq_true (by omega),rfl,rfl,by rw [IntWalk.i64_in _ (by omega)];omega,trivial⟩
 .have e:i=xs.length:=by omega
  subst e
  refine G.fL aT aX mix hb [false] (aVz xs xs xs.length xs.length _ _) (aA ⟨decide_eq_false (by omega),rfl,rfl,rfl,trivial⟩) (G.leave (by simp) ?_)
  exact G.qR (cl:=[]) aT aX mix [] H (aVy xs xs xs.length xs.length _) iF rfl rfl rfl
theorem YB (ys:List Int) (hl:ys.length<=1073741824) (Γ:Env) (hg:Γ.aR=aB):aE Tryz.prog Γ 13 (Ei (Q.kM ys).length ys.length) (Xp (Q.kM ys) ys) 100 100 { val:=.bool true true }:=by
 refine aE.words (Γ:=qN) (vs:=Ei (Q.kM ys).length ys.length) ?_ (by rw [hg];rfl) (fun _=>rfl) (fun _ _ h=>h) (fun _=>rfl) rfl rfl
 have aT:=uO
 have aX:=uP
 have hL:=Q.tP ys
 refine gQ aT aX Tryz.func13 (by kernel_rfl) rfl (Nat.le_of_ble_eq_true (by kernel_rfl)) rfl [] ?_
 intro w0 M V0 Q' hb H
 refine G.fL aT aX mix hb [] (aVw (Q.kM ys) ys (Q.kM ys).length ys.length 0) (aA ⟨rfl,rfl,rfl,trivial⟩) ?_
 refine G.loop (fun r s=>∃ i:Nat,i<=(Q.kM ys).length/\r=(Q.kM ys).length-i/\s=cA (sB (Q.kM ys).length ys.length i) [] 100 [] []) (r0:=(Q.kM ys).length) ⟨0,by omega,rfl,rfl⟩ ?_
 rintro r s ⟨i,hi,rfl,rfl⟩
 have w1:IntKind.i64.wrap ((i:Int)+1)=((i+1:Nat):Int):=by rw [IntWalk.i64_in _ (by omega)];omega
 by_cases h:i<(Q.kM ys).length
 .by_cases h1:i<ys.length
  .refine G.lF aT aX mix hb [true,true,false,false] (aVv (Q.kM ys) ys (Q.kM ys).length ys.length i ((i+1:Nat):Int)) (aA ?_) ((Q.kM ys).length-(i+1)) (by omega) ⟨i+1,by omega,rfl,rfl⟩
   rw [Int.toNat_natCast,Q.IL ys h1]
   exact ⟨decide_eq_false (by omega),by simp,h1,by omega,h,by omega,decide_eq_true (by omega),decide_eq_true (by omega),rfl,rfl,w1,trivial⟩
  .refine G.lF aT aX mix hb [true,false,true,false] (aVu (Q.kM ys) ys (Q.kM ys).length ys.length i ((i+1:Nat):Int)) (aA ?_) ((Q.kM ys).length-(i+1)) (by omega) ⟨i+1,by omega,rfl,rfl⟩
   rw [Int.toNat_natCast,Q.IM ys (by omega) (by omega)]
   exact ⟨by unfold Q.mk;simp,h,by omega,decide_eq_true (by omega),decide_eq_false (by omega),decide_eq_true (by omega),rfl,rfl,w1,trivial⟩
 .have e:i=(Q.kM ys).length:=by omega
  subst e
  refine G.fL aT aX mix hb [false] (aVt (Q.kM ys) ys (Q.kM ys).length ys.length _ _) (aA ⟨decide_eq_false (by omega),rfl,rfl,rfl,trivial⟩) (G.leave (by simp) ?_)
  exact G.qR (cl:=[]) aT aX mix [] H (aVs (Q.kM ys) ys (Q.kM ys).length ys.length _) iF rfl rfl rfl
structure Za (rm:List Int->List Int) (xs:List Int):Prop where
 h:rm xs=Q.kM xs
def FK (rm:List Int->List Int) (vs:List SV) (T:aZ):Option Canon:=match vs with
 | [a]=>match cW T .u8 a with
   | some (oa,xs)=>some { eR:=[.eV 61 xs.length],T0:=[(61,.gO .u8 xs)],vl:=[(61,.arg 0)],e0:={ val:=.aH 100 false 0 (xs.length+70) (xs.length+70),new:=[.ints .u8 (rm xs) 5] },conds:=Za rm xs::(xs.length<=1073741824)::oa }
   | none=>none
 | _=>none
theorem aJg (rm:List Int->List Int) (Γ:Env) (hg:Γ.aR=aB):aI Tryz.prog Γ 8 (aL aB 100 (FK rm)):=by
 refine aW hg fun vs T c hd hc=>?_
 unfold FK at hd
 split at hd
 case h_2=>cases hd
 split at hd
 case h_2=>cases hd
 cases hd
 have e:rm _=_:=Za.h (hc _ cM)
 rw [e]
 have h:=aJh _ (hc _ (List.mem_cons_of_mem _ cM)) Γ hg
 exact h
def FG (vs:List SV) (T:aZ):Option Canon:=match vs with
 | [a,b]=>match cW T .u8 a,cW T .u8 b with
   | some (oa,xs),some (ob,ys)=>some { eR:=Ei xs.length ys.length,T0:=[(61,.gO .u8 xs),(62,.gO .u8 ys)],vl:=[(61,.arg 0),(62,.arg 1)],e0:={ val:=.bool true true },conds:=(xs=ys)::(xs.length<=1073741824)::(oa++ob) }
   | _,_=>none
 | _=>none
theorem aJe (Γ:Env) (hg:Γ.aR=aB):aI Tryz.prog Γ 11 (aL aB 100 FG):=by
 refine aW hg fun vs T c hd hc=>?_
 unfold FG at hd
 split at hd
 case h_2=>cases hd
 split at hd
 case h_2=>cases hd
 cases hd
 have e:=hc _ cM
 subst e
 exact YC _ (hc _ (List.mem_cons_of_mem _ cM)) Γ hg
def FF (rm:List Int->List Int) (vs:List SV) (T:aZ):Option Canon:=match vs with
 | [a,b]=>match cW T .u8 a,cW T .u8 b with
   | some (oa,xs),some (ob,ys)=>some { eR:=Ei xs.length ys.length,T0:=[(61,.gO .u8 xs),(62,.gO .u8 ys)],vl:=[(61,.arg 0),(62,.arg 1)],e0:={ val:=.bool true true },conds:=Za rm ys::(xs=rm ys)::(ys.length<=1073741824)::(oa++ob) }
   | _,_=>none
 | _=>none
theorem aJd (rm:List Int->List Int) (Γ:Env) (hg:Γ.aR=aB):aI Tryz.prog Γ 13 (aL aB 100 (FF rm)):=by
 refine aW hg fun vs T c hd hc=>?_
 unfold FF at hd
 split at hd
 case h_2=>cases hd
 split at hd
 case h_2=>cases hd
 cases hd
 have e:=(hc _ (List.mem_cons_of_mem _ cM)).trans (Za.h (hc _ cM))
 subst e
 exact YB _ (hc _ (List.mem_cons_of_mem _ (List.mem_cons_of_mem _ cM))) Γ hg
namespace Q
def kK:List Int:=(List.range 32).map fun i:Nat=>(i:Int)
def kP:List Int:=[107,101,101,108,32,97,110,100,32,114,117,100,100,101,114]
def kA:List Int:=[115,104,105,112]
def kC:List Int:=[154,106,225,36,2,137,20,237,66,68,59,87,152,237,98]
def kT:List Int:=[0,98,205,48,40,219,225,210,196,107,155,214,5,237,28,14]
def kB0:List Int:=[72,15,68,63,233,219,184,50,86,10,117,26,79,242,154,247,20,127,153,159,219,118,154,182,97,240,235,115,179,108,231,200,237,36,254,233,72,30,182,94,186,75,77,247,248,11,1,33,224,17,34,23,233,202,21,0,247,75,204,32,117,101,148,119]
def kB1:List Int:=[241,15,132,72,34,232,122,137,98,54,78,51,252,136,16,154,50,157,162,65,241,237,9,5,170,154,51,231,231,233,215,28,16,45,150,25,202,231,243,25,185,24,65,232,84,228,122,26,212,103,39,238,9,119,216,36,255,99,12,160,239,85,52,6]
theorem aSv:B.block kK [0,0,0,0,7,0,0,0,0,0,0,0] 0=kB0:=by kernel_rfl
theorem aSu:B.block kK [0,0,0,0,7,0,0,0,0,0,0,0] 1=kB1:=by kernel_rfl
theorem aOr:M.nonce 7=[0,0,0,0,7,0,0,0,0,0,0,0]:=by kernel_rfl
theorem Gi {key nonce:List Int} {c:Int} {xs:List Int} (h:xs.length<=64):cG key nonce c 0 xs.length xs=(List.range xs.length).map fun i=>iK .u8 (xs.getD i 0) ((B.block key nonce (IntKind.u32.wrap (c+0))).getD i 0):=by
 refine Fy (n:=xs.length) (fK _ _ _ _ _ _) (by simp) fun i hi=>?_
 rw [oV _ _ _ _ _ _ hi,if_pos (by omega),Nat.sub_zero]
 unfold zB
 rw [show i/64=0 by omega,show i%64=i by omega]
 simp [List.getD_eq_getElem?_getD,hi]
theorem aEm:cx kK 7 kP=kC:=by
 unfold cx
 rw [Gi (by decide),aOr,show IntKind.u32.wrap (1+0)=1 by decide,aSu]
 decide
theorem aAa:M.once kK 7=kB0.take 32:=by
 have h:=Gi (key:=kK) (nonce:=[0,0,0,0,7,0,0,0,0,0,0,0]) (c:=0) (xs:=List.replicate 32 0) (by decide)
 unfold M.once
 rw [aOr]
 rw [show IntKind.u32.wrap (0+0)=0 by decide,aSv] at h
 exact h.trans (by decide)
theorem aKp:M.tag (kB0.take 32) (M.Xz kA 4 kC 15)=kT:=by kernel_rfl
theorem aEl:tg kK 7 kA kC=kT:=by
 unfold tg
 rw [aAa]
 exact aKp
end Q
theorem aNf:aJ (env gB 22) Tryz.f30 true [] 4000 [] (fun _=>none) 100 100=some { val:=.agg (Q.kK.map (SV.int true .u8)) }:=by kernel_rfl
theorem aCv (Γ:Env) (hg:Γ.aR=aB):aE Tryz.prog Γ 30 [] (fun _=>none) 100 100 { val:=.ai .u8 Q.kK }:=
 ((aN (bQ gB 22) (bW gB gL 22) mix Tryz.func30 (by kernel_rfl) true [] 4000:aI Tryz.prog (env gB 22) 30 _).call aNf (by simp)).words (by rw [hg];rfl) (fun _=>rfl) (fun _ _ h=>h) (fun _=>rfl) rfl rfl
structure Zc (kk:List Int):Prop where
 h:kk=Q.kK
def HS (kk:List Int) (vs:List SV) (_:aZ):Option Canon:=match vs with
 | []=>some { eR:=[],T0:=[],vl:=[],e0:={ val:=.ai .u8 kk },conds:=[Zc kk] }
 | _=>none
theorem aNe (kk:List Int) (Γ:Env) (hg:Γ.aR=aB):aI Tryz.prog Γ 30 (aL aB 100 (HS kk)):=by
 refine aW hg fun vs T c hd hc=>?_
 unfold HS at hd
 split at hd
 case h_2=>cases hd
 cases hd
 have e:kk=Q.kK:=Zc.h (hc _ cM)
 rw [e]
 exact aCv Γ hg
def TP (n:Int):Nat:=match Int.toNat n with
 | 25=>2
 | _=>0
noncomputable def aGr (kk:List Int) (sb:zQ) (ob:yS):Nat->Option Sum:=dM (dM (dM gB 30 (aL aB 100 (HS kk))) 9 (aL aB 100 (Un sb TP))) 12 (aL aB 100 (Ur ob TP))
def knF:List Bool:=[false,false,false,false,false,false,false]
def knB:List Int:=Q.kP++List.replicate 25 0
def aOs:List UInt8:=[107,101,101,108,32,97,110,100,32,114,117,100,100,101,114]
def knO (e:Nat) (kk C D:List Int) (r:List Prop):List Prop:=
 ((!((Lm (D.take 15)).toList==(⟨aOs.toArray⟩:ByteArray).toList))=false)::(15<=D.length)::(false=false)::dE e::((D.take 40).length<=500000000)::tL (D.take 40).length 25 2 ::
 (40<=D.length/\40<=40)::(kk=kk)::((7:Int)=7)::(0=0)::(40<=D.length/\40<=40)::((D.take 40).length=(D.take 40).length)::((25:Int)=25)::(D.take 40=D.take 40)::(40<=D.length/\40<=40)::(([]:List Int)=[])::Zc kk ::
 EM (fun _ _ _ _ _=>D) true kk 7 C 15::dE e::(kk.length=32)::bR Q.kA::bR C::(4<=500000000)::(31<=40)::(40<=40)::(40<=C.length)::(40<=500000000)::Me true kk 7 Q.kA C 15 ::
 (4<=4/\4<=4)::(kk=kk)::((7:Int)=7)::(4<=4/\4<=4)::(4=4)::(0=0)::(40=40)::(40=40)::((31:Int)=31)::(C=C/\5=5)::(Q.kA=Q.kA)::(4<=4/\4<=4)::Zc kk ::
 ((C.getD 31 0 != 0)=false)::(32<=C.length)::((C.getD 30 0 != 14)=false)::(31<=C.length)::((C.getD 0 0 != 154)=false)::(1<=C.length)::(false=false) ::
 EL (fun _ _ _ _ _=>C) kk 7 Q.kA knB 15::dE e::(kk.length=32)::bR Q.kA::bR knB::(4<=500000000)::(31<=40)::(40<=40)::(40<=40)::(40<=500000000)::(4<=4/\4<=4)::(kk=kk)::((7:Int)=7)::(4<=4/\4<=4)::(4=4)::(0=0)::(40=40)::(40=40)::((15:Int)=15) ::
 (knB=knB/\5=5)::(Q.kA=Q.kA)::(4<=4/\4<=4)::Zc kk::(0<=0/\15<=40)::r
theorem aKq (kk C D:List Int):aJ (env (aGr kk (fun _ _ _ _ _=>C) (fun _ _ _ _ _=>D)) 22) Tryz.f14 true (knF++knF) 4000 [] (fun l=>look l SM) 100 100 =
 some { val:=.bool true true,bK:=knO 1 kk C D (knO 2 kk C D []) }:=by kernel_rfl
def erP (t:List UInt8):SB:=.fN [.raw (.string ⟨t.toArray⟩)]
def erO:List (Nat × SB):=[(40,erP [112,105,110,116,108,101,58,32,97,114,103,117,109,101,110,116]),(42,erP [112,105,110,116,108,101,58,32,110,111,32,114,111,111,109]),(44,erP [112,105,110,116,108,101,58,32,116,111,111,32,115,104,111,114,116]),(48,erP [112,105,110,116,108,101,58,32,110,111,116,32,97,117,116,104,101,110,116,105,99])]
def GL (vs:List SV) (_:aZ):Option Canon:=match vs with
 | []=>some { eR:=[],T0:=SM,vl:=EK,e0:={ val:=.bool true true },conds:=[] }
 | _=>none
def Pa:List Int:=Q.kC++(Q.kT++List.replicate 9 0)
def QV:List Int:=Q.kP++(Q.kT++List.replicate 9 0)
theorem aSw:bR Q.kP:=by unfold bR Bt Q.kP;decide
theorem ZY:Q.iL Q.kK 7 Q.kA knB 15=Pa:=by
 have h:=Q.Dh Q.kK 7 Q.kA Q.kP (List.replicate 16 0) (List.replicate 9 0) (by simp)
 rw [Q.aEm,Q.aEl] at h
 exact h
theorem ZZ:Q.mV Q.kK 7 Pa 15=QV:=by
 have h:=Q.Dm Q.kK 7 Q.kC (Q.kT++List.replicate 9 0)
 have e:Q.cx Q.kK 7 Q.kC=Q.kP:=by rw [<- Q.aEm,Q.aEy _ _ aSw]
 rw [e] at h
 exact h
theorem aSt:∀ q∈knO 1 Q.kK Pa QV (knO 2 Q.kK Pa QV []),q:=by
 have tx:(!((Lm (QV.take 15)).toList==(⟨aOs.toArray⟩:ByteArray).toList))=false:=by kernel_rfl
 have ls:tL (QV.take 40).length 25 2:=by unfold tL;exact ⟨by decide,by decide,by decide⟩
 have hO:EM (fun _ _ _ _ _=>QV) true Q.kK 7 Pa 15:=⟨ZZ.symm⟩
 have hS:EL (fun _ _ _ _ _=>Pa) Q.kK 7 Q.kA knB 15:=⟨ZY.symm⟩
 have hT:Me true Q.kK 7 Q.kA Pa 15:=⟨by
  have e1:Pa.take 15=Q.kC:=by decide
  have e2:(Pa.drop 15).take 16=Q.kT:=by decide
  rw [e1,e2,Q.aEl];exact decide_eq_true rfl⟩
 have h1:dE 1:=.inr (.inl rfl)
 have h2:dE 2:=.inr (.inr rfl)
 have b1:bR Q.kA:=by unfold bR Bt Q.kA;decide
 have b2:bR Pa:=by unfold bR Bt Pa;decide
 have b3:bR knB:=by unfold bR Bt knB;decide
 have c1:Zc Q.kK:=⟨rfl⟩
 have g:∀ e,dE e->∀ r:List Prop,(∀ q∈r,q)->∀ q∈knO e Q.kK Pa QV r,q:=fun e he r hr=>by
  unfold knO
  repeat' (first | exact hr | refine aO ?_ ?_)
  all_goals first | assumption | rfl | decide | exact ⟨rfl,rfl⟩
 exact g 1 h1 _ (g 2 h2 _ iF)
theorem aCc (kk:List Int) (sb:zQ) (ob:yS):∀ f S,aGr kk sb ob f=some S->∀ Γ:Env,Γ.aR=aB->aI Tryz.prog Γ f S:=
 bD (bD (bD gL 30 _ (aNe kk)) 9 _ (IK sb TP)) 12 _ (IY ob TP)
theorem aAb (Γ:Env) (hg:Γ.aR=aB):aE Tryz.prog Γ 14 [] (fun l=>look l SM) 100 100 { val:=.bool true true }:=
 ((aN (bQ _ 22) (bW _ (aCc Q.kK (fun _ _ _ _ _=>Pa) (fun _ _ _ _ _=>QV)) 22) mix Tryz.func14 (by kernel_rfl) true (knF++knF) 4000:aI Tryz.prog (env (aGr Q.kK (fun _ _ _ _ _=>Pa) (fun _ _ _ _ _=>QV)) 22) 14 _).call (aKq Q.kK Pa QV) aSt).words (by rw [hg];rfl) (fun _=>rfl) (fun _ _ h=>h) (fun _=>rfl) rfl rfl
theorem aKo (Γ:Env) (hg:Γ.aR=aB):aI Tryz.prog Γ 14 (aL aB 100 GL):=by
 refine aW hg fun vs T c hd hc=>?_
 unfold GL at hd
 split at hd
 case h_2=>cases hd
 cases hd
 exact aAb Γ hg
section
variable {w0 w:World} {M:Nat->Prop} {V:aY} {T:aZ} {lab:Nat}
theorem Wr:∀ {us:List Value} {k:IntKind},(∀ x∈us,∃ n,x=Value.int k n)->∃ ms:List Int,us=ms.map (Value.int k)
 | [],_,_=>⟨[],rfl⟩
 | u::us,k,h=>by
   obtain ⟨n,rfl⟩:=h u cM
   obtain ⟨ms,rfl⟩:=Wr fun x hx=>h x (List.mem_cons_of_mem _ hx)
   exact ⟨n::ms,rfl⟩
theorem aC.grown (h:aC w0 M V T w) (hf:V.fresh lab) (jY:∀ k,lab<=k->T k=none) {l:Nat} {k:IntKind} {xs:List Int} {el:TypeId} (hl:T l=some (.cT k xs el)) (Em:0<xs.length) {x:Value} (hx:den V (.buf l)=some x) :
 ∃ cap zs,xs.length+zs.length=cap/\cap<=maxLen/\∃ V',V.ext lab V'/\den V' (.aH lab false 0 xs.length cap)=some x/\aC w0 M V' (eE T lab { val:=.aH lab false 0 xs.length cap,new:=[.ints k (xs++zs) el],wr:=[(l,.gone)] }) w:=by
 obtain ⟨us,pA,u,hσ,bL,hI⟩:=h.ok l _ hl
 cases pA
 have hx':u=x:=by simpa [den,hσ] using hx
 subst hx'
 rcases bL.2 with ⟨_,h0⟩ | ⟨b,cap,cur,rfl,_,hh,hle,qC,lX,cR⟩
 .omega
 have cJ:l<lab:=Nat.lt_of_not_le fun q=>by rw [jY l q] at hl;cases hl
 obtain ⟨UZ,ty2,p2,uB,kF⟩:=hI b rfl
 rw [hh] at uB
 cases uB
 obtain ⟨ms,Ph⟩:=Wr kF
 have hml:ms.length=cap:=by
  have:=congrArg List.length Ph
  rw [List.length_map,Array.length_toList] at this
  omega
 have lW:ms.take xs.length=xs:=by
  rw [Ph,Nat.mul_one,<- List.map_take] at cR
  exact (List.map_inj_right (fun a b e=>by injection e)).1 cR
 have aKz:xs++ms.drop xs.length=ms:=by
  have:=List.take_append_drop xs.length ms
  rwa [lW] at this
 have bN:=aY.jU hf lab (Nat.le_refl _) (by omega) (b,0)
 have e1:(V.put lab (b,0)).β lab=some (b,0):=by simp [aY.put]
 refine ⟨cap,ms.drop xs.length,by rw [List.length_drop,hml];omega,qC,V.put lab (b,0),bN,by simp [den,e1],?_⟩
 rw [aKz]
 have Ug:SB.aM V l (.cT k xs el)=some b:=by simp [SB.aM,hσ,Value.ownBlock]
 refine h.step (N:=fun q=>if q=lab then some (.ints k ms el) else if q=l then some .gone else none) bN.1 (fun q C hk=>?_) (fun q C hk=>?_) (fun q C p hk hp=>?_) (fun q C q' C' p zC hk gV ho hp=>?_) (Nat.le_refl _) (fun _ _ _=>rfl) rfl rfl rfl
 .simp only [eE,bJ.eG,fO,List.cons_append,List.nil_append] at hk
  by_cases k1:l=q
  .subst k1
   rw [aF] at hk
   left
   simp only [if_neg (show ¬ l=lab by omega),if_true]
   simpa using hk
  .rw [aD k1] at hk
   by_cases k3:lab=q
   .subst k3;rw [aF] at hk;left;simpa using hk
   .rw [aD k3] at hk
    right
    simp only [look] at hk
    exact ⟨by rw [if_neg (fun z=>k3 z.symm),if_neg (fun z=>k1 z.symm)],hk⟩
 .by_cases k1:q=lab
  .rw [if_pos k1] at hk
   cases hk
   subst k1
   exact ⟨_,rfl,b,e1,by rw [hh,<- Ph]⟩
  .rw [if_neg k1] at hk
   by_cases k2:q=l
   .rw [if_pos k2] at hk;cases hk;exact ⟨[],rfl,trivial⟩
   .rw [if_neg k2] at hk;cases hk
 .by_cases k1:q=lab
  .rw [if_pos k1] at hk
   cases hk
   subst k1
   simp only [SB.aM,e1,Option.map_some,aU] at hp
   subst hp
   right;left
   exact ⟨l,_,hl,rfl,Ug,by simp [if_neg (show ¬ l=q by omega)]⟩
  .rw [if_neg k1] at hk
   by_cases k2:q=l
   .rw [if_pos k2] at hk;cases hk;cases hp
   .rw [if_neg k2] at hk;cases hk
 .intro Pg
  by_cases k1:q=lab
  .by_cases k2:q'=lab
   .omega
   .rw [if_neg k2] at gV
    by_cases k3:q'=l
    .rw [if_pos k3] at gV;cases gV;cases Pg
    .rw [if_neg k3] at gV;cases gV
  .rw [if_neg k1] at hk
   by_cases k3:q=l
   .rw [if_pos k3] at hk;cases hk;cases ho
   .rw [if_neg k3] at hk;cases hk
end
noncomputable def JR (F0 N:Nat) (B:aZ) (t cap:Nat) (zs:List Int) (s:St):Option St:=match s.g.get t with
 | some (.buf l)=>match s.T B l with
   | some (.cT k xs el)=>s.step F0 N (some t) { val:=.aH s.nx false 0 xs.length cap,new:=[.ints k (xs++zs) el],wr:=[(l,.gone)] } s.nx (s.nx+8)
   | _=>none
 | _=>none
noncomputable def Qz (F0 N:Nat) (B:aZ) (t cap:Nat) (zs:List Int) (s:St):St:=match JR F0 N B t cap zs s with
 | some s'=>s'
 | none=>s
section
variable {P:Program} {Γ:Env} {w0:World} {M:Nat->Prop} {B:aZ} {N F0:Nat} {V0:aY}
theorem G.grown {t l:Nat} {k:IntKind} {xs:List Int} {el:TypeId} {cf:Cf} {K:List Fr} {s:St} {Q:Exit->Act->World->Prop} (ht:s.g.get t=some (.buf l)) (hB:s.T B l=some (.cT k xs el)) (Em:0<xs.length)
 (hG:∀ cap zs,xs.length+zs.length=cap->cap<=maxLen->G P Γ w0 M B N F0 V0 cf K (Qz F0 N B t cap zs s) Q):G P Γ w0 M B N F0 V0 cf K s Q:=by
 intro V a w hi
 obtain ⟨cap,zs,h1,h2,V',hV,hx,hT⟩:=aC.grown hi.eG hi.top.fresh hi.hi hB Em (hi.tmp t _ ht)
 have hG':=hG cap zs h1 h2
 unfold Qz at hG'
 split at hG'
 .rename_i s' hs
  unfold JR at hs
  rw [ht] at hs
  simp only [hB] at hs
  have:=hi.step (x:=a.eval (.tmp t)) hs (Nat.le_refl _) (Nat.le_refl _) hV (fun _=>hx) hT
  rw [Act.iM] at this
  exact hG' V' a w this
 .exact hG' V a w hi
end
noncomputable def aPp (rm:List Int->List Int) (sb:zQ) (ob:yS) (so oo:Int->Nat):Nat->Option Sum:=dM (dM (dM (dM (dM (dM gB 9 (aL aB 100 (Un sb so))) 12 (aL aB 100 (Ur ob oo))) 8 (aL aB 100 (FK rm))) 11 (aL aB 100 FG)) 13 (aL aB 100 (FF rm))) 14 (aL aB 100 GL)
def Fi:Int->Nat:=fun _=>0
def Lj (x y N:Int) (key:List Int) (la lp lr:Nat):List SV:=[.int false .i64 x,.int false .i64 y,.ai .u8 key,.int false .u64 N,.eV 60 la,.eV 61 lp,.eV 62 lr]
def abL (ad p r:List Int):List (Nat × SB):=[(60,.gO .u8 ad),(61,.gO .u8 p),(62,.gO .u8 r)]++(erO++SM)
def Pl (ad p r:List Int):aZ:=fun l=>look l (abL ad p r)
noncomputable def Eh (rm:List Int->List Int) (sb:zQ) (ob:yS) (so oo:Int->Nat) (e:Nat):Env:=env (dM (aPp rm sb ob so oo) 10 (aL aB 100 (GG e))) 22
noncomputable def abN (rm:List Int->List Int) (sb:zQ) (ob:yS) (e:Nat) (ad p r:List Int) (k:Nat) (cf:Cf) (K:List Fr) (s:St):Option pU:=gY (Eh rm sb ob Fi Fi e) (bH 100 (Pl ad p r)) 100 Tryz.f3.ntmps [] 400 k cf K s
def aPy (x y N:Int) (la lp lr m:Nat):List (Nat × SV):=[(0,.int false .i64 x),(1,.int false .i64 y),(3,.int false .u64 N),(4,.eV 60 la),(5,.eV 61 lp),(6,.eV 62 lr),(9,.ptr 100 true 0),(15,.buf 101),(16,.aH 102 false 0 m m)]
def VC (key X Z:List Int):List (Nat × SB):=[(100,.ints .u8 key 23),(101,.cT .u8 X 5),(102,.ints .u8 Z 5)]
def aPx (y N:Int) (la lp lr n m:Nat):List (Nat × SV):=[(1,.int false .i64 y),(3,.int false .u64 N),(4,.eV 60 la),(5,.eV 61 lp),(6,.eV 62 lr),(9,.ptr 100 true 0),(15,.buf 101),(16,.aH 102 false 0 m m),(17,.int false .i64 (n:Int)),(18,.raw .nilIface)]
def aPw (y N:Int) (la lp lr n m:Nat):List (Nat × SV):=[(1,.int false .i64 y),(3,.int false .u64 N),(4,.eV 60 la),(5,.eV 61 lp),(6,.eV 62 lr),(9,.ptr 100 true 0),(15,.buf 101),(16,.aH 102 false 0 m m),(17,.int false .i64 (n:Int)),(19,.buf 103)]
def aPv (lp lr n m:Nat) (k:Int):List (Nat × SV):=[(5,.eV 61 lp),(6,.eV 62 lr),(15,.buf 100),(16,.aH 101 false 0 m m),(17,.int false .i64 (n:Int)),(18,.raw .nilIface),(19,.buf 102),(20,.int false .i64 k)]
def aQc (key X Z W:List Int):List (Nat × SB):=[(100,.ints .u8 key 23),(101,.cT .u8 X 5),(102,.ints .u8 Z 5),(103,.cT .u8 W 5)]
def aQb (X Z W:List Int):List (Nat × SB):=[(100,.cT .u8 X 5),(101,.ints .u8 Z 5),(102,.cT .u8 W 5)]
def aPu (m:Nat):List (Nat × SV):=[(15,.buf 100),(16,.aH 101 false 0 m m)]
def aQa (X Z:List Int):List (Nat × SB):=[(100,.cT .u8 X 5),(101,.ints .u8 Z 5)]
def aPt (lx cap m:Nat):List (Nat × SV):=[(15,.aH 100 false 0 lx cap),(16,.aH 101 false 0 m m)]
def aPz (Y Z:List Int):List (Nat × SB):=[(100,.ints .u8 Y 5),(101,.ints .u8 Z 5)]
theorem bBq (e:Nat) (he:e=1\/e=2) (rm:List Int->List Int) (sb:zQ) (ob:yS) (x y N:Int) (key ad p r X Z:List Int) (m:Nat) :
 (fL 100 Tryz.f3.ntmps (bH 100 (Pl ad p r)) [] (aPy x y N ad.length p.length r.length m) (VC key X Z) 103 [] [] (abN rm sb ob e ad p r 22 (.go (codeOf Tryz.f3)) [] ((zJ (Lj x y N key ad.length p.length r.length) 100).hint [false,false,false]))) =
 sh (0:Nat) fun z1=>
 sh (16:Nat) fun z3=>
 sh (0:Int) fun z2=>
 sh (List.take z1 []++p++List.replicate z3 z2++r) fun z0=>
 sh (131072:Int) fun z4=>
 sh (140737488355328:Nat) fun z5=>
 some (.go (gG 6 (codeOf Tryz.f3)),[],[Za rm z0,z0.length<=(1073741824:Nat),z0.length=z0.length,List.take z1 []++p++List.replicate z3 z2++r=List.take z1 []++p++List.replicate z3 z2++r,((List.take z1 []++p++List.replicate z3 z2).length+r.length)*(1:Nat)<=z5,z2<(16:Int)/\((↑(List.take z1 []++p).length:Int)+(16:Int))*(1:Int)<=(140737488355328:Int),(z1+p.length)*(1:Nat)<=z5,decide ((↑r.length:Int)>z4)=false,decide ((↑p.length:Int)>z4)=false,decide ((↑ad.length:Int)>z4)=false,x=x,y=y,N=N,ad.length=ad.length,p.length=p.length,r.length=r.length,z1=z1,z0.length+(70:Nat)=m,z0.length+(70:Nat)=m,key=key/\(23:Nat)=(23:TypeId),List.take z1 []++p++List.replicate z3 z2++r=X,rm z0=Z/\(5:TypeId)=(5:TypeId)]):=by rcases he with rfl | rfl <;> kernel_rfl
theorem bBp (e:Nat) (he:e=1\/e=2) (rm:List Int->List Int) (sb:zQ) (ob:yS) (x y N:Int) (key ad p r X Z Z':List Int) (n m lp lr:Nat) :
 (fL 100 Tryz.f3.ntmps (bH 100 (Pl ad p r)) [] (aPx y N ad.length lp lr n m) (VC key X Z') 103 [] [] (abN rm sb ob e ad p r 3 (.go (gG 6 (codeOf Tryz.f3))) [] ((cA (aPy x y N ad.length lp lr m) (VC key X Z) 103 [] []).hint []))) =
 sh (↑X.length:Int) fun z0=>
 sh (0:Nat) fun z1=>
 sh (↑m:Int) fun z2=>
 sh (↑lp:Int) fun z3=>
 sh (0:Int) fun z4=>
 sh (5:TypeId) fun z5=>
 some (.go (gG 7 (codeOf Tryz.f3)),[],[EL sb key N ad Z z3.toNat,dE e,key.length=(32:Nat),bR ad,bR Z,ad.length<=(500000000:Nat),z3.toNat+(16:Nat)<=z0.toNat-z1,z0.toNat-z1<=z2.toNat-z1,z0.toNat-z1<=Z.length,z2.toNat-z1<=(500000000:Nat),key=key,N=N,ad.length=ad.length,ad.length=ad.length,z1=z1,z0.toNat-z1=z0.toNat-z1,z2.toNat-z1=z2.toNat-z1,z3=(↑z3.toNat:Int),Z=Z/\z5=z5,ad=ad,z4<=z2/\z2<=z2/\z4<=z0/\z0<=z2/\z4<=z4/\z4<=z0,key.length=(32:Nat),(e=1\/e=2),(x.tmod (2:Int) != z4)=mkF e,x=x,y=y,N=N,ad.length=ad.length,lp=lp,lr=lr,z1=z1,m=m,m=m,(↑(z3.toNat+(16:Nat)):Int)=(↑n:Int),key=key/\(23:TypeId)=(23:TypeId),X=X,sb key N ad Z z3.toNat=Z'/\z5=z5]):=by rcases he with rfl | rfl <;> kernel_rfl
theorem bBo (e:Nat) (he:e=1\/e=2) (rm:List Int->List Int) (sb:zQ) (ob:yS) (y N:Int) (key ad p r X Z W:List Int) (n m lp lr:Nat) :
 (fL 100 Tryz.f3.ntmps (bH 100 (Pl ad p r)) [] (aPw y N ad.length lp lr n m) (aQc key X Z W) 104 [] [] (abN rm sb ob e ad p r 10 (.go (gG 7 (codeOf Tryz.f3))) [] ((cA (aPx y N ad.length lp lr n m) (VC key X Z) 103 [] []).hint [false]))) =
 sh (↑m:Int) fun z3=>
 sh (↑n:Int) fun z1=>
 sh (0:Nat) fun z5=>
 sh (1:Nat) fun z8=>
 sh (List.drop (if z3=z1 then z5 else z5+z1.toNat*z8) Z) fun z0=>
 sh (↑X.length:Int) fun z4=>
 sh (z4.toNat-z1.toNat) fun z2=>
 sh (↑lp:Int) fun z6=>
 sh (List.drop (if z3=z6 then z5 else z5+z6.toNat*z8) Z) fun z7=>
 sh (z1.toNat-z6.toNat) fun z9=>
 sh (0:Int) fun iI=>
 sh (List.take z2 z0) fun iQ=>
 some (.go (gG 9 (codeOf Tryz.f3)),[],[(z5+(List.take z9 z7).length)*z8<=(140737488355328:Nat),(if z3=z6 then z5 else z5+z6.toNat*z8)+z9<=Z.length,iI<=z3/\z3<=z3/\iI<=z1/\z1<=z3/\iI<=z6/\z6<=z1,List.take z2 z0=r,iQ.length<=(1073741824:Nat),(if z3=z1 then z5 else z5+z1.toNat*z8)+z2<=Z.length/\z4.toNat-z1.toNat<=z3.toNat-z1.toNat,(if z3=z1 then z5 else z5+z1.toNat*z8)=if z3=z1 then z5 else z5+z1.toNat*z8,z4.toNat-z1.toNat=z4.toNat-z1.toNat,z3.toNat-z1.toNat=z3.toNat-z1.toNat,(if z3=z1 then z5 else z5+z1.toNat*z8)+z2<=Z.length/\z4.toNat-z1.toNat<=z3.toNat-z1.toNat,iQ.length=iQ.length,lr=lr,r.length=r.length,List.take z2 z0=List.take z2 z0,(if z3=z1 then z5 else z5+z1.toNat*z8)+z2<=Z.length/\z4.toNat-z1.toNat<=z3.toNat-z1.toNat,r=r,iI<=z3/\z3<=z3/\iI<=z4/\z4<=z3/\iI<=z1/\z1<=z4,(z1 != IntKind.i64.wrap (z6+(16:Int)))=false,y=y,N=N,ad.length=ad.length,lp=lp,lr=lr,z5=z5,m=m,m=m,z1=z1,key=key/\(23:TypeId)=(23:TypeId),X=X,Z=Z/\(5:TypeId)=(5:TypeId),List.take z5 []++List.take z9 z7=W]):=by rcases he with rfl | rfl <;> kernel_rfl
theorem bBn (e:Nat) (he:e=1\/e=2) (rm:List Int->List Int) (sb:zQ) (ob:yS) (y N k:Int) (key ad p r X Z Z' W:List Int) (n m lp lr:Nat) :
 (fL 100 Tryz.f3.ntmps (bH 100 (Pl ad p r)) [] (aPv lp lr n m k) (aQb X Z' W) 103 [] [] (abN rm sb ob e ad p r 3 (.go (gG 9 (codeOf Tryz.f3))) [] ((cA (aPw y N ad.length lp lr n m) (aQc key X Z W) 104 [] []).hint []))) =
 sh (↑X.length:Int) fun z0=>
 sh (↑n:Int) fun z4=>
 sh (16:Nat) fun z6=>
 sh (z4.toNat-z6) fun z1=>
 sh (0:Nat) fun z2=>
 sh (↑m:Int) fun z3=>
 sh (0:Int) fun z5=>
 sh (5:TypeId) fun z7=>
 some (.go (gG 10 (codeOf Tryz.f3)),[],[EM ob true key N Z z1,dE e,key.length=(32:Nat),bR ad,bR Z,ad.length<=(500000000:Nat),z4.toNat-z6+z6<=z0.toNat-z2,z0.toNat-z2<=z3.toNat-z2,z0.toNat-z2<=Z.length,z3.toNat-z2<=(500000000:Nat),Me true key N ad Z z1,key=key,N=N,ad.length=ad.length,ad.length=ad.length,z2=z2,z0.toNat-z2=z0.toNat-z2,z3.toNat-z2=z3.toNat-z2,z4=(↑(z4.toNat-z6+z6):Int),Z=Z/\z7=z7,ad=ad,z5<=z3/\z3<=z3/\z5<=z0/\z0<=z3/\z5<=z5/\z5<=z0,key.length=(32:Nat),(e=1\/e=2),(y.tmod (2:Int) != z5)=mkF e,y=y,lp=lp,lr=lr,z2=z2,m=m,m=m,z4=z4,(↑z1:Int)=k,X=X,ob true key N Z z1=Z'/\z7=z7,W=W]):=by rcases he with rfl | rfl <;> kernel_rfl
theorem bBm (e:Nat) (he:e=1\/e=2) (rm:List Int->List Int) (sb:zQ) (ob:yS) (k:Int) (ad p r X Z W:List Int) (n m lp lr:Nat) :
 (fL 100 Tryz.f3.ntmps (bH 100 (Pl ad p r)) [] (aPu m) (aQa X Z) 102 [] [] (abN rm sb ob e ad p r 7 (.go (gG 10 (codeOf Tryz.f3))) [] ((cA (aPv lp lr n m k) (aQb X Z W) 103 [] []).hint [false]))) =
 sh (↑n:Int) fun z0=>
 sh (0:Nat) fun z1=>
 sh (↑m:Int) fun z2=>
 sh (1:Nat) fun z9=>
 sh (List.drop (if z2=z0 then z1 else z1+z0.toNat*z9) Z) fun z3=>
 sh (List.drop (if z2=k then z1 else z1+k.toNat*z9) Z) fun z4=>
 sh (↑X.length:Int) fun z7=>
 sh (z7.toNat-z0.toNat) fun z5=>
 sh (z0.toNat-k.toNat) fun z6=>
 sh (k.toNat-z1) fun z8=>
 sh (List.drop z1 Z) fun iI=>
 sh (0:Int) fun iQ=>
 sh (1073741824:Nat) fun sG=>
 sh (List.take z8 iI) fun On=>
 sh (List.take z5 z3) fun CK=>
 sh (List.take z6 z4) fun QM=>
 some (.go (gG 11 (codeOf Tryz.f3)),[],[List.take z5 z3=r,CK.length<=sG,(if z2=z0 then z1 else z1+z0.toNat*z9)+z5<=Z.length/\z7.toNat-z0.toNat<=z2.toNat-z0.toNat,(if z2=z0 then z1 else z1+z0.toNat*z9)=if z2=z0 then z1 else z1+z0.toNat*z9,z7.toNat-z0.toNat=z7.toNat-z0.toNat,z2.toNat-z0.toNat=z2.toNat-z0.toNat,(if z2=z0 then z1 else z1+z0.toNat*z9)+z5<=Z.length/\z7.toNat-z0.toNat<=z2.toNat-z0.toNat,CK.length=CK.length,lr=lr,r.length=r.length,List.take z5 z3=List.take z5 z3,(if z2=z0 then z1 else z1+z0.toNat*z9)+z5<=Z.length/\z7.toNat-z0.toNat<=z2.toNat-z0.toNat,r=r,iQ<=z2/\z2<=z2/\iQ<=z7/\z7<=z2/\iQ<=z0/\z0<=z7,List.take z6 z4=W,QM.length<=sG,(if z2=k then z1 else z1+k.toNat*z9)+z6<=Z.length/\z0.toNat-k.toNat<=z2.toNat-k.toNat,(if z2=k then z1 else z1+k.toNat*z9)=if z2=k then z1 else z1+k.toNat*z9,z0.toNat-k.toNat=z0.toNat-k.toNat,z2.toNat-k.toNat=z2.toNat-k.toNat,(if z2=k then z1 else z1+k.toNat*z9)+z6<=Z.length/\z0.toNat-k.toNat<=z2.toNat-k.toNat,QM.length=QM.length,W.length=W.length,List.take z6 z4=List.take z6 z4,(if z2=k then z1 else z1+k.toNat*z9)+z6<=Z.length/\z0.toNat-k.toNat<=z2.toNat-k.toNat,W=W,iQ<=z2/\z2<=z2/\iQ<=z0/\z0<=z2/\iQ<=k/\k<=z0,List.take z8 iI=p,On.length<=sG,z1+z8<=Z.length/\k.toNat-z1<=z2.toNat-z1,z1=z1,k.toNat-z1=k.toNat-z1,z2.toNat-z1=z2.toNat-z1,z1+z8<=Z.length/\k.toNat-z1<=z2.toNat-z1,On.length=On.length,lp=lp,p.length=p.length,List.take z8 iI=List.take z8 iI,z1+z8<=Z.length/\k.toNat-z1<=z2.toNat-z1,p=p,iQ<=z2/\z2<=z2/\iQ<=k/\k<=z2/\iQ<=iQ/\iQ<=k,(k != (↑lp:Int))=false,z1=z1,m=m,m=m,X=X,Z=Z/\(5:TypeId)=(5:TypeId)]):=by rcases he with rfl | rfl <;> kernel_rfl
theorem bBl (e:Nat) (he:e=1\/e=2) (rm:List Int->List Int) (sb:zQ) (ob:yS) (ad p r X Y Z zs:List Int) (m cap lx:Nat) :
 (fL 100 Tryz.f3.ntmps (bH 100 (Pl ad p r)) [] (aPt lx cap m) (aPz Y Z) 102 [] [] (abN rm sb ob e ad p r 3 (.go (gG 11 (codeOf Tryz.f3))) [] ((Qz 100 Tryz.f3.ntmps (bH 100 (Pl ad p r)) 15 cap zs (cA (aPu m) (aQa X Z) 102 [] [])).hint []))) =
 sh (↑X.length:Int) fun z1=>
 sh (0:Nat) fun z2=>
 sh (List.take (z1.toNat-z2) (List.drop z2 Z)) fun z0=>
 sh (↑m:Int) fun z3=>
 sh (5:TypeId) fun z4=>
 sh (0:Int) fun z5=>
 some (.go (gG 12 (codeOf Tryz.f3)),[],[z2+z0.length.min X.length<=(X++zs).length,z2+(z1.toNat-z2)<=Z.length,z5<=z3/\z3<=z3/\z5<=z1/\z1<=z3/\z5<=z5/\z5<=z1,z2=z2,X.length=lx,cap=cap,z2=z2,m=m,m=m,List.take z2 (X++zs)++List.take (z0.length.min X.length) z0++List.drop (z2+z0.length.min X.length) (X++zs)=Y/\z4=z4,Z=Z/\z4=z4]):=by rcases he with rfl | rfl <;> kernel_rfl
theorem bBk (e:Nat) (he:e=1\/e=2) (rm:List Int->List Int) (sb:zQ) (ob:yS) (ad p r Y Z:List Int) (m cap lx:Nat) :
 sX (Eh rm sb ob Fi Fi e) (Pl ad p r) 100 100 Tryz.f3 [] (abN rm sb ob e ad p r 400 (.go (gG 12 (codeOf Tryz.f3))) [] ((cA (aPt lx cap m) (aPz Y Z) 102 [] []).hint [])) =
 sh (0:Nat) fun z1=>
 sh (List.drop z1 Y) fun z3=>
 sh (List.take lx z3) fun z0=>
 sh (List.drop z1 Z) fun z2=>
 some {bK:=[Za rm z0,List.take m z2=rm z0,z0.length<=(1073741824:Nat),z1+m<=Z.length/\m<=m,z1+lx<=Y.length/\lx<=cap,z1=z1,m=m,m=m,z1+m<=Z.length/\m<=m,(List.take m z2).length=(List.take m z2).length,z1=z1,lx=lx,cap=cap,z1+lx<=Y.length/\lx<=cap,z0.length=z0.length,List.take m z2=List.take m z2,z1+m<=Z.length/\m<=m,List.take lx z3=List.take lx z3,z1+lx<=Y.length/\lx<=cap],val:=SV.bool true true}:=by rcases he with rfl | rfl <;> kernel_rfl
theorem bBj (e:Nat) (he:e=1\/e=2) (rm:List Int->List Int) (sb:zQ) (ob:yS) (x y N:Int) (key ad p r:List Int) :
 aJ (Eh rm sb ob Fi Fi e) Tryz.f3 true [true] 400 (Lj x y N key ad.length p.length r.length) (Pl ad p r) 100 100 =
 some {bK:=[decide ((↑ad.length:Int)>(131072:Int))=true],val:=SV.bool true true}:=by rcases he with rfl | rfl <;> kernel_rfl
theorem bBi (e:Nat) (he:e=1\/e=2) (rm:List Int->List Int) (sb:zQ) (ob:yS) (x y N:Int) (key ad p r:List Int) :
 aJ (Eh rm sb ob Fi Fi e) Tryz.f3 true [false,true] 400 (Lj x y N key ad.length p.length r.length) (Pl ad p r) 100 100 =
 some {bK:=[decide ((↑p.length:Int)>(131072:Int))=true,decide ((↑ad.length:Int)>(131072:Int))=false],val:=SV.bool true true}:=by rcases he with rfl | rfl <;> kernel_rfl
theorem bBh (e:Nat) (he:e=1\/e=2) (rm:List Int->List Int) (sb:zQ) (ob:yS) (x y N:Int) (key ad p r:List Int) :
 aJ (Eh rm sb ob Fi Fi e) Tryz.f3 true [false,false,true] 400 (Lj x y N key ad.length p.length r.length) (Pl ad p r) 100 100 =
 sh (131072:Int) fun z0=>
 some {bK:=[decide ((↑r.length:Int)>z0)=true,decide ((↑p.length:Int)>z0)=false,decide ((↑ad.length:Int)>z0)=false],val:=SV.bool true true}:=by rcases he with rfl | rfl <;> kernel_rfl
namespace Q
def mks (n:Nat):List Int:=(List.range 70).map fun j=>mk (n+j)
theorem IN (xs:List Int):kM xs=xs++mks xs.length:=rfl
theorem Sl (n:Nat):(mks n).length=70:=by simp [mks]
theorem Wo (n:Nat):bR (mks n):=by
 intro x hx
 simp only [mks,List.mem_map] at hx
 obtain ⟨j,_,rfl⟩:=hx
 exact aKb _
theorem YE {xs:List Int} (h:bR xs):bR (kM xs):=lR h (Wo _)
end Q
theorem aCa (rm:List Int->List Int) (sb:zQ) (ob:yS) (so oo:Int->Nat):∀ f S,aPp rm sb ob so oo f=some S->∀ Γ:Env,Γ.aR=aB->aI Tryz.prog Γ f S:=
 bD (bD (bD (bD (bD (bD gL 9 _ (IK sb so)) 12 _ (IY ob oo)) 8 _ (aJg rm)) 11 _ aJe) 13 _ (aJd rm)) 14 _ aKo
theorem Iz (rm:List Int->List Int) (sb:zQ) (ob:yS) (so oo:Int->Nat) (e:Nat):cB Tryz.prog (Eh rm sb ob so oo e):=bQ _ 22
theorem Ja (rm:List Int->List Int) (sb:zQ) (ob:yS) (so oo:Int->Nat) (e:Nat):cI Tryz.prog (Eh rm sb ob so oo e):=bW _ (bD (aCa rm sb ob so oo) 10 _ (aKa e)) 22
theorem Qf (rm:List Int->List Int) (sb:zQ) (ob:yS) (so oo:Int->Nat) (e e':Nat):(Eh rm sb ob so oo e).aR=(Eh rm sb ob so oo e').aR:=by kernel_rfl
noncomputable abbrev ΓW (e:Nat):Env:=Eh Q.kM Q.iL Q.Uc Fi Fi e
def Ld (x:Int):Nat:=if (x.tmod 2 != 0)=true then 1 else 2
theorem Xf (x:Int):Ld x=1\/Ld x=2:=by unfold Ld;split <;> simp
theorem Xe (x:Int):(x.tmod 2 != 0)=mkF (Ld x):=by
 unfold Ld
 split
 .rename_i h;rw [h];rfl
 .rename_i h;rw [Bool.not_eq_true] at h;rw [h];rfl
theorem Nc {e:Nat} (h:e=1\/e=2):dE e:=.inr h
theorem aNt {x y N:Int} {key ad p r:List Int} (h:ad.length>131072\/p.length>131072\/r.length>131072):aE Tryz.prog (ΓW 1) 3 (Lj x y N key ad.length p.length r.length) (Pl ad p r) 100 100 { val:=.bool true true }:=by
 have hI:∀ hs,aI Tryz.prog (ΓW 1) 3 (aJ (ΓW 1) Tryz.f3 true hs 400):=fun hs=>aN (Iz _ _ _ _ _ _) (Ja _ _ _ _ _ _) mix Tryz.func3 (by kernel_rfl) true hs 400
 by_cases h1:ad.length>131072
 .exact ((hI _).call (bBj 1 (.inl rfl) _ _ _ x y N key ad p r) (aA ⟨decide_eq_true (by omega),trivial⟩)).words rfl (fun _=>rfl) (fun _ _ h=>h) (fun _=>rfl) rfl rfl
 .by_cases h2:p.length>131072
  .exact ((hI _).call (bBi 1 (.inl rfl) _ _ _ x y N key ad p r) (aA ⟨decide_eq_true (by omega),decide_eq_false (by omega),trivial⟩)).words rfl (fun _=>rfl) (fun _ _ h=>h) (fun _=>rfl) rfl rfl
  .exact ((hI _).call (bBh 1 (.inl rfl) _ _ _ x y N key ad p r) (aA ⟨decide_eq_true (by omega),decide_eq_false (by omega),decide_eq_false (by omega),trivial⟩)).words rfl (fun _=>rfl) (fun _ _ h=>h) (fun _=>rfl) rfl rfl
theorem aDi {x y N:Int} {key ad p r:List Int} (hk:key.length=32) (ha:bR ad) (hp:bR p) (hr:bR r) (la:ad.length<=131072) (lp:p.length<=131072) (lr:r.length<=131072) :
 aE Tryz.prog (ΓW (Ld x)) 3 (Lj x y N key ad.length p.length r.length) (Pl ad p r) 100 100 { val:=.bool true true }:=by
 have he:=Xf x
 have hE:=Nc he
 have hm:=Xe x
 have he2:=Xf y
 have hE2:=Nc he2
 have hm2:=Xe y
 generalize Ld x=e at *
 generalize Ld y=e2 at *
 have aT:=Iz Q.kM Q.iL Q.Uc Fi Fi e
 have aX:=Ja Q.kM Q.iL Q.Uc Fi Fi e
 refine gQ aT aX Tryz.func3 (by kernel_rfl) rfl (Nat.le_of_ble_eq_true (by kernel_rfl)) rfl [] ?_
 intro w0 Mx V0 Qx eF H
 have hz:bR (List.replicate 16 (0:Int)):=Q.Ag 16
 have hXl:(p++List.replicate 16 0++r).length=p.length+16+r.length:=by simp only [List.length_append,List.length_replicate]
 have hXB:bR (p++List.replicate 16 0++r):=Q.lR (Q.lR hp hz) hr
 have hZ:Q.kM (p++List.replicate 16 0++r)=p++(List.replicate 16 0++(r++Q.mks (p.length+16+r.length))):=by
  rw [Q.IN,hXl];simp only [List.append_assoc]
 have hZB:=Q.YE hXB
 have hZl:(Q.kM (p++List.replicate 16 0++r)).length=p.length+16+r.length+70:=by rw [Q.tP,hXl]
 generalize hX:p++List.replicate 16 0++r=X at *
 generalize Ak:Q.mks (p.length+16+r.length)=K at *
 have hKl:K.length=70:=by rw [<- Ak,Q.Sl]
 have gC:0<X.length:=by omega
 have d1:decide ((r.length:Int)>131072)=false:=decide_eq_false (by omega)
 have d2:decide ((p.length:Int)>131072)=false:=decide_eq_false (by omega)
 have d3:decide ((ad.length:Int)>131072)=false:=decide_eq_false (by omega)
 refine G.fL aT aX mix eF [false,false,false] (bBq e he Q.kM Q.iL Q.Uc x y N key ad p r X (Q.kM X) (X.length+70)) (aA ?_) ?_
 .simp only [bX,List.take_zero,List.nil_append,hX,List.length_append,List.length_replicate]
  repeat' apply And.intro
  all_goals first | rfl | assumption | omega | trivial | exact ⟨rfl⟩
 have Uw:Q.iL key N ad (Q.kM X) p.length=Q.cx key N p++(Q.tg key N ad (Q.cx key N p)++(r++K)):=by rw [hZ];exact Q.Dh key N ad p _ _ (by simp)
 have hCl:=Q.oZ key N p
 have hCB:=Q.JY key N hp
 have hTl:=Q.xN key N ad (Q.cx key N p)
 have hTB:=Q.IF key N ad (Q.cx key N p)
 have An:=Q.aEy key N hp
 generalize hC:Q.cx key N p=C at *
 generalize hT:Q.tg key N ad C=Tg at *
 have aZh:(C++(Tg++(r++K))).length=X.length+70:=by simp only [List.length_append];omega
 have bCg:bR (C++(Tg++(r++K))):=by rw [<- Uw];exact Q.KV _ _ _ _ hZB
 have hKB:bR K:=by rw [<- Ak];exact Q.Wo _
 refine G.fL aT aX mix eF [] (bBp e he Q.kM Q.iL Q.Uc x y N key ad p r X (Q.kM X) (C++(Tg++(r++K))) (p.length+16) (X.length+70) p.length r.length) (aA ?_) ?_
 .simp only [bX,Int.toNat_natCast,Nat.sub_zero,Uw]
  repeat' apply And.intro
  all_goals first | rfl | assumption | omega | trivial | exact ⟨rfl⟩
 have hsf:∀ a:Nat,a<X.length+70->(if ((X.length+70:Nat):Int)=(a:Int) then 0 else 0+a*1)=a:=fun a ha=>by rw [if_neg (by omega)];omega
 have g1:List.drop p.length (C++(Tg++(r++K)))=Tg++(r++K):=by rw [<- hCl,List.drop_left]
 have g2:List.drop (p.length+16) (C++(Tg++(r++K)))=r++K:=by rw [<- hCl,List.drop_length_add_append,<- hTl,List.drop_left]
 have g3:List.take 16 (Tg++(r++K))=Tg:=by rw [<- hTl,List.take_left]
 have g4:List.take r.length (r++K)=r:=List.take_left
 have g5:X.length-(p.length+16)=r.length:=by omega
 have g6:p.length+16-p.length=16:=by omega
 have g7:((p.length+16:Nat):Int)=IntKind.i64.wrap ((p.length:Int)+16):=by rw [IntWalk.i64_in _ ⟨by omega,by omega⟩];omega
 have g8:(((p.length+16:Nat):Int) != IntKind.i64.wrap ((p.length:Int)+16))=false:=by rw [<- g7];simp
 refine G.fL aT aX mix eF [false] (bBo e he Q.kM Q.iL Q.Uc y N key ad p r X (C++(Tg++(r++K))) Tg (p.length+16) (X.length+70) p.length r.length) (aA ?_) ?_
 .simp only [bX,Int.toNat_natCast,Nat.sub_zero,hsf p.length (by omega),hsf (p.length+16) (by omega),g1,g2,g5,g6,g3,g4,List.take_zero,List.nil_append,aZh,hTl]
  repeat' apply And.intro
  all_goals first | rfl | assumption | omega | trivial | exact ⟨rfl⟩
 have bT:Q.mV key N (C++(Tg++(r++K))) p.length=p++(Tg++(r++K)):=by rw [<- hCl,Q.Dm,An]
 have hdt:decide (Q.tg key N ad (List.take p.length (C++(Tg++(r++K))))=List.take 16 (List.drop p.length (C++(Tg++(r++K)))))=true:=by
  rw [g1,g3,<- hCl,List.take_left,hT];exact decide_eq_true rfl
 refine G.Km (Qf _ _ _ _ _ e2 e) ?_
 refine G.fL (Iz Q.kM Q.iL Q.Uc Fi Fi e2) (Ja Q.kM Q.iL Q.Uc Fi Fi e2) mix (eF.Km (Qf _ _ _ _ _ e2 e)) [] (bBn e2 he2 Q.kM Q.iL Q.Uc y N (p.length:Int) key ad p r X (C++(Tg++(r++K))) (p++(Tg++(r++K))) Tg (p.length+16) (X.length+70) p.length r.length) (aA ?_) ?_
 .simp only [bX,Int.toNat_natCast,Nat.sub_zero,Nat.add_sub_cancel]
  repeat' apply And.intro
  all_goals first | rfl | assumption | omega | trivial | exact ⟨rfl⟩ | exact ⟨hdt⟩
 refine G.Km (Qf _ _ _ _ _ e e2) ?_
 have aGi:(p++(Tg++(r++K))).length=X.length+70:=by simp only [List.length_append];omega
 have k1:List.drop p.length (p++(Tg++(r++K)))=Tg++(r++K):=List.drop_left
 have k2:List.drop (p.length+16) (p++(Tg++(r++K)))=r++K:=by rw [List.drop_length_add_append,<- hTl,List.drop_left]
 have k3:List.take p.length (p++(Tg++(r++K)))=p:=List.take_left
 have k4:((p.length:Int) != (p.length:Int))=false:=by simp
 refine G.fL aT aX mix eF [false] (bBm e he Q.kM Q.iL Q.Uc (p.length:Int) ad p r X (p++(Tg++(r++K))) Tg (p.length+16) (X.length+70) p.length r.length) (aA ?_) ?_
 .simp only [bX,Int.toNat_natCast,Nat.sub_zero,hsf p.length (by omega),hsf (p.length+16) (by omega),k1,k2,k3,g5,g6,g3,g4,List.drop_zero,aGi,hTl]
  repeat' apply And.intro
  all_goals first | rfl | assumption | omega | trivial | exact ⟨rfl⟩
 refine G.grown (t:=15) (l:=100) (k:=.u8) (xs:=X) (el:=5) (by kernel_rfl) (by kernel_rfl) gC ?_
 intro cap zs qC Hw
 have u1:List.take X.length (p++(Tg++(r++K)))=p++(Tg++r):=by
  have e1:p++(Tg++(r++K))=(p++(Tg++r))++K:=by simp only [List.append_assoc]
  have e2:X.length=(p++(Tg++r)).length:=by simp only [List.length_append];omega
  rw [e1,e2,List.take_left]
 have u2:(p++(Tg++r)).length=X.length:=by simp only [List.length_append];omega
 have u3:List.drop X.length (X++zs)=zs:=List.drop_left
 have u4:X.length.min X.length=X.length:=Nat.min_self _
 have u5:List.take X.length (p++(Tg++r))=p++(Tg++r):=List.take_of_length_le (by omega)
 refine G.fL aT aX mix eF [] (bBl e he Q.kM Q.iL Q.Uc ad p r X (p++(Tg++r)++zs) (p++(Tg++(r++K))) zs (X.length+70) cap X.length) (aA ?_) ?_
 .simp only [bX,Int.toNat_natCast,Nat.sub_zero,List.drop_zero,List.take_zero,List.nil_append,u1,u2,u4,u5,Nat.zero_add,u3,aGi]
  repeat' apply And.intro
  all_goals first | rfl | assumption | omega | trivial | (rw [List.length_append];omega)
 have v1:List.take X.length (p++(Tg++r)++zs)=p++(Tg++r):=by rw [<- u2,List.take_left]
 have v2:List.take (X.length+70) (p++(Tg++(r++K)))=p++(Tg++(r++K)):=List.take_of_length_le (by omega)
 have v3:p++(Tg++(r++K))=Q.kM (p++(Tg++r)):=by
  rw [Q.IN,u2,hXl,Ak];simp only [List.append_assoc]
 have v4:(p++(Tg++r)++zs).length=X.length+zs.length:=by rw [List.length_append,u2]
 refine G.qR (cl:=[]) aT aX mix [] H (bBk e he Q.kM Q.iL Q.Uc ad p r (p++(Tg++r)++zs) (p++(Tg++(r++K))) (X.length+70) cap X.length) (aA ?_) rfl rfl rfl
 simp only [bX,List.drop_zero,v1,v2,u2,v4,aGi]
 repeat' apply And.intro
 all_goals first | rfl | assumption | omega | trivial | exact ⟨rfl⟩
section
open Go.ChangeShapes Go.WideShapes
section
variable {H:Type} {enc:TypeId × Value->H} {P:Program} {w:World} {held:Bool}
theorem wf_u8 {n:Int} (h:(Lit.int .u8 n).wf=true):Bt n:=by
 have:=bounds_u8 h
 exact ⟨this.1,by omega⟩
theorem tO {fuel:Nat} {tb t5:TypeId} {cs:List Value} {x:DataW H × List MemPlace} (ht:P.underlying tb=some (.slice t5)) (h5:P.underlying t5=some (.int .u8)) (hc:P.cellsOf t5=1)
 (h:DataW.trod enc P w 0 (fun _=>true) held fuel tb cs=some x):∃ v xs,cs=[v]/\pE w .u8 v xs/\bR xs:=by
 rcases open_ints ht h5 hc h with ⟨rfl,_⟩ | ⟨a,len,cap,zs,rfl,_,hle,_,hz,_,fE,hwf⟩
 .exact ⟨_,[],rfl,.inl ⟨.nil,rfl⟩,fun _ h=>by cases h⟩
 .simp only [if_true] at hz
  refine ⟨_,zs.take len,rfl,?_,fun z hzm=>wf_u8 (hwf z (List.mem_of_mem_take hzm))⟩
  by_cases h0:cap=0
  .subst h0
   have:len=0:=by omega
   subst this
   exact .inl ⟨⟨_,rfl⟩,by simp⟩
  .have Ao:=fE 0 (by omega)
   obtain ⟨b,o,s⟩:=a
   have hs:s=none:=by
    have:=World.cell?_spot Ao
    cases s with
    | none=>rfl
    | some s=>simp [Addr.add] at this
   subst hs
   have hlen:(zs.take len).length=len:=by rw [List.length_take];omega
   refine .inr ⟨b,o,cap,by rw [hlen],?_,by omega,fun j u hj=>?_⟩
   .rw [bG] at Ao
    unfold World.cell? at Ao
    simp only at Ao
    cases hb:w.heap[b]? with
    | none=>rw [hb] at Ao;simp at Ao
    | some y=>exact (Array.getElem?_eq_some_iff.1 hb).1
   .rw [List.map_take,List.getElem?_take] at hj
    split at hj
    .rename_i hjl
     rw [List.getElem?_map] at hj
     obtain ⟨z,hzj,rfl⟩:=Option.map_eq_some_iff.1 hj
     have:=fE j (by omega)
     rw [bG] at this
     rw [this,List.getD_eq_getElem?_getD,hzj]
     rfl
    .cases hj
def intOf:Value->Int
 | .int _ z=>z
 | _=>0
theorem Oj {fuel:Nat} {ta t5:TypeId} {n:Nat} {cs:List Value} {x:DataW H × List MemPlace} (ht:P.underlying ta=some (.array n t5)) (h5:P.underlying t5=some (.int .u8)) (hc:P.cellsOf t5=1) (lC:P.cellsOf ta=n)
 (h:DataW.trod enc P w 0 (fun _=>true) held fuel ta cs=some x):∃ xs,xs.length=n/\cs=xs.map (Value.int .u8)/\bR xs:=by
 obtain ⟨xs,m,_,_,hlen,hn,SH⟩:=DataW.trod_array ht h
 rw [lC] at hlen
 have key:∀ i,i<n->∃ z,cs[i]?=some (.int .u8 z)/\Bt z:=by
  intro i hi
  have h1:=SH i hi
  rw [hc,Nat.mul_one,List.getElem?_eq_getElem (by omega)] at h1
  obtain ⟨z,hz,_,hw⟩:=DataW.trod_int h5 h1
  refine ⟨z,?_,wf_u8 hw⟩
  have:=congrArg (·[0]?) hz
  simpa [List.getElem?_take,List.getElem?_drop] using this
 refine ⟨cs.map intOf,by simp [hlen],?_,fun z hz=>?_⟩
 .rw [List.map_map]
  refine List.ext_getElem? fun i=>?_
  rw [List.getElem?_map]
  by_cases hi:i<n
  .obtain ⟨z,hz,_⟩:=key i hi
   rw [hz];rfl
  .rw [List.getElem?_eq_none (by omega)];rfl
 .obtain ⟨v,hv,rfl⟩:=List.mem_map.1 hz
  obtain ⟨i,hi⟩:=List.getElem?_of_mem hv
  have hin:i<n:=by rw [<- hlen];exact (List.getElem?_eq_some_iff.1 hi).1
  obtain ⟨z,hz,hb⟩:=key i hin
  rw [hi] at hz
  cases hz
  exact hb
end
end
end Go.Proofs.YticicdfijghigaaGreatDoor.Sx
