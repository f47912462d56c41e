/- Plain Lean for slow.Tag: the clamped key, the bytes that are held, a block's step, the last sum. -/
import Derived.ProofKit
import Derived.OpenShut
import Derived.Test.YticicdfijghigaaGreatDoorQL
open Go
set_option maxRecDepth 100000
namespace Go.Proofs.YticicdfijghigaaGreatDoor.Sx
namespace M
theorem Vj {x:Int} (h:Bt x):bU .u8 x 15=(IntKind.i64.wrap x).tmod 16:=by
 have key:∀ n:Fin 256,bU .u8 ((n.val:Nat):Int) 15=(IntKind.i64.wrap ((n.val:Nat):Int)).tmod 16:=by decide +kernel
 obtain ⟨h0,h1⟩:=h
 have:=key ⟨x.toNat,by omega⟩
 simpa [Int.toNat_of_nonneg h0] using this
theorem Sc {x:Int} (h:Bt x):bU .u8 x 252=IntKind.i64.wrap (IntKind.i64.wrap x-(IntKind.i64.wrap x).tmod 4):=by
 have key:∀ n:Fin 256,bU .u8 ((n.val:Nat):Int) 252=IntKind.i64.wrap (IntKind.i64.wrap ((n.val:Nat):Int)-(IntKind.i64.wrap ((n.val:Nat):Int)).tmod 4):=by decide +kernel
 obtain ⟨h0,h1⟩:=h
 have:=key ⟨x.toNat,by omega⟩
 simpa [Int.toNat_of_nonneg h0] using this
theorem Di {x:Int} (h:Bt x):0<=bU .u8 x 15/\bU .u8 x 15<=15:=by
 have key:∀ n:Fin 256,0<=bU .u8 ((n.val:Nat):Int) 15/\bU .u8 ((n.val:Nat):Int) 15<=15:=by decide +kernel
 obtain ⟨h0,h1⟩:=h
 have:=key ⟨x.toNat,by omega⟩
 simpa [Int.toNat_of_nonneg h0] using this
theorem yA {x:Int} (h:Bt x):0<=bU .u8 x 252/\bU .u8 x 252<=255:=by
 have key:∀ n:Fin 256,0<=bU .u8 ((n.val:Nat):Int) 252/\bU .u8 ((n.val:Nat):Int) 252<=255:=by decide +kernel
 obtain ⟨h0,h1⟩:=h
 have:=key ⟨x.toNat,by omega⟩
 simpa [Int.toNat_of_nonneg h0] using this
theorem pH {x:Int} (h:Bt x):IntKind.i64.wrap x=x:=by
 obtain ⟨h0,h1⟩:=h
 exact IntWalk.i64_in _ ⟨by omega,by omega⟩
def tY (k:List Int):Int:=V [k.getD 0 0,k.getD 1 0,k.getD 2 0,bU .u8 (k.getD 3 0) 15,bU .u8 (k.getD 4 0) 252,k.getD 5 0,k.getD 6 0,bU .u8 (k.getD 7 0) 15]
def sG (k:List Int):Int:=V [bU .u8 (k.getD 8 0) 252,k.getD 9 0,k.getD 10 0,bU .u8 (k.getD 11 0) 15,bU .u8 (k.getD 12 0) 252,k.getD 13 0,k.getD 14 0,bU .u8 (k.getD 15 0) 15]
def kS (k:List Int):List Int:=[k.getD 0 0,k.getD 1 0,k.getD 2 0,bU .u8 (k.getD 3 0) 15,bU .u8 (k.getD 4 0) 252,k.getD 5 0,k.getD 6 0,bU .u8 (k.getD 7 0) 15,bU .u8 (k.getD 8 0) 252,k.getD 9 0,k.getD 10 0,bU .u8 (k.getD 11 0) 15,bU .u8 (k.getD 12 0) 252,k.getD 13 0,k.getD 14 0,bU .u8 (k.getD 15 0) 15,k.getD 16 0,k.getD 17 0,k.getD 18 0,k.getD 19 0,k.getD 20 0,k.getD 21 0,k.getD 22 0,k.getD 23 0,k.getD 24 0,k.getD 25 0,k.getD 26 0,k.getD 27 0,k.getD 28 0,k.getD 29 0,k.getD 30 0,k.getD 31 0]
def wV (k:List Int):Int:=V [k.getD 16 0,k.getD 17 0,k.getD 18 0,k.getD 19 0,k.getD 20 0,k.getD 21 0,k.getD 22 0,k.getD 23 0]
def yD (k:List Int):Int:=V [k.getD 24 0,k.getD 25 0,k.getD 26 0,k.getD 27 0,k.getD 28 0,k.getD 29 0,k.getD 30 0,k.getD 31 0]
theorem bR.Py:bR []:=fun _ h=>by cases h
theorem bR.bO {x:Int} {r:List Int} (h:Bt x) (hr:bR r):bR (x::r):=fun y hy=>by
 rcases List.mem_cons.1 hy with rfl | hy
 .exact h
 .exact hr y hy
theorem SN {k:List Int} (h:bR k) (i:Nat):Bt (bU .u8 (k.getD i 0) 15):=by have:=Di (h.get i);exact ⟨by omega,by omega⟩
theorem Zb {k:List Int} (h:bR k) (i:Nat):Bt (bU .u8 (k.getD i 0) 252):=by have:=yA (h.get i);exact ⟨by omega,by omega⟩
theorem JN {k:List Int} (h:bR k):bR (kS k):=
 bR.bO (h.get 0) (bR.bO (h.get 1) (bR.bO (h.get 2) (bR.bO (SN h 3) (bR.bO (Zb h 4) (bR.bO (h.get 5) (bR.bO (h.get 6) (bR.bO (SN h 7) (bR.bO (Zb h 8) (bR.bO (h.get 9) (bR.bO (h.get 10) (bR.bO (SN h 11) (bR.bO (Zb h 12) (bR.bO (h.get 13) (bR.bO (h.get 14) (bR.bO (SN h 15) (bR.bO (h.get 16) (bR.bO (h.get 17) (bR.bO (h.get 18) (bR.bO (h.get 19) (bR.bO (h.get 20) (bR.bO (h.get 21) (bR.bO (h.get 22) (bR.bO (h.get 23) (bR.bO (h.get 24) (bR.bO (h.get 25) (bR.bO (h.get 26) (bR.bO (h.get 27) (bR.bO (h.get 28) (bR.bO (h.get 29) (bR.bO (h.get 30) (bR.bO (h.get 31) bR.Py)))))))))))))))))))))))))))))))
theorem Zc {l:List Int} (h:bR l) (hl:l.length=8):U (V l):=by
 obtain ⟨a,b,c,d,e,f,g,k,rfl⟩:∃ a b c d e f g k,l=[a,b,c,d,e,f,g,k]:=by
  match l,hl with
  | [a,b,c,d,e,f,g,k],_=>exact ⟨a,b,c,d,e,f,g,k,rfl⟩
 have q:∀ x∈[a,b,c,d,e,f,g,k],0<=x/\x<256:=h
 have:=q a (by simp);have:=q b (by simp);have:=q c (by simp);have:=q d (by simp);have:=q e (by simp);have:=q f (by simp);have:=q g (by simp);have:=q k (by simp)
 simp only [tL,Ca]
 unfold U
 omega
theorem aYh {k:List Int} (h:bR k):U (tY k)/\U (sG k)/\tY k+18446744073709551616*sG k<21267647932558653966460912964485513216:=by
 have u1:U (tY k):=Zc (bR.bO (h.get 0) (bR.bO (h.get 1) (bR.bO (h.get 2) (bR.bO (SN h 3) (bR.bO (Zb h 4) (bR.bO (h.get 5) (bR.bO (h.get 6) (bR.bO (SN h 7) bR.Py)))))))) rfl
 have u2:U (sG k):=Zc (bR.bO (Zb h 8) (bR.bO (h.get 9) (bR.bO (h.get 10) (bR.bO (SN h 11) (bR.bO (Zb h 12) (bR.bO (h.get 13) (bR.bO (h.get 14) (bR.bO (SN h 15) bR.Py)))))))) rfl
 refine ⟨u1,u2,?_⟩
 have b1:sG k<1152921504606846976:=by
  unfold sG
  simp only [tL,Ca]
  have SN:=Di (h.get 15)
  have:=h.get 9;have:=h.get 10;have:=h.get 13;have:=h.get 14
  have:=Di (h.get 11);have:=yA (h.get 12);have:=yA (h.get 8)
  unfold Bt at *
  omega
 unfold U at u1
 omega
theorem aYg {k:List Int} (h:bR k):U (wV k)/\U (yD k):=
 ⟨Zc (bR.bO (h.get 16) (bR.bO (h.get 17) (bR.bO (h.get 18) (bR.bO (h.get 19) (bR.bO (h.get 20) (bR.bO (h.get 21) (bR.bO (h.get 22) (bR.bO (h.get 23) bR.Py)))))))) rfl,Zc (bR.bO (h.get 24) (bR.bO (h.get 25) (bR.bO (h.get 26) (bR.bO (h.get 27) (bR.bO (h.get 28) (bR.bO (h.get 29) (bR.bO (h.get 30) (bR.bO (h.get 31) bR.Py)))))))) rfl⟩
theorem aQf {k:List Int} (h:bR k):V (cl k)=tY k+18446744073709551616*sG k:=by
 unfold cl
 rw [QM]
 have z:V [0]=0:=by decide
 rw [z,Int.mul_zero,Int.add_zero]
 have e:Rx (lo k)=[k.getD 0 0,k.getD 1 0,k.getD 2 0,bU .u8 (k.getD 3 0) 15,bU .u8 (k.getD 4 0) 252,k.getD 5 0,k.getD 6 0,bU .u8 (k.getD 7 0) 15,bU .u8 (k.getD 8 0) 252,k.getD 9 0,k.getD 10 0,bU .u8 (k.getD 11 0) 15,bU .u8 (k.getD 12 0) 252,k.getD 13 0,k.getD 14 0,bU .u8 (k.getD 15 0) 15]:=by
  rw [Vj (h.get 3),Vj (h.get 7),Vj (h.get 11),Vj (h.get 15),Sc (h.get 4),Sc (h.get 8),Sc (h.get 12)]
  have w0:=pH (h.get 0);have w1:=pH (h.get 1);have w2:=pH (h.get 2)
  have w5:=pH (h.get 5);have w6:=pH (h.get 6);have w9:=pH (h.get 9)
  have w10:=pH (h.get 10);have w13:=pH (h.get 13);have w14:=pH (h.get 14)
  have l:Rx (lo k)=[IntKind.i64.wrap (k.getD 0 0),IntKind.i64.wrap (k.getD 1 0),IntKind.i64.wrap (k.getD 2 0),(IntKind.i64.wrap (k.getD 3 0)).tmod 16,IntKind.i64.wrap (IntKind.i64.wrap (k.getD 4 0)-(IntKind.i64.wrap (k.getD 4 0)).tmod 4),IntKind.i64.wrap (k.getD 5 0),IntKind.i64.wrap (k.getD 6 0),(IntKind.i64.wrap (k.getD 7 0)).tmod 16,IntKind.i64.wrap (IntKind.i64.wrap (k.getD 8 0)-(IntKind.i64.wrap (k.getD 8 0)).tmod 4),IntKind.i64.wrap (k.getD 9 0),IntKind.i64.wrap (k.getD 10 0),(IntKind.i64.wrap (k.getD 11 0)).tmod 16,IntKind.i64.wrap (IntKind.i64.wrap (k.getD 12 0)-(IntKind.i64.wrap (k.getD 12 0)).tmod 4),IntKind.i64.wrap (k.getD 13 0),IntKind.i64.wrap (k.getD 14 0),(IntKind.i64.wrap (k.getD 15 0)).tmod 16]:=rfl
  rw [l,w0,w1,w2,w5,w6,w9,w10,w13,w14]
 rw [e,aQg]
 rfl
theorem bBw (k:List Int):V (hi k)=wV k+18446744073709551616*yD k:=by
 have e:hi k=[k.getD 16 0,k.getD 17 0,k.getD 18 0,k.getD 19 0,k.getD 20 0,k.getD 21 0,k.getD 22 0,k.getD 23 0,k.getD 24 0,k.getD 25 0,k.getD 26 0,k.getD 27 0,k.getD 28 0,k.getD 29 0,k.getD 30 0,k.getD 31 0]:=rfl
 rw [e,aQg]
 rfl
theorem aLc {k:List Int} (h:bR k):bR (hi k):=by
 intro x hx
 simp only [hi,List.mem_map] at hx
 obtain ⟨j,_,rfl⟩:=hx
 exact h.get _
def held (D:List Int) (t:Nat):List Int:=(List.range (t%16)).map fun j=>D.getD (16*(t/16)+j) 0
theorem Oj (D:List Int) (t:Nat):(held D t).length=t%16:=by simp [held]
theorem AE (D:List Int) {t:Nat} (h:t%16<15):held D t++[D.getD t 0]=held D (t+1):=by
 unfold held
 have e1:(t+1)%16=t%16+1:=by omega
 have e2:(t+1)/16=t/16:=by omega
 have e3:16*(t/16)+t%16=t:=by omega
 rw [e1,e2,List.range_succ,List.map_append,List.map_singleton,e3]
theorem aAr (D:List Int) {t:Nat} (h:t%16=15):held D t=[D.getD (16*(t/16)) 0,D.getD (16*(t/16)+1) 0,D.getD (16*(t/16)+2) 0,D.getD (16*(t/16)+3) 0,D.getD (16*(t/16)+4) 0,D.getD (16*(t/16)+5) 0,D.getD (16*(t/16)+6) 0,D.getD (16*(t/16)+7) 0,D.getD (16*(t/16)+8) 0,D.getD (16*(t/16)+9) 0,D.getD (16*(t/16)+10) 0,D.getD (16*(t/16)+11) 0,D.getD (16*(t/16)+12) 0,D.getD (16*(t/16)+13) 0,D.getD (16*(t/16)+14) 0]:=by
 unfold held;rw [h];rfl
theorem JQ (D:List Int) {t:Nat} (h:t%16=0):held D t=[]:=by unfold held;rw [h];rfl
theorem KE (D:List Int) {k:Nat} (h:16*k+16<=1073741824):aN D ((16*k:Nat):Int) 16=[D.getD (16*k) 0,D.getD (16*k+1) 0,D.getD (16*k+2) 0,D.getD (16*k+3) 0,D.getD (16*k+4) 0,D.getD (16*k+5) 0,D.getD (16*k+6) 0,D.getD (16*k+7) 0,D.getD (16*k+8) 0,D.getD (16*k+9) 0,D.getD (16*k+10) 0,D.getD (16*k+11) 0,D.getD (16*k+12) 0,D.getD (16*k+13) 0,D.getD (16*k+14) 0,D.getD (16*k+15) 0,1]:=by
 have e:aN D ((16*k:Nat):Int) 16=((List.range 16).map fun j:Nat=>D.getD (16*k+j) 0)++[1]:=by
  unfold aN
  congr 1
  refine List.map_congr_left fun j hj=>?_
  have hj:j<16:=by simpa using hj
  rw [IntWalk.i64_in _ ⟨by omega,by omega⟩]
  congr 1
 rw [e];rfl
theorem Ny (r:Int) {D:List Int} {k:Nat} (h:16*k+16<=D.length):acc r D (k+1)=((acc r D k+V (aN D ((16*k:Nat):Int) 16))*r)%p:=by
 show ((acc r D k+V (aN D (16*(k:Int)) (min 16 (D.length-16*k))))*r)%p=_
 rw [show min 16 (D.length-16*k)=16 from by omega,show (16*(k:Int))=((16*k:Nat):Int) from by omega]
theorem La {R:Int} (h0:0<=R) (h:R<bA):n3 (w0 R) (w1 R) (w2 R)=R:=by
 unfold n3 w0 w1 w2;unfold bA at h;omega
theorem SS (R:Int):U (w0 R)/\U (w1 R)/\U (w2 R):=by unfold U w0 w1 w2;omega
theorem YQ:bA=p:=rfl
theorem Is (x:Int):0<=x%bA/\x%bA<bA:=⟨Int.emod_nonneg _ (by decide),Int.emod_lt_of_pos _ (by decide)⟩
theorem step_eq {R Y S y0 y1:Int} (hS:S=(R+Y)%bA):(n3 (w0 S) (w1 S) (w2 S)*(y0+18446744073709551616*y1))%bA=((R+Y)*(y0+18446744073709551616*y1))%p:=by
 obtain ⟨h0,h1⟩:=Is (R+Y)
 rw [<- hS] at h0 h1
 rw [La h0 h1,hS,YQ,Int.mul_emod,Int.emod_emod_of_dvd _ (Int.dvd_refl p),<- Int.mul_emod]
def cat (d:Nat->List Int):List Int:=d 1++(d 2++(d 3++(d 4++d 5)))
def off (d:Nat->List Int):Nat->Nat
 | 0=>0
 | j+1=>off d j+(d (j+1)).length
theorem aEf (d:Nat->List Int):off d 5=(cat d).length:=by simp [off,cat];omega
theorem aCz (d:Nat->List Int) {J i:Nat} (hJ:J<5) (hi:i<(d (J+1)).length):(cat d).getD (off d J+i) 0=(d (J+1)).getD i 0:=by
 have L:∀ (a b:List Int) (n:Nat),n<a.length->(a++b).getD n 0=a.getD n 0:=fun a b n h=>by simp [List.getD_eq_getElem?_getD,List.getElem?_append_left h]
 have R:∀ (a b:List Int) (n:Nat),(a++b).getD (a.length+n) 0=b.getD n 0:=fun a b n=>by simp [List.getD_eq_getElem?_getD,List.getElem?_append_right]
 unfold cat
 match J,hJ with
 | 0,_=>rw [show off d 0+i=i from by simp [off],L _ _ _ hi]
 | 1,_=>rw [show off d 1+i=(d 1).length+i from by simp [off],R,L _ _ _ hi]
 | 2,_=>rw [show off d 2+i=(d 1).length+((d 2).length+i) from by simp [off];omega,R,R,L _ _ _ hi]
 | 3,_=>rw [show off d 3+i=(d 1).length+((d 2).length+((d 3).length+i)) from by simp [off];omega,R,R,R,L _ _ _ hi]
 | 4,_=>rw [show off d 4+i=(d 1).length+((d 2).length+((d 3).length+((d 4).length+i))) from by simp [off];omega,R,R,R,R]
theorem JA (d:Nat->List Int) {J:Nat} (hJ:J<5):off d J+(d (J+1)).length<=(cat d).length:=by
 rw [<- aEf]
 match J,hJ with
 | 0,_=>simp only [off];omega
 | 1,_=>simp only [off];omega
 | 2,_=>simp only [off];omega
 | 3,_=>simp only [off];omega
 | 4,_=>simp only [off];omega
theorem aJv (N:Int) {j:Nat} (h:j<16):nb (w0 N+18446744073709551616*w1 N) j=nb N j:=by
 have e:w0 N+18446744073709551616*w1 N=N%340282366920938463463374607431768211456:=by unfold w0 w1;omega
 rw [e]
 unfold nb
 have hk:∀ k:Nat,k<16->(256:Int)^16=256^k*(256*256^(15-k)):=fun k hk=>by
  have:(256:Int)^16=256^(k+(1+(15-k))):=by congr 1;omega
  rw [this,Int.pow_add,Int.pow_add];rfl
 have hP:(0:Int)<256^j:=Int.pow_pos (by decide)
 have e1:(340282366920938463463374607431768211456:Int)=256^j*(256*256^(15-j)):=by
  rw [<- hk j h];decide
 rw [e1]
 generalize (256:Int)^j=P at *
 generalize (256:Int)^(15-j)=Q
 have e2:N=N%(P*(256*Q))+P*(256*Q)*(N/(P*(256*Q))):=(Int.emod_add_mul_ediv N _).symm
 have e3:N/P=N%(P*(256*Q))/P+256*Q*(N/(P*(256*Q))):=by
  conv=>lhs;rw [e2,Int.mul_assoc,Int.add_mul_ediv_left _ _ (by omega)]
 rw [e3,Int.mul_assoc,Int.add_mul_emod_self_left]
theorem IH {key D:List Int} (hk:bR key) (hD:D.length%16=0) :
 tag key D=(List.range 16).map (nb (w0 (acc (V (cl key)) D (D.length/16)+(wV key+18446744073709551616*yD key))+18446744073709551616*w1 (acc (V (cl key)) D (D.length/16)+(wV key+18446744073709551616*yD key)))):=by
 unfold tag
 rw [VW (aLc hk),show (D.length+15)/16=D.length/16 from by omega,<- bBw key]
 have e:vs (fun j=>(hi key).getD j 0) 16=V (hi key):=aQe (hi key) 16 (by simp [hi])
 rw [e]
 refine List.map_congr_left fun j hj=>?_
 have hj:j<16:=by simpa using hj
 rw [aJv _ hj]
end M
theorem G.Kq {P:Program} {Γ Γ':Env} (hg:Γ'.aR=Γ.aR) {w0:World} {M:Nat->Prop} {B:aZ} {N F0:Nat} {V0:aY} {cf:Cf} {K:List Fr} {s:St} {Q:Exit->Act->World->Prop} (h:G P Γ' w0 M B N F0 V0 cf K s Q):G P Γ w0 M B N F0 V0 cf K s Q:=
 fun V a w hi=>h V a w ⟨hi.tmp,hi.keys,hi.size,hi.defers,hi.eG,fun n l e=>hi.aR n l (hg ▸ e),hi.top,hi.le,hi.low,hi.ch,hi.nx,hi.hi⟩
theorem qF.Kq {Γ Γ':Env} (hg:Γ'.aR=Γ.aR) {B:aZ} {F0:Nat} {V0:aY} (h:qF Γ B F0 V0):qF Γ' B F0 V0:=⟨h.top,fun n l e=>h.aR n l (hg ▸ e),h.cut,h.cells⟩
def C5 (c:Nat):Prop:=c=0\/c=6\/c=7\/c=8\/c=9
theorem sX (iK gA nI:Nat):cA Tryz.prog (ΓT iK gA nI):=bQ _ 22
theorem sY (iK gA nI:Nat):cK Tryz.prog (ΓT iK gA nI):=bW _ (aMd iK gA nI) 22
theorem oJ (a b c a' b' c':Nat):(ΓT a b c).aR=(ΓT a' b' c').aR:=by kernel_rfl
theorem aJc {c:Nat} (hc:C5 c):SgA c:=by
 rcases hc with rfl | rfl | rfl | rfl | rfl
 .exact aRr
 .exact aRq
 .exact aRp
 .exact aRo
 .exact aRn
theorem aIz {c:Nat} (hc:C5 c):SgX c:=by
 rcases hc with rfl | rfl | rfl | rfl | rfl
 .exact aRl
 .exact aRk
 .exact aRj
 .exact aRi
 .exact aRh
theorem aJb {c J:Nat} (hc:C5 c) (hJ:J<4):Ek c J:=by
 obtain rfl | rfl | rfl | rfl:J=0\/J=1\/J=2\/J=3:=by omega
 .rcases hc with rfl | rfl | rfl | rfl | rfl
  .exact aIu
  .exact aIq
  .exact aIm
  .exact aIi
  .exact aIe
 .rcases hc with rfl | rfl | rfl | rfl | rfl
  .exact aIt
  .exact aIp
  .exact aIl
  .exact aIh
  .exact aId
 .rcases hc with rfl | rfl | rfl | rfl | rfl
  .exact aIs
  .exact aIo
  .exact aIk
  .exact aIg
  .exact aIc
 .rcases hc with rfl | rfl | rfl | rfl | rfl
  .exact aIr
  .exact aIn
  .exact aIj
  .exact aIf
  .exact aIb
theorem aJa {c iK gA:Nat} (hc:C5 c) (Et:iK=7\/(iK=8/\c≠0)) (Bi:C5 gA):nK c iK gA:=by
 rcases hc with rfl | rfl | rfl | rfl | rfl
 .rcases Et with rfl | ⟨rfl,dD⟩
  .rcases Bi with rfl | rfl | rfl | rfl | rfl
   .exact XX
   .exact XW
   .exact XV
   .exact XU
   .exact XT
  .exact (dD rfl).elim
 .rcases Et with rfl | ⟨rfl,dD⟩
  .rcases Bi with rfl | rfl | rfl | rfl | rfl
   .exact XS
   .exact XR
   .exact XQ
   .exact XP
   .exact XO
  .rcases Bi with rfl | rfl | rfl | rfl | rfl
   .exact XN
   .exact XM
   .exact XL
   .exact XK
   .exact XJ
 .rcases Et with rfl | ⟨rfl,dD⟩
  .rcases Bi with rfl | rfl | rfl | rfl | rfl
   .exact XI
   .exact XH
   .exact XG
   .exact XF
   .exact XE
  .rcases Bi with rfl | rfl | rfl | rfl | rfl
   .exact XD
   .exact XC
   .exact XB
   .exact XA
   .exact WZ
 .rcases Et with rfl | ⟨rfl,dD⟩
  .rcases Bi with rfl | rfl | rfl | rfl | rfl
   .exact WY
   .exact WX
   .exact WW
   .exact WV
   .exact WU
  .rcases Bi with rfl | rfl | rfl | rfl | rfl
   .exact WT
   .exact WS
   .exact WR
   .exact WQ
   .exact WO
 .rcases Et with rfl | ⟨rfl,dD⟩
  .rcases Bi with rfl | rfl | rfl | rfl | rfl
   .exact WN
   .exact WM
   .exact WL
   .exact WK
   .exact WJ
  .rcases Bi with rfl | rfl | rfl | rfl | rfl
   .exact WI
   .exact WH
   .exact WG
   .exact WE
   .exact WD
theorem KW {c m n:Nat} {ks held pX xs:List Int} {y0 y1 R j i':Int} {i:Nat} (hh:held.length<15) (hi:i<n) (hn:n=xs.length) (hl:n<=1073741824) (h':held++[xs.getD i 0]=pX) (fS:i'=((i+1:Nat):Int)) :
 ∀ q∈FE c m n ks held pX xs y0 y1 R j (i:Int) i',q:=by
 have e1:IntKind.i64.wrap ((i:Int)+1)=i':=by rw [fS,IntWalk.i64_in _ ⟨by omega,by omega⟩];omega
 have e2:((((held++[xs.getD i 0]).length:Int)==16)=false):=by
  rw [List.length_append,List.length_singleton]
  exact beq_eq_false_iff_ne.2 (by omega)
 have e3:(held.length+[xs.getD i 0].length)*1<=140737488355328:=by simp only [List.length_singleton];omega
 have e4:i<xs.length:=by omega
 have e5:(0:Int)<=(i:Int)/\(i:Int)<(n:Int):=by omega
 have e6:decide ((i:Int)<(n:Int))=true:=decide_eq_true e5.2
 refine aA ?_
 unfold FE
 rw [Int.toNat_natCast]
 cases c with
 | zero=>exact ⟨e2,e3,e4,e5,e6,rfl,rfl,rfl,e1,⟨rfl,rfl⟩,rfl,rfl,rfl,rfl,h',rfl,trivial⟩
 | succ c=>exact ⟨e2,e3,e4,e5,e6,rfl,rfl,rfl,e1,⟨rfl,rfl⟩,rfl,rfl,rfl,rfl,rfl,rfl,rfl,h',rfl,rfl,trivial⟩
theorem KT {c m n:Nat} {ks held xs:List Int} {y0 y1 R j i J:Int} (hi:i=(n:Int)) (hj:j=J):∀ q∈FB c m n ks held xs y0 y1 R j i J,q:=by
 have e1:decide (i<(n:Int))=false:=decide_eq_false (by omega)
 refine aA ?_
 unfold FB
 cases c with
 | zero=>exact ⟨e1,hj,rfl,rfl,rfl,⟨rfl,rfl⟩,rfl,rfl,rfl,rfl,rfl,rfl,trivial⟩
 | succ c=>exact ⟨e1,hj,rfl,rfl,rfl,⟨rfl,rfl⟩,rfl,rfl,rfl,rfl,rfl,rfl,rfl,rfl,rfl,rfl,trivial⟩
theorem KV {c m n:Nat} {ks held xs:List Int} {y0 y1 R j:Int}:∀ q∈FD c m n ks held xs y0 y1 R j,q:=by
 refine aA ?_
 unfold FD
 cases c with
 | zero=>exact ⟨rfl,rfl,rfl,rfl,⟨rfl,rfl⟩,rfl,rfl,rfl,rfl,rfl,rfl,trivial⟩
 | succ c=>exact ⟨rfl,rfl,rfl,rfl,⟨rfl,rfl⟩,rfl,rfl,rfl,rfl,rfl,rfl,rfl,rfl,rfl,rfl,trivial⟩
open M in
theorem KU {c iK gA m n:Nat} {ks xs:List Int} {y0 y1 R R' b0 b1 b2 b3 b4 b5 b6 b7 b8 b9 dC dB dA dH dG x j i' S:Int} {i:Nat} (hS:0<=S/\S<bA) (hm:m=nl [y0,y1]) (Bi:gA=if ln S=0\/m=0 then 0 else ln S+m+4)
 (fG:U y0) (iC:U y1) (hy:y0+18446744073709551616*y1<21267647932558653966460912964485513216) (Et:iK=7/\(c≠0->ln R=0)\/iK=8/\ln R≠0) (hR:0<=R/\R<bA)
 (hb:bR [b0,b1,b2,b3,b4,b5,b6,b7,b8,b9,dC,dB,dA,dH,dG,x,1]) (hi:i<n) (hn:n=xs.length) (hl:n<=1073741824) (fS:i'=((i+1:Nat):Int)) (hR':R'=Xt S y0 y1) :
 ∀ q∈FC c iK gA m n ks xs y0 y1 R R' b0 b1 b2 b3 b4 b5 b6 b7 b8 b9 dC dB dA dH dG x j (i:Int) i' S,q:=by
 have e1:IntKind.i64.wrap ((i:Int)+1)=i':=by rw [fS,IntWalk.i64_in _ ⟨by omega,by omega⟩];omega
 have e4:i<xs.length:=by omega
 have e5:(0:Int)<=(i:Int)/\(i:Int)<(n:Int):=by omega
 have e6:decide ((i:Int)<(n:Int))=true:=decide_eq_true e5.2
 have u:=SS S
 have v:=SS R
 have s1:n3 (w0 S) (w1 S) (w2 S)<bA:=by rw [La hS.1 hS.2];exact hS.2
 have r1:n3 (w0 R) (w1 R) (w2 R)<bA:=by rw [La hR.1 hR.2];exact hR.2
 have v0:U (V [b0,b1,b2,b3,b4,b5,b6,b7]):=Zc (bR.bO (hb b0 (by simp)) (bR.bO (hb b1 (by simp)) (bR.bO (hb b2 (by simp)) (bR.bO (hb b3 (by simp)) (bR.bO (hb b4 (by simp)) (bR.bO (hb b5 (by simp)) (bR.bO (hb b6 (by simp)) (bR.bO (hb b7 (by simp)) bR.Py)))))))) rfl
 have v1:U (V [b8,b9,dC,dB,dA,dH,dG,x]):=Zc (bR.bO (hb b8 (by simp)) (bR.bO (hb b9 (by simp)) (bR.bO (hb dC (by simp)) (bR.bO (hb dB (by simp)) (bR.bO (hb dA (by simp)) (bR.bO (hb dH (by simp)) (bR.bO (hb dG (by simp)) (bR.bO (hb x (by simp)) bR.Py)))))))) rfl
 subst hR'
 unfold FC
 rw [Int.toNat_natCast]
 intro q hq
 rcases List.mem_append.1 hq with hq | hq
 .exact aA (l:=[ln S=nl [w0 S,w1 S,w2 S],m=nl [y0,y1],gA=(if ln S=0\/m=0 then 0 else ln S+m+4),U (w0 S),U (w1 S),U (w2 S),n3 (w0 S) (w1 S) (w2 S)<bA,U y0,U y1,y0+18446744073709551616*y1<21267647932558653966460912964485513216,0=0,ln S=ln S,iK=iK,0=0,m=m,6=6,w0 S::w1 S::w2 S::List.replicate (iK-3) 0=w0 S::w1 S::w2 S::List.replicate (iK-3) 0,[y0,y1,0,0,0,0]=[y0,y1,0,0,0,0]]) ⟨rfl,hm,Bi,u.1,u.2.1,u.2.2,s1,fG,iC,hy,rfl,rfl,rfl,rfl,rfl,rfl,rfl,rfl,trivial⟩ q hq
 .rcases List.mem_append.1 hq with hq | hq
  .cases c with
   | zero=>cases hq
   | succ c=>
     rcases Et with ⟨rfl,h0⟩ | ⟨rfl,h0⟩
     .exact aA (l:=[ln R=nl [w0 R,w1 R,w2 R],ln R=0]) ⟨rfl,h0 (by omega),trivial⟩ q hq
     .exact aA (l:=[ln R=nl [w0 R,w1 R,w2 R],ln R≠0,U (w0 R),U (w1 R),U (w2 R),n3 (w0 R) (w1 R) (w2 R)<bA]) ⟨rfl,h0,v.1,v.2.1,v.2.2,r1,trivial⟩ q hq
  .rcases List.mem_append.1 hq with hq | hq
   .exact aA (l:=[U (V [b0,b1,b2,b3,b4,b5,b6,b7]),U (V [b8,b9,dC,dB,dA,dH,dG,x]),(1:Int)=1]) ⟨v0,v1,rfl,trivial⟩ q hq
   .rcases List.mem_append.1 hq with hq | hq
    .cases c with
     | zero=>cases hq
     | succ c=>exact aA (l:=[0=0,ln R=ln R,c+1=c+1,w0 R::w1 R::w2 R::List.replicate (c+1-3) 0=w0 R::w1 R::w2 R::List.replicate (c+1-3) 0]) ⟨rfl,rfl,rfl,rfl,trivial⟩ q hq
    .rcases List.mem_append.1 hq with hq | hq
     .refine aA ?_ q hq
      exact ⟨rfl,hb,rfl,rfl,rfl,e4,e5,e6,rfl,rfl,rfl,e1,⟨rfl,rfl⟩,rfl,rfl,rfl,rfl,trivial⟩
     .cases gA with
      | zero=>exact aA (l:=[([]:List Int)=[],xs=xs]) ⟨rfl,rfl,trivial⟩ q hq
      | succ gA=>
        refine aA ?_ q hq
        exact ⟨rfl,rfl,rfl,rfl,rfl,rfl,trivial⟩
namespace M
def rm (S:Int) (m:Nat):Nat:=if ln S=0\/m=0 then 0 else ln S+m+4
theorem aDx (S y0 y1:Int):C5 (rm S (nl [y0,y1])):=by
 unfold rm C5
 split
 .exact Or.inl rfl
 .rename_i h
  have h3:ln S<=3:=by unfold ln;rcases nl3 (w0 S) (w1 S) (w2 S) with h | h | h | h <;> omega
  have h2:nl [y0,y1]<=2:=by rcases RV y0 y1 with h | h | h <;> omega
  omega
theorem ln0 {S:Int} (h0:0<=S) (h1:S<bA) (h:ln S=0):S=0:=by
 have e:=La h0 h1
 unfold ln at h
 rcases nl3 (w0 S) (w1 S) (w2 S) with ⟨_,a,b,c⟩ | h' | h' | h'
 .rw [<- e,a,b,c];rfl
 all_goals omega
theorem YE {S y0 y1:Int} (h0:0<=S) (h1:S<bA) (h:rm S (nl [y0,y1])=0):Xt S y0 y1=0:=by
 unfold rm at h
 split at h
 .rename_i h2
  unfold Xt
  rw [La h0 h1]
  rcases h2 with h2 | h2
  .rw [ln0 h0 h1 h2];simp
  .rcases RV y0 y1 with ⟨_,rfl,rfl⟩ | h' | h'
   .simp
   all_goals omega
 .omega
end M
def QS (c:Nat) (R:Int):Prop:=C5 c/\(c=0->R=0)/\0<=R/\R<M.bA
theorem KS {c:Nat} {R Y:Int} (h:QS c R):FA c R Y=(R+Y)%M.bA:=by
 obtain ⟨hc,h0,h1,h2⟩:=h
 cases c with
 | zero=>rw [h0 rfl];rfl
 | succ c=>show (M.n3 (M.w0 R) (M.w1 R) (M.w2 R)+Y)%M.bA=_;rw [M.La h1 h2]
noncomputable def QQ (key:List Int) (d:Nat->List Int) (j:SV) (J:Nat) (i:Int) (c:Nat) (R:Int) (t:Nat):St:=Ay j (d (J+1)).length i (M.kS key) (M.tY key) (M.sG key) (M.nl [M.tY key,M.sG key]) c R (M.held (M.cat d) t) (d (J+1))
def eP (key:List Int) (d:Nat->List Int) (t:Nat):Int:=M.acc (M.tY key+18446744073709551616*M.sG key) (M.cat d) (t/16)
set_option maxHeartbeats 4000000 in
theorem Mw {nI:Nat} {key:List Int} {d:Nat->List Int} (hk:bR key) (hd:bR (M.cat d)) (hl:(M.cat d).length<=1073741824) {J:Nat} (hJ:J<5) {w0:World} {Mx:Nat->Prop} {V0:aY} (hb:qF (ΓT 7 0 nI) (bH 100 (yU d)) 100 V0) {K:List Fr} {Q:Exit->Act->World->Prop}
 (hx:∀ c,QS c (eP key d (M.off d (J+1)))->G Tryz.prog (ΓT 7 0 nI) w0 Mx (bH 100 (yU d)) Tryz.f56.ntmps 100 V0 (.at (.exit 5)) K (QQ key d (.int true .i64 (J:Nat)) J (d (J+1)).length c (eP key d (M.off d (J+1))) (M.off d (J+1))) Q)
 {c:Nat} (hc:QS c (eP key d (M.off d J))):G Tryz.prog (ΓT 7 0 nI) w0 Mx (bH 100 (yU d)) Tryz.f56.ntmps 100 V0 (.go (.loop pF)) K (QQ key d (.int false .i64 (J:Nat)) J 0 c (eP key d (M.off d J)) (M.off d J)) Q:=by
 obtain ⟨u0,u1,u2⟩:=M.aYh hk
 have uH:=M.JA d hJ
 have Eh:qF (ΓT 7 0 0) (bH 100 (yU d)) 100 V0:=hb.Kq (oJ _ _ _ _ _ _)
 refine G.loop (fun r s=>∃ i c:Nat,i<=(d (J+1)).length/\r=(d (J+1)).length-i/\QS c (eP key d (M.off d J+i))/\s=QQ key d (.int false .i64 (J:Nat)) J (i:Nat) c (eP key d (M.off d J+i)) (M.off d J+i)) (r0:=(d (J+1)).length) ⟨0,c,by omega,rfl,hc,rfl⟩ ?_
 rintro r s ⟨i,c,hi,rfl,hR,rfl⟩
 by_cases cI:i<(d (J+1)).length
 .have sD:=M.aCz d hJ cI
  by_cases h15:(M.off d J+i)%16=15
  ·
   have zP:(M.off d J+i+1)/16=(M.off d J+i)/16+1:=by omega
   have tZ:16*((M.off d J+i)/16)+16<=(M.cat d).length:=by omega
   have GS:(M.cat d).getD (16*((M.off d J+i)/16)+15) 0=(d (J+1)).getD i 0:=by rw [<- sD];congr 1;omega
   have fA:=M.KE (M.cat d) (k:=(M.off d J+i)/16) (by omega)
   have DG:=M.aDe hd ((16*((M.off d J+i)/16):Nat):Int) 16
   rw [fA,GS] at DG
   have aZk:=M.Ny (M.tY key+18446744073709551616*M.sG key) tZ
   obtain ⟨hC,hR0,hR1,hR2⟩:=hR
   have hR:QS c (eP key d (M.off d J+i)):=⟨hC,hR0,hR1,hR2⟩
   generalize hRR:eP key d (M.off d J+i)=R at *
   have hS:=KS (Y:=M.V (M.aN (M.cat d) ((16*((M.off d J+i)/16):Nat):Int) 16)) hR
   generalize hSS:FA c R (M.V (M.aN (M.cat d) ((16*((M.off d J+i)/16):Nat):Int) 16))=S at *
   have hSb:0<=S/\S<M.bA:=by rw [hS];exact M.Is _
   have hQ:eP key d (M.off d J+(i+1))=Xt S (M.tY key) (M.sG key):=by
    show M.acc _ (M.cat d) ((M.off d J+(i+1))/16)=_
    rw [<- Nat.add_assoc,zP,aZk]
    unfold Xt
    rw [M.step_eq hS,<- hRR]
    rfl
   obtain ⟨iK,Et,aTs⟩:∃ iK,(iK=7\/(iK=8/\c≠0))/\(iK=7/\(c≠0->M.ln R=0)\/iK=8/\M.ln R≠0):=by
    by_cases h:M.ln R=0
    .exact ⟨7,Or.inl rfl,Or.inl ⟨rfl,fun _=>h⟩⟩
    .by_cases Ar:c=0
     .exact ⟨7,Or.inl rfl,Or.inl ⟨rfl,fun dD=>(dD Ar).elim⟩⟩
     .exact ⟨8,Or.inr ⟨rfl,Ar⟩,Or.inr ⟨rfl,h⟩⟩
   have dR:=aJa hC Et (M.aDx S (M.tY key) (M.sG key))
   have aTj:M.rm S (M.nl [M.tY key,M.sG key])=0->Xt S (M.tY key) (M.sG key)=0:=M.YE hSb.1 hSb.2
   have aTi:=M.aDx S (M.tY key) (M.sG key)
   have aTh:M.rm S (M.nl [M.tY key,M.sG key])=if M.ln S=0\/M.nl [M.tY key,M.sG key]=0 then 0 else M.ln S+M.nl [M.tY key,M.sG key]+4:=rfl
   generalize M.rm S (M.nl [M.tY key,M.sG key])=gA at *
   refine G.op 9 0 ?_
   unfold QQ
   rw [M.aAr _ h15]
   have hr:=dR (M.kS key) d (M.tY key) (M.sG key) (M.nl [M.tY key,M.sG key]) R (Xt S (M.tY key) (M.sG key)) ((M.cat d).getD (16*((M.off d J+i)/16)) 0) ((M.cat d).getD (16*((M.off d J+i)/16)+1) 0) ((M.cat d).getD (16*((M.off d J+i)/16)+2) 0) ((M.cat d).getD (16*((M.off d J+i)/16)+3) 0) ((M.cat d).getD (16*((M.off d J+i)/16)+4) 0) ((M.cat d).getD (16*((M.off d J+i)/16)+5) 0) ((M.cat d).getD (16*((M.off d J+i)/16)+6) 0) ((M.cat d).getD (16*((M.off d J+i)/16)+7) 0) ((M.cat d).getD (16*((M.off d J+i)/16)+8) 0) ((M.cat d).getD (16*((M.off d J+i)/16)+9) 0) ((M.cat d).getD (16*((M.off d J+i)/16)+10) 0) ((M.cat d).getD (16*((M.off d J+i)/16)+11) 0) ((M.cat d).getD (16*((M.off d J+i)/16)+12) 0) ((M.cat d).getD (16*((M.off d J+i)/16)+13) 0) ((M.cat d).getD (16*((M.off d J+i)/16)+14) 0) (d (J+1)) (J:Nat) (d (J+1)).length (i:Nat) ((i+1:Nat):Int)
   refine G.Kq (Γ':=ΓT iK gA 0) (oJ _ _ _ _ _ _) ?_
   refine G.fM (sX _ _ _) (sY _ _ _) mix (hb.Kq (oJ _ _ _ _ _ _)) [true] hr ?_ (G.Kq (Γ':=ΓT 7 0 nI) (oJ _ _ _ _ _ _) (G.again fun V _ _ fS=>⟨(d (J+1)).length-(i+1),by omega,_,⟨i+1,gA,by omega,rfl,?_,?_⟩,V,fS⟩))
   .rw [Int.toNat_natCast,<- M.bBx,<- GS,<- fA,hSS]
    rw [<- GS] at DG
    exact KU hSb rfl aTh u0 u1 u2 aTs ⟨hR1,hR2⟩ DG cI rfl (by omega) rfl rfl
   .rw [hQ]
    exact ⟨aTi,aTj,by unfold Xt;exact (M.Is _).1,by unfold Xt;exact (M.Is _).2⟩
   .rw [hQ]
    show _=Ay _ _ _ _ _ _ _ _ _ (M.held (M.cat d) (M.off d J+(i+1))) _
    rw [M.JQ _ (by omega)]
    rfl
  ·
   have zP:(M.off d J+(i+1))/16=(M.off d J+i)/16:=by omega
   have hQ:eP key d (M.off d J+(i+1))=eP key d (M.off d J+i):=by unfold eP;rw [zP]
   have hh:M.held (M.cat d) (M.off d J+i)++[(d (J+1)).getD i 0]=M.held (M.cat d) (M.off d J+(i+1)):=by rw [<- sD];exact M.AE _ (by omega)
   refine G.Kq (Γ':=ΓT 7 0 0) (oJ _ _ _ _ _ _) ?_
   refine G.fM (sX _ _ _) (sY _ _ _) mix Eh [true,false] (aJc hR.1 (M.kS key) d (M.tY key) (M.sG key) (M.nl [M.tY key,M.sG key]) _ _ (M.held (M.cat d) (M.off d J+(i+1))) (d (J+1)) (J:Nat) (d (J+1)).length (i:Nat) ((i+1:Nat):Int)) ?_ (G.Kq (Γ':=ΓT 7 0 nI) (oJ _ _ _ _ _ _) (G.again fun V _ _ fS=>⟨(d (J+1)).length-(i+1),by omega,_,⟨i+1,c,by omega,rfl,?_,?_⟩,V,fS⟩))
   .exact KW (by rw [M.Oj];omega) cI rfl (by omega) hh rfl
   .rw [hQ];exact hR
   .rw [hQ];rfl
 .obtain rfl:i=(d (J+1)).length:=by omega
  refine G.Kq (Γ':=ΓT 7 0 0) (oJ _ _ _ _ _ _) ?_
  refine G.fM (sX _ _ _) (sY _ _ _) mix Eh [false] (aIz hR.1 (M.kS key) d (M.tY key) (M.sG key) (M.nl [M.tY key,M.sG key]) _ _ (d (J+1)) (J:Nat) (d (J+1)).length ((d (J+1)).length:Nat) (J:Nat)) (KT rfl rfl) (G.Kq (Γ':=ΓT 7 0 nI) (oJ _ _ _ _ _ _) (G.leave (fun h=>by cases h) ?_))
  exact hx c hR
theorem aIy (d:Nat->List Int) (y0 y1:Int) (m:Nat) (R:Int) (k:Nat->Int) (xs:List Int) (n:Nat) (i:Int) :
 Lj (ΓT 7 0 0) (yU d) 100 100 Tryz.f56 (CO 7 0 0 d (.at (.exit 5)) (xC 4) ((Ay (.int true .i64 4) n i [k 0,k 1,k 2,k 3,k 4,k 5,k 6,k 7,k 8,k 9,k 10,k 11,k 12,k 13,k 14,k 15,k 16,k 17,k 18,k 19,k 20,k 21,k 22,k 23,k 24,k 25,k 26,k 27,k 28,k 29,k 30,k 31] y0 y1 m 0 R [] xs).hint [false])) =
 sh (0:Int) fun z0=>
 sh (0:Nat) fun z1=>
 some {bM:=[z1=M.nl [M.V [k 16,k 17,k 18,k 19,k 20,k 21,k 22,k 23],M.V [k 24,k 25,k 26,k 27,k 28,k 29,k 30,k 31]],z1=z1,M.nl [M.V [k 16,k 17,k 18,k 19,k 20,k 21,k 22,k 23],M.V [k 24,k 25,k 26,k 27,k 28,k 29,k 30,k 31]]=z1,(6:Nat)=(6:Nat),[M.V [k 16,k 17,k 18,k 19,k 20,k 21,k 22,k 23],M.V [k 24,k 25,k 26,k 27,k 28,k 29,k 30,k 31],z0,z0,z0,z0]=[M.V [k 16,k 17,k 18,k 19,k 20,k 21,k 22,k 23],M.V [k 24,k 25,k 26,k 27,k 28,k 29,k 30,k 31],z0,z0,z0,z0],bR [k 0,k 1,k 2,k 3,k 4,k 5,k 6,k 7,k 8,k 9,k 10,k 11,k 12,k 13,k 14,k 15,k 16,k 17,k 18,k 19,k 20,k 21,k 22,k 23,k 24,k 25,k 26,k 27,k 28,k 29,k 30,k 31],[k 0,k 1,k 2,k 3,k 4,k 5,k 6,k 7,k 8,k 9,k 10,k 11,k 12,k 13,k 14,k 15,k 16,k 17,k 18,k 19,k 20,k 21,k 22,k 23,k 24,k 25,k 26,k 27,k 28,k 29,k 30,k 31]=[k 0,k 1,k 2,k 3,k 4,k 5,k 6,k 7,k 8,k 9,k 10,k 11,k 12,k 13,k 14,k 15,k 16,k 17,k 18,k 19,k 20,k 21,k 22,k 23,k 24,k 25,k 26,k 27,k 28,k 29,k 30,k 31],false=false],val:=SV.agg [SV.int false IntKind.u8 z0,SV.int false IntKind.u8 z0,SV.int false IntKind.u8 z0,SV.int false IntKind.u8 z0,SV.int false IntKind.u8 z0,SV.int false IntKind.u8 z0,SV.int false IntKind.u8 z0,SV.int false IntKind.u8 z0,SV.int false IntKind.u8 z0,SV.int false IntKind.u8 z0,SV.int false IntKind.u8 z0,SV.int false IntKind.u8 z0,SV.int false IntKind.u8 z0,SV.int false IntKind.u8 z0,SV.int false IntKind.u8 z0,SV.int false IntKind.u8 z0]}:=by kernel_rfl
theorem aIx (d:Nat->List Int) (y0 y1:Int) (m:Nat) (R:Int) (k:Nat->Int) (xs:List Int) (n:Nat) (i:Int) :
 Lj (ΓT 7 0 1) (yU d) 100 100 Tryz.f56 (CO 7 0 1 d (.at (.exit 5)) (xC 4) ((Ay (.int true .i64 4) n i [k 0,k 1,k 2,k 3,k 4,k 5,k 6,k 7,k 8,k 9,k 10,k 11,k 12,k 13,k 14,k 15,k 16,k 17,k 18,k 19,k 20,k 21,k 22,k 23,k 24,k 25,k 26,k 27,k 28,k 29,k 30,k 31] y0 y1 m 0 R [] xs).hint [false])) =
 sh (M.V [k 16,k 17,k 18,k 19,k 20,k 21,k 22,k 23]) fun z0=>
 sh (0:Int) fun z1=>
 sh (1:Nat) fun z2=>
 sh (0:Nat) fun z3=>
 some {bM:=[M.U z0,z3=z3,z2=z2,z2=z2,[M.V [k 16,k 17,k 18,k 19,k 20,k 21,k 22,k 23]]=[M.V [k 16,k 17,k 18,k 19,k 20,k 21,k 22,k 23]],z2=M.nl [M.V [k 16,k 17,k 18,k 19,k 20,k 21,k 22,k 23],M.V [k 24,k 25,k 26,k 27,k 28,k 29,k 30,k 31]],z3=z3,M.nl [M.V [k 16,k 17,k 18,k 19,k 20,k 21,k 22,k 23],M.V [k 24,k 25,k 26,k 27,k 28,k 29,k 30,k 31]]=z2,(6:Nat)=(6:Nat),[M.V [k 16,k 17,k 18,k 19,k 20,k 21,k 22,k 23],M.V [k 24,k 25,k 26,k 27,k 28,k 29,k 30,k 31],z1,z1,z1,z1]=[M.V [k 16,k 17,k 18,k 19,k 20,k 21,k 22,k 23],M.V [k 24,k 25,k 26,k 27,k 28,k 29,k 30,k 31],z1,z1,z1,z1],bR [k 0,k 1,k 2,k 3,k 4,k 5,k 6,k 7,k 8,k 9,k 10,k 11,k 12,k 13,k 14,k 15,k 16,k 17,k 18,k 19,k 20,k 21,k 22,k 23,k 24,k 25,k 26,k 27,k 28,k 29,k 30,k 31],[k 0,k 1,k 2,k 3,k 4,k 5,k 6,k 7,k 8,k 9,k 10,k 11,k 12,k 13,k 14,k 15,k 16,k 17,k 18,k 19,k 20,k 21,k 22,k 23,k 24,k 25,k 26,k 27,k 28,k 29,k 30,k 31]=[k 0,k 1,k 2,k 3,k 4,k 5,k 6,k 7,k 8,k 9,k 10,k 11,k 12,k 13,k 14,k 15,k 16,k 17,k 18,k 19,k 20,k 21,k 22,k 23,k 24,k 25,k 26,k 27,k 28,k 29,k 30,k 31],false=false],val:=SV.agg [SV.int false IntKind.u8 (M.nb z0 z3),SV.int false IntKind.u8 (M.nb z0 z2),SV.int false IntKind.u8 (M.nb z0 (2:Nat)),SV.int false IntKind.u8 (M.nb z0 (3:Nat)),SV.int false IntKind.u8 (M.nb z0 (4:Nat)),SV.int false IntKind.u8 (M.nb z0 (5:Nat)),SV.int false IntKind.u8 (M.nb z0 (6:Nat)),SV.int false IntKind.u8 (M.nb z0 (7:Nat)),SV.int false IntKind.u8 (M.nb z0 (8:Nat)),SV.int false IntKind.u8 (M.nb z0 (9:Nat)),SV.int false IntKind.u8 (M.nb z0 (10:Nat)),SV.int false IntKind.u8 (M.nb z0 (11:Nat)),SV.int false IntKind.u8 (M.nb z0 (12:Nat)),SV.int false IntKind.u8 (M.nb z0 (13:Nat)),SV.int false IntKind.u8 (M.nb z0 (14:Nat)),SV.int false IntKind.u8 (M.nb z0 (15:Nat))]}:=by kernel_rfl
theorem aIw (d:Nat->List Int) (y0 y1:Int) (m:Nat) (R:Int) (k:Nat->Int) (xs:List Int) (n:Nat) (i:Int) :
 Lj (ΓT 7 0 2) (yU d) 100 100 Tryz.f56 (CO 7 0 2 d (.at (.exit 5)) (xC 4) ((Ay (.int true .i64 4) n i [k 0,k 1,k 2,k 3,k 4,k 5,k 6,k 7,k 8,k 9,k 10,k 11,k 12,k 13,k 14,k 15,k 16,k 17,k 18,k 19,k 20,k 21,k 22,k 23,k 24,k 25,k 26,k 27,k 28,k 29,k 30,k 31] y0 y1 m 0 R [] xs).hint [false])) =
 sh (M.V [k 16,k 17,k 18,k 19,k 20,k 21,k 22,k 23]+(18446744073709551616:Int)*M.V [k 24,k 25,k 26,k 27,k 28,k 29,k 30,k 31]) fun z0=>
 sh (0:Int) fun z1=>
 sh (6:Nat) fun z2=>
 sh (2:Nat) fun z3=>
 sh (0:Nat) fun z4=>
 some {bM:=[z2=z2\/z2=(7:Nat)\/z2=(8:Nat)\/z2=(9:Nat),M.U (M.V [k 16,k 17,k 18,k 19,k 20,k 21,k 22,k 23]),M.U (M.V [k 24,k 25,k 26,k 27,k 28,k 29,k 30,k 31]),z1<=z1/\z1<(8:Int),z3=M.nl [M.V [k 16,k 17,k 18,k 19,k 20,k 21,k 22,k 23],M.V [k 24,k 25,k 26,k 27,k 28,k 29,k 30,k 31],z1],z4=z4,z3=z3,z2=z2,[M.V [k 16,k 17,k 18,k 19,k 20,k 21,k 22,k 23],M.V [k 24,k 25,k 26,k 27,k 28,k 29,k 30,k 31],z1,z1,z1,z1]=[M.V [k 16,k 17,k 18,k 19,k 20,k 21,k 22,k 23],M.V [k 24,k 25,k 26,k 27,k 28,k 29,k 30,k 31],z1,z1,z1,z1],z3=M.nl [M.V [k 16,k 17,k 18,k 19,k 20,k 21,k 22,k 23],M.V [k 24,k 25,k 26,k 27,k 28,k 29,k 30,k 31]],z4=z4,M.nl [M.V [k 16,k 17,k 18,k 19,k 20,k 21,k 22,k 23],M.V [k 24,k 25,k 26,k 27,k 28,k 29,k 30,k 31]]=z3,z2=z2,[M.V [k 16,k 17,k 18,k 19,k 20,k 21,k 22,k 23],M.V [k 24,k 25,k 26,k 27,k 28,k 29,k 30,k 31],z1,z1,z1,z1]=[M.V [k 16,k 17,k 18,k 19,k 20,k 21,k 22,k 23],M.V [k 24,k 25,k 26,k 27,k 28,k 29,k 30,k 31],z1,z1,z1,z1],bR [k 0,k 1,k 2,k 3,k 4,k 5,k 6,k 7,k 8,k 9,k 10,k 11,k 12,k 13,k 14,k 15,k 16,k 17,k 18,k 19,k 20,k 21,k 22,k 23,k 24,k 25,k 26,k 27,k 28,k 29,k 30,k 31],[k 0,k 1,k 2,k 3,k 4,k 5,k 6,k 7,k 8,k 9,k 10,k 11,k 12,k 13,k 14,k 15,k 16,k 17,k 18,k 19,k 20,k 21,k 22,k 23,k 24,k 25,k 26,k 27,k 28,k 29,k 30,k 31]=[k 0,k 1,k 2,k 3,k 4,k 5,k 6,k 7,k 8,k 9,k 10,k 11,k 12,k 13,k 14,k 15,k 16,k 17,k 18,k 19,k 20,k 21,k 22,k 23,k 24,k 25,k 26,k 27,k 28,k 29,k 30,k 31],false=false],val:=SV.agg [SV.int false IntKind.u8 (M.nb z0 z4),SV.int false IntKind.u8 (M.nb z0 (1:Nat)),SV.int false IntKind.u8 (M.nb z0 z3),SV.int false IntKind.u8 (M.nb z0 (3:Nat)),SV.int false IntKind.u8 (M.nb z0 (4:Nat)),SV.int false IntKind.u8 (M.nb z0 (5:Nat)),SV.int false IntKind.u8 (M.nb z0 z2),SV.int false IntKind.u8 (M.nb z0 (7:Nat)),SV.int false IntKind.u8 (M.nb z0 (8:Nat)),SV.int false IntKind.u8 (M.nb z0 (9:Nat)),SV.int false IntKind.u8 (M.nb z0 (10:Nat)),SV.int false IntKind.u8 (M.nb z0 (11:Nat)),SV.int false IntKind.u8 (M.nb z0 (12:Nat)),SV.int false IntKind.u8 (M.nb z0 (13:Nat)),SV.int false IntKind.u8 (M.nb z0 (14:Nat)),SV.int false IntKind.u8 (M.nb z0 (15:Nat))]}:=by kernel_rfl
theorem aVr {c:Nat} (hc:c=6\/c=7\/c=8\/c=9) (nI:Nat) (d:Nat->List Int) (y0 y1:Int) (m:Nat) (R:Int) (k:Nat->Int) (xs:List Int) (n:Nat) (i:Int) :
 Lj (ΓT 7 0 nI) (yU d) 100 100 Tryz.f56 (CO 7 0 nI d (.at (.exit 5)) (xC 4) ((Ay (.int true .i64 4) n i [k 0,k 1,k 2,k 3,k 4,k 5,k 6,k 7,k 8,k 9,k 10,k 11,k 12,k 13,k 14,k 15,k 16,k 17,k 18,k 19,k 20,k 21,k 22,k 23,k 24,k 25,k 26,k 27,k 28,k 29,k 30,k 31] y0 y1 m c R [] xs).hint [false])) =
 sh (18446744073709551616:Int) fun z4=>
 sh (M.n3 (M.w0 R) (M.w1 R) (M.w2 R)+(M.V [k 16,k 17,k 18,k 19,k 20,k 21,k 22,k 23]+z4*M.V [k 24,k 25,k 26,k 27,k 28,k 29,k 30,k 31])) fun z0=>
 sh (M.w0 z0+z4*M.w1 z0) fun z1=>
 sh (0:Int) fun z2=>
 sh (0:Nat) fun z3=>
 some {bM:=[c=6\/c=7\/c=8\/c=9,M.U (M.w0 z0),M.U (M.w1 z0),z2<=M.w2 z0/\M.w2 z0<(8:Int),M.ln z0=M.nl [M.w0 z0,M.w1 z0,M.w2 z0],z3=z3,M.ln z0=M.ln z0,c=c,[M.w0 z0,M.w1 z0,M.w2 z0]++List.replicate (c-3) z2=[M.w0 z0,M.w1 z0,M.w2 z0]++List.replicate (c-3) z2,c=6\/c=7\/c=8\/c=9,M.U (M.w0 R),M.U (M.w1 R),z2<=M.w2 R/\M.w2 R<(4:Int),M.U (M.V [k 16,k 17,k 18,k 19,k 20,k 21,k 22,k 23]),M.U (M.V [k 24,k 25,k 26,k 27,k 28,k 29,k 30,k 31]),M.ln R=M.nl [M.w0 R,M.w1 R,M.w2 R],M.nl [M.V [k 16,k 17,k 18,k 19,k 20,k 21,k 22,k 23],M.V [k 24,k 25,k 26,k 27,k 28,k 29,k 30,k 31]]=M.nl [M.V [k 16,k 17,k 18,k 19,k 20,k 21,k 22,k 23],M.V [k 24,k 25,k 26,k 27,k 28,k 29,k 30,k 31]],z3=z3,M.ln R=M.ln R,c=c,z3=z3,M.nl [M.V [k 16,k 17,k 18,k 19,k 20,k 21,k 22,k 23],M.V [k 24,k 25,k 26,k 27,k 28,k 29,k 30,k 31]]=M.nl [M.V [k 16,k 17,k 18,k 19,k 20,k 21,k 22,k 23],M.V [k 24,k 25,k 26,k 27,k 28,k 29,k 30,k 31]],(6:Nat)=(6:Nat),[M.w0 R,M.w1 R,M.w2 R]++List.replicate (c-3) z2=[M.w0 R,M.w1 R,M.w2 R]++List.replicate (c-3) z2,[M.V [k 16,k 17,k 18,k 19,k 20,k 21,k 22,k 23],M.V [k 24,k 25,k 26,k 27,k 28,k 29,k 30,k 31],z2,z2,z2,z2]=[M.V [k 16,k 17,k 18,k 19,k 20,k 21,k 22,k 23],M.V [k 24,k 25,k 26,k 27,k 28,k 29,k 30,k 31],z2,z2,z2,z2],bR [k 0,k 1,k 2,k 3,k 4,k 5,k 6,k 7,k 8,k 9,k 10,k 11,k 12,k 13,k 14,k 15,k 16,k 17,k 18,k 19,k 20,k 21,k 22,k 23,k 24,k 25,k 26,k 27,k 28,k 29,k 30,k 31],[k 0,k 1,k 2,k 3,k 4,k 5,k 6,k 7,k 8,k 9,k 10,k 11,k 12,k 13,k 14,k 15,k 16,k 17,k 18,k 19,k 20,k 21,k 22,k 23,k 24,k 25,k 26,k 27,k 28,k 29,k 30,k 31]=[k 0,k 1,k 2,k 3,k 4,k 5,k 6,k 7,k 8,k 9,k 10,k 11,k 12,k 13,k 14,k 15,k 16,k 17,k 18,k 19,k 20,k 21,k 22,k 23,k 24,k 25,k 26,k 27,k 28,k 29,k 30,k 31],false=false],val:=SV.agg [SV.int false IntKind.u8 (M.nb z1 z3),SV.int false IntKind.u8 (M.nb z1 (1:Nat)),SV.int false IntKind.u8 (M.nb z1 (2:Nat)),SV.int false IntKind.u8 (M.nb z1 (3:Nat)),SV.int false IntKind.u8 (M.nb z1 (4:Nat)),SV.int false IntKind.u8 (M.nb z1 (5:Nat)),SV.int false IntKind.u8 (M.nb z1 (6:Nat)),SV.int false IntKind.u8 (M.nb z1 (7:Nat)),SV.int false IntKind.u8 (M.nb z1 (8:Nat)),SV.int false IntKind.u8 (M.nb z1 (9:Nat)),SV.int false IntKind.u8 (M.nb z1 (10:Nat)),SV.int false IntKind.u8 (M.nb z1 (11:Nat)),SV.int false IntKind.u8 (M.nb z1 (12:Nat)),SV.int false IntKind.u8 (M.nb z1 (13:Nat)),SV.int false IntKind.u8 (M.nb z1 (14:Nat)),SV.int false IntKind.u8 (M.nb z1 (15:Nat))]}:=by rcases hc with rfl | rfl | rfl | rfl <;> kernel_rfl
def sgE (key:List Int) (d:Nat->List Int):bJ:={ val:=.agg ((M.tag key (M.cat d)).map (.int false .u8)) }
def Hw (key:List Int) (d:Nat->List Int):Int:=eP key d (M.cat d).length+(M.wV key+18446744073709551616*M.yD key)
theorem aIa {key:List Int} {d:Nat->List Int} (hk:bR key) (tZ:(M.cat d).length%16=0) {W:Int} (hW:M.w0 (Hw key d)+18446744073709551616*M.w1 (Hw key d)=W) :
 (SV.agg [SV.int false .u8 (M.nb W 0),SV.int false .u8 (M.nb W 1),SV.int false .u8 (M.nb W 2),SV.int false .u8 (M.nb W 3),SV.int false .u8 (M.nb W 4),SV.int false .u8 (M.nb W 5),SV.int false .u8 (M.nb W 6),SV.int false .u8 (M.nb W 7),SV.int false .u8 (M.nb W 8),SV.int false .u8 (M.nb W 9),SV.int false .u8 (M.nb W 10),SV.int false .u8 (M.nb W 11),SV.int false .u8 (M.nb W 12),SV.int false .u8 (M.nb W 13),SV.int false .u8 (M.nb W 14),SV.int false .u8 (M.nb W 15)])=(sgE key d).val:=by
 unfold sgE
 rw [M.IH hk tZ,M.aQf hk]
 show _=SV.agg (((List.range 16).map (M.nb (M.w0 (Hw key d)+18446744073709551616*M.w1 (Hw key d)))).map (SV.int false .u8))
 rw [hW];rfl
open M in
theorem aRm {c:Nat} (_:c=6\/c=7\/c=8\/c=9) {R Z0 Z1:Int} (hR:0<=R/\R<bA) (h0:U Z0) (h1:U Z1) :
 U (w0 (n3 (w0 R) (w1 R) (w2 R)+(Z0+18446744073709551616*Z1)))/\U (w1 (n3 (w0 R) (w1 R) (w2 R)+(Z0+18446744073709551616*Z1)))/\(0<=w2 (n3 (w0 R) (w1 R) (w2 R)+(Z0+18446744073709551616*Z1))/\w2 (n3 (w0 R) (w1 R) (w2 R)+(Z0+18446744073709551616*Z1))<8)/\(0<=w2 R/\w2 R<4):=by
 obtain ⟨a,b,c'⟩:=SS (n3 (w0 R) (w1 R) (w2 R)+(Z0+18446744073709551616*Z1))
 refine ⟨a,b,?_,?_⟩
 .rw [La hR.1 hR.2]
  unfold U at h0 h1;unfold bA at hR;unfold w2;omega
 .unfold bA at hR;unfold w2;omega
set_option maxHeartbeats 4000000 in
theorem aIv {key:List Int} {d:Nat->List Int} (hk:bR key) (tZ:(M.cat d).length%16=0) {w0:World} {Mx:Nat->Prop} {V0:aY} {Q:Exit->Act->World->Prop}
 (H:∀ x s e',Li (ΓT 7 0 (M.nl [M.wV key,M.yD key])) (yU d) 100 100 Tryz.f56 x s=some e'->(∀ q∈e'.bM,q)->e'.val=(sgE key d).val->e'.new=(sgE key d).new->e'.wr=(sgE key d).wr->G Tryz.prog (ΓT 7 0 (M.nl [M.wV key,M.yD key])) w0 Mx (bH 100 (yU d)) Tryz.f56.ntmps 100 V0 (.at x) [] s Q)
 {c:Nat} (hR:QS c (eP key d (M.cat d).length)) :
 G Tryz.prog (ΓT 7 0 (M.nl [M.wV key,M.yD key])) w0 Mx (bH 100 (yU d)) Tryz.f56.ntmps 100 V0 (.at (.exit 5)) (xC 4) (QQ key d (.int true .i64 (4:Nat)) 4 (d 5).length c (eP key d (M.cat d).length) (M.cat d).length) Q:=by
 have hz:=M.aYg hk
 obtain ⟨z0,z1⟩:=hz
 have hB:bR (M.kS key):=M.JN hk
 have aT:=sX 7 0 (M.nl [M.wV key,M.yD key])
 have aX:=sY 7 0 (M.nl [M.wV key,M.yD key])
 obtain ⟨hC,hR0,hR1,hR2⟩:=hR
 have sC:=fun W h=>aIa (W:=W) hk tZ h
 have hN:Hw key d=eP key d (M.cat d).length+(M.wV key+18446744073709551616*M.yD key):=rfl
 unfold QQ
 rw [M.JQ _ tZ]
 have big:∀ c,(c=6\/c=7\/c=8\/c=9)->M.w0 (Hw key d)+18446744073709551616*M.w1 (Hw key d)=M.w0 (M.n3 (M.w0 (eP key d (M.cat d).length)) (M.w1 (eP key d (M.cat d).length)) (M.w2 (eP key d (M.cat d).length))+(M.wV key+18446744073709551616*M.yD key))+18446744073709551616*M.w1 (M.n3 (M.w0 (eP key d (M.cat d).length)) (M.w1 (eP key d (M.cat d).length)) (M.w2 (eP key d (M.cat d).length))+(M.wV key+18446744073709551616*M.yD key)):=by
  intro c hc
  rw [hN,M.La hR1 hR2]
 have ob:∀ c,(c=6\/c=7\/c=8\/c=9)->_:=fun c hc=>aRm (c:=c) hc ⟨hR1,hR2⟩ z0 z1
 rcases hC with rfl | hC
 .have QZ:=hR0 rfl
  rw [QZ,Int.zero_add] at hN
  rw [QZ]
  have e0:M.w0 (Hw key d)=M.wV key:=by rw [hN];unfold M.U at z0 z1;unfold M.w0;omega
  have e1:M.w1 (Hw key d)=M.yD key:=by rw [hN];unfold M.U at z0 z1;unfold M.w1;omega
  have en:M.nl [M.wV key,M.yD key,0]=M.nl [M.wV key,M.yD key]:=M.gI [M.wV key,M.yD key]
  rw [e0,e1] at sC
  generalize Ia:M.nl [M.wV key,M.yD key]=nI at *
  rcases M.RV (M.wV key) (M.yD key) with ⟨h,y0,y1⟩ | ⟨h,y0,y1⟩ | ⟨h,y0⟩
  .rw [Ia] at h;subst h
   refine G.qR (cl:=[]) aT aX mix [false] H (aIy d _ _ _ _ (fun j=>(M.kS key).getD j 0) _ _ _) (aA ?_) (sC 0 (by rw [y0,y1];rfl)) rfl rfl
   exact ⟨Ia.symm,rfl,Ia,rfl,rfl,hB,rfl,rfl,trivial⟩
  .rw [Ia] at h;subst h
   refine G.qR (cl:=[]) aT aX mix [false] H (aIx d _ _ _ _ (fun j=>(M.kS key).getD j 0) _ _ _) (aA ?_) (sC (M.wV key) (by rw [y1];omega)) rfl rfl
   exact ⟨z0,rfl,rfl,rfl,rfl,Ia.symm,rfl,Ia,rfl,rfl,hB,rfl,rfl,trivial⟩
  .rw [Ia] at h;subst h
   refine G.qR (cl:=[]) aT aX mix [false] H (aIw d _ _ _ _ (fun j=>(M.kS key).getD j 0) _ _ _) (aA ?_) (sC _ rfl) rfl rfl
   exact ⟨.inl rfl,z0,z1,⟨by decide,by decide⟩,en.symm,rfl,rfl,rfl,rfl,Ia.symm,rfl,Ia,rfl,rfl,hB,rfl,rfl,trivial⟩
 obtain ⟨o1,o2,o3,o4⟩:=ob c hC
 have u:=M.SS (eP key d (M.cat d).length)
 refine G.qR (cl:=[]) aT aX mix [false] H (aVr hC (M.nl [M.wV key,M.yD key]) d _ _ _ _ (fun j=>(M.kS key).getD j 0) _ _ _) (aA ?_) (sC _ (big c hC)) rfl rfl
 exact ⟨hC,o1,o2,o3,rfl,rfl,rfl,rfl,rfl,hC,u.1,u.2.1,o4,z0,z1,rfl,rfl,rfl,rfl,rfl,rfl,rfl,rfl,rfl,rfl,hB,rfl,rfl,trivial⟩
set_option maxHeartbeats 4000000 in
theorem XY {key:List Int} {d:Nat->List Int} (hk:bR key) (hd:bR (M.cat d)) (hl:(M.cat d).length<=1073741824) (tZ:(M.cat d).length%16=0) :
 aF Tryz.prog (ΓT 7 0 (M.nl [M.wV key,M.yD key])) 56 (DN key) (yU d) 100 100 (sgE key d):=by
 refine gR (sX _ _ _) (sY _ _ _) Tryz.func56 (by kernel_rfl) rfl (Nat.le_of_ble_eq_true (by kernel_rfl)) rfl [] ?_
 intro w0 Mx V0 Q hb H
 have UL:=fun c hR=>aIv hk tZ H (c:=c) hR
 have hB:bR (M.kS key):=M.JN hk
 generalize M.nl [M.wV key,M.yD key]=nI at *
 have Eh:qF (ΓT 7 0 0) (bH 100 (yU d)) 100 V0:=hb.Kq (oJ _ _ _ _ _ _)
 have h5:=M.aEf d
 have next:∀ J,J<4->(∀ c,QS c (eP key d (M.off d (J+1)))->G Tryz.prog (ΓT 7 0 nI) w0 Mx (bH 100 (yU d)) Tryz.f56.ntmps 100 V0 (.go (.loop pF)) (xC (J+1)) (QQ key d (.int false .i64 ((J+1:Nat):Int)) (J+1) 0 c (eP key d (M.off d (J+1))) (M.off d (J+1))) Q) ->
  ∀ c,QS c (eP key d (M.off d J))->G Tryz.prog (ΓT 7 0 nI) w0 Mx (bH 100 (yU d)) Tryz.f56.ntmps 100 V0 (.go (.loop pF)) (xC J) (QQ key d (.int false .i64 (J:Nat)) J 0 c (eP key d (M.off d J)) (M.off d J)) Q:=by
  intro J hJ hG c hR
  refine Mw hk hd hl (by omega) hb (fun c hR=>?_) hR
  refine G.Kq (Γ':=ΓT 7 0 0) (oJ _ _ _ _ _ _) ?_
  exact G.fM (sX _ _ _) (sY _ _ _) mix Eh [] (aJb hR.1 hJ (M.kS key) d (M.tY key) (M.sG key) (M.nl [M.tY key,M.sG key]) _ _ (d (J+1)) (d (J+1)).length ((d (J+1)).length:Nat)) KV (G.Kq (Γ':=ΓT 7 0 nI) (oJ _ _ _ _ _ _) (hG c hR))
 have last:∀ c,QS c (eP key d (M.off d 4))->G Tryz.prog (ΓT 7 0 nI) w0 Mx (bH 100 (yU d)) Tryz.f56.ntmps 100 V0 (.go (.loop pF)) (xC 4) (QQ key d (.int false .i64 ((4:Nat):Int)) 4 0 c (eP key d (M.off d 4)) (M.off d 4)) Q:=by
  intro c hR
  refine Mw hk hd hl (by omega) hb (fun c hR=>?_) hR
  have hR':QS c (eP key d (M.off d 5)):=hR
  show G Tryz.prog (ΓT 7 0 nI) w0 Mx (bH 100 (yU d)) Tryz.f56.ntmps 100 V0 (.at (.exit 5)) (xC 4) (QQ key d (.int true .i64 (4:Nat)) 4 (d 5).length c (eP key d (M.off d 5)) (M.off d 5)) Q
  rw [h5] at hR' |-
  exact UL c hR'
 have all:=next 0 (by decide) (next 1 (by decide) (next 2 (by decide) (next 3 (by decide) last)))
 have ha0:eP key d (M.off d 0)=0:=by simp [eP,M.off,M.acc]
 refine G.Kq (Γ':=ΓT 7 0 0) (oJ _ _ _ _ _ _) ?_
 refine G.fM (sX _ _ _) (sY _ _ _) mix Eh [] (aVs key (M.kS key) d (M.tY key) (M.sG key) (M.nl [M.tY key,M.sG key])) (aA ?_) (G.Kq (Γ':=ΓT 7 0 nI) (oJ _ _ _ _ _ _) ?_)
 .exact ⟨hB,rfl,rfl,rfl,rfl,rfl,⟨rfl,rfl⟩,rfl,rfl,rfl,rfl,rfl,rfl,trivial⟩
 .have:=all 0 ⟨.inl rfl,fun _=>ha0,by rw [ha0];decide,by rw [ha0];decide⟩
  rw [ha0] at this
  exact this
def As (x1 x2 x3 x4 x5:List Int):Nat->List Int
 | 1=>x1
 | 2=>x2
 | 3=>x3
 | 4=>x4
 | _=>x5
def roL:SB->Option (List SV)
 | .own cs _=>some cs
 | .fP cs=>some cs
 | _=>none
def FF (vs:List SV) (T:aZ):Option Canon:=match vs with
 | [ks,.aG L _ 0 5 5]=>match cJ ks,(T L).bind roL with
   | some (.u8,k),some [p1,p2,p3,p4,p5]=>match cW T .u8 p1,cW T .u8 p2,cW T .u8 p3,cW T .u8 p4,cW T .u8 p5 with
     | some (o1,x1),some (o2,x2),some (o3,x3),some (o4,x4),some (o5,x5)=>some { eR:=[.ai .u8 k,.aG 62 true 0 5 5],T0:=sgB (As x1 x2 x3 x4 x5),vl:=[(62,.lab L 0),(71,.cell L 0),(72,.cell L 1),(73,.cell L 2),(74,.cell L 3),(75,.cell L 4)],e0:={ val:=.ai .u8 (M.tag k (x1++(x2++(x3++(x4++x5))))) },conds:=(k.length=32)::bR k::bR (x1++(x2++(x3++(x4++x5))))::((x1++(x2++(x3++(x4++x5)))).length<=1073741824)::((x1++(x2++(x3++(x4++x5)))).length%16=0)::(o1++(o2++(o3++(o4++o5)))) }
     | _,_,_,_,_=>none
   | _,_=>none
 | _=>none
theorem aHj (a b c:Nat):(ΓT a b c).aR=aB:=by kernel_rfl
theorem aHz (Γ:Env) (hg:Γ.aR=aB):aH Tryz.prog Γ 56 (aK aB 100 FF):=by
 refine aW hg fun vs T c hd hc=>?_
 unfold FF at hd
 split at hd
 case h_2=>cases hd
 split at hd
 case h_2=>cases hd
 split at hd
 case h_2=>cases hd
 cases hd
 rename_i k _ _ _ _ _ _ _ _ _ _ _ _ o1 x1 o2 x2 o3 x3 o4 x4 o5 x5 _ _ _ _ _
 have h32:k.length=32:=hc _ cM
 have h:aF Tryz.prog _ 56 (DN k) (yU (As x1 x2 x3 x4 x5)) 100 100 (sgE k (As x1 x2 x3 x4 x5)):=XY (hc _ (by simp)) (hc _ (by simp [M.cat,As])) (hc _ (by simp [M.cat,As])) (hc _ (by simp [M.cat,As]))
 refine h.words (hg.trans (aHj _ _ _).symm) (fun V=>?_) (fun _ _ h=>h) (fun V=>?_) rfl rfl
 .simp only [DN,aE,bI V h32]
 .show den V (.agg ((M.tag k (M.cat (As x1 x2 x3 x4 x5))).map (.int false .u8)))=_
  simp only [den,xY]
  rfl
namespace P
theorem aEj {x r q:Int}:(x*(r-p*q))%p=(x*r)%p:=by
 rw [Int.mul_sub,show x*(p*q)=p*(x*q) by rw [Int.mul_left_comm],Un]
theorem Hc {r q:Int} (d:List Int):∀ j,hor (r-p*q) d j=hor r d j
 | 0=>rfl
 | j+1=>by simp only [hor];rw [Hc d j,aEj]
theorem Sw {r q:Int} (d:List Int):Qc (r-p*q) d=Qc r d:=by
 unfold Qc
 rw [Hc,aEj]
theorem BU {k:List Int} (hk:∀ i,sM (k.getD i 0)):∀ i,sM ((dQ k).getD i 0):=rS fun x hx=>by
 unfold dQ at hx
 rcases List.mem_append.1 hx with h | h
 .obtain ⟨i,_,rfl⟩:=List.mem_map.1 h
  have Xp:∀ a b:Int,sM (bU .u8 a b):=fun a b=>by
   have e:bU .u8 a b=((BitVec.ofInt 8 a &&& BitVec.ofInt 8 b).toNat:Int)%256:=rfl
   unfold sM
   rw [e];omega
  unfold Iz
  split
  .exact Xp _ _
  .split
   .exact hk _
   .exact Xp _ _
  .exact hk _
 .simp only [List.mem_singleton] at h
  subst h
  exact ⟨by decide,by decide⟩
def Yo (key data:List Int):Int:=(Qc (Pq (dQ (key.take 16))) data+V2 (key.drop 16))%340282366920938463463374607431768211456
theorem aKi {key data:List Int} (hk:key.length=32) (hkb:∀ x∈key,sM x) (hd:∀ x∈data,sM x) :
 tag (Ev (put ⟨num (dQ (key.take 16)),List.replicate 5 0,key.drop 16,nL,0⟩ data)) (put ⟨num (dQ (key.take 16)),List.replicate 5 0,key.drop 16,nL,0⟩ data).mask =
  (List.range 8).map (byteOf (Yo key data%18446744073709551616))++(List.range 8).map (byteOf (Yo key data/18446744073709551616)):=by
 have hb:=Ip (BU (k:=key.take 16) (rS fun x hx=>hkb x (List.mem_of_mem_take hx)))
 obtain ⟨hO,q,hq⟩:=hb
 obtain ⟨h1,h2,h3⟩:=aLi (mask:=key.drop 16) hO (by rw [List.length_drop];omega) hd
 obtain ⟨t1,t2⟩:=Zh h1 (s:=key.drop 16) (rS fun x hx=>hkb x (List.mem_of_mem_drop hx))
 rw [h2,hq,Sw] at t1 t2
 rw [h3]
 unfold tag aFi
 rw [t1,t2]
 rfl
end P
namespace P
theorem aDa {T:Int} (h:0<=T):(List.range 8).map (byteOf (T%18446744073709551616))++(List.range 8).map (byteOf (T/18446744073709551616))=(List.range 16).map fun i=>T/((256^i:Nat):Int)%256:=by
 have lo:∀ i,i<8->byteOf (T%18446744073709551616) i=T/((256^i:Nat):Int)%256:=by
  intro i hi
  rw [rX (by omega) hi]
  match i,hi with
  | 0,_=>show T%18446744073709551616/1%256=T/1%256;omega
  | 1,_=>show T%18446744073709551616/256%256=T/256%256;omega
  | 2,_=>show T%18446744073709551616/65536%256=T/65536%256;omega
  | 3,_=>show T%18446744073709551616/16777216%256=T/16777216%256;omega
  | 4,_=>show T%18446744073709551616/4294967296%256=T/4294967296%256;omega
  | 5,_=>show T%18446744073709551616/1099511627776%256=T/1099511627776%256;omega
  | 6,_=>show T%18446744073709551616/281474976710656%256=T/281474976710656%256;omega
  | 7,_=>show T%18446744073709551616/72057594037927936%256=T/72057594037927936%256;omega
 have fS:∀ i,i<8->byteOf (T/18446744073709551616) i=T/((256^(8+i):Nat):Int)%256:=by
  intro i hi
  rw [rX (by omega) hi]
  have e:((256^(8+i):Nat):Int)=18446744073709551616*((256^i:Nat):Int):=by rw [Nat.pow_add,Int.natCast_mul];rfl
  rw [e,Int.ediv_ediv_of_nonneg (by decide)]
 have split:(List.range 16).map (fun i=>T/((256^i:Nat):Int)%256)=(List.range 8).map (fun i=>T/((256^i:Nat):Int)%256)++(List.range 8).map (fun i=>T/((256^(8+i):Nat):Int)%256):=by
  rw [show (16:Nat)=8+8 from rfl,List.range_add,List.map_append,List.map_map]
  rfl
 rw [split]
 congr 1
 .exact List.map_congr_left fun i h=>lo i (by simpa using h)
 .exact List.map_congr_left fun i h=>fS i (by simpa using h)
end P
namespace P
theorem xN (l r:List Int) {i:Nat} (h:i<l.length):(l++r).getD i 0=l.getD i 0:=by simp [List.getD_eq_getElem?_getD,List.getElem?_append_left h]
theorem fR {d:List Int} {k i:Nat} (h:k+16<=d.length) (hi:i<16):((d.drop k).take 16++[1]).getD i 0=d.getD (k+i) 0:=by
 rw [xN _ _ (by rw [List.length_take,List.length_drop];omega)]
 simp [List.getD_eq_getElem?_getD,List.getElem?_take,hi,List.getElem?_drop]
theorem aDc {d:List Int} {k:Nat} (h:k+16<=d.length):((d.drop k).take 16++[1]).getD 16 0=1:=by
 have e:((d.drop k).take 16).length=16:=by rw [List.length_take,List.length_drop];omega
 rw [List.getD_eq_getElem?_getD,List.getElem?_append_right (by omega),e];rfl
theorem aDj {d:List Int} {k:Nat} (h:16*k+16<=d.length) (hl:d.length<=1073741824):Pq ((d.drop (16*k)).take 16++[1])=M.V (M.aN d ((16*k:Nat):Int) 16):=by
 rw [M.KE d (by omega)]
 unfold Pq
 rw [fR h (i:=0) (by decide),fR h (i:=1) (by decide),fR h (i:=2) (by decide),fR h (i:=3) (by decide),fR h (i:=4) (by decide),fR h (i:=5) (by decide),fR h (i:=6) (by decide),fR h (i:=7) (by decide),fR h (i:=8) (by decide),fR h (i:=9) (by decide),fR h (i:=10) (by decide),fR h (i:=11) (by decide),fR h (i:=12) (by decide),fR h (i:=13) (by decide),fR h (i:=14) (by decide),fR h (i:=15) (by decide),aDc h]
 simp only [M.tL,M.Ca,Nat.add_zero]
 omega
theorem Ww (r:Int) {d:List Int} (hl:d.length<=1073741824):∀ j,16*j<=d.length->hor r d j=M.acc r d j
 | 0,_=>rfl
 | j+1,h=>by
   rw [M.Ny r (by omega),<- Ww r hl j (by omega),<- aDj (by omega) hl]
   rfl
theorem dF (k:List Int) {i:Nat} (h:i<16):(k.take 16).getD i 0=k.getD i 0:=by simp [List.getD_eq_getElem?_getD,List.getElem?_take,h]
theorem BV (k:List Int):dQ k=[k.getD 0 0,k.getD 1 0,k.getD 2 0,bU .u8 (k.getD 3 0) 15,bU .u8 (k.getD 4 0) 252,k.getD 5 0,k.getD 6 0,bU .u8 (k.getD 7 0) 15,bU .u8 (k.getD 8 0) 252,k.getD 9 0,k.getD 10 0,bU .u8 (k.getD 11 0) 15,bU .u8 (k.getD 12 0) 252,k.getD 13 0,k.getD 14 0,bU .u8 (k.getD 15 0) 15,0]:=rfl
theorem BY (k:List Int):Pq (dQ (k.take 16))=M.tY k+18446744073709551616*M.sG k:=by
 rw [BV,dF k (i:=0) (by decide),dF k (i:=1) (by decide),dF k (i:=2) (by decide),dF k (i:=3) (by decide),dF k (i:=4) (by decide),dF k (i:=5) (by decide),dF k (i:=6) (by decide),dF k (i:=7) (by decide),dF k (i:=8) (by decide),dF k (i:=9) (by decide),dF k (i:=10) (by decide),dF k (i:=11) (by decide),dF k (i:=12) (by decide),dF k (i:=13) (by decide),dF k (i:=14) (by decide),dF k (i:=15) (by decide)]
 unfold Pq M.tY M.sG
 simp only [M.tL,M.Ca,List.getD_cons_zero,List.getD_cons_succ]
 omega
theorem mZ (k:List Int) (i:Nat):(k.drop 16).getD i 0=k.getD (16+i) 0:=by simp [List.getD_eq_getElem?_getD,List.getElem?_drop]
theorem aUt (k:List Int):V2 (k.drop 16)=M.wV k+18446744073709551616*M.yD k:=by
 have e:∀ a,S (k.drop 16) a 8=k.getD (16+(a+0)) 0+256*k.getD (16+(a+1)) 0+65536*k.getD (16+(a+2)) 0+16777216*k.getD (16+(a+3)) 0+4294967296*k.getD (16+(a+4)) 0+1099511627776*k.getD (16+(a+5)) 0+281474976710656*k.getD (16+(a+6)) 0+72057594037927936*k.getD (16+(a+7)) 0:=by
  intro a
  simp only [S,mZ]
  rw [show ((256^0:Nat):Int)=1 from rfl,show ((256^1:Nat):Int)=256 from rfl,show ((256^2:Nat):Int)=65536 from rfl,show ((256^3:Nat):Int)=16777216 from rfl,show ((256^4:Nat):Int)=4294967296 from rfl,show ((256^5:Nat):Int)=1099511627776 from rfl,show ((256^6:Nat):Int)=281474976710656 from rfl,show ((256^7:Nat):Int)=72057594037927936 from rfl]
  omega
 unfold V2
 rw [e 0,e 8]
 unfold M.wV M.yD
 simp only [M.tL,M.Ca,Nat.reduceAdd]
 omega
theorem ZI {key D:List Int} (hk:bR key) (hl:D.length<=1073741824) (tZ:D.length%16=0) :
 Yo key D=M.w0 (M.acc (M.V (M.cl key)) D (D.length/16)+(M.wV key+18446744073709551616*M.yD key))+18446744073709551616*M.w1 (M.acc (M.V (M.cl key)) D (D.length/16)+(M.wV key+18446744073709551616*M.yD key)):=by
 unfold Yo Qc
 rw [if_pos tZ,BY,<- M.aQf hk,aUt,Ww _ hl _ (by omega)]
 unfold M.w0 M.w1
 omega
theorem ZH {key D:List Int} (hk:key.length=32) (hb:bR key) (hd:bR D) (hl:D.length<=1073741824) (tZ:D.length%16=0) :
 tag (Ev (put ⟨num (dQ (key.take 16)),List.replicate 5 0,key.drop 16,nL,0⟩ D)) (put ⟨num (dQ (key.take 16)),List.replicate 5 0,key.drop 16,nL,0⟩ D).mask=M.tag key D:=by
 have h0:0<=Yo key D:=by unfold Yo;omega
 rw [aKi hk hb hd,aDa h0,M.IH hb tZ,ZI hb hl tZ]
 refine List.map_congr_left fun i _=>?_
 unfold M.nb
 rw [Int.natCast_pow]
 rfl
end P
noncomputable def UT (cp:List Int->List Int):Nat->Option Sum:=dM (dM (dM (dM gC 77 (aK aB 100 tG)) 126 (aK aB 100 (Ve cp))) 84 (aK aB 100 GF)) 85 (aK aB 100 Qm)
theorem aBx (cp:List Int->List Int):∀ f S,UT cp f=some S->∀ Γ:Env,Γ.aR=aB->aH Tryz.prog Γ f S:=bD (bD (bD (bD gM 77 _ Cm) 126 _ (KA cp)) 84 _ aJy) 85 _ VS
def of0 (cp:List Int->List Int) (key:List Int):P.MS:=⟨c5 (cp (dJ 16 key)),c5 (List.replicate 5 0),Ud fun j=>key.getD (16+j) 0,Ud fun _=>0,(0:Int).toNat⟩
def Ue (cp:List Int->List Int) (key:List Int) (d:Nat->List Int):Nat->P.MS
 | 0=>of0 cp key
 | j+1=>P.nf (P.put (Ue cp key d j) (d (j+1)))
def ofQ (cp:List Int->List Int) (key:List Int) (d:Nat->List Int):Nat->List Prop
 | 0=>qM (cp (dJ 16 key)) (List.replicate 5 0) (fun j=>key.getD (16+j) 0) (fun _=>0) 0 (of0 cp key)
 | j+1=>qMS (P.put (Ue cp key d j) (d (j+1))) (Ue cp key d (j+1))
def ofO (cp:List Int->List Int) (key:List Int) (d:Nat->List Int) (r:List Prop):Nat->List Prop
 | 0=>r
 | j+1=>(Ue cp key d j).WF::((d (j+1)).length<=1000000000000)::((d (j+1)).length=(d (j+1)).length)::((d (j+1)).length=(d (j+1)).length)::(ofQ cp key d j++(d (j+1)=d (j+1))::ofO cp key d r j)
theorem aXc (cp:List Int->List Int) (key:List Int) (d:Nat->List Int):aJ (env (UT cp) 4) Tryz.f48 true [] 1500 [.raw (.pointer none),.agg (cO .u8 32 key),.aG 62 true 0 5 5] (yU d) 100 100 =
 some { bM:=(Ue cp key d 5).WF::(ofQ cp key d 5++ofO cp key d [(dJ 16 key).length=16,cp (dJ 16 key)=P.num (P.dQ (dJ 16 key)),dJ 16 key=dJ 16 key] 5),val:=.agg (cO .u8 16 (P.Fs (Ue cp key d 5))) }:=by kernel_rfl
namespace P
def new (key:List Int):MS:=⟨num (dQ (key.take 16)),List.replicate 5 0,key.drop 16,nL,0⟩
theorem aJu {key:List Int} (h:key.length=32):(new key).WF:=⟨rfl,rfl,by simp only [new,List.length_drop];omega,rfl,(by decide:0<16),rfl⟩
theorem pS {key:List Int} (h:key.length=32):dJ 16 key=key.take 16:=by
 unfold dJ
 apply List.ext_getElem
 .simp;omega
 .intro i h1 h2
  have hi:i<16:=by simpa using h1
  simp [List.getD_eq_getElem?_getD,show i<key.length by omega]
end P
theorem Qw {key:List Int} (h:key.length=32):of0 (fun b=>P.num (P.dQ b)) key=P.new key:=by
 unfold of0 P.new
 have e1:(Ud fun j=>key.getD (16+j) 0)=key.drop 16:=by
  have:(key.drop 16).length=16:=by rw [List.length_drop];omega
  rw [<- zY this]
  unfold Ud
  refine List.map_congr_left fun j _=>?_
  rw [P.mZ]
 have e5:c5 (P.num (P.dQ (key.take 16)))=P.num (P.dQ (key.take 16)):=jB (P.nG _)
 rw [P.pS h,e1]
 show P.MS.mk (c5 (P.num (P.dQ (key.take 16)))) _ _ _ _=_
 rw [e5]
 rfl
theorem Io {key:List Int} (h:key.length=32) (d:Nat->List Int):∀ j,(Ue (fun b=>P.num (P.dQ b)) key d j).WF
 | 0=>by
   rw [Ue,Qw h];exact P.aJu h
 | j+1=>by
   have hw:=P.Im (Io h d j) (d (j+1))
   rw [Ue,P.Mb hw];exact hw
theorem rQ {key:List Int} (h:key.length=32) (d:Nat->List Int) (j:Nat):Ue (fun b=>P.num (P.dQ b)) key d (j+1)=P.put (Ue (fun b=>P.num (P.dQ b)) key d j) (d (j+1)):=P.Mb (P.Im (Io h d j) (d (j+1)))
theorem aSa {key:List Int} (h:key.length=32) (d:Nat->List Int):Ue (fun b=>P.num (P.dQ b)) key d 5=P.put (P.new key) (M.cat d):=by
 unfold M.cat
 rw [P.lO,P.lO,P.lO,P.lO,rQ h,rQ h,rQ h,rQ h,rQ h,Ue,Qw h]
theorem JC {key:List Int} (h:key.length=32) (d:Nat->List Int):∀ j,∀ q∈ofQ (fun b=>P.num (P.dQ b)) key d j,q
 | 0=>by
   rw [ofQ,Qw h]
   refine Fw (by rw [P.pS h];rfl) rfl (fun j _=>?_) (fun j _=>(P.Vo j).symm) rfl
   simp only [P.new,P.mZ]
 | j+1=>by
   rw [ofQ,rQ h]
   exact Cg rfl
theorem JD {key:List Int} (h:key.length=32) (d:Nat->List Int) {r:List Prop} (hr:∀ q∈r,q):∀ j,(∀ i,i<j->(d (i+1)).length<=1000000000000)->∀ q∈ofO (fun b=>P.num (P.dQ b)) key d r j,q
 | 0,_=>hr
 | j+1,hd=>aO (Io h d j) (aO (hd j (by omega)) (aO rfl (aO rfl (qT (JC h d j) (aO rfl (JD h d hr j fun i hi=>hd i (by omega)))))))
theorem M.nV (key data:List Int):(M.tag key data).length=16:=by simp [M.tag,M.Pw]
theorem YX {key:List Int} {d:Nat->List Int} (hk:key.length=32) (hb:bR key) (hd:bR (M.cat d)) (hl:(M.cat d).length<=1073741824) (tZ:(M.cat d).length%16=0) (Γ:Env) (hg:Γ.aR=aB) :
 aF Tryz.prog Γ 48 [.raw (.pointer none),.ai .u8 key,.aG 62 true 0 5 5] (yU d) 100 100 { val:=.ai .u8 (M.tag key (M.cat d)) }:=by
 have hs:aH Tryz.prog (env (UT fun b=>P.num (P.dQ b)) 4) 48 (aJ (env (UT fun b=>P.num (P.dQ b)) 4) Tryz.f48 true [] 1500):=aM (bQ _ 4) (bW _ (aBx _) 4) mix Tryz.func48 (by kernel_rfl) true [] 1500
 have hlen:∀ i,i<5->(d (i+1)).length<=1000000000000:=fun i hi=>by
  have:=M.JA d hi
  omega
 have h:=hs.call (aXc (fun b=>P.num (P.dQ b)) key d) (aO (Io hk d 5) (qT (JC hk d 5) (JD hk d (aO (by rw [P.pS hk,List.length_take];omega) (aO rfl (aO rfl iG))) 5 hlen)))
 have ht:P.Fs (Ue (fun b=>P.num (P.dQ b)) key d 5)=M.tag key (M.cat d):=by
  rw [aSa hk]
  exact P.ZH hk hb hd hl tZ
 rw [ht] at h
 refine h.words (by rw [hg];rfl) (fun V=>?_) (fun _ _ h=>h) (fun V=>bI V (M.nV _ _)) rfl rfl
 simp only [aE,bI V hk]
def Uu (mc:List Int->List Int->List Int) (vs:List SV) (T:aZ):Option Canon:=match vs with
 | [.raw (.pointer none),ks,.aG L _ 0 5 5]=>match cJ ks,(T L).bind roL with
   | some (.u8,k),some [p1,p2,p3,p4,p5]=>match cW T .u8 p1,cW T .u8 p2,cW T .u8 p3,cW T .u8 p4,cW T .u8 p5 with
     | some (o1,x1),some (o2,x2),some (o3,x3),some (o4,x4),some (o5,x5)=>some { eR:=[.raw (.pointer none),.ai .u8 k,.aG 62 true 0 5 5],T0:=sgB (As x1 x2 x3 x4 x5),vl:=[(62,.lab L 0),(71,.cell L 0),(72,.cell L 1),(73,.cell L 2),(74,.cell L 3),(75,.cell L 4)],e0:={ val:=.ai .u8 (mc k (x1++(x2++(x3++(x4++x5))))) },conds:=(mc k (x1++(x2++(x3++(x4++x5))))=M.tag k (x1++(x2++(x3++(x4++x5)))))::(k.length=32)::bR k::bR (x1++(x2++(x3++(x4++x5))))::((x1++(x2++(x3++(x4++x5)))).length<=1073741824)::((x1++(x2++(x3++(x4++x5)))).length%16=0)::(o1++(o2++(o3++(o4++o5)))) }
     | _,_,_,_,_=>none
   | _,_=>none
 | _=>none
theorem JB (mc:List Int->List Int->List Int) (Γ:Env) (hg:Γ.aR=aB):aH Tryz.prog Γ 48 (aK aB 100 (Uu mc)):=by
 refine aW hg fun vs T c hd hc=>?_
 unfold Uu at hd
 split at hd
 case h_2=>cases hd
 split at hd
 case h_2=>cases hd
 split at hd
 case h_2=>cases hd
 cases hd
 rename_i k _ _ _ _ _ _ _ _ _ _ _ _ o1 x1 o2 x2 o3 x3 o4 x4 o5 x5 _ _ _ _ _
 have e:=hc _ cM
 have h:=YX (d:=As x1 x2 x3 x4 x5) (hc _ (List.mem_cons_of_mem _ cM)) (hc _ (List.mem_cons_of_mem _ (List.mem_cons_of_mem _ cM))) (hc _ (List.mem_cons_of_mem _ (List.mem_cons_of_mem _ (List.mem_cons_of_mem _ cM)))) (hc _ (List.mem_cons_of_mem _ (List.mem_cons_of_mem _ (List.mem_cons_of_mem _ (List.mem_cons_of_mem _ cM))))) (hc _ (List.mem_cons_of_mem _ (List.mem_cons_of_mem _ (List.mem_cons_of_mem _ (List.mem_cons_of_mem _ (List.mem_cons_of_mem _ cM)))))) Γ hg
 have e':mc k (M.cat (As x1 x2 x3 x4 x5))=M.tag k (M.cat (As x1 x2 x3 x4 x5)):=e
 rw [<- e'] at h
 exact h
noncomputable def Pr (si:List Int->List Int->Int->List Int) (x4 tn:Nat->List Int->List Int->List Int) (on:List Int->List Int):Env:=env (aPo si x4 tn on) 4
theorem VE (si:List Int->List Int->Int->List Int) (x4 tn:Nat->List Int->List Int->List Int) (on:List Int->List Int):cA Tryz.prog (Pr si x4 tn on):=bQ _ 4
theorem VF (si:List Int->List Int->Int->List Int) (x4 tn:Nat->List Int->List Int->List Int) (on:List Int->List Int):cK Tryz.prog (Pr si x4 tn on):=bW _ (aBy si x4 tn on) 4
def TY (key nonce:List Int) (c:Int) (off len cap:Nat):List SV:=[.raw (.pointer none),.ai .u8 key,.int false .u32 c,.ai .u8 nonce,.aG 60 false off len cap]
noncomputable def QT (si:List Int->List Int->Int->List Int) (x4 tn:Nat->List Int->List Int->List Int) (on:List Int->List Int) (xs:List Int) (t:TypeId) (cf:Cf) (K:List Fr) (s:St):Option pU:=gZ (Pr si x4 tn on) (bH 100 (uA xs t)) 100 Tryz.f46.ntmps [3,9] 400 3000 cf K s
def qP (off len cap:Nat) (a:Int):List (Nat × SV):=[(0,.raw (.pointer none)),(4,.aG 60 false off len cap),(10,.ptr 100 true 0),(11,.int false .i64 a)]
def qO (xs s:List Int) (t:TypeId):List (Nat × SB):=[(60,.ints .u8 xs t),(100,.ints .u32 s 113)]
namespace Q
def oA (off cap:Nat) (a:Int):Nat:=if (cap:Int)=a then off else off+a.toNat*1
def pd (off len cap:Nat) (a:Int) (xs:List Int):List Int:=(xs.drop (oA off cap a)).take ((len:Int).toNat-a.toNat)
def qd (p:List Int):List Int:=p.take (p.length.min 64)
def ld (q:List Int):List Int:=(List.replicate 64 0).take 0++q++(List.replicate 64 0).drop (0+q.length)
def go (len:Nat) (a k:Int):Prop:=decide (IntKind.i64.wrap ((len:Int)-a)>=k)=true
def no (len:Nat) (a k:Int):Prop:=decide (IntKind.i64.wrap ((len:Int)-a)>=k)=false
def sa (len:Nat) (a k:Int):Prop:=decide (IntKind.i64.wrap ((len:Int)-a)>=k)=decide (IntKind.i64.wrap ((len:Int)-a)>=k)
def sl (len cap:Nat) (a:Int):Prop:=(0:Int)<=(cap:Int)/\(cap:Int)<=(cap:Int)/\(0:Int)<=(len:Int)/\(len:Int)<=(cap:Int)/\(0:Int)<=a/\a<=(len:Int)
end Q
noncomputable def mxR:Option pU:=QT (fun _ _ _=>[]) (fun _ _ _=>[]) (fun _ _ _=>[]) (fun _=>[]) [] 0 (.go (codeOf Tryz.f46)) [] ((zM (TY [] [] 0 0 0 0) 100).hint [])
noncomputable def aFy:Code:=Fb mxR
noncomputable def mxK:List Fr:=Fa mxR
noncomputable def aOq:Option pU:=QT (fun _ _ _=>[]) (fun _ _ _=>[]) (fun _ _ _=>[]) (fun _=>[]) [] 0 (.at (.exit 0)) mxK ((cB (qP 0 0 0 0) (qO [] [] 0) 101 [60] []).hint [])
noncomputable def aFz:Code:=Fb aOq
noncomputable def TZ:List Fr:=Fa aOq
theorem aXo (si:List Int->List Int->Int->List Int) (x4 tn:Nat->List Int->List Int->List Int) (on:List Int->List Int) (key nonce xs iR s':List Int) (c:Int) (t:TypeId) (off len cap:Nat) (a':Int):fM 100 Tryz.f46.ntmps (bH 100 (uA xs t)) [] (qP off len cap a') (qO iR s' t) 101 [60] [] (QT si x4 tn on xs t (.go (codeOf Tryz.f46)) [] ((zM (TY key nonce c off len cap) 100).hint [])) =
 some (.go (.loop aFy),mxK,[(si key nonce c).length=16,si key nonce c=B.init key nonce c,key.length=32,nonce.length=12,key=key,c=c,nonce=nonce,nonce.length=12,key.length=32,off=off,len=len,cap=cap,0=a',xs=iR/\t=t,si key nonce c=s'/\(113:Nat)=(113:TypeId)]):=by kernel_rfl
theorem aXn (si:List Int->List Int->Int->List Int) (x4 tn:Nat->List Int->List Int->List Int) (on:List Int->List Int) (iA xs iR s s':List Int) (t:TypeId) (off len cap:Nat) (a a':Int):fM 100 Tryz.f46.ntmps (bH 100 (uA iA t)) [] (qP off len cap a') (qO iR s' t) 101 [60] [] (QT si x4 tn on iA t (.go aFy) [] ((cB (qP off len cap a) (qO xs s t) 101 [60] []).hint [true])) =
 some (.at .normal,[],[12<s.length,13<=s.length,x4 (Q.oA off cap a) s xs=Q.x4 (Q.oA off cap a) s xs,s.length=16,Q.oA off cap a+256<=xs.length,s=s,Q.oA off cap a=0+Q.oA off cap a,xs=xs/\t=t,s.length=16,256<=(len:Int).toNat-a.toNat,Q.sl len cap a,Q.go len a 256,Q.sa len a 256,
  off=off,len=len,cap=cap,IntKind.i64.wrap (a+256)=a',x4 (Q.oA off cap a) s xs=iR/\t=t,s.set 12 (IntKind.u32.wrap (s.getD 12 0+4))=s'/\(113:Nat)=(113:TypeId)]):=by kernel_rfl
theorem aXm (si:List Int->List Int->Int->List Int) (x4 tn:Nat->List Int->List Int->List Int) (on:List Int->List Int) (iA xs iR s s':List Int) (t:TypeId) (off len cap:Nat) (a a':Int):fM 100 Tryz.f46.ntmps (bH 100 (uA iA t)) [] (qP off len cap a') (qO iR s' t) 101 [60] [] (QT si x4 tn on iA t (.go aFy) [] ((cB (qP off len cap a) (qO xs s t) 101 [60] []).hint [false])) =
 some (.at (.exit 0),[],[Q.no len a 256,Q.sa len a 256,off=off,len=len,cap=cap,a=a',xs=iR/\t=t,s=s'/\(113:Nat)=(113:TypeId)]):=by kernel_rfl
theorem aXl (si:List Int->List Int->Int->List Int) (x4 tn:Nat->List Int->List Int->List Int) (on:List Int->List Int) (iA xs iR s s':List Int) (t:TypeId) (off len cap:Nat) (a a':Int):fM 100 Tryz.f46.ntmps (bH 100 (uA iA t)) [] (qP off len cap a') (qO iR s' t) 101 [60] [] (QT si x4 tn on iA t (.at (.exit 0)) mxK ((cB (qP off len cap a) (qO xs s t) 101 [60] []).hint [])) =
 some (.go (.loop aFz),TZ,[off=off,len=len,cap=cap,a=a',xs=iR/\t=t,s=s'/\(113:Nat)=(113:TypeId)]):=by kernel_rfl
theorem aXk (si:List Int->List Int->Int->List Int) (x4 tn:Nat->List Int->List Int->List Int) (on:List Int->List Int) (iA xs iR s s':List Int) (t:TypeId) (off len cap:Nat) (a a':Int):fM 100 Tryz.f46.ntmps (bH 100 (uA iA t)) [] (qP off len cap a') (qO iR s' t) 101 [60] [] (QT si x4 tn on iA t (.go aFz) [] ((cB (qP off len cap a) (qO xs s t) 101 [60] []).hint [true])) =
 some (.at .normal,[],[12<s.length,13<=s.length,tn (Q.oA off cap a) (on s) xs=Q.tn (Q.oA off cap a) (on s) xs,(on s).length=64,Q.oA off cap a+64<=xs.length,Q.oA off cap a=0+Q.oA off cap a,on s=on s,xs=xs/\t=t,on s=Q.one s,s.length=16,s=s,s.length=16,64<=(len:Int).toNat-a.toNat,Q.sl len cap a,Q.go len a 64,Q.sa len a 64,
  off=off,len=len,cap=cap,IntKind.i64.wrap (a+64)=a',tn (Q.oA off cap a) (on s) xs=iR/\t=t,s.set 12 (IntKind.u32.wrap (s.getD 12 0+1))=s'/\(113:Nat)=(113:TypeId)]):=by kernel_rfl
theorem aXj (si:List Int->List Int->Int->List Int) (x4 tn:Nat->List Int->List Int->List Int) (on:List Int->List Int) (iA xs iR s s':List Int) (t:TypeId) (off len cap:Nat) (a a':Int):fM 100 Tryz.f46.ntmps (bH 100 (uA iA t)) [] (qP off len cap a') (qO iR s' t) 101 [60] [] (QT si x4 tn on iA t (.go aFz) [] ((cB (qP off len cap a) (qO xs s t) 101 [60] []).hint [false])) =
 some (.at (.exit 2),[],[Q.no len a 64,Q.sa len a 64,off=off,len=len,cap=cap,a=a',xs=iR/\t=t,s=s'/\(113:Nat)=(113:TypeId)]):=by kernel_rfl
theorem aXi (si:List Int->List Int->Int->List Int) (x4 tn:Nat->List Int->List Int->List Int) (on:List Int->List Int) (iA xs s:List Int) (t:TypeId) (off len cap:Nat) (a:Int):sW (Pr si x4 tn on) (uA iA t) 100 100 Tryz.f46 [] (QT si x4 tn on iA t (.at (.exit 2)) TZ ((cB (qP off len cap a) (qO xs s t) 101 [60] []).hint [false])) =
 some { bM:=[decide (IntKind.i64.wrap ((len:Int)-a)>0)=false,decide (IntKind.i64.wrap ((len:Int)-a)>0)=decide (IntKind.i64.wrap ((len:Int)-a)>0)],val:=.eL [],wr:=[(60,.ints .u8 xs t)] }:=by kernel_rfl
def Q.lt (tn:Nat->List Int->List Int->List Int) (b p:List Int):List Int:=((tn 0 b (ld (qd p))).drop 0).take 64
def Q.mv (o m:Nat) (xs y:List Int):List Int:=xs.take o++y.take (Nat.min y.length m)++xs.drop (o+Nat.min y.length m)
theorem aXh (si:List Int->List Int->Int->List Int) (x4 tn:Nat->List Int->List Int->List Int) (on:List Int->List Int) (iA xs s:List Int) (t:TypeId) (off len cap:Nat) (a:Int):sW (Pr si x4 tn on) (uA iA t) 100 100 Tryz.f46 [] (QT si x4 tn on iA t (.at (.exit 2)) TZ ((cB (qP off len cap a) (qO xs s t) 101 [60] []).hint [true])) =
 some { bM:=[Q.oA off cap a+Nat.min (Q.lt tn (on s) (Q.pd off len cap a xs)).length ((len:Int).toNat-a.toNat)<=xs.length,64<=(tn 0 (on s) (Q.ld (Q.qd (Q.pd off len cap a xs)))).length,tn 0 (on s) (Q.ld (Q.qd (Q.pd off len cap a xs)))=Q.tn 0 (on s) (Q.ld (Q.qd (Q.pd off len cap a xs))),(on s).length=64,0+64<=(Q.ld (Q.qd (Q.pd off len cap a xs))).length,0=0,on s=on s,Q.ld (Q.qd (Q.pd off len cap a xs))=Q.ld (Q.qd (Q.pd off len cap a xs))/\(122:Nat)=(122:TypeId),on s=Q.one s,s.length=16,s=s,s.length=16,(0:Nat)<=0/\0+(Q.qd (Q.pd off len cap a xs)).length<=64,Q.oA off cap a+((len:Int).toNat-a.toNat)<=xs.length,Q.sl len cap a,decide (IntKind.i64.wrap ((len:Int)-a)>0)=true,decide (IntKind.i64.wrap ((len:Int)-a)>0)=decide (IntKind.i64.wrap ((len:Int)-a)>0)],val:=.eL [],wr:=[(60,.ints .u8 (Q.mv (Q.oA off cap a) ((len:Int).toNat-a.toNat) xs (Q.lt tn (on s) (Q.pd off len cap a xs))) t)] }:=by kernel_rfl
namespace Q
theorem VK (a b:Int):IntKind.u32.wrap (IntKind.u32.wrap a+b)=IntKind.u32.wrap (a+b):=by simp only [IntKind.wrap_u32];omega
def S (key nonce:List Int) (c:Int) (j:Nat):List Int:=B.init key nonce (IntKind.u32.wrap (c+(j:Int)))
theorem iN (key nonce:List Int) (c:Int) (j:Nat):(S key nonce c j).length=16:=rfl
theorem bBy (key nonce:List Int) (c:Int) (j:Nat):(S key nonce c j).getD 12 0=IntKind.u32.wrap (c+(j:Int)):=rfl
theorem aUu (key nonce:List Int) (c d:Int) (j:Nat):(S key nonce c j).set 12 d=B.init key nonce d:=rfl
theorem Se (key nonce:List Int) (c:Int) (j k:Nat):(S key nonce c j).set 12 (IntKind.u32.wrap ((S key nonce c j).getD 12 0+(k:Int)))=S key nonce c (j+k):=by
 rw [bBy,aUu,VK]
 unfold S
 congr 2
 omega
theorem S_0 (key nonce:List Int) {c:Int} (hc:0<=c/\c<=4294967295):S key nonce c 0=B.init key nonce c:=by
 unfold S
 rw [show c+((0:Nat):Int)=c by omega,IntWalk.u32_in c hc]
theorem aRz (key nonce:List Int) (c:Int) (j:Nat):one (S key nonce c j)=B.block key nonce (IntKind.u32.wrap (c+(j:Int))):=rfl
theorem Dr (s:List Int):(one s).length=64:=by simp [one,B.out]
theorem Qu (key nonce:List Int) (c:Int) (j:Nat) {m:Nat} (hm:m<64):(one (S key nonce c j)).getD m 0=zE key nonce c (64*j+m):=by
 rw [aRz]
 unfold zE
 rw [show (64*j+m)/64=j by omega,show (64*j+m)%64=m by omega]
theorem aBl (key nonce:List Int) (c:Int) (j:Nat) {m:Nat} (_:m<256):jA (S key nonce c j) m=zE key nonce c (64*j+m):=by
 have e:st4 (S key nonce c j) (m/64)=S key nonce c (j+m/64):=Se key nonce c j (m/64)
 unfold jA
 rw [e]
 show (one (S key nonce c (j+m/64))).getD (m%64) 0=_
 rw [Qu _ _ _ _ (by omega)]
 congr 1
 omega
theorem qV (off n:Nat) (f:Nat->Int) (xs:List Int) {m:Nat} (h:m<xs.length):(rZ off n f xs).getD m 0=if off<=m/\m<off+n then gO .u8 (xs.getD m 0) (f (m-off)) else xs.getD m 0:=by
 simp [rZ,List.getD_eq_getElem?_getD,h]
theorem Gc {n:Nat} {a b:List Int} (ha:a.length=n) (hb:b.length=n) (h:∀ i,i<n->a.getD i 0=b.getD i 0):a=b:=by
 apply List.ext_getElem (by omega)
 intro i h1 h2
 have:=h i (by omega)
 rw [List.getD_eq_getElem?_getD,List.getD_eq_getElem?_getD,List.getElem?_eq_getElem h1,List.getElem?_eq_getElem h2] at this
 simpa using this
theorem xO {off n k:Nat} {f g:Nat->Int} {xs:List Int} (h:∀ m,m<k->g m=f (n+m)):rZ (off+n) k g (rZ off n f xs)=rZ off (n+k) f xs:=by
 refine Gc (n:=xs.length) (by rw [gU,gU]) (by rw [gU]) fun i hi=>?_
 rw [qV _ _ _ _ (by rw [gU];exact hi),qV _ _ _ _ hi,qV _ _ _ _ hi]
 by_cases h1:off<=i/\i<off+n
 .rw [if_neg (by omega),if_pos h1,if_pos (by omega)]
 .rw [if_neg h1]
  by_cases h2:off+n<=i/\i<off+n+k
  .rw [if_pos h2,if_pos (by omega),h _ (by omega)]
   congr 2;omega
  .rw [if_neg h2,if_neg (by omega)]
theorem aQq {key nonce:List Int} {c:Int} {off j:Nat} {xs:List Int}:x4 (off+64*j) (S key nonce c j) (cG key nonce c off (64*j) xs)=cG key nonce c off (64*(j+4)) xs:=by
 rw [uU,uU,show 64*(j+4)=64*j+256 by omega]
 exact xO fun m hm=>aBl key nonce c j hm
theorem aQr {key nonce:List Int} {c:Int} {off j:Nat} {xs:List Int}:tn (off+64*j) (one (S key nonce c j)) (cG key nonce c off (64*j) xs)=cG key nonce c off (64*(j+1)) xs:=by
 rw [uU,uU,show 64*(j+1)=64*j+64 by omega]
 exact xO fun m hm=>Qu key nonce c j hm
theorem FX (off:Nat) {cap a:Nat} (h:a<cap):oA off cap (a:Int)=off+a:=by
 unfold oA
 rw [if_neg (by omega)];omega
theorem xN (l r:List Int) {i:Nat} (h:i<l.length):(l++r).getD i 0=l.getD i 0:=by simp [List.getD_eq_getElem?_getD,List.getElem?_append_left h]
theorem Sb (l r:List Int) {i:Nat} (h:l.length<=i):(l++r).getD i 0=r.getD (i-l.length) 0:=by simp [List.getD_eq_getElem?_getD,List.getElem?_append_right h]
theorem mZ (l:List Int) (k i:Nat):(l.drop k).getD i 0=l.getD (k+i) 0:=by simp [List.getD_eq_getElem?_getD,List.getElem?_drop]
theorem dF (l:List Int) {k i:Nat} (h:i<k):(l.take k).getD i 0=l.getD i 0:=by simp [List.getD_eq_getElem?_getD,h]
theorem aSj {o r:Nat} {b xs:List Int} (hr:r<=64) (hx:o+r<=xs.length):mv o r xs (lt tn b ((xs.drop o).take r))=rZ o r (b.getD · 0) xs:=by
 have hp:((xs.drop o).take r).length=r:=by rw [List.length_take,List.length_drop];omega
 have hq:qd ((xs.drop o).take r)=(xs.drop o).take r:=by
  unfold qd
  rw [hp]
  exact List.take_of_length_le (by rw [hp];exact Nat.le_min.2 ⟨Nat.le_refl _,hr⟩)
 have hl:(ld ((xs.drop o).take r)).length=64:=by
  unfold ld
  rw [List.take_zero,List.nil_append,List.length_append,List.length_drop,hp,List.length_replicate];omega
 have ht:(lt tn b ((xs.drop o).take r)).length=64:=by
  unfold lt
  rw [hq,List.drop_zero,List.length_take]
  unfold tn
  rw [gU,hl];rfl
 unfold mv
 rw [ht,show Nat.min 64 r=r from Nat.min_eq_right hr]
 have h1:(xs.take o).length=o:=by rw [List.length_take];omega
 have h2:((lt tn b ((xs.drop o).take r)).take r).length=r:=by rw [List.length_take,ht];omega
 refine Gc (n:=xs.length) (by simp only [List.length_append,h1,h2,List.length_drop];omega) (gU _ _ _ _) fun i hi=>?_
 rw [qV _ _ _ _ hi]
 by_cases hA:i<o
 .rw [if_neg (by omega),List.append_assoc,xN _ _ (by omega),dF _ hA]
 .by_cases hB:i<o+r
  .rw [if_pos (by omega),xN _ _ (by rw [List.length_append];omega),Sb _ _ (by omega),h1,dF _ (by omega)]
   unfold lt
   rw [hq,List.drop_zero,dF _ (by omega)]
   unfold tn
   rw [qV _ _ _ _ (by rw [hl];omega),if_pos (by omega),Nat.sub_zero]
   congr 1
   unfold ld
   rw [List.take_zero,List.nil_append,xN _ _ (by rw [hp];omega),dF _ (by omega),mZ]
   congr 1;omega
  .rw [if_neg (by omega),Sb _ _ (by rw [List.length_append];omega),List.length_append,h1,h2,mZ]
   congr 1;omega
end Q
theorem ZC {key nonce xs:List Int} {c:Int} {t:TypeId} {off len cap:Nat} (hk:key.length=32) (hn:nonce.length=12) (hx:off+len<=xs.length) (hlc:len<=cap) (hl:len<=4611686018427387904) (hc:0<=c/\c<=4294967295) :
 aF Tryz.prog (Pr B.init Q.x4 Q.tn Q.one) 46 (TY key nonce c off len cap) (uA xs t) 100 100 { val:=.eL [],wr:=[(60,.ints .u8 (cG key nonce c off len xs) t)] }:=by
 have aT:=VE B.init Q.x4 Q.tn Q.one
 have aX:=VF B.init Q.x4 Q.tn Q.one
 refine gR aT aX Tryz.func46 (by kernel_rfl) rfl (Nat.le_of_ble_eq_true (by kernel_rfl)) rfl [] ?_
 intro w0 M V0 Q' eE H
 have wi:∀ a:Nat,a<=len->IntKind.i64.wrap ((len:Int)-(a:Int))=((len-a:Nat):Int):=fun a ha=>by rw [IntWalk.i64_in _ (by omega)];omega
 have Fp:∀ n,(cG key nonce c off n xs).length=xs.length:=fun n=>fL _ _ _ _ _ _
 refine G.fM aT aX mix eE [] (aXo B.init Q.x4 Q.tn Q.one key nonce xs xs (Q.S key nonce c 0) c t off len cap 0) (aA ?_) ?_
 .exact ⟨rfl,rfl,hk,hn,rfl,rfl,rfl,hn,hk,rfl,rfl,rfl,rfl,⟨rfl,rfl⟩,⟨(Q.S_0 key nonce hc).symm,rfl⟩,trivial⟩
 refine G.loop (fun r s=>∃ i:Nat,256*i<=len/\r=len-256*i/\s=cB (qP off len cap ((256*i:Nat):Int)) (qO (cG key nonce c off (64*(4*i)) xs) (Q.S key nonce c (4*i)) t) 101 [60] []) (r0:=len) ⟨0,by omega,by omega,by rw [show 64*(4*0)=0 by omega,Dj];rfl⟩ ?_
 rintro r s ⟨i,hi,rfl,rfl⟩
 by_cases h:256<=len-256*i
 .have eo:Q.oA off cap ((256*i:Nat):Int)=off+64*(4*i):=by rw [Q.FX off (by omega)];omega
  refine G.lE aT aX mix eE [true] (aXn B.init Q.x4 Q.tn Q.one xs _ (cG key nonce c off (64*(4*(i+1))) xs) (Q.S key nonce c (4*i)) (Q.S key nonce c (4*(i+1))) t off len cap ((256*i:Nat):Int) ((256*(i+1):Nat):Int)) (aA ?_) (len-256*(i+1)) (by omega) ⟨i+1,by omega,rfl,rfl⟩
  rw [eo]
  refine ⟨by rw [Q.iN];decide,by rw [Q.iN];decide,rfl,Q.iN _ _ _ _,by rw [Fp];omega,rfl,by omega,⟨rfl,rfl⟩,Q.iN _ _ _ _,by omega,by unfold Q.sl;omega,?_,rfl,rfl,rfl,rfl,?_,⟨?_,rfl⟩,⟨?_,rfl⟩,trivial⟩
  .unfold Q.go
   rw [wi _ hi];exact decide_eq_true (by omega)
  .rw [IntWalk.i64_in _ (by omega)];omega
  .rw [Q.aQq];rfl
  .exact Q.Se key nonce c (4*i) 4
 have Lb:∀ i,64*i<=len->¬ 64<=len-64*i->G Tryz.prog (Pr B.init Q.x4 Q.tn Q.one) w0 M (bH 100 (uA xs t)) Tryz.f46.ntmps 100 V0 (.at (.exit 2)) TZ (cB (qP off len cap ((64*i:Nat):Int)) (qO (cG key nonce c off (64*i) xs) (Q.S key nonce c i) t) 101 [60] []) Q':=by
  intro i hi h
  by_cases hz:0<len-64*i
  .have eo:Q.oA off cap ((64*i:Nat):Int)=off+64*i:=Q.FX off (by omega)
   have e1:(len:Int).toNat-((64*i:Nat):Int).toNat=len-64*i:=by omega
   have hpd:Q.pd off len cap ((64*i:Nat):Int) (cG key nonce c off (64*i) xs)=((cG key nonce c off (64*i) xs).drop (off+64*i)).take (len-64*i):=by unfold Q.pd;rw [eo,e1]
   have Pk:(((cG key nonce c off (64*i) xs).drop (off+64*i)).take (len-64*i)).length=len-64*i:=by rw [List.length_take,List.length_drop,Fp];omega
   have hql:(Q.qd (((cG key nonce c off (64*i) xs).drop (off+64*i)).take (len-64*i))).length<=64:=by unfold Q.qd;rw [List.length_take];exact Nat.le_trans (Nat.min_le_left _ _) (Nat.min_le_right _ _)
   have hld:∀ q:List Int,q.length<=64->(Q.ld q).length=64:=fun q hq=>by
    unfold Q.ld
    rw [List.take_zero,List.nil_append,List.length_append,List.length_drop,List.length_replicate];omega
   have hB:=Q.Dr (Q.S key nonce c i)
   refine G.qR (cl:=[]) aT aX mix [true] H (aXh B.init Q.x4 Q.tn Q.one xs _ (Q.S key nonce c i) t off len cap ((64*i:Nat):Int)) (aA ?_) rfl rfl ?_
   .rw [eo,e1,hpd]
    refine ⟨?_,by rw [Q.tn,Q.gU,hld _ hql];decide,rfl,hB,by rw [hld _ hql];decide,rfl,rfl,⟨rfl,rfl⟩,rfl,Q.iN _ _ _ _,rfl,Q.iN _ _ _ _,⟨Nat.le_refl _,by omega⟩,by rw [Fp];omega,by unfold Q.sl;omega,?_,rfl,trivial⟩
    .rw [Fp]
     have:=Nat.min_le_right (Q.lt Q.tn (Q.one (Q.S key nonce c i)) (((cG key nonce c off (64*i) xs).drop (off+64*i)).take (len-64*i))).length (len-64*i)
     exact Nat.le_trans (Nat.add_le_add_left this _) (by omega)
    .rw [wi _ hi];exact decide_eq_true (by omega)
   .show [(60,SB.ints .u8 _ t)]=[(60,SB.ints .u8 _ t)]
    rw [eo,e1,hpd,Q.aSj (by omega) (by rw [Fp];omega),Q.uU,Q.xO fun m hm=>Q.Qu key nonce c i (by omega),show 64*i+(len-64*i)=len by omega]
    rfl
  .refine G.qR (cl:=[]) aT aX mix [false] H (aXi B.init Q.x4 Q.tn Q.one xs _ (Q.S key nonce c i) t off len cap ((64*i:Nat):Int)) (aA ⟨?_,rfl,trivial⟩) rfl rfl ?_
   .rw [wi _ hi];exact decide_eq_false (by omega)
   .rw [show 64*i=len by omega]
 refine G.fM aT aX mix eE [false] (aXm B.init Q.x4 Q.tn Q.one xs _ (cG key nonce c off (64*(4*i)) xs) (Q.S key nonce c (4*i)) (Q.S key nonce c (4*i)) t off len cap ((256*i:Nat):Int) ((64*(4*i):Nat):Int)) (aA ?_) (G.leave (by simp) ?_)
 .refine ⟨?_,rfl,rfl,rfl,rfl,by omega,⟨rfl,rfl⟩,⟨rfl,rfl⟩,trivial⟩
  unfold Q.no
  rw [wi _ hi];exact decide_eq_false (by omega)
 have hi4:64*(4*i)<=len:=by omega
 clear h hi
 generalize 4*i=j0 at hi4
 refine G.fM aT aX mix eE [] (aXl B.init Q.x4 Q.tn Q.one xs _ (cG key nonce c off (64*j0) xs) (Q.S key nonce c j0) (Q.S key nonce c j0) t off len cap ((64*j0:Nat):Int) ((64*j0:Nat):Int)) (aA ?_) ?_
 .exact ⟨rfl,rfl,rfl,rfl,⟨rfl,rfl⟩,⟨rfl,rfl⟩,trivial⟩
 refine G.loop (fun r s=>∃ j:Nat,64*j<=len/\r=len-64*j/\s=cB (qP off len cap ((64*j:Nat):Int)) (qO (cG key nonce c off (64*j) xs) (Q.S key nonce c j) t) 101 [60] []) (r0:=len-64*j0) ⟨j0,hi4,rfl,rfl⟩ ?_
 clear hi4
 rintro r s ⟨j,hj,rfl,rfl⟩
 by_cases h:64<=len-64*j
 .have eo:Q.oA off cap ((64*j:Nat):Int)=off+64*j:=Q.FX off (by omega)
  refine G.lE aT aX mix eE [true] (aXk B.init Q.x4 Q.tn Q.one xs _ (cG key nonce c off (64*(j+1)) xs) (Q.S key nonce c j) (Q.S key nonce c (j+1)) t off len cap ((64*j:Nat):Int) ((64*(j+1):Nat):Int)) (aA ?_) (len-64*(j+1)) (by omega) ⟨j+1,by omega,rfl,rfl⟩
  rw [eo]
  refine ⟨by rw [Q.iN];decide,by rw [Q.iN];decide,rfl,Q.Dr _,by rw [Fp];omega,by omega,rfl,⟨rfl,rfl⟩,rfl,Q.iN _ _ _ _,rfl,Q.iN _ _ _ _,by omega,by unfold Q.sl;omega,?_,rfl,rfl,rfl,rfl,?_,⟨Q.aQr,rfl⟩,⟨Q.Se key nonce c j 1,rfl⟩,trivial⟩
  .unfold Q.go
   rw [wi _ hj];exact decide_eq_true (by omega)
  .rw [IntWalk.i64_in _ (by omega)];omega
 .refine G.fM aT aX mix eE [false] (aXj B.init Q.x4 Q.tn Q.one xs _ (cG key nonce c off (64*j) xs) (Q.S key nonce c j) (Q.S key nonce c j) t off len cap ((64*j:Nat):Int) ((64*j:Nat):Int)) (aA ?_) (G.leave (by simp) (Lb j hj h))
  refine ⟨?_,rfl,rfl,rfl,rfl,rfl,⟨rfl,rfl⟩,⟨rfl,rfl⟩,trivial⟩
  unfold Q.no
  rw [wi _ hj];exact decide_eq_false (by omega)
def GD (vs:List SV) (T:aZ):Option Canon:=match vs with
 | [.raw (.pointer none),ks,.int _ .u32 c,ns,.aG l _ off len cap]=>match cJ ks,cJ ns with
   | some (.u8,k),some (.u8,n)=>match T l with
     | some B=>match Bu B with
       | some (.u8,xs,ty)=>some { eR:=TY k n c off len cap,T0:=[(60,.ints .u8 xs ty)],vl:=[(60,.lab l 0)],e0:={ val:=.eL [],wr:=[(60,.ints .u8 (cG k n c off len xs) ty)] },conds:=[k.length=32,n.length=12,off+len<=xs.length,len<=cap,len<=4611686018427387904,0<=c/\c<=4294967295] }
       | _=>none
     | none=>none
   | _,_=>none
 | _=>none
theorem aJx (Γ:Env) (hg:Γ.aR=aB):aH Tryz.prog Γ 46 (aK aB 100 GD):=by
 refine aW hg fun vs T c hd hc=>?_
 unfold GD at hd
 split at hd
 case h_2=>cases hd
 split at hd
 case h_2=>cases hd
 split at hd
 case h_2=>cases hd
 split at hd
 case h_2=>cases hd
 cases hd
 exact (ZC (hc _ (by simp)) (hc _ (by simp)) (hc _ (by simp)) (hc _ (by simp)) (hc _ (by simp)) (hc _ (by simp))).words (by rw [hg];rfl) (fun _=>rfl) (fun _ _ h=>h) (fun _=>rfl) rfl rfl
namespace P
def orT (a b:List Int):Nat->Int
 | 0=>0
 | j+1=>kN .u8 (orT a b j) (gO .u8 (a.getD j 0) (b.getD j 0))
def EW (x:Int):Int:=bZ .u64 (kN .u64 x (W (0-x))) 63
def DI (a b:List Int):Int:=gO .u64 1 (EW (W (orT a b 16)))
theorem bv8 (a:Nat) (h:a<256):(BitVec.ofInt 8 (a:Int)).toNat=a:=by
 rw [BitVec.ofInt_natCast,BitVec.toNat_ofNat];exact Nat.mod_eq_of_lt h
theorem or8 {a b:Nat} (ha:a<256) (hb:b<256):kN .u8 (a:Int) (b:Int)=((a ||| b:Nat):Int)/\a ||| b<256:=by
 have hl:a ||| b<2^8:=Nat.or_lt_two_pow (by omega) (by omega)
 refine ⟨?_,by omega⟩
 show (((BitVec.ofInt 8 (a:Int) ||| BitVec.ofInt 8 (b:Int)).toNat:Nat):Int)%256=_
 rw [BitVec.toNat_or,bv8 a ha,bv8 b hb]
 omega
theorem aFf {a b:Nat} (ha:a<256) (hb:b<256):gO .u8 (a:Int) (b:Int)=((a ^^^ b:Nat):Int)/\a ^^^ b<256:=by
 have hl:a ^^^ b<2^8:=Nat.xor_lt_two_pow (by omega) (by omega)
 refine ⟨?_,by omega⟩
 show (((BitVec.ofInt 8 (a:Int) ^^^ BitVec.ofInt 8 (b:Int)).toNat:Nat):Int)%256=_
 rw [BitVec.toNat_xor,bv8 a ha,bv8 b hb]
 omega
theorem aQk {x y:Nat}:x ^^^ y=0<->x=y:=by
 constructor
 .intro h
  have:x ^^^ y ^^^ y=0 ^^^ y:=by rw [h]
  rwa [Nat.xor_assoc,Nat.xor_self,Nat.xor_zero,Nat.zero_xor] at this
 .rintro rfl
  exact Nat.xor_self x
theorem IW {a b:List Int} (ha:bR a) (hb:bR b):∀ j,∃ n:Nat,orT a b j=(n:Int)/\n<256/\(n=0<->∀ i,i<j->a.getD i 0=b.getD i 0)
 | 0=>⟨0,rfl,by decide,⟨fun _ i hi=>absurd hi (Nat.not_lt_zero i),fun _=>rfl⟩⟩
 | j+1=>by
   obtain ⟨n,e,hn,hz⟩:=IW ha hb j
   obtain ⟨x,ex,hx⟩:=(ha.get j).nat
   obtain ⟨y,ey,hy⟩:=(hb.get j).nat
   obtain ⟨x1,x2⟩:=aFf hx hy
   obtain ⟨o1,o2⟩:=or8 hn x2
   refine ⟨n ||| (x ^^^ y),by rw [orT,e,ex,ey,x1,o1],o2,?_⟩
   rw [Nat.or_eq_zero_iff,hz,aQk]
   constructor
   .rintro ⟨h1,h2⟩ i hi
    by_cases hij:i<j
    .exact h1 i hij
    .have:i=j:=by omega
     subst this
     rw [ex,ey,h2]
   .intro h
    refine ⟨fun i hi=>h i (by omega),?_⟩
    have:=h j (by omega)
    rw [ex,ey] at this
    omega
theorem aQz {n:Nat} (h:n<256):gO .u64 1 (EW (W (n:Int)))=if n=0 then 1 else 0:=by
 have key:∀ n:Fin 256,gO .u64 1 (EW (W ((n.val:Nat):Int)))=if n.val=0 then 1 else 0:=by decide +kernel
 exact key ⟨n,h⟩
theorem aMi {a b:List Int} (ha:bR a) (hb:bR b) (la:a.length=16) (lb:b.length=16):DI a b=if a=b then 1 else 0:=by
 obtain ⟨n,e,hn,hz⟩:=IW ha hb 16
 unfold DI
 rw [e,aQz hn]
 by_cases h:a=b
 .rw [if_pos h,if_pos (hz.2 fun i _=>by rw [h])]
 .rw [if_neg h,if_neg fun q=>h (Q.Gc la lb (hz.1 q))]
end P
theorem aUd (a b:List Int):aJ (env gC 4) Tryz.f86 true [] 1500 [.agg (cO .u8 16 a),.agg (cO .u8 16 b)] Dx 100 100=some { val:=.int false .u64 (P.DI a b) }:=by kernel_rfl
theorem PM {a b:List Int} (la:a.length=16) (lb:b.length=16) (Γ:Env) (hg:Γ.aR=aB):aF Tryz.prog Γ 86 [.ai .u8 a,.ai .u8 b] Dx 100 100 { val:=.int false .u64 (P.DI a b) }:=by
 have hs:aH Tryz.prog (env gC 4) 86 (aJ (env gC 4) Tryz.f86 true [] 1500):=aM (bQ gC 4) (mY 4) mix Tryz.func86 (by kernel_rfl) true [] 1500
 refine (hs.call (aUd a b) iG).words (by rw [hg];rfl) (fun V=>?_) (fun _ _ h=>h) (fun V=>rfl) rfl rfl
 simp only [aE,bI V la,bI V lb]
def HC (et:List Int->List Int->Int) (vs:List SV) (_:aZ):Option Canon:=match vs with
 | [v,u]=>match cJ v,cJ u with
   | some (.u8,a),some (.u8,b)=>some { eR:=[.ai .u8 a,.ai .u8 b],T0:=[],vl:=[],e0:={ val:=.int false .u64 (et a b) },conds:=[et a b=P.DI a b,a.length=16,b.length=16] }
   | _,_=>none
 | _=>none
theorem aMg (et:List Int->List Int->Int) (Γ:Env) (hg:Γ.aR=aB):aH Tryz.prog Γ 86 (aK aB 100 (HC et)):=by
 refine aW hg fun vs T c hd hc=>?_
 unfold HC at hd
 split at hd
 case h_2=>cases hd
 split at hd
 case h_2=>cases hd
 cases hd
 have e:=hc _ cM
 have h:=PM (hc _ (List.mem_cons_of_mem _ cM)) (hc _ (List.mem_cons_of_mem _ (List.mem_cons_of_mem _ cM))) Γ hg
 rw [<- e] at h
 exact h
noncomputable def UX (mc:List Int->List Int->List Int) (et:List Int->List Int->Int):Nat->Option Sum:=dM (dM (dM gC 77 (aK aB 100 tG)) 48 (aK aB 100 (Uu mc))) 86 (aK aB 100 (HC et))
theorem aCg (mc:List Int->List Int->List Int) (et:List Int->List Int->Int):∀ f S,UX mc et f=some S->∀ Γ:Env,Γ.aR=aB->aH Tryz.prog Γ f S:=bD (bD (bD gM 77 _ Cm) 48 _ (JB mc)) 86 _ (aMg et)
def ckO (mc:List Int->List Int->List Int) (et:List Int->List Int->Int) (key t D:List Int) (d:Nat->List Int):List Prop:=
 let T:=mc key D
 [(et T t==1)=(et T t==1),et T t=P.DI T t,T.length=16,t.length=16,T=T,t=t,t.length=16,T=M.tag key D,key.length=32,bR key,bR D,D.length<=1073741824,D.length%16=0,key=key,
  (d 1).length=(d 1).length,(d 1).length=(d 1).length,(d 2).length=(d 2).length,(d 2).length=(d 2).length,(d 3).length=(d 3).length,(d 3).length=(d 3).length,(d 4).length=(d 4).length,(d 4).length=(d 4).length,(d 5).length=(d 5).length,(d 5).length=(d 5).length,
  d 1=d 1,d 2=d 2,d 3=d 3,d 4=d 4,d 5=d 5,key.length=32]
theorem bBa (mc:List Int->List Int->List Int) (et:List Int->List Int->Int) (key t:List Int) (d:Nat->List Int):aJ (env (UX mc et) 4) Tryz.f50 true [] 1500 [.raw (.pointer none),.ai .u8 key,.ai .u8 t,.aG 62 true 0 5 5] (yU d) 100 100 =
 some { val:=.bool false (et (mc key (M.cat d)) t==1),bM:=ckO mc et key t (M.cat d) d }:=by kernel_rfl
theorem aCy {key t:List Int} {d:Nat->List Int} (hk:key.length=32) (hb:bR key) (ht:t.length=16) (htb:bR t) (hd:bR (M.cat d)) (hl:(M.cat d).length<=1073741824) (tZ:(M.cat d).length%16=0) (Γ:Env) (hg:Γ.aR=aB) :
 aF Tryz.prog Γ 50 [.raw (.pointer none),.ai .u8 key,.ai .u8 t,.aG 62 true 0 5 5] (yU d) 100 100 { val:=.bool false (decide (M.tag key (M.cat d)=t)) }:=by
 have hs:aH Tryz.prog (env (UX M.tag P.DI) 4) 50 (aJ (env (UX M.tag P.DI) 4) Tryz.f50 true [] 1500):=aM (bQ _ 4) (bW _ (aCg _ _) 4) mix Tryz.func50 (by kernel_rfl) true [] 1500
 have hT:=M.nV key (M.cat d)
 have hTB:bR (M.tag key (M.cat d)):=fun x hx=>by
  simp only [M.tag,M.Pw,List.mem_map] at hx
  obtain ⟨m,_,rfl⟩:=hx
  rw [IntKind.wrap_u8]
  exact ⟨Int.emod_nonneg _ (by decide),Int.emod_lt_of_pos _ (by decide)⟩
 have h:=hs.call (bBa M.tag P.DI key t d) (aA (show _/\_/\_/\_/\_/\_/\_/\_/\_/\_/\_/\_/\_/\_/\_/\_/\_/\_/\_/\_/\_/\_/\_/\_/\_/\_/\_/\_/\_/\_/\True from
  ⟨rfl,rfl,hT,ht,rfl,rfl,ht,rfl,hk,hb,hd,hl,tZ,rfl,rfl,rfl,rfl,rfl,rfl,rfl,rfl,rfl,rfl,rfl,rfl,rfl,rfl,rfl,rfl,hk,trivial⟩))
 refine h.words (by rw [hg];rfl) (fun V=>rfl) (fun _ _ h=>h) (fun V=>?_) rfl rfl
 have e:(P.DI (M.tag key (M.cat d)) t==1)=decide (M.tag key (M.cat d)=t):=by
  rw [P.aMi hTB htb hT ht]
  by_cases q:M.tag key (M.cat d)=t
  .rw [if_pos q,decide_eq_true q];rfl
  .rw [if_neg q,decide_eq_false q];rfl
 show den V (.bool false (P.DI (M.tag key (M.cat d)) t==1))=_
 rw [e]
def HV (vs:List SV) (T:aZ):Option Canon:=match vs with
 | [.raw (.pointer none),ks,ts,.aG L _ 0 5 5]=>match cJ ks,cJ ts,(T L).bind roL with
   | some (.u8,k),some (.u8,t),some [p1,p2,p3,p4,p5]=>match cW T .u8 p1,cW T .u8 p2,cW T .u8 p3,cW T .u8 p4,cW T .u8 p5 with
     | some (o1,x1),some (o2,x2),some (o3,x3),some (o4,x4),some (o5,x5)=>some { eR:=[.raw (.pointer none),.ai .u8 k,.ai .u8 t,.aG 62 true 0 5 5],T0:=sgB (As x1 x2 x3 x4 x5),vl:=[(62,.lab L 0),(71,.cell L 0),(72,.cell L 1),(73,.cell L 2),(74,.cell L 3),(75,.cell L 4)],e0:={ val:=.bool false (decide (M.tag k (x1++(x2++(x3++(x4++x5))))=t)) },conds:=(k.length=32)::bR k::(t.length=16)::bR t::bR (x1++(x2++(x3++(x4++x5))))::((x1++(x2++(x3++(x4++x5)))).length<=1073741824)::((x1++(x2++(x3++(x4++x5)))).length%16=0)::(o1++(o2++(o3++(o4++o5)))) }
     | _,_,_,_,_=>none
   | _,_,_=>none
 | _=>none
theorem aNi (Γ:Env) (hg:Γ.aR=aB):aH Tryz.prog Γ 50 (aK aB 100 HV):=by
 refine aW hg fun vs T c hd hc=>?_
 unfold HV at hd
 split at hd
 case h_2=>cases hd
 split at hd
 case h_2=>cases hd
 split at hd
 case h_2=>cases hd
 cases hd
 rename_i o1 x1 o2 x2 o3 x3 o4 x4 o5 x5 _ _ _ _ _
 exact aCy (d:=As x1 x2 x3 x4 x5) (hc _ cM) (hc _ (List.mem_cons_of_mem _ cM)) (hc _ (List.mem_cons_of_mem _ (List.mem_cons_of_mem _ cM))) (hc _ (List.mem_cons_of_mem _ (List.mem_cons_of_mem _ (List.mem_cons_of_mem _ cM)))) (hc _ (List.mem_cons_of_mem _ (List.mem_cons_of_mem _ (List.mem_cons_of_mem _ (List.mem_cons_of_mem _ cM))))) (hc _ (List.mem_cons_of_mem _ (List.mem_cons_of_mem _ (List.mem_cons_of_mem _ (List.mem_cons_of_mem _ (List.mem_cons_of_mem _ cM)))))) (hc _ (List.mem_cons_of_mem _ (List.mem_cons_of_mem _ (List.mem_cons_of_mem _ (List.mem_cons_of_mem _ (List.mem_cons_of_mem _ (List.mem_cons_of_mem _ cM))))))) Γ hg
namespace M
def nonce (N:Int):List Int:=[0,0,0,0,IntKind.u8.wrap (bZ IntKind.u64 N 0),IntKind.u8.wrap (bZ IntKind.u64 N 8),IntKind.u8.wrap (bZ IntKind.u64 N 16),IntKind.u8.wrap (bZ IntKind.u64 N 24),IntKind.u8.wrap (bZ IntKind.u64 N 32),IntKind.u8.wrap (bZ IntKind.u64 N 40),IntKind.u8.wrap (bZ IntKind.u64 N 48),IntKind.u8.wrap (bZ IntKind.u64 N 56)]
def once (key:List Int) (N:Int):List Int:=cG key (nonce N) 0 0 32 (List.replicate 32 0)
def le (N:Int) (j:Nat):Int:=IntKind.u8.wrap (bZ IntKind.u64 N ((8*j:Nat):Int))
def Bd (n:Int):Int:=(IntKind.i64.wrap (16-n.tmod 16)).tmod 16
def qB (n:Int):Nat:=(Bd n).toNat
def Gd (a n:Int):List Int:=[le (IntKind.u64.wrap a) 0,le (IntKind.u64.wrap a) 1,le (IntKind.u64.wrap a) 2,le (IntKind.u64.wrap a) 3,le (IntKind.u64.wrap a) 4,le (IntKind.u64.wrap a) 5,le (IntKind.u64.wrap a) 6,le (IntKind.u64.wrap a) 7,le (IntKind.u64.wrap n) 0,le (IntKind.u64.wrap n) 1,le (IntKind.u64.wrap n) 2,le (IntKind.u64.wrap n) 3,le (IntKind.u64.wrap n) 4,le (IntKind.u64.wrap n) 5,le (IntKind.u64.wrap n) 6,le (IntKind.u64.wrap n) 7]
def TP (n:Int):List Int:=List.take (qB n) (List.drop 0 (List.replicate (qB n) 0))
def Yc (ad:List Int) (la:Nat) (c:List Int) (n:Nat):List Int:=ad++(TP la++(c++(TP n++List.take 16 (List.drop 0 (Gd la n)))))
theorem kZ (key:List Int) (N:Int):(once key N).length=32:=by unfold once;rw [fL];rfl
end M
theorem aXf (N:Int):aJ (env gC 22) Tryz.f23 true [] 400 [.int false .u64 N] (fun l=>look l []) 100 100=some { val:=.agg [.int true .u8 0,.int true .u8 0,.int true .u8 0,.int true .u8 0,.int false .u8 (IntKind.u8.wrap (bZ IntKind.u64 N 0)),.int false .u8 (IntKind.u8.wrap (bZ IntKind.u64 N 8)),.int false .u8 (IntKind.u8.wrap (bZ IntKind.u64 N 16)),.int false .u8 (IntKind.u8.wrap (bZ IntKind.u64 N 24)),.int false .u8 (IntKind.u8.wrap (bZ IntKind.u64 N 32)),.int false .u8 (IntKind.u8.wrap (bZ IntKind.u64 N 40)),.int false .u8 (IntKind.u8.wrap (bZ IntKind.u64 N 48)),.int false .u8 (IntKind.u8.wrap (bZ IntKind.u64 N 56))] }:=by kernel_rfl
theorem Jo:∀ f S,gC f=some S->∀ Γ:Env,Γ.aR=aB->aH Tryz.prog Γ f S:=fun f S h Γ _=>tJ f S h Γ
theorem YY (N:Int):aF Tryz.prog (env gC 22) 23 [.int false .u64 N] (fun l=>look l []) 100 100 { val:=.ai .u8 (M.nonce N) }:=
 ((aM (bQ gC 22) (bW gC Jo 22) mix Tryz.func23 (by kernel_rfl) true [] 400:aH Tryz.prog (env gC 22) 23 _).call (aXf N) (by simp)).re rfl (fun _=>rfl) trivial trivial
def GC (vs:List SV) (_:aZ):Option Canon:=match vs with
 | [.int _ .u64 N]=>some { eR:=[.int false .u64 N],T0:=[],vl:=[],e0:={ val:=.ai .u8 (M.nonce N) } }
 | _=>none
theorem aSg (Γ:Env) (hg:Γ.aR=aB):aH Tryz.prog Γ 23 (aK aB 100 GC):=by
 refine aW hg fun vs T c hd hc=>?_
 unfold GC at hd
 split at hd
 case h_2=>cases hd
 cases hd
 exact (YY _).words (by rw [hg];rfl) (fun _=>rfl) (fun _ _ h=>h) (fun _=>rfl) rfl rfl
theorem aYa (N:Int):aJ (env gC 22) Tryz.f39 true [] 400 [.int false .u64 N] (fun l=>look l []) 100 100=some { val:=.aG 100 true 0 8 8,new:=[.own [.int false .u8 (M.le N 0),.int false .u8 (M.le N 1),.int false .u8 (M.le N 2),.int false .u8 (M.le N 3),.int false .u8 (M.le N 4),.int false .u8 (M.le N 5),.int false .u8 (M.le N 6),.int false .u8 (M.le N 7)] 5] }:=by kernel_rfl
theorem ZK (N:Int):aF Tryz.prog (env gC 22) 39 [.int false .u64 N] (fun l=>look l []) 100 100 { val:=.aG 100 true 0 8 8,new:=[.own [.int false .u8 (M.le N 0),.int false .u8 (M.le N 1),.int false .u8 (M.le N 2),.int false .u8 (M.le N 3),.int false .u8 (M.le N 4),.int false .u8 (M.le N 5),.int false .u8 (M.le N 6),.int false .u8 (M.le N 7)] 5] }:=
 (aM (bQ gC 22) (bW gC Jo 22) mix Tryz.func39 (by kernel_rfl) true [] 400:aH Tryz.prog (env gC 22) 39 _).call (aYa N) (by simp)
def GJ (vs:List SV) (_:aZ):Option Canon:=match vs with
 | [.int _ .u64 N]=>some { eR:=[.int false .u64 N],T0:=[],vl:=[],e0:={ val:=.aG 100 true 0 8 8,new:=[.own [.int false .u8 (M.le N 0),.int false .u8 (M.le N 1),.int false .u8 (M.le N 2),.int false .u8 (M.le N 3),.int false .u8 (M.le N 4),.int false .u8 (M.le N 5),.int false .u8 (M.le N 6),.int false .u8 (M.le N 7)] 5] } }
 | _=>none
theorem aSr (Γ:Env) (hg:Γ.aR=aB):aH Tryz.prog Γ 39 (aK aB 100 GJ):=by
 refine aW hg fun vs T c hd hc=>?_
 unfold GJ at hd
 split at hd
 case h_2=>cases hd
 cases hd
 exact (ZK _).words (by rw [hg];rfl) (fun _=>rfl) (fun _ _ h=>h) (fun _=>rfl) rfl rfl
theorem bAg (n:Int):aJ (env gC 22) Tryz.f40 true [] 400 [.int false .i64 n] (fun l=>look l []) 100 100=some { bM:=[0<=M.Bd n/\M.Bd n<=M.Bd n/\1*M.Bd n<=281474976710656/\M.Bd n<9223372036854775808],val:=.aG 100 false 0 (M.qB n) (M.qB n),new:=[.ints .u8 (List.replicate (M.qB n) 0) 5] }:=by kernel_rfl
theorem M.We (n:Int) (h:0<=n/\n<=1073741824):M.Bd n=(16-n%16)%16/\0<=M.Bd n/\M.Bd n<16:=by
 have e:M.Bd n=(16-n%16)%16:=by
  unfold M.Bd
  rw [Int.tmod_eq_emod_of_nonneg h.1,IntWalk.i64_in _ ⟨by omega,by omega⟩,Int.tmod_eq_emod_of_nonneg (by omega)]
 rw [e];omega
theorem aBp {n:Int} (h:0<=n/\n<=1073741824):aF Tryz.prog (env gC 22) 40 [.int false .i64 n] (fun l=>look l []) 100 100 { val:=.aG 100 false 0 (M.qB n) (M.qB n),new:=[.ints .u8 (List.replicate (M.qB n) 0) 5] }:=
 ((aM (bQ gC 22) (bW gC Jo 22) mix Tryz.func40 (by kernel_rfl) true [] 400:aH Tryz.prog (env gC 22) 40 _).call (bAg n) (aA ⟨by have:=M.We n h;omega,trivial⟩)).re rfl (fun _=>rfl) ⟨rfl,trivial⟩ trivial
def GZ (vs:List SV) (_:aZ):Option Canon:=match vs with
 | [.int _ .i64 n]=>some { eR:=[.int false .i64 n],T0:=[],vl:=[],e0:={ val:=.aG 100 false 0 (M.qB n) (M.qB n),new:=[.ints .u8 (List.replicate (M.qB n) 0) 5] },conds:=[0<=n/\n<=1073741824] }
 | _=>none
theorem aTy (Γ:Env) (hg:Γ.aR=aB):aH Tryz.prog Γ 40 (aK aB 100 GZ):=by
 refine aW hg fun vs T c hd hc=>?_
 unfold GZ at hd
 split at hd
 case h_2=>cases hd
 cases hd
 exact (aBp (hc _ (by simp))).words (by rw [hg];rfl) (fun _=>rfl) (fun _ _ h=>h) (fun _=>rfl) rfl rfl
theorem Af (x:Int):Bt (IntKind.u8.wrap x):=by
 rw [IntKind.wrap_u8]
 exact ⟨Int.emod_nonneg _ (by decide),Int.emod_lt_of_pos _ (by decide)⟩
theorem Rz (x y:Int):Bt (gO .u8 x y):=Af _
namespace Q
def cx (key:List Int) (N:Int) (xs:List Int):List Int:=cG key (M.nonce N) 1 0 xs.length xs
def tg (key:List Int) (N:Int) (ad c:List Int):List Int:=M.tag (M.once key N) (M.Yc ad ad.length c c.length)
def iL (key:List Int) (N:Int) (ad bs:List Int) (n:Nat):List Int:=cx key N (bs.take n)++(tg key N ad (cx key N (bs.take n))++bs.drop (n+16))
def mU (key:List Int) (N:Int) (bs:List Int) (m:Nat):List Int:=cx key N (bs.take m)++bs.drop m
def EO (bs:List Int) (m:Nat):List Int:=List.replicate m 0++bs.drop m
theorem oZ (key:List Int) (N:Int) (xs:List Int):(cx key N xs).length=xs.length:=fL _ _ _ _ _ _
theorem xQ (key:List Int) (N:Int) (ad c:List Int):(tg key N ad c).length=16:=by simp [tg,M.tag,M.Pw]
theorem Zg {key nonce:List Int} {c:Int} {n:Nat} {xs:List Int} (h:n<=xs.length):cG key nonce c 0 n xs=cG key nonce c 0 n (xs.take n)++xs.drop n:=by
 have hl:(cG key nonce c 0 n (xs.take n)).length=n:=by rw [fL,List.length_take];omega
 refine Gc (n:=xs.length) (fL _ _ _ _ _ _) (by rw [List.length_append,hl,List.length_drop];omega) fun i hi=>?_
 rw [oV _ _ _ _ _ _ hi]
 by_cases h1:i<n
 .rw [if_pos (by omega),xN _ _ (by omega),oV _ _ _ _ _ _ (by rw [List.length_take];omega),if_pos (by omega),dF _ h1]
 .rw [if_neg (by omega),Sb _ _ (by omega),hl,mZ]
  congr 1;omega
theorem Mp {key:List Int} {N:Int} {n:Nat} {xs:List Int} (h:n<=xs.length):cG key (M.nonce N) 1 0 n xs=mU key N xs n:=by
 unfold mU cx
 rw [Zg h]
 have:(xs.take n).length=n:=by rw [List.length_take];omega
 rw [this]
theorem JZ (key:List Int) (N:Int) {xs:List Int} (h:bR xs):bR (cx key N xs):=by
 intro x hx
 simp only [cx,cG,List.mem_map] at hx
 obtain ⟨m,_,rfl⟩:=hx
 split
 .exact Rz _ _
 .exact h.get _
theorem aSu (key nonce:List Int) (c:Int) (i:Nat):Bt (zE key nonce c i):=by
 unfold zE
 refine bR.get (fun x hx=>?_) _
 simp only [B.block,B.out,List.mem_map] at hx
 obtain ⟨j,_,rfl⟩:=hx
 exact Af _
theorem VI {x k:Int} (hx:Bt x) (hk:Bt k):gO .u8 (gO .u8 x k) k=x:=by
 obtain ⟨a,rfl,ha⟩:=hx.nat
 obtain ⟨b,rfl,hb⟩:=hk.nat
 obtain ⟨e1,l1⟩:=P.aFf ha hb
 rw [e1,(P.aFf l1 hb).1,Nat.xor_assoc,Nat.xor_self,Nat.xor_zero]
theorem aEy (key:List Int) (N:Int) {xs:List Int} (h:bR xs):cx key N (cx key N xs)=xs:=by
 refine Gc (n:=xs.length) (by rw [oZ,oZ]) rfl fun i hi=>?_
 have e:∀ ys:List Int,i<ys.length->(cx key N ys).getD i 0=gO .u8 (ys.getD i 0) (zE key (M.nonce N) 1 i):=fun ys hy=>by
  unfold cx
  rw [oV _ _ _ _ _ _ hy,if_pos (by omega),Nat.sub_zero]
 rw [e _ (by rw [oZ];exact hi),e _ hi,VI (h.get i) (aSu _ _ _ _)]
theorem VU (key data:List Int):bR (M.tag key data):=fun x hx=>by
 simp only [M.tag,M.Pw,List.mem_map] at hx
 obtain ⟨m,_,rfl⟩:=hx
 exact Af _
theorem IG (key:List Int) (N:Int) (ad c:List Int):bR (tg key N ad c):=VU _ _
theorem lQ {a b:List Int} (ha:bR a) (hb:bR b):bR (a++b):=fun x hx=>(List.mem_append.1 hx).elim (ha x) (hb x)
theorem wI {a:List Int} (n:Nat) (ha:bR a):bR (a.take n):=fun x hx=>ha x (List.mem_of_mem_take hx)
theorem Ob {a:List Int} (n:Nat) (ha:bR a):bR (a.drop n):=fun x hx=>ha x (List.mem_of_mem_drop hx)
theorem Aj (n:Nat):bR (List.replicate n (0:Int)):=fun x hx=>by rw [(List.mem_replicate.1 hx).2];exact ⟨by decide,by decide⟩
theorem Nd (key:List Int) (N:Int):bR (M.once key N):=by
 intro x hx
 simp only [M.once,cG,List.mem_map] at hx
 obtain ⟨m,_,rfl⟩:=hx
 split
 .exact Rz _ _
 .exact (Aj 32).get _
theorem Wd {n:Nat} (h:n<=1073741824):M.qB (n:Int)=(16-n%16)%16:=by
 obtain ⟨e,h0,h1⟩:=M.We (n:Int) ⟨by omega,by omega⟩
 unfold M.qB;rw [e];omega
theorem Wc (n:Int):M.TP n=List.replicate (M.qB n) 0:=by
 unfold M.TP
 rw [List.drop_zero,List.take_of_length_le (by simp)]
theorem Zs (a n:Int):bR (M.Gd a n):=by
 intro x hx
 simp only [M.Gd,List.mem_cons,List.not_mem_nil,or_false] at hx
 rcases hx with rfl | rfl | rfl | rfl | rfl | rfl | rfl | rfl | rfl | rfl | rfl | rfl | rfl | rfl | rfl | rfl <;> exact Af _
theorem aLg (ad:List Int) (la:Nat) (c:List Int) (n:Nat):M.Yc ad la c n=ad++(List.replicate (M.qB la) 0++(c++(List.replicate (M.qB n) 0++M.Gd la n))):=by
 unfold M.Yc
 rw [Wc,Wc]
 rfl
theorem JT {ad c:List Int} {la n:Nat} (ha:bR ad) (hc:bR c) (SD:ad.length=la) (hn:c.length=n) (bCj:la<=500000000) (Oy:n<=500000000) :
 bR (M.Yc ad la c n)/\(M.Yc ad la c n).length<=1073741824/\(M.Yc ad la c n).length%16=0:=by
 have tZ:(M.Gd (la:Int) (n:Int)).length=16:=rfl
 have p1:=Wd (n:=la) (by omega)
 have p2:=Wd (n:=n) (by omega)
 rw [aLg]
 refine ⟨lQ ha (lQ (Aj _) (lQ hc (lQ (Aj _) (Zs _ _)))),?_,?_⟩
 .simp only [List.length_append,List.length_replicate,tZ,SD,hn];omega
 .simp only [List.length_append,List.length_replicate,tZ,SD,hn];omega
theorem KX (key:List Int) (N:Int) (ad:List Int) {bs:List Int} (n:Nat) (h:bR bs):bR (iL key N ad bs n):=
 lQ (JZ _ _ (wI _ h)) (lQ (IG _ _ _ _) (Ob _ h))
theorem Dk (key:List Int) (N:Int) (ad p t r:List Int) (ht:t.length=16):iL key N ad (p++(t++r)) p.length=cx key N p++(tg key N ad (cx key N p)++r):=by
 unfold iL
 rw [List.take_left,<- ht,List.drop_length_add_append,List.drop_left]
theorem Dq (key:List Int) (N:Int) (c r:List Int):mU key N (c++r) c.length=cx key N c++r:=by
 unfold mU
 rw [List.take_left,List.drop_left]
end Q
def qD:Nat->List SV
 | 0=>[.int true .i64 0,.raw .nilFunc,.raw .nilFunc,.raw .nilFunc,.raw .nilFunc,.raw .nilFunc,.raw .nilFunc]
 | 1=>[.int true .i64 1,.fn (.func 41) [] [.ptr 50 true 0],.fn (.func 43) [] [.ptr 50 true 0],.fn (.func 45) [] [.ptr 50 true 0],.fn (.func 47) [] [.ptr 50 true 0],.fn (.func 49) [] [.ptr 50 true 0],.fn (.func 51) [] [.ptr 50 true 0]]
 | _=>[.int true .i64 2,.fn (.func 53) [] [],.fn (.func 54) [] [],.fn (.func 55) [] [],.fn (.func 56) [] [],.fn (.func 57) [] [],.fn (.func 58) [] []]
def EH:Nat->List (Nat × SB)
 | 1=>[(50,.fP [.raw (.pointer none)])]
 | _=>[]
def yK:SV->Option (Nat × List (Nat × Ij))
 | .agg (.int true .i64 0::_)=>some (0,[])
 | .agg (.int true .i64 1 :: .fn _ _ [.ptr L _ _]::_)=>some (1,[(50,.lab L 0)])
 | .agg (.int true .i64 2::_)=>some (2,[])
 | _=>none
noncomputable def exE:Nat->Option Sum:=dM (dM gC 55 aNw) 46 (aK aB 100 GD)
noncomputable def Ig (mc:List Int->List Int->List Int):Nat->Option Sum:=dM (dM (dM gC 56 (aK aB 100 FF)) 48 (aK aB 100 (Uu mc))) 50 (aK aB 100 HV)
def TF (e:Nat) (key nonce:List Int) (c:Int) (off len cap:Nat):List SV:=[.agg (qD e),.ai .u8 key,.int false .u32 c,.ai .u8 nonce,.aG 60 false off len cap]
def stL (e:Nat) (xs:List Int) (t:TypeId):List (Nat × SB):=(60,.ints .u8 xs t)::(EH e++Hv)
def tkL (e:Nat) (d:Nat->List Int):List (Nat × SB):=EH e++sgB d
def dE (e:Nat):Prop:=e=0\/e=1\/e=2
def stO (key nonce xs:List Int) (c:Int) (t:TypeId) (off len cap:Nat) (m r:List Prop):List Prop:=
 (key.length=32)::(nonce.length=12)::(off+len<=xs.length)::(m++(len<=4611686018427387904)::(0<=c/\c<=4294967295)::(key=key)::(c=c)::(nonce=nonce)::(off=0+off)::(len=len)::(cap=cap)::(xs=xs/\t=t)::(nonce.length=12)::(key.length=32)::r)
def stE (key nonce:List Int) (c:Int) (off len:Nat) (xs:List Int) (t:TypeId):bJ:={ val:=.eL [],wr:=[(60,.ints .u8 (cG key nonce c off len xs) t)] }
theorem aDq (e:Nat) (he:e=0\/e=2) (key nonce xs:List Int) (c:Int) (t:TypeId) (off len cap:Nat):aJ (env exE 22) Tryz.f22 true [] 400 (TF e key nonce c off len cap) (fun l=>look l (stL e xs t)) 100 100=some { stE key nonce c off len xs t with bM:=stO key nonce xs c t off len cap [] [] }:=by rcases he with rfl | rfl <;> kernel_rfl
theorem aQy (key nonce xs:List Int) (c:Int) (t:TypeId) (off len cap:Nat):aJ (env exE 22) Tryz.f22 true [] 400 (TF 1 key nonce c off len cap) (fun l=>look l (stL 1 xs t)) 100 100=some { stE key nonce c off len xs t with bM:=stO key nonce xs c t off len cap [len<=cap] [nonce.length=12,key.length=32] }:=by kernel_rfl
theorem aMe:∀ f S,exE f=some S->∀ Γ:Env,Γ.aR=aB->aH Tryz.prog Γ f S:=bD (bD gM 55 _ aHl) 46 _ aJx
theorem KR {e:Nat} (he:dE e) {key nonce xs:List Int} {c:Int} {t:TypeId} {off len cap:Nat} (hk:key.length=32) (hn:nonce.length=12) (hx:off+len<=xs.length) (hlc:len<=cap) (hl:len<=4611686018427387904) (hc:0<=c/\c<=4294967295) (Γ:Env) (hg:Γ.aR=aB) :
 aF Tryz.prog Γ 22 (TF e key nonce c off len cap) (fun l=>look l (stL e xs t)) 100 100 (stE key nonce c off len xs t):=by
 have hs:aH Tryz.prog (env exE 22) 22 (aJ (env exE 22) Tryz.f22 true [] 400):=aM (bQ exE 22) (bW exE aMe 22) mix Tryz.func22 (by kernel_rfl) true [] 400
 have sQ:∀ m r:List Prop,(∀ q∈m,q)->(∀ q∈r,q)->∀ q∈stO key nonce xs c t off len cap m r,q:=fun m r hm hr=>
  aO hk (aO hn (aO hx (qT hm (aO hl (aO hc (aO rfl (aO rfl (aO rfl (aO (by omega) (aO rfl (aO rfl (aO ⟨rfl,rfl⟩ (aO hn (aO hk hr))))))))))))))
 rcases he with rfl | rfl | rfl
 .exact (hs.call (aDq 0 (.inl rfl) key nonce xs c t off len cap) (sQ _ _ iG iG)).words (by rw [hg];rfl) (fun _=>rfl) (fun _ _ h=>h) (fun _=>rfl) rfl rfl
 .exact (hs.call (aQy key nonce xs c t off len cap) (sQ _ _ (aO hlc iG) (aO hn (aO hk iG)))).words (by rw [hg];rfl) (fun _=>rfl) (fun _ _ h=>h) (fun _=>rfl) rfl rfl
 .exact (hs.call (aDq 2 (.inr rfl) key nonce xs c t off len cap) (sQ _ _ iG iG)).words (by rw [hg];rfl) (fun _=>rfl) (fun _ _ h=>h) (fun _=>rfl) rfl rfl
def Mg (d:Nat->List Int) (r:List Prop):List Prop:=
 ((d 1).length=(d 1).length)::((d 1).length=(d 1).length)::((d 2).length=(d 2).length)::((d 2).length=(d 2).length)::((d 3).length=(d 3).length)::((d 3).length=(d 3).length)::((d 4).length=(d 4).length)::((d 4).length=(d 4).length)::((d 5).length=(d 5).length)::((d 5).length=(d 5).length) ::
   (d 1=d 1)::(d 2=d 2)::(d 3=d 3)::(d 4=d 4)::(d 5=d 5)::r
theorem oP {d:Nat->List Int} {r:List Prop} (h:∀ q∈r,q):∀ q∈Mg d r,q:=
 aO rfl (aO rfl (aO rfl (aO rfl (aO rfl (aO rfl (aO rfl (aO rfl (aO rfl (aO rfl (aO rfl (aO rfl (aO rfl (aO rfl (aO rfl h))))))))))))))
def iX (key D:List Int) (r:List Prop):List Prop:=(key.length=32)::bR key::bR D::(D.length<=1073741824)::(D.length%16=0)::r
theorem Wz (mc:List Int->List Int->List Int):∀ f S,Ig mc f=some S->∀ Γ:Env,Γ.aR=aB->aH Tryz.prog Γ f S:=bD (bD (bD gM 56 _ aHz) 48 _ (JB mc)) 50 _ aNi
theorem aDp (e:Nat) (he:e=0\/e=2) (key:List Int) (d:Nat->List Int):aJ (env (Ig M.tag) 22) Tryz.f24 true [] 400 [.agg (qD e),.ai .u8 key,.aG 62 true 0 5 5] (fun l=>look l (tkL e d)) 100 100 =
 some { val:=.ai .u8 (M.tag key (M.cat d)),bM:=((M.tag key (M.cat d)).length=16)::((M.tag key (M.cat d)).length=16)::iX key (M.cat d) ((key=key)::Mg d [key.length=32]) }:=by rcases he with rfl | rfl <;> kernel_rfl
theorem aQu (mc:List Int->List Int->List Int) (key:List Int) (d:Nat->List Int):aJ (env (Ig mc) 22) Tryz.f24 true [] 400 [.agg (qD 1),.ai .u8 key,.aG 62 true 0 5 5] (fun l=>look l (tkL 1 d)) 100 100 =
 some { val:=.ai .u8 (mc key (M.cat d)),bM:=((mc key (M.cat d)).length=16)::((mc key (M.cat d)).length=16)::((mc key (M.cat d)).length=16)::((mc key (M.cat d)).length=16)::(mc key (M.cat d)=M.tag key (M.cat d))::iX key (M.cat d) ((key=key)::Mg d [key.length=32,key.length=32]) }:=by kernel_rfl
theorem KO {e:Nat} (he:dE e) {key:List Int} {d:Nat->List Int} (hk:key.length=32) (hb:bR key) (hd:bR (M.cat d)) (hl:(M.cat d).length<=1073741824) (tZ:(M.cat d).length%16=0) (Γ:Env) (hg:Γ.aR=aB) :
 aF Tryz.prog Γ 24 [.agg (qD e),.ai .u8 key,.aG 62 true 0 5 5] (fun l=>look l (tkL e d)) 100 100 { val:=.ai .u8 (M.tag key (M.cat d)) }:=by
 have hs:aH Tryz.prog (env (Ig M.tag) 22) 24 (aJ (env (Ig M.tag) 22) Tryz.f24 true [] 400):=aM (bQ _ 22) (bW _ (Wz _) 22) mix Tryz.func24 (by kernel_rfl) true [] 400
 have hT:=M.nV key (M.cat d)
 have hw:∀ r:List Prop,(∀ q∈r,q)->∀ q∈iX key (M.cat d) r,q:=fun r hr=>aO hk (aO hb (aO hd (aO hl (aO tZ hr))))
 rcases he with rfl | rfl | rfl
 .exact (hs.call (aDp 0 (.inl rfl) key d) (aO hT (aO hT (hw _ (aO rfl (oP (aO hk iG))))))).words (by rw [hg];rfl) (fun _=>rfl) (fun _ _ h=>h) (fun _=>rfl) rfl rfl
 .exact (hs.call (aQu M.tag key d) (aO hT (aO hT (aO hT (aO hT (aO rfl (hw _ (aO rfl (oP (aO hk (aO hk iG)))))))))) ).words (by rw [hg];rfl) (fun _=>rfl) (fun _ _ h=>h) (fun _=>rfl) rfl rfl
 .exact (hs.call (aDp 2 (.inr rfl) key d) (aO hT (aO hT (hw _ (aO rfl (oP (aO hk iG))))))).words (by rw [hg];rfl) (fun _=>rfl) (fun _ _ h=>h) (fun _=>rfl) rfl rfl
theorem aFa (e:Nat) (he:e=0\/e=2) (key t:List Int) (d:Nat->List Int):aJ (env (Ig M.tag) 22) Tryz.f29 true [] 400 [.agg (qD e),.ai .u8 key,.ai .u8 t,.aG 62 true 0 5 5] (fun l=>look l (tkL e d)) 100 100 =
 some { val:=.bool false (decide (M.tag key (M.cat d)=t)),bM:=((M.tag key (M.cat d)).length=16/\t.length=16)::(t.length=16)::iX key (M.cat d) ((key=key)::Mg d [key.length=32,t.length=16,key.length=32]) }:=by rcases he with rfl | rfl <;> kernel_rfl
theorem aUo (key t:List Int) (d:Nat->List Int):aJ (env (Ig M.tag) 22) Tryz.f29 true [] 400 [.agg (qD 1),.ai .u8 key,.ai .u8 t,.aG 62 true 0 5 5] (fun l=>look l (tkL 1 d)) 100 100 =
 some { val:=.bool false (decide (M.tag key (M.cat d)=t)),bM:=(key.length=32)::bR key::(t.length=16)::bR t::bR (M.cat d)::((M.cat d).length<=1073741824)::((M.cat d).length%16=0)::(key=key)::(t=t)::Mg d [t.length=16,key.length=32,t.length=16,key.length=32] }:=by kernel_rfl
theorem QF {e:Nat} (he:dE e) {key t:List Int} {d:Nat->List Int} (hk:key.length=32) (hb:bR key) (ht:t.length=16) (htb:bR t) (hd:bR (M.cat d)) (hl:(M.cat d).length<=1073741824) (tZ:(M.cat d).length%16=0) (Γ:Env) (hg:Γ.aR=aB) :
 aF Tryz.prog Γ 29 [.agg (qD e),.ai .u8 key,.ai .u8 t,.aG 62 true 0 5 5] (fun l=>look l (tkL e d)) 100 100 { val:=.bool false (decide (M.tag key (M.cat d)=t)) }:=by
 have hs:aH Tryz.prog (env (Ig M.tag) 22) 29 (aJ (env (Ig M.tag) 22) Tryz.f29 true [] 400):=aM (bQ _ 22) (bW _ (Wz _) 22) mix Tryz.func29 (by kernel_rfl) true [] 400
 have hT:=M.nV key (M.cat d)
 have hw:∀ r:List Prop,(∀ q∈r,q)->∀ q∈iX key (M.cat d) r,q:=fun r hr=>aO hk (aO hb (aO hd (aO hl (aO tZ hr))))
 rcases he with rfl | rfl | rfl
 .exact (hs.call (aFa 0 (.inl rfl) key t d) (aO ⟨hT,ht⟩ (aO ht (hw _ (aO rfl (oP (aO hk (aO ht (aO hk iG))))))))).words (by rw [hg];rfl) (fun _=>rfl) (fun _ _ h=>h) (fun _=>rfl) rfl rfl
 .exact (hs.call (aUo key t d) (aO hk (aO hb (aO ht (aO htb (aO hd (aO hl (aO tZ (aO rfl (aO rfl (oP (aO ht (aO hk (aO ht (aO hk iG)))))))))))))) ).words (by rw [hg];rfl) (fun _=>rfl) (fun _ _ h=>h) (fun _=>rfl) rfl rfl
 .exact (hs.call (aFa 2 (.inr rfl) key t d) (aO ⟨hT,ht⟩ (aO ht (hw _ (aO rfl (oP (aO hk (aO ht (aO hk iG))))))))).words (by rw [hg];rfl) (fun _=>rfl) (fun _ _ h=>h) (fun _=>rfl) rfl rfl
def Qq (vs:List SV) (T:aZ):Option Canon:=match vs with
 | [ev,ks,.int _ .u32 c,ns,.aG l _ off len cap]=>match yK ev,cJ ks,cJ ns,(T l).bind Bu with
   | some (e,vl),some (.u8,k),some (.u8,n),some (.u8,xs,ty)=>some { eR:=TF e k n c off len cap,T0:=stL e xs ty,vl:=(60,.lab l 0)::vl,e0:=stE k n c off len xs ty,conds:=[dE e,k.length=32,n.length=12,off+len<=xs.length,len<=cap,len<=4611686018427387904,0<=c/\c<=4294967295] }
   | _,_,_,_=>none
 | _=>none
theorem VX (Γ:Env) (hg:Γ.aR=aB):aH Tryz.prog Γ 22 (aK aB 100 Qq):=by
 refine aW hg fun vs T c hd hc=>?_
 unfold Qq at hd
 split at hd
 case h_2=>cases hd
 split at hd
 case h_2=>cases hd
 cases hd
 exact KR (hc _ (by simp)) (hc _ (by simp)) (hc _ (by simp)) (hc _ (by simp)) (hc _ (by simp)) (hc _ (by simp)) (hc _ (by simp)) Γ hg
def JU (L:Nat):List (Nat × Ij):=[(62,.lab L 0),(71,.cell L 0),(72,.cell L 1),(73,.cell L 2),(74,.cell L 3),(75,.cell L 4)]
def Qn (vs:List SV) (T:aZ):Option Canon:=match vs with
 | [ev,ks,.aG L _ 0 5 5]=>match yK ev,cJ ks,(T L).bind roL with
   | some (e,vl),some (.u8,k),some [p1,p2,p3,p4,p5]=>match cW T .u8 p1,cW T .u8 p2,cW T .u8 p3,cW T .u8 p4,cW T .u8 p5 with
     | some (o1,x1),some (o2,x2),some (o3,x3),some (o4,x4),some (o5,x5)=>some { eR:=[.agg (qD e),.ai .u8 k,.aG 62 true 0 5 5],T0:=tkL e (As x1 x2 x3 x4 x5),vl:=vl++JU L,e0:={ val:=.ai .u8 (M.tag k (x1++(x2++(x3++(x4++x5))))) },conds:=dE e::iX k (x1++(x2++(x3++(x4++x5)))) (o1++(o2++(o3++(o4++o5)))) }
     | _,_,_,_,_=>none
   | _,_,_=>none
 | _=>none
theorem VT (Γ:Env) (hg:Γ.aR=aB):aH Tryz.prog Γ 24 (aK aB 100 Qn):=by
 refine aW hg fun vs T c hd hc=>?_
 unfold Qn at hd
 split at hd
 case h_2=>cases hd
 split at hd
 case h_2=>cases hd
 split at hd
 case h_2=>cases hd
 cases hd
 rename_i o1 x1 o2 x2 o3 x3 o4 x4 o5 x5 _ _ _ _ _
 exact KO (d:=As x1 x2 x3 x4 x5) (hc _ (by simp)) (hc _ (by simp [iX])) (hc _ (by simp [iX])) (hc _ (by simp [iX,M.cat,As])) (hc _ (by simp [iX,M.cat,As])) (hc _ (by simp [iX,M.cat,As])) Γ hg
def Ry (vs:List SV) (T:aZ):Option Canon:=match vs with
 | [ev,ks,ts,.aG L _ 0 5 5]=>match yK ev,cJ ks,cJ ts,(T L).bind roL with
   | some (e,vl),some (.u8,k),some (.u8,t),some [p1,p2,p3,p4,p5]=>match cW T .u8 p1,cW T .u8 p2,cW T .u8 p3,cW T .u8 p4,cW T .u8 p5 with
     | some (o1,x1),some (o2,x2),some (o3,x3),some (o4,x4),some (o5,x5)=>some { eR:=[.agg (qD e),.ai .u8 k,.ai .u8 t,.aG 62 true 0 5 5],T0:=tkL e (As x1 x2 x3 x4 x5),vl:=vl++JU L,e0:={ val:=.bool false (decide (M.tag k (x1++(x2++(x3++(x4++x5))))=t)) },conds:=dE e::(t.length=16)::bR t::iX k (x1++(x2++(x3++(x4++x5)))) (o1++(o2++(o3++(o4++o5)))) }
     | _,_,_,_,_=>none
   | _,_,_,_=>none
 | _=>none
theorem aCx (Γ:Env) (hg:Γ.aR=aB):aH Tryz.prog Γ 29 (aK aB 100 Ry):=by
 refine aW hg fun vs T c hd hc=>?_
 unfold Ry at hd
 split at hd
 case h_2=>cases hd
 split at hd
 case h_2=>cases hd
 split at hd
 case h_2=>cases hd
 cases hd
 rename_i o1 x1 o2 x2 o3 x3 o4 x4 o5 x5 _ _ _ _ _
 exact QF (d:=As x1 x2 x3 x4 x5) (hc _ (by simp)) (hc _ (by simp [iX])) (hc _ (by simp [iX])) (hc _ (by simp)) (hc _ (by simp)) (hc _ (by simp [iX,M.cat,As])) (hc _ (by simp [iX,M.cat,As])) (hc _ (by simp [iX,M.cat,As])) Γ hg
noncomputable def Yz:Nat->Option Sum:=dM (dM (dM (dM (dM (dM gC 22 (aK aB 100 Qq)) 24 (aK aB 100 Qn)) 29 (aK aB 100 Ry)) 23 (aK aB 100 GC)) 39 (aK aB 100 GJ)) 40 (aK aB 100 GZ)
theorem Xg:∀ f S,Yz f=some S->∀ Γ:Env,Γ.aR=aB->aH Tryz.prog Γ f S:=bD (bD (bD (bD (bD (bD gM 22 _ VX) 24 _ VT) 29 _ aCx) 23 _ aSg) 39 _ aSr) 40 _ aTy
def onL (e:Nat):List (Nat × SB):=EH e++Hv
theorem bBf (e:Nat) (he:dE e) (key:List Int) (N:Int):aJ (env Yz 22) Tryz.f21 true [] 400 [.agg (qD e),.ai .u8 key,.int false .u64 N] (fun l=>look l (onL e)) 100 100 =
 some { val:=.ai .u8 (M.once key N),bM:=[(M.once key N).length=32,(M.once key N).length=32,(M.once key N).length=32,dE e,key.length=32,(M.nonce N).length=12,0+32<=32,32<=32,32<=4611686018427387904,(0:Int)<=0/\(0:Int)<=4294967295,key=key,(0:Int)=0,M.nonce N=M.nonce N,0=0,32=32,32=32,List.replicate 32 (0:Int)=List.replicate 32 0/\(23:Nat)=(23:TypeId),N=N,key.length=32] }:=by rcases he with rfl | rfl | rfl <;> kernel_rfl
theorem aDh {e:Nat} (he:dE e) {key:List Int} (hk:key.length=32) (N:Int) (Γ:Env) (hg:Γ.aR=aB):aF Tryz.prog Γ 21 [.agg (qD e),.ai .u8 key,.int false .u64 N] (fun l=>look l (onL e)) 100 100 { val:=.ai .u8 (M.once key N) }:=
 ((aM (bQ Yz 22) (bW Yz Xg 22) mix Tryz.func21 (by kernel_rfl) true [] 400:aH Tryz.prog (env Yz 22) 21 _).call (bBf e he key N) (aA ⟨M.kZ _ _,M.kZ _ _,M.kZ _ _,he,hk,rfl,by omega,by omega,by omega,by omega,rfl,rfl,rfl,rfl,rfl,rfl,⟨rfl,rfl⟩,rfl,hk,trivial⟩)).words (by rw [hg];rfl) (fun _=>rfl) (fun _ _ h=>h) (fun _=>rfl) rfl rfl
def HZ (on:List Int->Int->List Int) (vs:List SV) (_:aZ):Option Canon:=match vs with
 | [ev,ks,.int _ .u64 N]=>match yK ev,cJ ks with
   | some (e,vl),some (.u8,k)=>some { eR:=[.agg (qD e),.ai .u8 k,.int false .u64 N],T0:=onL e,vl:=vl,e0:={ val:=.ai .u8 (on k N) },conds:=[on k N=M.once k N,dE e,k.length=32] }
   | _,_=>none
 | _=>none
theorem aNo (on:List Int->Int->List Int) (Γ:Env) (hg:Γ.aR=aB):aH Tryz.prog Γ 21 (aK aB 100 (HZ on)):=by
 refine aW hg fun vs T c hd hc=>?_
 unfold HZ at hd
 split at hd
 case h_2=>cases hd
 split at hd
 case h_2=>cases hd
 cases hd
 have e:=hc _ cM
 rw [e]
 exact aDh (hc _ (List.mem_cons_of_mem _ cM)) (hc _ (List.mem_cons_of_mem _ (List.mem_cons_of_mem _ cM))) _ Γ hg
noncomputable def aPr (on:List Int->Int->List Int):Nat->Option Sum:=dM Yz 21 (aK aB 100 (HZ on))
theorem aCh (on:List Int->Int->List Int):∀ f S,aPr on f=some S->∀ Γ:Env,Γ.aR=aB->aH Tryz.prog Γ f S:=bD Xg 21 _ (aNo on)
noncomputable def nX (on:List Int->Int->List Int):Env:=env (aPr on) 22
theorem rL (on:List Int->Int->List Int):cA Tryz.prog (nX on):=bQ _ 22
theorem rM (on:List Int->Int->List Int):cK Tryz.prog (nX on):=bW _ (aCh on) 22
def SM:List (Nat × SB):=[(0,.fP [.sH 428 (.ptr 40 true 0)]),(2,.fP [.sH 428 (.ptr 42 true 0)]),(4,.fP [.sH 428 (.ptr 44 true 0)]),(8,.fP [.sH 428 (.ptr 48 true 0)]),(17,.fP [.int true .i64 40]),(18,.fP [.int true .i64 40])]++Hv
def EL:List (Nat × Ij):=[(40,.lab 40 0),(42,.lab 42 0),(44,.lab 44 0),(48,.lab 48 0)]
def Yk (e:Nat) (key:List Int) (N:Int) (la lb cb:Nat) (n:Int):List SV:=[.agg (qD e),.ai .u8 key,.int false .u64 N,.eV 63 la,.aG 62 false 0 lb cb,.int false .i64 n]
def seL (e:Nat) (ad bs:List Int) (t:TypeId):List (Nat × SB):=[(62,.ints .u8 bs t),(63,.gQ .u8 ad)]++(EH e++SM)
def CP (e:Nat) (ad bs:List Int) (t:TypeId):aZ:=fun l=>look l (seL e ad bs t)
noncomputable def seM (on:List Int->Int->List Int) (e:Nat) (ad bs:List Int) (t:TypeId) (k:Nat) (cf:Cf) (K:List Fr) (s:St):Option pU:=gZ (nX on) (bH 100 (CP e ad bs t)) 100 Tryz.f9.ntmps [] 400 k cf K s
def gH:Nat->Code->Code
 | 0,c=>c
 | n+1,.seq _ y=>gH n y
 | _,c=>c
def aOf (la lb cb n:Nat):List (Nat × SV):=[(3,.eV 63 la),(4,.aG 62 false 0 lb cb),(5,.int false .i64 (n:Int)),(6,.ptr 100 true 0),(14,.aG 62 false 0 n n),(15,.ptr 101 true 0)]
def aOi (e:Nat) (cs ok:List Int) (t:TypeId):List (Nat × SB):=[(62,.ints .u8 cs t),(100,.own (qD e) 38),(101,.ints .u8 ok 23)]
def aOe (lb cb n:Nat):List (Nat × SV):=[(4,.aG 62 false 0 lb cb),(5,.int false .i64 (n:Int)),(16,.ptr 100 true 0)]
def aOh (cs tg:List Int) (t:TypeId):List (Nat × SB):=[(62,.ints .u8 cs t),(100,.ints .u8 tg 59)]
namespace Q
def oS (n:Nat):Nat:=(if IntKind.i64.wrap ((n:Int)+16)=(n:Int) then 0 else 0+(n:Int).toNat*1)
def aGd (n:Nat) (cs x:List Int):List Int:=cs.take (oS n)++x.take (x.length.min ((IntKind.i64.wrap ((n:Int)+16)).toNat-(n:Int).toNat))++cs.drop (oS n+x.length.min ((IntKind.i64.wrap ((n:Int)+16)).toNat-(n:Int).toNat))
end Q
theorem aVv (e:Nat) (he:dE e) (on:List Int->Int->List Int) (key ad bs cs ok:List Int) (N:Int) (la lb cb n:Nat) (t:TypeId):fM 100 Tryz.f9.ntmps (bH 100 (CP e ad bs t)) [] (aOf la lb cb n) (aOi e cs ok t) 102 [62] [] (seM on e ad bs t 25 (.go (codeOf Tryz.f9)) [] ((zM (Yk e key N la lb cb (n:Int)) 100).hint [false,false,false])) =
 some (.go (gH 5 (codeOf Tryz.f9)),[],[dE e,key.length=32,(M.nonce N).length=12,0+((n:Int).toNat-0)<=bs.length,(n:Int).toNat-0<=(n:Int).toNat-0,(n:Int).toNat-0<=4611686018427387904,(0:Int)<=1/\(1:Int)<=4294967295,key=key,(1:Int)=1,M.nonce N=M.nonce N,0=0+0,(n:Int).toNat-0=(n:Int).toNat-0,(n:Int).toNat-0=(n:Int).toNat-0,bs=bs/\t=t,N=N,key.length=32,
  (on key N).length=32,on key N=M.once key N,dE e,key.length=32,key=key,N=N,key.length=32,(0:Int)<=(n:Int)/\(n:Int)<=(cb:Int)/\(0:Int)<=(n:Int)/\(n:Int)<=(n:Int)/\(0:Int)<=0/\(0:Int)<=(n:Int),decide (IntKind.i64.wrap ((lb:Int)-(n:Int))<16)=false,decide ((n:Int)>(lb:Int))=false,decide ((n:Int)<0)=false,
  la=la,0=0,lb=lb,cb=cb,(n:Int)=(n:Int),0=0,(n:Int).toNat-0=n,(n:Int).toNat-0=n,cG key (M.nonce N) 1 0 ((n:Int).toNat-0) bs=cs/\t=t,on key N=ok/\(23:Nat)=(23:TypeId)]):=by rcases he with rfl | rfl | rfl <;> kernel_rfl
def frO (e:Nat) (ad cs ok:List Int) (la n:Nat) (x y r:List Prop):List Prop:=
 let pa:=M.qB la;let pn:=M.qB n;let RA:=List.replicate pa (0:Int);let RN:=List.replicate pn (0:Int);let L16:=M.Gd la n
 let TA:=(RA.drop 0).take pa;let TC:=(cs.drop 0).take n;let TN:=(RN.drop 0).take pn;let T5:=(L16.drop 0).take 16
 let p2:=0+pa<=RA.length/\pa<=pa;let p3:=0+n<=cs.length/\n<=n;let p4:=0+pn<=RN.length/\pn<=pn;let p5:=16<=L16.length/\(0:Nat)<=0
 dE e::(x++iX ok (M.Yc ad la TC n) (p2::p3::p4::p5::(ok=ok)::(y++(la=la)::(ad.length=ad.length)::(0=0)::(pa=pa)::(pa=pa)::p2::(TA.length=TA.length)::(0=0)::(n=n)::(n=n)::p3::(TC.length=TC.length)::(0=0)::(pn=pn)::(pn=pn)::p4::(TN.length=TN.length)::(16=16)::p5::(T5.length=T5.length) ::
  (ad=ad)::(TA=TA)::p2::(TC=TC)::p3::(TN=TN)::p4::(T5=T5)::p5::r)))
def fqO (la n:Nat) (r:List Prop):List Prop:=(0<=(n:Int)/\(n:Int)<=1073741824)::((n:Int)=(n:Int))::(0<=(la:Int)/\(la:Int)<=1073741824)::((la:Int)=(la:Int))::(IntKind.u64.wrap (n:Int)=IntKind.u64.wrap (n:Int))::(IntKind.u64.wrap (la:Int)=IntKind.u64.wrap (la:Int))::r
theorem aVu (e:Nat) (he:dE e) (on:List Int->Int->List Int) (ad bs cs ok tg:List Int) (la lb cb n:Nat) (t:TypeId):fM 100 Tryz.f9.ntmps (bH 100 (CP e ad bs t)) [] (aOe lb cb n) (aOh cs tg t) 101 [62] [] (seM on e ad bs t 3 (.go (gH 5 (codeOf Tryz.f9))) [] ((cB (aOf la lb cb n) (aOi e cs ok t) 102 [62] []).hint [])) =
 some (.go (gH 6 (codeOf Tryz.f9)),[],((M.tag ok (M.Yc ad la ((cs.drop 0).take n) n)).length=16)::frO e ad cs ok la n [] [] (fqO la n [ok.length=32,0=0,lb=lb,cb=cb,(n:Int)=(n:Int),cs=cs/\t=t,M.tag ok (M.Yc ad la ((cs.drop 0).take n) n)=tg/\(59:Nat)=(59:TypeId)])):=by rcases he with rfl | rfl | rfl <;> kernel_rfl
theorem aVt (e:Nat) (he:dE e) (on:List Int->Int->List Int) (ad bs cs tg:List Int) (lb cb n:Nat) (t:TypeId):sW (nX on) (CP e ad bs t) 100 100 Tryz.f9 [] (seM on e ad bs t 400 (.go (gH 6 (codeOf Tryz.f9))) [] ((cB (aOe lb cb n) (aOh cs tg t) 101 [62] []).hint [])) =
 some { bM:=[Q.oS n+((tg.drop 0).take 16).length.min ((IntKind.i64.wrap ((n:Int)+16)).toNat-(n:Int).toNat)<=cs.length,16<=tg.length,(0:Int)<=IntKind.i64.wrap ((n:Int)+16)/\IntKind.i64.wrap ((n:Int)+16)<=(cb:Int)/\(0:Int)<=IntKind.i64.wrap ((n:Int)+16)/\IntKind.i64.wrap ((n:Int)+16)<=IntKind.i64.wrap ((n:Int)+16)/\(0:Int)<=(n:Int)/\(n:Int)<=IntKind.i64.wrap ((n:Int)+16)],val:=.eL [.int false .i64 (IntKind.i64.wrap ((n:Int)+16)),.raw .nilIface],wr:=[(62,.ints .u8 (Q.aGd n cs ((tg.drop 0).take 16)) t)] }:=by rcases he with rfl | rfl | rfl <;> kernel_rfl
def Fc (e:Nat) (key:List Int) (N:Int) (la lb:Nat) (n:Int):List SV:=[.agg (qD e),.ai .u8 key,.int false .u64 N,.eV 63 la,.eV 62 lb,.int false .i64 n]
def RM (e:Nat) (ad bs:List Int):List (Nat × SB):=[(62,.gQ .u8 bs),(63,.gQ .u8 ad)]++(EH e++SM)
def Yf (l:Nat):SV:=.eL [.int true .i64 0,.sH 428 (.ptr l true 0)]
theorem aVl (e:Nat) (he:dE e) (key ad bs:List Int) (N n:Int) (la lb:Nat):aJ (nX M.once) Tryz.f9 true [true] 400 (Fc e key N la lb n) (fun l=>look l (RM e ad bs)) 100 100=some { val:=Yf 40,bM:=[decide (n<0)=true] }:=by rcases he with rfl | rfl | rfl <;> kernel_rfl
theorem aVk (e:Nat) (he:dE e) (key ad bs:List Int) (N n:Int) (la lb:Nat):aJ (nX M.once) Tryz.f9 true [false,true] 400 (Fc e key N la lb n) (fun l=>look l (RM e ad bs)) 100 100=some { val:=Yf 40,bM:=[decide (n>(lb:Int))=true,decide (n<0)=false] }:=by rcases he with rfl | rfl | rfl <;> kernel_rfl
theorem aVj (e:Nat) (he:dE e) (key ad bs:List Int) (N n:Int) (la lb:Nat):aJ (nX M.once) Tryz.f9 true [false,false,true] 400 (Fc e key N la lb n) (fun l=>look l (RM e ad bs)) 100 100=some { val:=Yf 42,bM:=[decide (IntKind.i64.wrap ((lb:Int)-n)<16)=true,decide (n>(lb:Int))=false,decide (n<0)=false] }:=by rcases he with rfl | rfl | rfl <;> kernel_rfl
theorem aWu (e:Nat) (he:dE e) (key ad bs:List Int) (N n:Int) (la lb:Nat):aJ (nX M.once) Tryz.f12 true [true] 400 (Fc e key N la lb n) (fun l=>look l (RM e ad bs)) 100 100=some { val:=Yf 40,bM:=[decide (n<0)=true] }:=by rcases he with rfl | rfl | rfl <;> kernel_rfl
theorem aWt (e:Nat) (he:dE e) (key ad bs:List Int) (N n:Int) (la lb:Nat):aJ (nX M.once) Tryz.f12 true [false,true] 400 (Fc e key N la lb n) (fun l=>look l (RM e ad bs)) 100 100=some { val:=Yf 40,bM:=[decide (n>(lb:Int))=true,decide (n<0)=false] }:=by rcases he with rfl | rfl | rfl <;> kernel_rfl
theorem aWs (e:Nat) (he:dE e) (key ad bs:List Int) (N n:Int) (la lb:Nat):aJ (nX M.once) Tryz.f12 true [false,false,true] 400 (Fc e key N la lb n) (fun l=>look l (RM e ad bs)) 100 100=some { val:=Yf 44,bM:=[decide (n<16)=true,decide (n>(lb:Int))=false,decide (n<0)=false] }:=by rcases he with rfl | rfl | rfl <;> kernel_rfl
def HU:Code->Code
 | .seq (.seq _ c) _=>c
 | c=>c
noncomputable def opM (on:List Int->Int->List Int) (e:Nat) (ad bs:List Int) (t:TypeId) (k:Nat) (cf:Cf) (K:List Fr) (s:St):Option pU:=gZ (nX on) (bH 100 (CP e ad bs t)) 100 Tryz.f12.ntmps [] 400 k cf K s
def DR:List SV:=[.fn (.func 28) [] [.ptr 102 true 0,.ptr 103 true 0]]
def aEe (N:Int) (la lb cb n m:Nat):List (Nat × SV):=[(2,.int false .u64 N),(3,.eV 63 la),(4,.aG 62 false 0 lb cb),(5,.int false .i64 (n:Int)),(6,.ptr 100 true 0),(7,.ptr 101 true 0),(12,.int true .i64 0),(13,.ptr 102 true 0),(14,.int false .i64 (m:Int)),(15,.ptr 103 true 0),(16,.ptr 104 true 0)]
def aEd (e:Nat) (key ok bs:List Int) (m:Nat) (t:TypeId):List (Nat × SB):=[(62,.ints .u8 bs t),(100,.own (qD e) 38),(101,.ints .u8 key 23),(102,.own [.raw .nilIface] 28),(103,.own [.aG 62 false 0 m m] 25),(104,.ints .u8 ok 23)]
def FU (N:Int) (m:Nat) (b:Bool):List (Nat × SV):=[(2,.int false .u64 N),(6,.ptr 100 true 0),(7,.ptr 101 true 0),(12,.int true .i64 0),(13,.ptr 102 true 0),(14,.int false .i64 (m:Int)),(15,.ptr 103 true 0),(55,.bool false b)]
def FT (e:Nat) (key bs:List Int) (m:Nat) (t:TypeId):List (Nat × SB):=[(62,.ints .u8 bs t),(100,.own (qD e) 38),(101,.ints .u8 key 23),(102,.own [.raw .nilIface] 28),(103,.own [.aG 62 false 0 m m] 25)]
theorem aXb (e:Nat) (he:dE e) (on:List Int->Int->List Int) (key ad bs ok:List Int) (N:Int) (la lb cb n m:Nat) (t:TypeId):fM 100 Tryz.f12.ntmps (bH 100 (CP e ad bs t)) [] (aEe N la lb cb n m) (aEd e key ok bs m t) 105 [62] DR (opM on e ad bs t 28 (.go (codeOf Tryz.f12)) [] ((zM (Yk e key N la lb cb (n:Int)) 100).hint [false,false,false])) =
 some (.go (gH 6 (codeOf Tryz.f12)),[],[(on key N).length=32,on key N=M.once key N,dE e,key.length=32,key=key,N=N,key.length=32,(0:Int)<=IntKind.i64.wrap ((n:Int)-16)/\IntKind.i64.wrap ((n:Int)-16)<=(cb:Int)/\(0:Int)<=IntKind.i64.wrap ((n:Int)-16)/\IntKind.i64.wrap ((n:Int)-16)<=IntKind.i64.wrap ((n:Int)-16)/\(0:Int)<=0/\(0:Int)<=IntKind.i64.wrap ((n:Int)-16),
  decide ((n:Int)<16)=false,decide ((n:Int)>(lb:Int))=false,decide ((n:Int)<0)=false,N=N,la=la,0=0,lb=lb,cb=cb,(n:Int)=(n:Int),IntKind.i64.wrap ((n:Int)-16)=(m:Int),bs=bs/\t=t,key=key/\(23:Nat)=(23:TypeId),0=0,(IntKind.i64.wrap ((n:Int)-16)).toNat-0=m,(IntKind.i64.wrap ((n:Int)-16)).toNat-0=m,on key N=ok/\(23:Nat)=(23:TypeId)]):=by rcases he with rfl | rfl | rfl <;> kernel_rfl
def Q.oT (n m:Nat):Nat:=if (n:Int)=(m:Int) then 0 else 0+(m:Int).toNat*1
def Q.tT (n m:Nat) (bs:List Int):List Int:=(bs.drop (Q.oT n m)).take 16
theorem aXa (e:Nat) (he:dE e) (on:List Int->Int->List Int) (key ad bs ok:List Int) (N:Int) (la lb cb n m:Nat) (t:TypeId) (b:Bool):fM 100 Tryz.f12.ntmps (bH 100 (CP e ad bs t)) [] (FU N m b) (FT e key bs m t) 104 [62] DR (opM on e ad bs t 4 (.go (gH 6 (codeOf Tryz.f12))) [] ((cB (aEe N la lb cb n m) (aEd e key ok bs m t) 105 [62] DR).hint [])) =
 some (.go (HU (gH 6 (codeOf Tryz.f12))),[.seq (gH 7 (codeOf Tryz.f12))],frO e ad bs ok la m [(Q.tT n m bs).length=16,bR (Q.tT n m bs)] [Q.tT n m bs=Q.tT n m bs] (fqO la m [Q.oT n m+16<=bs.length,16<=(n:Int).toNat-(m:Int).toNat,(0:Int)<=(n:Int)/\(n:Int)<=(cb:Int)/\(0:Int)<=(n:Int)/\(n:Int)<=(n:Int)/\(0:Int)<=(m:Int)/\(m:Int)<=(n:Int),ok.length=32,N=N,(m:Int)=(m:Int),
  (!decide (M.tag ok (M.Yc ad la ((bs.drop 0).take m) m)=Q.tT n m bs))=b,bs=bs/\t=t,key=key/\(23:Nat)=(23:TypeId),0=0,m=m,m=m])):=by rcases he with rfl | rfl | rfl <;> kernel_rfl
theorem aWz (e:Nat) (he:dE e) (on:List Int->Int->List Int) (key ad bs:List Int) (N:Int) (m:Nat) (t:TypeId) (b:Bool):sW (nX on) (CP e ad bs t) 100 100 Tryz.f12 [] (opM on e ad bs t 400 (.go (HU (gH 6 (codeOf Tryz.f12)))) [.seq (gH 7 (codeOf Tryz.f12))] ((cB (FU N m b) (FT e key bs m t) 104 [62] DR).hint [true])) =
 some { bM:=[0+m<=bs.length,b=true],val:=Yf 48,wr:=[(62,.ints .u8 (bs.take 0++List.replicate m 0++bs.drop (0+m)) t)] }:=by rcases he with rfl | rfl | rfl <;> kernel_rfl
theorem aWy (e:Nat) (he:dE e) (on:List Int->Int->List Int) (key ad bs:List Int) (N:Int) (m:Nat) (t:TypeId) (b:Bool):sW (nX on) (CP e ad bs t) 100 100 Tryz.f12 [] (opM on e ad bs t 400 (.go (HU (gH 6 (codeOf Tryz.f12)))) [.seq (gH 7 (codeOf Tryz.f12))] ((cB (FU N m b) (FT e key bs m t) 104 [62] DR).hint [false])) =
 some { bM:=[dE e,key.length=32,(M.nonce N).length=12,0+m<=bs.length,m<=m,m<=4611686018427387904,(0:Int)<=1/\(1:Int)<=4294967295,key=key,(1:Int)=1,M.nonce N=M.nonce N,0=0,m=m,m=m,bs=bs/\t=t,N=N,key.length=32,b=false],val:=.eL [.int false .i64 (m:Int),.raw .nilIface],wr:=[(62,.ints .u8 (cG key (M.nonce N) 1 0 m bs) t)] }:=by rcases he with rfl | rfl | rfl <;> kernel_rfl
theorem VJ (key nonce:List Int) (c:Int) (off n:Nat) {xs:List Int} (h:bR xs):bR (cG key nonce c off n xs):=by
 intro x hx
 simp only [cG,List.mem_map] at hx
 obtain ⟨m,_,rfl⟩:=hx
 split
 .exact Rz _ _
 .exact h.get _
theorem Q.ZX {n:Nat} {cs x:List Int} (hn:n+16<=1073741824) (hx:x.length=16):Q.aGd n cs x=cs.take n++(x++cs.drop (n+16)):=by
 have w2:IntKind.i64.wrap ((n:Int)+16)=((n+16:Nat):Int):=by rw [IntWalk.i64_in _ ⟨by omega,by omega⟩];omega
 have e1:Q.oS n=n:=by unfold Q.oS;rw [w2,if_neg (by omega)];omega
 unfold Q.aGd
 rw [e1,w2,hx]
 have e3:(16:Nat).min ((((n+16:Nat):Int)).toNat-(n:Int).toNat)=16:=by
  have:(((n+16:Nat):Int)).toNat-(n:Int).toNat=16:=by omega
  rw [this];rfl
 rw [e3,List.take_of_length_le (Nat.le_of_eq hx),List.append_assoc]
def seE (key:List Int) (N:Int) (ad bs:List Int) (n:Nat) (t:TypeId):bJ:={ val:=.eL [.int false .i64 ((n+16:Nat):Int),.raw .nilIface],wr:=[(62,.ints .u8 (Q.iL key N ad bs n) t)] }
theorem YA {e:Nat} (he:dE e) {key ad bs:List Int} {N:Int} {lb cb n:Nat} {t:TypeId} (hk:key.length=32) (ha:bR ad) (RI:bR bs) (SD:ad.length<=500000000) (hn:n+16<=lb) (hl:lb<=cb) (hb:lb<=bs.length) (hcb:cb<=500000000) :
 aF Tryz.prog (nX M.once) 9 (Yk e key N ad.length lb cb n) (CP e ad bs t) 100 100 (seE key N ad bs n t):=by
 refine gR (rL _) (rM _) Tryz.func9 (by kernel_rfl) rfl (Nat.le_of_ble_eq_true (by kernel_rfl)) rfl [] ?_
 intro w0 Mx V0 Qx eE H
 have aT:=rL M.once
 have aX:=rM M.once
 have w1:IntKind.i64.wrap ((lb:Int)-(n:Int))=(lb:Int)-n:=IntWalk.i64_in _ ⟨by omega,by omega⟩
 have w2:IntKind.i64.wrap ((n:Int)+16)=((n+16:Nat):Int):=by rw [IntWalk.i64_in _ ⟨by omega,by omega⟩];omega
 have Fp:(cG key (M.nonce N) 1 0 n bs).length=bs.length:=fL _ _ _ _ _ _
 have hx:=VJ key (M.nonce N) 1 0 n RI
 have bT:cG key (M.nonce N) 1 0 n bs=Q.mU key N bs n:=Q.Mp (by omega)
 have pT:(Q.cx key N (bs.take n)).length=n:=by rw [Q.oZ,List.length_take];omega
 have CY:(M.nonce N).length=12:=rfl
 have hol:=M.kZ key N
 have hoB:=Q.Nd key N
 have htk:(Q.mU key N bs n).take n=Q.cx key N (bs.take n):=by
  unfold Q.mU;rw [List.take_append_of_le_length (by omega),List.take_of_length_le (by omega)]
 have CD:=Q.xQ key N ad (Q.cx key N (bs.take n))
 have Uy:Q.iL key N ad bs n=(Q.mU key N bs n).take n++(Q.tg key N ad (Q.cx key N (bs.take n))++(Q.mU key N bs n).drop (n+16)):=by
  rw [htk];unfold Q.iL Q.mU
  have:List.drop (n+16) (Q.cx key N (bs.take n)++bs.drop n)=bs.drop (n+16):=by
   rw [List.drop_append,pT,List.drop_of_length_le (by omega),List.nil_append,List.drop_drop]
   congr 1;omega
  rw [this]
 have d1:decide ((lb:Int)-(n:Int)<16)=false:=decide_eq_false (by omega)
 have d2:decide ((n:Int)>(lb:Int))=false:=decide_eq_false (by omega)
 have d3:decide ((n:Int)<0)=false:=decide_eq_false (by omega)
 refine G.fM aT aX mix eE [false,false,false] (aVv e he M.once key ad bs (cG key (M.nonce N) 1 0 n bs) (M.once key N) N ad.length lb cb n t) (aA ?_) ?_
 .simp only [bX,w1]
  repeat' apply And.intro
  all_goals first | rfl | assumption | omega | trivial | exact Nat.le_refl _
 rw [bT] at Fp hx |-
 generalize lW:Q.mU key N bs n=cs at *
 have hd0:List.drop 0 cs=cs:=rfl
 have hct:(cs.take n).length=n:=by rw [List.length_take];omega
 obtain ⟨f1,f2,f3⟩:=Q.JT (la:=ad.length) (n:=n) ha (Q.wI n hx) rfl hct SD (by omega)
 have htg:M.tag (M.once key N) (M.Yc ad ad.length (cs.take n) n)=Q.tg key N ad (Q.cx key N (bs.take n)):=by
  unfold Q.tg;rw [pT,<- htk]
 generalize Q.tg key N ad (Q.cx key N (bs.take n))=tg at *
 generalize lS:M.once key N=ok at *
 refine G.fM aT aX mix eE [] (aVu e he M.once ad bs cs ok tg ad.length lb cb n t) (aA ?_) ?_
 .simp only [bX,frO,fqO,iX,List.cons_append,List.nil_append,hd0,htg,List.length_replicate]
  repeat' apply And.intro
  all_goals first | rfl | assumption | omega | trivial | exact Nat.le_refl _
 have e2:List.take 16 (List.drop 0 tg)=tg:=by rw [List.drop_zero,List.take_of_length_le (by omega)]
 have e1:Q.oS n=n:=by unfold Q.oS;rw [w2,if_neg (by omega)];omega
 have e3:(16:Nat).min (n+16-n)=16:=by rw [Nat.add_sub_cancel_left];rfl
 refine G.qR (cl:=[]) aT aX mix [] H (aVt e he M.once ad bs cs tg lb cb n t) (aA ?_) ?_ rfl ?_
 .simp only [bX,w2,e2,Int.toNat_natCast,e1,CD,e3]
  repeat' apply And.intro
  all_goals first | rfl | assumption | omega | trivial | exact Nat.le_refl _
 .show SV.eL [.int false .i64 (IntKind.i64.wrap ((n:Int)+16)),.raw .nilIface]=_
  rw [w2];rfl
 .show [(62,SB.ints .u8 _ t)]=[(62,SB.ints .u8 _ t)]
  rw [e2,Q.ZX (by omega) CD,Uy]
def opE (key:List Int) (N:Int) (bs:List Int) (m:Nat) (t:TypeId):Bool->bJ
 | true=>{ val:=.eL [.int false .i64 (m:Int),.raw .nilIface],wr:=[(62,.ints .u8 (Q.mU key N bs m) t)] }
 | false=>{ val:=Yf 48,wr:=[(62,.ints .u8 (Q.EO bs m) t)] }
theorem YU {e:Nat} (he:dE e) {key ad bs:List Int} {N:Int} {lb cb m:Nat} {t:TypeId} {b:Bool} (hk:key.length=32) (ha:bR ad) (RI:bR bs) (SD:ad.length<=500000000) (hn:m+16<=lb) (hl:lb<=cb) (hb:lb<=bs.length) (hcb:cb<=500000000)
 (hd:decide (Q.tg key N ad (bs.take m)=(bs.drop m).take 16)=b) :
 aF Tryz.prog (nX M.once) 12 (Yk e key N ad.length lb cb ((m+16:Nat):Int)) (CP e ad bs t) 100 100 (opE key N bs m t b):=by
 refine gR (rL _) (rM _) Tryz.func12 (by kernel_rfl) rfl (Nat.le_of_ble_eq_true (by kernel_rfl)) rfl [] ?_
 intro w0 Mx V0 Qx eE H
 have aT:=rL M.once
 have aX:=rM M.once
 have w1:IntKind.i64.wrap (((m+16:Nat):Int)-16)=(m:Int):=by rw [IntWalk.i64_in _ ⟨by omega,by omega⟩];omega
 have hol:=M.kZ key N
 have hoB:=Q.Nd key N
 have CY:(M.nonce N).length=12:=rfl
 have d1:decide (((m+16:Nat):Int)<16)=false:=decide_eq_false (by omega)
 have d2:decide (((m+16:Nat):Int)>(lb:Int))=false:=decide_eq_false (by omega)
 have d3:decide (((m+16:Nat):Int)<0)=false:=decide_eq_false (by omega)
 have hct:(bs.take m).length=m:=by rw [List.length_take];omega
 have aYo:M.tag (M.once key N) (M.Yc ad ad.length (bs.take m) m)=Q.tg key N ad (bs.take m):=by unfold Q.tg;rw [hct]
 refine G.fM aT aX mix eE [false,false,false] (aXb e he M.once key ad bs (M.once key N) N ad.length lb cb (m+16) m t) (aA ?_) ?_
 .simp only [bX,w1,Int.toNat_natCast,Nat.sub_zero]
  repeat' apply And.intro
  all_goals first | rfl | assumption | omega | trivial | exact Nat.le_refl _
 obtain ⟨f1,f2,f3⟩:=Q.JT (la:=ad.length) (n:=m) ha (Q.wI m RI) rfl hct SD (by omega)
 have CD:=Q.xQ key N ad (bs.take m)
 have e1:Q.oT (m+16) m=m:=by unfold Q.oT;rw [if_neg (by omega)];omega
 have e2:Q.tT (m+16) m bs=(bs.drop m).take 16:=by unfold Q.tT;rw [e1]
 have hdl:((bs.drop m).take 16).length=16:=by rw [List.length_take,List.length_drop];omega
 have hdB:bR ((bs.drop m).take 16):=Q.wI _ (Q.Ob _ RI)
 generalize M.once key N=ok at *
 have hd0:List.drop 0 bs=bs:=rfl
 refine G.fM aT aX mix eE [] (aXa e he M.once key ad bs ok N ad.length lb cb (m+16) m t (!b)) (aA ?_) ?_
 .simp only [bX,frO,fqO,iX,List.cons_append,List.nil_append,Int.toNat_natCast,e1,e2,hd0,aYo,hdl,hd,List.length_replicate]
  repeat' apply And.intro
  all_goals first | rfl | assumption | omega | trivial | exact Nat.le_refl _
 cases b
 .refine G.qR (cl:=[]) aT aX mix [true] H (aWz e he M.once key ad bs N m t _) (aA ⟨by omega,rfl,trivial⟩) rfl rfl ?_
  show [(62,SB.ints .u8 _ t)]=[(62,SB.ints .u8 _ t)]
  simp only [List.take_zero,List.nil_append,Nat.zero_add,Q.EO]
 .refine G.qR (cl:=[]) aT aX mix [false] H (aWy e he M.once key ad bs N m t _) (aA ?_) rfl rfl ?_
  .simp only [bX]
   repeat' apply And.intro
   all_goals first | rfl | assumption | omega | trivial | exact Nat.le_refl _
  .show [(62,SB.ints .u8 _ t)]=[(62,SB.ints .u8 _ t)]
   rw [Q.Mp (by omega)]
def tM (lb:Nat) (n:Int):Nat->Prop
 | 1=>n<0\/n>(lb:Int)
 | 2=>¬ n<0/\¬ n>(lb:Int)/\(lb:Int)-n<16
 | _=>¬ n<0/\¬ n>(lb:Int)/\n<16
def sxL:Nat->Nat
 | 1=>40
 | 2=>42
 | _=>44
theorem VV {e:Nat} (he:dE e) (key ad bs:List Int) (N n:Int) {la lb:Nat} (_:lb<=500000000) {o:Nat} (ho:o=1\/o=2) (h:tM lb n o):aF Tryz.prog (nX M.once) 9 (Fc e key N la lb n) (fun l=>look l (RM e ad bs)) 100 100 { val:=Yf (sxL o) }:=by
 have hI:∀ hs,aH Tryz.prog (nX M.once) 9 (aJ (nX M.once) Tryz.f9 true hs 400):=fun hs=>aM (rL _) (rM _) mix Tryz.func9 (by kernel_rfl) true hs 400
 rcases ho with rfl | rfl
 .by_cases h0:n<0
  .exact ((hI _).call (aVl e he key ad bs N n la lb) (aA ⟨decide_eq_true h0,trivial⟩)).words rfl (fun _=>rfl) (fun _ _ h=>h) (fun _=>rfl) rfl rfl
  .have h1:n>(lb:Int):=h.resolve_left h0
   exact ((hI _).call (aVk e he key ad bs N n la lb) (aA ⟨decide_eq_true h1,decide_eq_false h0,trivial⟩)).words rfl (fun _=>rfl) (fun _ _ h=>h) (fun _=>rfl) rfl rfl
 .obtain ⟨h0,h1,h2⟩:=h
  exact ((hI _).call (aVj e he key ad bs N n la lb) (aA ⟨decide_eq_true (by rw [IntWalk.i64_in _ ⟨by omega,by omega⟩];exact h2),decide_eq_false h1,decide_eq_false h0,trivial⟩)).words rfl (fun _=>rfl) (fun _ _ h=>h) (fun _=>rfl) rfl rfl
theorem YR {e:Nat} (he:dE e) (key ad bs:List Int) (N n:Int) {la lb:Nat} {o:Nat} (ho:o=1\/o=3) (h:tM lb n o):aF Tryz.prog (nX M.once) 12 (Fc e key N la lb n) (fun l=>look l (RM e ad bs)) 100 100 { val:=Yf (sxL o) }:=by
 have hI:∀ hs,aH Tryz.prog (nX M.once) 12 (aJ (nX M.once) Tryz.f12 true hs 400):=fun hs=>aM (rL _) (rM _) mix Tryz.func12 (by kernel_rfl) true hs 400
 rcases ho with rfl | rfl
 .by_cases h0:n<0
  .exact ((hI _).call (aWu e he key ad bs N n la lb) (aA ⟨decide_eq_true h0,trivial⟩)).words rfl (fun _=>rfl) (fun _ _ h=>h) (fun _=>rfl) rfl rfl
  .have h1:n>(lb:Int):=h.resolve_left h0
   exact ((hI _).call (aWt e he key ad bs N n la lb) (aA ⟨decide_eq_true h1,decide_eq_false h0,trivial⟩)).words rfl (fun _=>rfl) (fun _ _ h=>h) (fun _=>rfl) rfl rfl
 .obtain ⟨h0,h1,h2⟩:=h
  exact ((hI _).call (aWs e he key ad bs N n la lb) (aA ⟨decide_eq_true h2,decide_eq_false h1,decide_eq_false h0,trivial⟩)).words rfl (fun _=>rfl) (fun _ _ h=>h) (fun _=>rfl) rfl rfl
abbrev zT:=List Int->Int->List Int->List Int->Nat->List Int
abbrev yV:=Bool->List Int->Int->List Int->Nat->List Int
def aOg (x:List Int) (n:Nat) (t:TypeId):bJ:={ val:=.eL [.int false .i64 ((n+16:Nat):Int),.raw .nilIface],wr:=[(62,.ints .u8 x t)] }
def aOn (x:List Int) (m:Nat) (t:TypeId):Bool->bJ
 | true=>{ val:=.eL [.int false .i64 (m:Int),.raw .nilIface],wr:=[(62,.ints .u8 x t)] }
 | false=>{ val:=Yf 48,wr:=[(62,.ints .u8 x t)] }
def Q.Uf:yV
 | true,k,N,bs,m=>Q.mU k N bs m
 | false,_,_,bs,m=>Q.EO bs m
structure EM (sb:zT) (k:List Int) (N:Int) (ad bs:List Int) (n:Nat):Prop where
 h:sb k N ad bs n=Q.iL k N ad bs n
structure EN (ob:yV) (p:Bool) (k:List Int) (N:Int) (bs:List Int) (m:Nat):Prop where
 h:ob p k N bs m=Q.Uf p k N bs m
structure Mj (p:Bool) (k:List Int) (N:Int) (ad bs:List Int) (m:Nat):Prop where
 h:decide (Q.tg k N ad (bs.take m)=(bs.drop m).take 16)=p
def aFl (sb:zT) (ev ks a:SV) (N n:Int) (L lb cb:Nat) (T:aZ):Option Canon:=match yK ev,cJ ks,cW T .u8 a,(T L).bind Bu with
 | some (e,vl),some (.u8,k),some (oa,ad),some (.u8,bs,t)=>some { eR:=Yk e k N ad.length lb cb (n.toNat:Int),T0:=seL e ad bs t,vl:=(62,.lab L 0)::(63,.arg 3)::(vl++EL),e0:=aOg (sb k N ad bs n.toNat) n.toNat t,conds:=EM sb k N ad bs n.toNat::dE e::(k.length=32)::bR ad::bR bs::(ad.length<=500000000)::(n.toNat+16<=lb)::(lb<=cb)::(lb<=bs.length)::(cb<=500000000)::oa }
 | _,_,_,_=>none
def TJ (o:Nat) (ev ks a b:SV) (N n:Int) (T:aZ):Option Canon:=match yK ev,cJ ks,cW T .u8 a,cW T .u8 b with
 | some (e,vl),some (.u8,k),some (oa,ad),some (ob,bs)=>some { eR:=Fc e k N ad.length bs.length n,T0:=RM e ad bs,vl:=(62,.arg 4)::(63,.arg 3)::(vl++EL),e0:={ val:=Yf (sxL o) },conds:=dE e::(bs.length<=500000000)::tM bs.length n o::(oa++ob) }
 | _,_,_,_=>none
def Up (sb:zT) (out:Int->Nat) (vs:List SV) (T:aZ):Option Canon:=match vs with
 | [ev,ks,.int _ .u64 N,a,b,.int _ .i64 n]=>match out n,b with
   | 0,.aG L _ 0 lb cb=>aFl sb ev ks a N n L lb cb T
   | 1,_=>TJ 1 ev ks a b N n T
   | 2,_=>TJ 2 ev ks a b N n T
   | _,_=>none
 | _=>none
def TR (ob:yV) (p:Bool) (ev ks a:SV) (N n:Int) (L lb cb:Nat) (T:aZ):Option Canon:=match yK ev,cJ ks,cW T .u8 a,(T L).bind Bu with
 | some (e,vl),some (.u8,k),some (oa,ad),some (.u8,bs,t)=>some { eR:=Yk e k N ad.length lb cb ((n.toNat-16+16:Nat):Int),T0:=seL e ad bs t,vl:=(62,.lab L 0)::(63,.arg 3)::(vl++EL),e0:=aOn (ob p k N bs (n.toNat-16)) (n.toNat-16) t p,conds:=EN ob p k N bs (n.toNat-16)::dE e::(k.length=32)::bR ad::bR bs::(ad.length<=500000000)::(n.toNat-16+16<=lb)::(lb<=cb)::(lb<=bs.length)::(cb<=500000000)::Mj p k N ad bs (n.toNat-16)::oa }
 | _,_,_,_=>none
def TT (o:Nat) (ev ks a b:SV) (N n:Int) (T:aZ):Option Canon:=match yK ev,cJ ks,cW T .u8 a,cW T .u8 b with
 | some (e,vl),some (.u8,k),some (oa,ad),some (ob,bs)=>some { eR:=Fc e k N ad.length bs.length n,T0:=RM e ad bs,vl:=(62,.arg 4)::(63,.arg 3)::(vl++EL),e0:={ val:=Yf (sxL o) },conds:=dE e::tM bs.length n o::(oa++ob) }
 | _,_,_,_=>none
def Ut (ob:yV) (out:Int->Nat) (vs:List SV) (T:aZ):Option Canon:=match vs with
 | [ev,ks,.int _ .u64 N,a,b,.int _ .i64 n]=>match out n,b with
   | 0,.aG L _ 0 lb cb=>TR ob true ev ks a N n L lb cb T
   | 1,_=>TT 1 ev ks a b N n T
   | 3,_=>TT 3 ev ks a b N n T
   | 4,.aG L _ 0 lb cb=>TR ob false ev ks a N n L lb cb T
   | _,_=>none
 | _=>none
theorem YB {sb:zT} {ev ks a:SV} {N n:Int} {L lb cb:Nat} {T:aZ} {c:Canon} (h:aFl sb ev ks a N n L lb cb T=some c) (hc:∀ q∈c.conds,q) (Γ:Env) (hg:Γ.aR=aB):aF Tryz.prog Γ 9 c.eR (fun l=>look l c.T0) 100 100 c.e0:=by
 unfold aFl at h
 split at h
 case h_2=>cases h
 cases h
 have e:sb _ _ _ _ _=_:=EM.h (hc _ cM)
 rw [aOg,e]
 exact (YA (hc _ (by simp)) (hc _ (by simp)) (hc _ (by simp)) (hc _ (by simp)) (hc _ (by simp)) (hc _ (by simp)) (hc _ (by simp)) (hc _ (by simp)) (hc _ (by simp))).words (by rw [hg];rfl) (fun _=>rfl) (fun _ _ h=>h) (fun _=>rfl) rfl rfl
theorem Vx {o:Nat} (ho:o=1\/o=2) {ev ks a b:SV} {N n:Int} {T:aZ} {c:Canon} (h:TJ o ev ks a b N n T=some c) (hc:∀ q∈c.conds,q) (Γ:Env) (hg:Γ.aR=aB):aF Tryz.prog Γ 9 c.eR (fun l=>look l c.T0) 100 100 c.e0:=by
 unfold TJ at h
 split at h
 case h_2=>cases h
 cases h
 exact (VV (hc _ (by simp)) _ _ _ _ _ (hc _ (by simp)) ho (hc _ (by simp))).words (by rw [hg];rfl) (fun _=>rfl) (fun _ _ h=>h) (fun _=>rfl) rfl rfl
theorem Wg {ob:yV} {p:Bool} {ev ks a:SV} {N n:Int} {L lb cb:Nat} {T:aZ} {c:Canon} (h:TR ob p ev ks a N n L lb cb T=some c) (hc:∀ q∈c.conds,q) (Γ:Env) (hg:Γ.aR=aB):aF Tryz.prog Γ 12 c.eR (fun l=>look l c.T0) 100 100 c.e0:=by
 unfold TR at h
 split at h
 case h_2=>cases h
 cases h
 have e0:ob _ _ _ _ _=_:=EN.h (hc _ cM)
 rw [e0]
 have e:∀ (k bs:List Int) (m:Nat) (t:TypeId),aOn (Q.Uf p k N bs m) m t p=opE k N bs m t p:=fun _ _ _ _=>by cases p <;> rfl
 rw [e]
 exact (YU (b:=p) (hc _ (by simp)) (hc _ (by simp)) (hc _ (by simp)) (hc _ (by simp)) (hc _ (by simp)) (hc _ (by simp)) (hc _ (by simp)) (hc _ (by simp)) (hc _ (by simp)) (hc (Mj p _ N _ _ (n.toNat-16)) (by simp)).h).words (by rw [hg];rfl) (fun _=>rfl) (fun _ _ h=>h) (fun _=>rfl) rfl rfl
theorem Wh {o:Nat} (ho:o=1\/o=3) {ev ks a b:SV} {N n:Int} {T:aZ} {c:Canon} (h:TT o ev ks a b N n T=some c) (hc:∀ q∈c.conds,q) (Γ:Env) (hg:Γ.aR=aB):aF Tryz.prog Γ 12 c.eR (fun l=>look l c.T0) 100 100 c.e0:=by
 unfold TT at h
 split at h
 case h_2=>cases h
 cases h
 exact (YR (hc _ (by simp)) _ _ _ _ _ ho (hc _ (by simp))).words (by rw [hg];rfl) (fun _=>rfl) (fun _ _ h=>h) (fun _=>rfl) rfl rfl
theorem IL (sb:zT) (out:Int->Nat) (Γ:Env) (hg:Γ.aR=aB):aH Tryz.prog Γ 9 (aK aB 100 (Up sb out)):=by
 refine aW hg fun vs T c hd hc=>?_
 unfold Up at hd
 split at hd
 case h_2=>cases hd
 split at hd
 .exact YB hd hc Γ hg
 .exact Vx (.inl rfl) hd hc Γ hg
 .exact Vx (.inr rfl) hd hc Γ hg
 .cases hd
theorem IZ (ob:yV) (out:Int->Nat) (Γ:Env) (hg:Γ.aR=aB):aH Tryz.prog Γ 12 (aK aB 100 (Ut ob out)):=by
 refine aW hg fun vs T c hd hc=>?_
 unfold Ut at hd
 split at hd
 case h_2=>cases hd
 split at hd
 .exact Wg hd hc Γ hg
 .exact Wh (.inl rfl) hd hc Γ hg
 .exact Wh (.inr rfl) hd hc Γ hg
 .exact Wg hd hc Γ hg
 .cases hd
def UC (x:Int):List SV:=[.int false .i64 x,.raw (.pointer none)]
def UB:Nat->bJ
 | 1=>{ val:=.agg [.int true .i64 1,.fn (.func 41) [] [.ptr 100 true 0],.fn (.func 43) [] [.ptr 100 true 0],.fn (.func 45) [] [.ptr 100 true 0],.fn (.func 47) [] [.ptr 100 true 0],.fn (.func 49) [] [.ptr 100 true 0],.fn (.func 51) [] [.ptr 100 true 0]],new:=[.own [.raw (.pointer none)] 46] }
 | _=>{ val:=.agg (qD 2) }
def mkF:Nat->Bool
 | 1=>true
 | _=>false
theorem aXy (x:Int):aJ (env gC 22) Tryz.f10 true [true] 400 (UC x) (fun _=>none) 100 100=some { UB 1 with bM:=[(x.tmod (2:Int) != (0:Int))=true] }:=by kernel_rfl
theorem aXx (x:Int):aJ (env gC 22) Tryz.f10 true [false] 400 (UC x) (fun _=>none) 100 100=some { UB 2 with bM:=[(x.tmod (2:Int) != (0:Int))=false] }:=by kernel_rfl
theorem ZG {e:Nat} (he:e=1\/e=2) {x:Int} (h:(x.tmod 2 != 0)=mkF e) (Γ:Env) (hg:Γ.aR=aB):aF Tryz.prog Γ 10 (UC x) (fun _=>none) 100 100 (UB e):=by
 have hI:∀ hs,aH Tryz.prog (env gC 22) 10 (aJ (env gC 22) Tryz.f10 true hs 400):=fun hs=>aM (bQ gC 22) (bW gC gM 22) mix Tryz.func10 (by kernel_rfl) true hs 400
 rcases he with rfl | rfl
 .exact ((hI _).call (aXy x) (aA ⟨h,trivial⟩)).words (by rw [hg];rfl) (fun _=>rfl) (fun _ _ h=>h) (fun _=>rfl) rfl rfl
 .exact ((hI _).call (aXx x) (aA ⟨h,trivial⟩)).words (by rw [hg];rfl) (fun _=>rfl) (fun _ _ h=>h) (fun _=>rfl) rfl rfl
def GH (e:Nat) (vs:List SV) (_:aZ):Option Canon:=match vs with
 | [.int _ .i64 x,.raw (.pointer none)]=>some { eR:=UC x,T0:=[],vl:=[],e0:=UB e,conds:=[e=1\/e=2,(x.tmod 2 != 0)=mkF e] }
 | _=>none
theorem aKa (e:Nat) (Γ:Env) (hg:Γ.aR=aB):aH Tryz.prog Γ 10 (aK aB 100 (GH e)):=by
 refine aW hg fun vs T c hd hc=>?_
 unfold GH at hd
 split at hd
 case h_2=>cases hd
 cases hd
 exact ZG (hc _ (by simp)) (hc _ (by simp)) Γ hg
def Xs (xs ys:List Int):aZ:=fun l=>look l [(61,.gQ .u8 xs),(62,.gQ .u8 ys)]
def xT (xs:List Int):aZ:=fun l=>look l [(61,.gQ .u8 xs)]
noncomputable def rmM (xs:List Int) (cf:Cf) (K:List Fr) (s:St):Option pU:=gZ qN (bH 100 (xT xs)) 100 Tryz.f8.ntmps [3] 400 3000 cf K s
def aFo (n:Nat):List SV:=[.eV 61 n]
def Hz (n m:Nat) (i:Int):List (Nat × SV):=[(0,.eV 61 n),(3,.aG 100 false 0 m m),(4,.int false .i64 i)]
def Hy (zs:List Int):List (Nat × SB):=[(100,.ints .u8 zs 5)]
noncomputable def rmR:Option pU:=rmM [] (.go (codeOf Tryz.f8)) [] ((zM (aFo 0) 100).hint [])
noncomputable def TM:Code:=Fb rmR
noncomputable def rmK:List Fr:=Fa rmR
theorem aWk (xs zs:List Int) (n m:Nat) (i:Int) :
 (fM 100 Tryz.f8.ntmps (bH 100 (xT xs)) [] (Hz n m i) (Hy zs) 101 [] [] (rmM xs (.go (codeOf Tryz.f8)) [] ((zM (aFo n) 100).hint []))) =
 some (.go (.loop TM),rmK,
  [(0:Int)<=IntKind.i64.wrap ((↑n:Int)+(70:Int)) /\
    IntKind.i64.wrap ((↑n:Int)+(70:Int))<=IntKind.i64.wrap ((↑n:Int)+(70:Int)) /\
     (1:Int)*IntKind.i64.wrap ((↑n:Int)+(70:Int))<=(281474976710656:Int)/\IntKind.i64.wrap ((↑n:Int)+(70:Int))<(9223372036854775808:Int),
  n=n,(0:Nat)=(0:Nat),(IntKind.i64.wrap ((↑n:Int)+(70:Int))).toNat=m,(IntKind.i64.wrap ((↑n:Int)+(70:Int))).toNat=m,(0:Int)=i,
  List.replicate (IntKind.i64.wrap ((↑n:Int)+(70:Int))).toNat (0:Int)=zs/\(5:Nat)=(5:TypeId)]):=by kernel_rfl
theorem aWj (xs zs zs':List Int) (n m:Nat) (i i':Int) :
 (fM 100 Tryz.f8.ntmps (bH 100 (xT xs)) [] (Hz n m i') (Hy zs') 101 [] [] (rmM xs (.go TM) [] ((cB (Hz n m i) (Hy zs) 101 [] []).hint [true,true]))) =
 some (.at .normal,[],
  [(0:Nat)+i.toNat*(1:Nat)<(zs.set ((0:Nat)+i.toNat*(1:Nat)) (IntKind.u8.wrap (IntKind.i64.wrap ((161:Int)+i.tmod (7:Int))))).length,(0:Int)<=i/\i<(↑m:Int),
  i.toNat<xs.length,(0:Int)<=i/\i<(↑n:Int),decide (i<(↑n:Int))=true,(0:Nat)+i.toNat*(1:Nat)<zs.length,(0:Int)<=i/\i<(↑m:Int),decide (i<(↑m:Int))=true,
  n=n,(0:Nat)=(0:Nat),m=m,m=m,IntKind.i64.wrap (i+(1:Int))=i',
  (zs.set ((0:Nat)+i.toNat*(1:Nat)) (IntKind.u8.wrap (IntKind.i64.wrap ((161:Int)+i.tmod (7:Int))))).set ((0:Nat)+i.toNat*(1:Nat)) (xs.getD i.toNat (0:Int))=zs' /\
   (5:TypeId)=(5:TypeId)]):=by kernel_rfl
theorem aWi (xs zs zs':List Int) (n m:Nat) (i i':Int) :
 (fM 100 Tryz.f8.ntmps (bH 100 (xT xs)) [] (Hz n m i') (Hy zs') 101 [] [] (rmM xs (.go TM) [] ((cB (Hz n m i) (Hy zs) 101 [] []).hint [true,false]))) =
 some (.at .normal,[],
  [decide (i<(↑n:Int))=false,(0:Nat)+i.toNat*(1:Nat)<zs.length,(0:Int)<=i/\i<(↑m:Int),decide (i<(↑m:Int))=true,n=n,(0:Nat)=(0:Nat),m=m,m=m,
  IntKind.i64.wrap (i+(1:Int))=i',zs.set ((0:Nat)+i.toNat*(1:Nat)) (IntKind.u8.wrap (IntKind.i64.wrap ((161:Int)+i.tmod (7:Int))))=zs'/\(5:TypeId)=(5:TypeId)]):=by kernel_rfl
theorem aWh (xs zs zs':List Int) (n m:Nat) (i i':Int) :
 (fM 100 Tryz.f8.ntmps (bH 100 (xT xs)) [] (Hz n m i') (Hy zs') 101 [] [] (rmM xs (.go TM) [] ((cB (Hz n m i) (Hy zs) 101 [] []).hint [false]))) =
 some (.at (.exit 0),[],
  [decide (i<(↑m:Int))=false,n=n,(0:Nat)=(0:Nat),m=m,m=m,i=i',zs=zs'/\(5:TypeId)=(5:TypeId)]):=by kernel_rfl
theorem aWg (xs zs:List Int) (n m:Nat) (i:Int) :
 sW qN (xT xs) 100 100 Tryz.f8 [] (rmM xs (.at (.exit 0)) rmK ((cB (Hz n m i) (Hy zs) 101 [] []).hint [])) =
 some { val:=SV.aG 100 false 0 m m,new:=[SB.ints IntKind.u8 zs 5] }:=by kernel_rfl
noncomputable def saM (xs ys:List Int) (cf:Cf) (K:List Fr) (s:St):Option pU:=gZ qN (bH 100 (Xs xs ys)) 100 Tryz.f11.ntmps [4] 400 3000 cf K s
def Em (la lb:Nat):List SV:=[.eV 61 la,.eV 62 lb]
def sA (la lb:Nat) (i:Int):List (Nat × SV):=[(0,.eV 61 la),(1,.eV 62 lb),(5,.int false .i64 i)]
noncomputable def saR:Option pU:=saM [] [] (.go (codeOf Tryz.f11)) [] ((zM (Em 0 0) 100).hint [false])
noncomputable def aFm:Code:=Fb saR
noncomputable def saK:List Fr:=Fa saR
theorem aWf (xs ys:List Int) (la lb:Nat) (i:Int) :
 (fM 100 Tryz.f11.ntmps (bH 100 (Xs xs ys)) [] (sA la lb i) [] 100 [] [] (saM xs ys (.go (codeOf Tryz.f11)) [] ((zM (Em la lb) 100).hint [false]))) =
 some (.go (.loop aFm),saK,
  [((↑la:Int) != (↑lb:Int))=false,la=la,lb=lb,(0:Int)=i]):=by kernel_rfl
theorem aWe (xs ys:List Int) (la lb:Nat) (i i':Int) :
 (fM 100 Tryz.f11.ntmps (bH 100 (Xs xs ys)) [] (sA la lb i') [] 100 [] [] (saM xs ys (.go aFm) [] ((cB (sA la lb i) [] 100 [] []).hint [true,false]))) =
 some (.at .normal,[],
  [(xs.getD i.toNat (0:Int) != ys.getD i.toNat (0:Int))=false,i.toNat<ys.length,(0:Int)<=i/\i<(↑lb:Int),i.toNat<xs.length,(0:Int)<=i/\i<(↑la:Int),
  decide (i<(↑la:Int))=true,la=la,lb=lb,IntKind.i64.wrap (i+(1:Int))=i']):=by kernel_rfl
theorem aWd (xs ys:List Int) (la lb:Nat) (i i':Int) :
 (fM 100 Tryz.f11.ntmps (bH 100 (Xs xs ys)) [] (sA la lb i') [] 100 [] [] (saM xs ys (.go aFm) [] ((cB (sA la lb i) [] 100 [] []).hint [false]))) =
 some (.at (.exit 0),[],
  [decide (i<(↑la:Int))=false,la=la,lb=lb,i=i']):=by kernel_rfl
theorem aWc (xs ys:List Int) (la lb:Nat) (i:Int) :
 sW qN (Xs xs ys) 100 100 Tryz.f11 [] (saM xs ys (.at (.exit 0)) saK ((cB (sA la lb i) [] 100 [] []).hint [])) =
 some { val:=SV.bool true true }:=by kernel_rfl
noncomputable def sdM (xs ys:List Int) (cf:Cf) (K:List Fr) (s:St):Option pU:=gZ qN (bH 100 (Xs xs ys)) 100 Tryz.f13.ntmps [2] 400 3000 cf K s
noncomputable def sdR:Option pU:=sdM [] [] (.go (codeOf Tryz.f13)) [] ((zM (Em 0 0) 100).hint [])
noncomputable def TK:Code:=Fb sdR
noncomputable def sdK:List Fr:=Fa sdR
theorem aWa (xs ys:List Int) (la lb:Nat) (i:Int) :
 (fM 100 Tryz.f13.ntmps (bH 100 (Xs xs ys)) [] (sA la lb i) [] 100 [] [] (sdM xs ys (.go (codeOf Tryz.f13)) [] ((zM (Em la lb) 100).hint []))) =
 some (.go (.loop TK),sdK,
  [la=la,lb=lb,(0:Int)=i]):=by kernel_rfl
theorem aVz (xs ys:List Int) (la lb:Nat) (i i':Int) :
 (fM 100 Tryz.f13.ntmps (bH 100 (Xs xs ys)) [] (sA la lb i') [] 100 [] [] (sdM xs ys (.go TK) [] ((cB (sA la lb i) [] 100 [] []).hint [true,true,false,false]))) =
 some (.at .normal,[],
  [decide (i>=(↑lb:Int))=false,(xs.getD i.toNat (0:Int) != ys.getD i.toNat (0:Int))=false,i.toNat<ys.length,(0:Int)<=i/\i<(↑lb:Int),i.toNat<xs.length,
  (0:Int)<=i/\i<(↑la:Int),decide (i<(↑lb:Int))=true,decide (i<(↑la:Int))=true,la=la,lb=lb,IntKind.i64.wrap (i+(1:Int))=i']):=by kernel_rfl
theorem aVy (xs ys:List Int) (la lb:Nat) (i i':Int) :
 (fM 100 Tryz.f13.ntmps (bH 100 (Xs xs ys)) [] (sA la lb i') [] 100 [] [] (sdM xs ys (.go TK) [] ((cB (sA la lb i) [] 100 [] []).hint [true,false,true,false]))) =
 some (.at .normal,[],
  [(xs.getD i.toNat (0:Int) != IntKind.u8.wrap (IntKind.i64.wrap ((161:Int)+i.tmod (7:Int))))=false,i.toNat<xs.length,(0:Int)<=i/\i<(↑la:Int),decide (i>=(↑lb:Int))=true,
  decide (i<(↑lb:Int))=false,decide (i<(↑la:Int))=true,la=la,lb=lb,IntKind.i64.wrap (i+(1:Int))=i']):=by kernel_rfl
theorem aVx (xs ys:List Int) (la lb:Nat) (i i':Int) :
 (fM 100 Tryz.f13.ntmps (bH 100 (Xs xs ys)) [] (sA la lb i') [] 100 [] [] (sdM xs ys (.go TK) [] ((cB (sA la lb i) [] 100 [] []).hint [false]))) =
 some (.at (.exit 0),[],
  [decide (i<(↑la:Int))=false,la=la,lb=lb,i=i']):=by kernel_rfl
theorem aVw (xs ys:List Int) (la lb:Nat) (i:Int) :
 sW qN (Xs xs ys) 100 100 Tryz.f13 [] (sdM xs ys (.at (.exit 0)) sdK ((cB (sA la lb i) [] 100 [] []).hint [])) =
 some { val:=SV.bool true true }:=by kernel_rfl
namespace Q
def mk (i:Nat):Int:=IntKind.u8.wrap (IntKind.i64.wrap (161+(i:Int).tmod 7))
def kM (xs:List Int):List Int:=xs++(List.range 70).map fun j=>mk (xs.length+j)
theorem tQ (xs:List Int):(kM xs).length=xs.length+70:=by simp [kM]
theorem IM (xs:List Int) {i:Nat} (h:i<xs.length):(kM xs).getD i 0=xs.getD i 0:=by
 simp [kM,List.getD_eq_getElem?_getD,List.getElem?_append_left h]
theorem IN (xs:List Int) {i:Nat} (h:xs.length<=i) (h2:i<xs.length+70):(kM xs).getD i 0=mk i:=by
 have e:i-xs.length<70:=by omega
 simp [kM,List.getD_eq_getElem?_getD,List.getElem?_append_right h,e]
 congr 1;omega
theorem aKb (i:Nat):0<=mk i/\mk i<256:=by
 unfold mk
 rw [IntKind.wrap_u8]
 omega
def xB (zs:List Int) (n i:Nat):List Int:=zs.take i++List.replicate (n-i) 0
theorem aHs (zs:List Int) (n:Nat):xB zs n 0=List.replicate n 0:=by simp [xB]
theorem KM {zs:List Int} {n:Nat} (h:zs.length=n):xB zs n n=zs:=by simp [xB,<- h]
theorem Od {zs:List Int} {n i:Nat} (h:zs.length=n) (hi:i<=n):(xB zs n i).length=n:=by
 simp [xB,h];omega
theorem Mr {zs:List Int} {n i:Nat} (h:zs.length=n) (hi:i<n):(xB zs n i).set i (zs.getD i 0)=xB zs n (i+1):=by
 unfold xB
 have hl:(zs.take i).length=i:=by rw [List.length_take];omega
 rw [List.set_append_right _ _ (by omega),hl,Nat.sub_self,show n-i=(n-(i+1))+1 by omega,List.replicate_succ,List.set_cons_zero]
 have e:zs.take (i+1)=zs.take i++[zs.getD i 0]:=by
  rw [List.take_add_one,List.getD_eq_getElem?_getD,List.getElem?_eq_getElem (by omega)];rfl
 rw [e,List.append_assoc];rfl
end Q
theorem aJh (xs:List Int) (hl:xs.length<=1073741824) (Γ:Env) (hg:Γ.aR=aB):aF Tryz.prog Γ 8 [.eV 61 xs.length] (xT xs) 100 100 { val:=.aG 100 false 0 (xs.length+70) (xs.length+70),new:=[.ints .u8 (Q.kM xs) 5] }:=by
 refine aF.words (Γ:=qN) (vs:=aFo xs.length) ?_ (by rw [hg];rfl) (fun _=>rfl) (fun _ _ h=>h) (fun _=>rfl) rfl rfl
 have aT:=uQ
 have aX:=uR
 have hL:=Q.tQ xs
 have w70:IntKind.i64.wrap ((xs.length:Int)+70)=((xs.length+70:Nat):Int):=by rw [IntWalk.i64_in _ (by omega)];omega
 refine gR aT aX Tryz.func8 (by kernel_rfl) rfl (Nat.le_of_ble_eq_true (by kernel_rfl)) rfl [] ?_
 intro w0 M V0 Q' hb H
 refine G.fM aT aX mix hb [] (aWk xs (Q.xB (Q.kM xs) (xs.length+70) 0) xs.length (xs.length+70) 0) (aA ?_) ?_
 .rw [w70,Int.toNat_natCast]
  exact ⟨by omega,rfl,rfl,rfl,rfl,rfl,⟨(Q.aHs _ _).symm,rfl⟩,trivial⟩
 refine G.loop (fun r s=>∃ i:Nat,i<=xs.length+70/\r=xs.length+70-i/\s=cB (Hz xs.length (xs.length+70) i) (Hy (Q.xB (Q.kM xs) (xs.length+70) i)) 101 [] []) (r0:=xs.length+70) ⟨0,by omega,rfl,rfl⟩ ?_
 rintro r s ⟨i,hi,rfl,rfl⟩
 have RC:=Q.Od hL hi
 have w1:IntKind.i64.wrap ((i:Int)+1)=((i+1:Nat):Int):=by rw [IntWalk.i64_in _ (by omega)];omega
 by_cases h:i<xs.length+70
 .by_cases h1:i<xs.length
  .refine G.lE aT aX mix hb [true,true] (aWj xs _ (Q.xB (Q.kM xs) (xs.length+70) (i+1)) xs.length (xs.length+70) i ((i+1:Nat):Int)) (aA ?_) (xs.length+70-(i+1)) (by omega) ⟨i+1,by omega,rfl,rfl⟩
   have e1:0+(i:Int).toNat*1=i:=by omega
   rw [e1,Int.toNat_natCast]
   refine ⟨by rw [List.length_set,RC];exact h,by omega,h1,by omega,decide_eq_true (by omega),by rw [RC];exact h,by omega,decide_eq_true (by omega),rfl,rfl,rfl,rfl,w1,⟨?_,rfl⟩,trivial⟩
   rw [List.set_set,<- Q.IM xs h1,Q.Mr hL h]
  .refine G.lE aT aX mix hb [true,false] (aWi xs _ (Q.xB (Q.kM xs) (xs.length+70) (i+1)) xs.length (xs.length+70) i ((i+1:Nat):Int)) (aA ?_) (xs.length+70-(i+1)) (by omega) ⟨i+1,by omega,rfl,rfl⟩
   have e1:0+(i:Int).toNat*1=i:=by omega
   rw [e1]
   refine ⟨decide_eq_false (by omega),by rw [RC];exact h,by omega,decide_eq_true (by omega),rfl,rfl,rfl,rfl,w1,⟨?_,rfl⟩,trivial⟩
   rw [<- Q.Mr hL h,Q.IN xs (by omega) h]
   rfl
 .have e:i=xs.length+70:=by omega
  subst e
  refine G.fM aT aX mix hb [false] (aWh xs _ (Q.kM xs) xs.length (xs.length+70) _ ((xs.length+70:Nat):Int)) (aA ?_) (G.leave (by simp) ?_)
  .exact ⟨decide_eq_false (by omega),rfl,rfl,rfl,rfl,rfl,⟨Q.KM hL,rfl⟩,trivial⟩
  exact G.qR (cl:=[]) aT aX mix [] H (aWg xs _ xs.length (xs.length+70) _) iG rfl rfl rfl
theorem YD (xs:List Int) (hl:xs.length<=1073741824) (Γ:Env) (hg:Γ.aR=aB):aF Tryz.prog Γ 11 (Em xs.length xs.length) (Xs xs xs) 100 100 { val:=.bool true true }:=by
 refine aF.words (Γ:=qN) (vs:=Em xs.length xs.length) ?_ (by rw [hg];rfl) (fun _=>rfl) (fun _ _ h=>h) (fun _=>rfl) rfl rfl
 have aT:=uQ
 have aX:=uR
 refine gR aT aX Tryz.func11 (by kernel_rfl) rfl (Nat.le_of_ble_eq_true (by kernel_rfl)) rfl [] ?_
 intro w0 M V0 Q' hb H
 refine G.fM aT aX mix hb [false] (aWf xs xs xs.length xs.length 0) (aA ⟨by simp,rfl,rfl,rfl,trivial⟩) ?_
 refine G.loop (fun r s=>∃ i:Nat,i<=xs.length/\r=xs.length-i/\s=cB (sA xs.length xs.length i) [] 100 [] []) (r0:=xs.length) ⟨0,by omega,rfl,rfl⟩ ?_
 rintro r s ⟨i,hi,rfl,rfl⟩
 by_cases h:i<xs.length
 .refine G.lE aT aX mix hb [true,false] (aWe xs xs xs.length xs.length i ((i+1:Nat):Int)) (aA ?_) (xs.length-(i+1)) (by omega) ⟨i+1,by omega,rfl,rfl⟩
  rw [Int.toNat_natCast]
  exact ⟨by simp,h,by omega,h,by omega,decide_eq_true (by omega),rfl,rfl,by rw [IntWalk.i64_in _ (by omega)];omega,trivial⟩
 .have e:i=xs.length:=by omega
  subst e
  refine G.fM aT aX mix hb [false] (aWd xs xs xs.length xs.length _ _) (aA ⟨decide_eq_false (by omega),rfl,rfl,rfl,trivial⟩) (G.leave (by simp) ?_)
  exact G.qR (cl:=[]) aT aX mix [] H (aWc xs xs xs.length xs.length _) iG rfl rfl rfl
theorem YC (ys:List Int) (hl:ys.length<=1073741824) (Γ:Env) (hg:Γ.aR=aB):aF Tryz.prog Γ 13 (Em (Q.kM ys).length ys.length) (Xs (Q.kM ys) ys) 100 100 { val:=.bool true true }:=by
 refine aF.words (Γ:=qN) (vs:=Em (Q.kM ys).length ys.length) ?_ (by rw [hg];rfl) (fun _=>rfl) (fun _ _ h=>h) (fun _=>rfl) rfl rfl
 have aT:=uQ
 have aX:=uR
 have hL:=Q.tQ ys
 refine gR aT aX Tryz.func13 (by kernel_rfl) rfl (Nat.le_of_ble_eq_true (by kernel_rfl)) rfl [] ?_
 intro w0 M V0 Q' hb H
 refine G.fM aT aX mix hb [] (aWa (Q.kM ys) ys (Q.kM ys).length ys.length 0) (aA ⟨rfl,rfl,rfl,trivial⟩) ?_
 refine G.loop (fun r s=>∃ i:Nat,i<=(Q.kM ys).length/\r=(Q.kM ys).length-i/\s=cB (sA (Q.kM ys).length ys.length i) [] 100 [] []) (r0:=(Q.kM ys).length) ⟨0,by omega,rfl,rfl⟩ ?_
 rintro r s ⟨i,hi,rfl,rfl⟩
 have w1:IntKind.i64.wrap ((i:Int)+1)=((i+1:Nat):Int):=by rw [IntWalk.i64_in _ (by omega)];omega
 by_cases h:i<(Q.kM ys).length
 .by_cases h1:i<ys.length
  .refine G.lE aT aX mix hb [true,true,false,false] (aVz (Q.kM ys) ys (Q.kM ys).length ys.length i ((i+1:Nat):Int)) (aA ?_) ((Q.kM ys).length-(i+1)) (by omega) ⟨i+1,by omega,rfl,rfl⟩
   rw [Int.toNat_natCast,Q.IM ys h1]
   exact ⟨decide_eq_false (by omega),by simp,h1,by omega,h,by omega,decide_eq_true (by omega),decide_eq_true (by omega),rfl,rfl,w1,trivial⟩
  .refine G.lE aT aX mix hb [true,false,true,false] (aVy (Q.kM ys) ys (Q.kM ys).length ys.length i ((i+1:Nat):Int)) (aA ?_) ((Q.kM ys).length-(i+1)) (by omega) ⟨i+1,by omega,rfl,rfl⟩
   rw [Int.toNat_natCast,Q.IN ys (by omega) (by omega)]
   exact ⟨by unfold Q.mk;simp,h,by omega,decide_eq_true (by omega),decide_eq_false (by omega),decide_eq_true (by omega),rfl,rfl,w1,trivial⟩
 .have e:i=(Q.kM ys).length:=by omega
  subst e
  refine G.fM aT aX mix hb [false] (aVx (Q.kM ys) ys (Q.kM ys).length ys.length _ _) (aA ⟨decide_eq_false (by omega),rfl,rfl,rfl,trivial⟩) (G.leave (by simp) ?_)
  exact G.qR (cl:=[]) aT aX mix [] H (aVw (Q.kM ys) ys (Q.kM ys).length ys.length _) iG rfl rfl rfl
structure Zd (rm:List Int->List Int) (xs:List Int):Prop where
 h:rm xs=Q.kM xs
def FL (rm:List Int->List Int) (vs:List SV) (T:aZ):Option Canon:=match vs with
 | [a]=>match cW T .u8 a with
   | some (oa,xs)=>some { eR:=[.eV 61 xs.length],T0:=[(61,.gQ .u8 xs)],vl:=[(61,.arg 0)],e0:={ val:=.aG 100 false 0 (xs.length+70) (xs.length+70),new:=[.ints .u8 (rm xs) 5] },conds:=Zd rm xs::(xs.length<=1073741824)::oa }
   | none=>none
 | _=>none
theorem aJg (rm:List Int->List Int) (Γ:Env) (hg:Γ.aR=aB):aH Tryz.prog Γ 8 (aK aB 100 (FL rm)):=by
 refine aW hg fun vs T c hd hc=>?_
 unfold FL at hd
 split at hd
 case h_2=>cases hd
 split at hd
 case h_2=>cases hd
 cases hd
 have e:rm _=_:=Zd.h (hc _ cM)
 rw [e]
 have h:=aJh _ (hc _ (List.mem_cons_of_mem _ cM)) Γ hg
 exact h
def FH (vs:List SV) (T:aZ):Option Canon:=match vs with
 | [a,b]=>match cW T .u8 a,cW T .u8 b with
   | some (oa,xs),some (ob,ys)=>some { eR:=Em xs.length ys.length,T0:=[(61,.gQ .u8 xs),(62,.gQ .u8 ys)],vl:=[(61,.arg 0),(62,.arg 1)],e0:={ val:=.bool true true },conds:=(xs=ys)::(xs.length<=1073741824)::(oa++ob) }
   | _,_=>none
 | _=>none
theorem aJe (Γ:Env) (hg:Γ.aR=aB):aH Tryz.prog Γ 11 (aK aB 100 FH):=by
 refine aW hg fun vs T c hd hc=>?_
 unfold FH at hd
 split at hd
 case h_2=>cases hd
 split at hd
 case h_2=>cases hd
 cases hd
 have e:=hc _ cM
 subst e
 exact YD _ (hc _ (List.mem_cons_of_mem _ cM)) Γ hg
def FG (rm:List Int->List Int) (vs:List SV) (T:aZ):Option Canon:=match vs with
 | [a,b]=>match cW T .u8 a,cW T .u8 b with
   | some (oa,xs),some (ob,ys)=>some { eR:=Em xs.length ys.length,T0:=[(61,.gQ .u8 xs),(62,.gQ .u8 ys)],vl:=[(61,.arg 0),(62,.arg 1)],e0:={ val:=.bool true true },conds:=Zd rm ys::(xs=rm ys)::(ys.length<=1073741824)::(oa++ob) }
   | _,_=>none
 | _=>none
theorem aJd (rm:List Int->List Int) (Γ:Env) (hg:Γ.aR=aB):aH Tryz.prog Γ 13 (aK aB 100 (FG rm)):=by
 refine aW hg fun vs T c hd hc=>?_
 unfold FG at hd
 split at hd
 case h_2=>cases hd
 split at hd
 case h_2=>cases hd
 cases hd
 have e:=(hc _ (List.mem_cons_of_mem _ cM)).trans (Zd.h (hc _ cM))
 subst e
 exact YC _ (hc _ (List.mem_cons_of_mem _ (List.mem_cons_of_mem _ cM))) Γ hg
namespace Q
def kK:List Int:=(List.range 32).map fun i:Nat=>(i:Int)
def kP:List Int:=[107,101,101,108,32,97,110,100,32,114,117,100,100,101,114]
def kA:List Int:=[115,104,105,112]
def kC:List Int:=[154,106,225,36,2,137,20,237,66,68,59,87,152,237,98]
def kT:List Int:=[0,98,205,48,40,219,225,210,196,107,155,214,5,237,28,14]
def kB0:List Int:=[72,15,68,63,233,219,184,50,86,10,117,26,79,242,154,247,20,127,153,159,219,118,154,182,97,240,235,115,179,108,231,200,237,36,254,233,72,30,182,94,186,75,77,247,248,11,1,33,224,17,34,23,233,202,21,0,247,75,204,32,117,101,148,119]
def kB1:List Int:=[241,15,132,72,34,232,122,137,98,54,78,51,252,136,16,154,50,157,162,65,241,237,9,5,170,154,51,231,231,233,215,28,16,45,150,25,202,231,243,25,185,24,65,232,84,228,122,26,212,103,39,238,9,119,216,36,255,99,12,160,239,85,52,6]
theorem aSx:B.block kK [0,0,0,0,7,0,0,0,0,0,0,0] 0=kB0:=by kernel_rfl
theorem aSw:B.block kK [0,0,0,0,7,0,0,0,0,0,0,0] 1=kB1:=by kernel_rfl
theorem aOs:M.nonce 7=[0,0,0,0,7,0,0,0,0,0,0,0]:=by kernel_rfl
theorem Gm {key nonce:List Int} {c:Int} {xs:List Int} (h:xs.length<=64):cG key nonce c 0 xs.length xs=(List.range xs.length).map fun i=>gO .u8 (xs.getD i 0) ((B.block key nonce (IntKind.u32.wrap (c+0))).getD i 0):=by
 refine Gc (n:=xs.length) (fL _ _ _ _ _ _) (by simp) fun i hi=>?_
 rw [oV _ _ _ _ _ _ hi,if_pos (by omega),Nat.sub_zero]
 unfold zE
 rw [show i/64=0 by omega,show i%64=i by omega]
 simp [List.getD_eq_getElem?_getD,hi]
theorem aEm:cx kK 7 kP=kC:=by
 unfold cx
 rw [Gm (by decide),aOs,show IntKind.u32.wrap (1+0)=1 by decide,aSw]
 decide
theorem aAa:M.once kK 7=kB0.take 32:=by
 have h:=Gm (key:=kK) (nonce:=[0,0,0,0,7,0,0,0,0,0,0,0]) (c:=0) (xs:=List.replicate 32 0) (by decide)
 unfold M.once
 rw [aOs]
 rw [show IntKind.u32.wrap (0+0)=0 by decide,aSx] at h
 exact h.trans (by decide)
theorem aKp:M.tag (kB0.take 32) (M.Yc kA 4 kC 15)=kT:=by kernel_rfl
theorem aEl:tg kK 7 kA kC=kT:=by
 unfold tg
 rw [aAa]
 exact aKp
end Q
theorem aNf:aJ (env gC 22) Tryz.f30 true [] 4000 [] (fun _=>none) 100 100=some { val:=.agg (Q.kK.map (SV.int true .u8)) }:=by kernel_rfl
theorem aCv (Γ:Env) (hg:Γ.aR=aB):aF Tryz.prog Γ 30 [] (fun _=>none) 100 100 { val:=.ai .u8 Q.kK }:=
 ((aM (bQ gC 22) (bW gC gM 22) mix Tryz.func30 (by kernel_rfl) true [] 4000:aH Tryz.prog (env gC 22) 30 _).call aNf (by simp)).words (by rw [hg];rfl) (fun _=>rfl) (fun _ _ h=>h) (fun _=>rfl) rfl rfl
structure Zf (kk:List Int):Prop where
 h:kk=Q.kK
def HT (kk:List Int) (vs:List SV) (_:aZ):Option Canon:=match vs with
 | []=>some { eR:=[],T0:=[],vl:=[],e0:={ val:=.ai .u8 kk },conds:=[Zf kk] }
 | _=>none
theorem aNe (kk:List Int) (Γ:Env) (hg:Γ.aR=aB):aH Tryz.prog Γ 30 (aK aB 100 (HT kk)):=by
 refine aW hg fun vs T c hd hc=>?_
 unfold HT at hd
 split at hd
 case h_2=>cases hd
 cases hd
 have e:kk=Q.kK:=Zf.h (hc _ cM)
 rw [e]
 exact aCv Γ hg
def TQ (n:Int):Nat:=match Int.toNat n with
 | 25=>2
 | _=>0
noncomputable def aGr (kk:List Int) (sb:zT) (ob:yV):Nat->Option Sum:=dM (dM (dM gC 30 (aK aB 100 (HT kk))) 9 (aK aB 100 (Up sb TQ))) 12 (aK aB 100 (Ut ob TQ))
def knF:List Bool:=[false,false,false,false,false,false,false]
def knB:List Int:=Q.kP++List.replicate 25 0
def aOt:List UInt8:=[107,101,101,108,32,97,110,100,32,114,117,100,100,101,114]
def knO (e:Nat) (kk C D:List Int) (r:List Prop):List Prop:=
 ((!((Lr (D.take 15)).toList==(⟨aOt.toArray⟩:ByteArray).toList))=false)::(15<=D.length)::(false=false)::dE e::((D.take 40).length<=500000000)::tM (D.take 40).length 25 2 ::
 (40<=D.length/\40<=40)::(kk=kk)::((7:Int)=7)::(0=0)::(40<=D.length/\40<=40)::((D.take 40).length=(D.take 40).length)::((25:Int)=25)::(D.take 40=D.take 40)::(40<=D.length/\40<=40)::(([]:List Int)=[])::Zf kk ::
 EN (fun _ _ _ _ _=>D) true kk 7 C 15::dE e::(kk.length=32)::bR Q.kA::bR C::(4<=500000000)::(31<=40)::(40<=40)::(40<=C.length)::(40<=500000000)::Mj true kk 7 Q.kA C 15 ::
 (4<=4/\4<=4)::(kk=kk)::((7:Int)=7)::(4<=4/\4<=4)::(4=4)::(0=0)::(40=40)::(40=40)::((31:Int)=31)::(C=C/\5=5)::(Q.kA=Q.kA)::(4<=4/\4<=4)::Zf kk ::
 ((C.getD 31 0 != 0)=false)::(32<=C.length)::((C.getD 30 0 != 14)=false)::(31<=C.length)::((C.getD 0 0 != 154)=false)::(1<=C.length)::(false=false) ::
 EM (fun _ _ _ _ _=>C) kk 7 Q.kA knB 15::dE e::(kk.length=32)::bR Q.kA::bR knB::(4<=500000000)::(31<=40)::(40<=40)::(40<=40)::(40<=500000000)::(4<=4/\4<=4)::(kk=kk)::((7:Int)=7)::(4<=4/\4<=4)::(4=4)::(0=0)::(40=40)::(40=40)::((15:Int)=15) ::
 (knB=knB/\5=5)::(Q.kA=Q.kA)::(4<=4/\4<=4)::Zf kk::(0<=0/\15<=40)::r
theorem aKq (kk C D:List Int):aJ (env (aGr kk (fun _ _ _ _ _=>C) (fun _ _ _ _ _=>D)) 22) Tryz.f14 true (knF++knF) 4000 [] (fun l=>look l SM) 100 100 =
 some { val:=.bool true true,bM:=knO 1 kk C D (knO 2 kk C D []) }:=by kernel_rfl
def erP (t:List UInt8):SB:=.fP [.raw (.string ⟨t.toArray⟩)]
def erO:List (Nat × SB):=[(40,erP [112,105,110,116,108,101,58,32,97,114,103,117,109,101,110,116]),(42,erP [112,105,110,116,108,101,58,32,110,111,32,114,111,111,109]),(44,erP [112,105,110,116,108,101,58,32,116,111,111,32,115,104,111,114,116]),(48,erP [112,105,110,116,108,101,58,32,110,111,116,32,97,117,116,104,101,110,116,105,99])]
def GM (vs:List SV) (_:aZ):Option Canon:=match vs with
 | []=>some { eR:=[],T0:=SM,vl:=EL,e0:={ val:=.bool true true },conds:=[] }
 | _=>none
def Pe:List Int:=Q.kC++(Q.kT++List.replicate 9 0)
def QX:List Int:=Q.kP++(Q.kT++List.replicate 9 0)
theorem aSy:bR Q.kP:=by unfold bR Bt Q.kP;decide
theorem ZY:Q.iL Q.kK 7 Q.kA knB 15=Pe:=by
 have h:=Q.Dk Q.kK 7 Q.kA Q.kP (List.replicate 16 0) (List.replicate 9 0) (by simp)
 rw [Q.aEm,Q.aEl] at h
 exact h
theorem ZZ:Q.mU Q.kK 7 Pe 15=QX:=by
 have h:=Q.Dq Q.kK 7 Q.kC (Q.kT++List.replicate 9 0)
 have e:Q.cx Q.kK 7 Q.kC=Q.kP:=by rw [<- Q.aEm,Q.aEy _ _ aSy]
 rw [e] at h
 exact h
theorem aSv:∀ q∈knO 1 Q.kK Pe QX (knO 2 Q.kK Pe QX []),q:=by
 have tx:(!((Lr (QX.take 15)).toList==(⟨aOt.toArray⟩:ByteArray).toList))=false:=by kernel_rfl
 have ls:tM (QX.take 40).length 25 2:=by unfold tM;exact ⟨by decide,by decide,by decide⟩
 have hO:EN (fun _ _ _ _ _=>QX) true Q.kK 7 Pe 15:=⟨ZZ.symm⟩
 have hS:EM (fun _ _ _ _ _=>Pe) Q.kK 7 Q.kA knB 15:=⟨ZY.symm⟩
 have hT:Mj true Q.kK 7 Q.kA Pe 15:=⟨by
  have e1:Pe.take 15=Q.kC:=by decide
  have e2:(Pe.drop 15).take 16=Q.kT:=by decide
  rw [e1,e2,Q.aEl];exact decide_eq_true rfl⟩
 have h1:dE 1:=.inr (.inl rfl)
 have h2:dE 2:=.inr (.inr rfl)
 have b1:bR Q.kA:=by unfold bR Bt Q.kA;decide
 have b2:bR Pe:=by unfold bR Bt Pe;decide
 have b3:bR knB:=by unfold bR Bt knB;decide
 have c1:Zf Q.kK:=⟨rfl⟩
 have g:∀ e,dE e->∀ r:List Prop,(∀ q∈r,q)->∀ q∈knO e Q.kK Pe QX r,q:=fun e he r hr=>by
  unfold knO
  repeat' (first | exact hr | refine aO ?_ ?_)
  all_goals first | assumption | rfl | decide | exact ⟨rfl,rfl⟩
 exact g 1 h1 _ (g 2 h2 _ iG)
theorem aCc (kk:List Int) (sb:zT) (ob:yV):∀ f S,aGr kk sb ob f=some S->∀ Γ:Env,Γ.aR=aB->aH Tryz.prog Γ f S:=
 bD (bD (bD gM 30 _ (aNe kk)) 9 _ (IL sb TQ)) 12 _ (IZ ob TQ)
theorem aAb (Γ:Env) (hg:Γ.aR=aB):aF Tryz.prog Γ 14 [] (fun l=>look l SM) 100 100 { val:=.bool true true }:=
 ((aM (bQ _ 22) (bW _ (aCc Q.kK (fun _ _ _ _ _=>Pe) (fun _ _ _ _ _=>QX)) 22) mix Tryz.func14 (by kernel_rfl) true (knF++knF) 4000:aH Tryz.prog (env (aGr Q.kK (fun _ _ _ _ _=>Pe) (fun _ _ _ _ _=>QX)) 22) 14 _).call (aKq Q.kK Pe QX) aSv).words (by rw [hg];rfl) (fun _=>rfl) (fun _ _ h=>h) (fun _=>rfl) rfl rfl
theorem aKo (Γ:Env) (hg:Γ.aR=aB):aH Tryz.prog Γ 14 (aK aB 100 GM):=by
 refine aW hg fun vs T c hd hc=>?_
 unfold GM at hd
 split at hd
 case h_2=>cases hd
 cases hd
 exact aAb Γ hg
section
variable {w0 w:World} {M:Nat->Prop} {V:aY} {T:aZ} {lab:Nat}
theorem Wv:∀ {us:List Value} {k:IntKind},(∀ x∈us,∃ n,x=Value.int k n)->∃ ms:List Int,us=ms.map (Value.int k)
 | [],_,_=>⟨[],rfl⟩
 | u::us,k,h=>by
   obtain ⟨n,rfl⟩:=h u cM
   obtain ⟨ms,rfl⟩:=Wv fun x hx=>h x (List.mem_cons_of_mem _ hx)
   exact ⟨n::ms,rfl⟩
theorem aC.grown (h:aC w0 M V T w) (hf:V.fresh lab) (jY:∀ k,lab<=k->T k=none) {l:Nat} {k:IntKind} {xs:List Int} {el:TypeId} (hl:T l=some (.cT k xs el)) (Er:0<xs.length) {x:Value} (hx:den V (.buf l)=some x) :
 ∃ cap zs,xs.length+zs.length=cap/\cap<=maxLen/\∃ V',V.ext lab V'/\den V' (.aG lab false 0 xs.length cap)=some x/\aC w0 M V' (eI T lab { val:=.aG lab false 0 xs.length cap,new:=[.ints k (xs++zs) el],wr:=[(l,.gone)] }) w:=by
 obtain ⟨us,pA,u,hσ,bK,hI⟩:=h.ok l _ hl
 cases pA
 have hx':u=x:=by simpa [den,hσ] using hx
 subst hx'
 rcases bK.2 with ⟨_,h0⟩ | ⟨b,cap,cur,rfl,_,hh,hle,qC,lW,cR⟩
 .omega
 have cI:l<lab:=Nat.lt_of_not_le fun q=>by rw [jY l q] at hl;cases hl
 obtain ⟨VA,ty2,p2,uC,kF⟩:=hI b rfl
 rw [hh] at uC
 cases uC
 obtain ⟨ms,Pm⟩:=Wv kF
 have hml:ms.length=cap:=by
  have:=congrArg List.length Pm
  rw [List.length_map,Array.length_toList] at this
  omega
 have lV:ms.take xs.length=xs:=by
  rw [Pm,Nat.mul_one,<- List.map_take] at cR
  exact (List.map_inj_right (fun a b e=>by injection e)).1 cR
 have aKz:xs++ms.drop xs.length=ms:=by
  have:=List.take_append_drop xs.length ms
  rwa [lV] at this
 have bN:=aY.jU hf lab (Nat.le_refl _) (by omega) (b,0)
 have e1:(V.put lab (b,0)).β lab=some (b,0):=by simp [aY.put]
 refine ⟨cap,ms.drop xs.length,by rw [List.length_drop,hml];omega,qC,V.put lab (b,0),bN,by simp [den,e1],?_⟩
 rw [aKz]
 have Uj:SB.aN V l (.cT k xs el)=some b:=by simp [SB.aN,hσ,Value.ownBlock]
 refine h.step (N:=fun q=>if q=lab then some (.ints k ms el) else if q=l then some .gone else none) bN.1 (fun q C hk=>?_) (fun q C hk=>?_) (fun q C p hk hp=>?_) (fun q C q' C' p zF hk gW ho hp=>?_) (Nat.le_refl _) (fun _ _ _=>rfl) rfl rfl rfl
 .simp only [eI,bJ.eG,fO,List.cons_append,List.nil_append] at hk
  by_cases k1:l=q
  .subst k1
   rw [aI] at hk
   left
   simp only [if_neg (show ¬ l=lab by omega),if_true]
   simpa using hk
  .rw [aD k1] at hk
   by_cases k3:lab=q
   .subst k3;rw [aI] at hk;left;simpa using hk
   .rw [aD k3] at hk
    right
    simp only [look] at hk
    exact ⟨by rw [if_neg (fun z=>k3 z.symm),if_neg (fun z=>k1 z.symm)],hk⟩
 .by_cases k1:q=lab
  .rw [if_pos k1] at hk
   cases hk
   subst k1
   exact ⟨_,rfl,b,e1,by rw [hh,<- Pm]⟩
  .rw [if_neg k1] at hk
   by_cases k2:q=l
   .rw [if_pos k2] at hk;cases hk;exact ⟨[],rfl,trivial⟩
   .rw [if_neg k2] at hk;cases hk
 .by_cases k1:q=lab
  .rw [if_pos k1] at hk
   cases hk
   subst k1
   simp only [SB.aN,e1,Option.map_some,aU] at hp
   subst hp
   right;left
   exact ⟨l,_,hl,rfl,Uj,by simp [if_neg (show ¬ l=q by omega)]⟩
  .rw [if_neg k1] at hk
   by_cases k2:q=l
   .rw [if_pos k2] at hk;cases hk;cases hp
   .rw [if_neg k2] at hk;cases hk
 .intro Pl
  by_cases k1:q=lab
  .by_cases k2:q'=lab
   .omega
   .rw [if_neg k2] at gW
    by_cases k3:q'=l
    .rw [if_pos k3] at gW;cases gW;cases Pl
    .rw [if_neg k3] at gW;cases gW
  .rw [if_neg k1] at hk
   by_cases k3:q=l
   .rw [if_pos k3] at hk;cases hk;cases ho
   .rw [if_neg k3] at hk;cases hk
end
noncomputable def JS (F0 N:Nat) (B:aZ) (t cap:Nat) (zs:List Int) (s:St):Option St:=match s.g.get t with
 | some (.buf l)=>match s.T B l with
   | some (.cT k xs el)=>s.step F0 N (some t) { val:=.aG s.nx false 0 xs.length cap,new:=[.ints k (xs++zs) el],wr:=[(l,.gone)] } s.nx (s.nx+8)
   | _=>none
 | _=>none
noncomputable def Rc (F0 N:Nat) (B:aZ) (t cap:Nat) (zs:List Int) (s:St):St:=match JS F0 N B t cap zs s with
 | some s'=>s'
 | none=>s
section
variable {P:Program} {Γ:Env} {w0:World} {M:Nat->Prop} {B:aZ} {N F0:Nat} {V0:aY}
theorem G.grown {t l:Nat} {k:IntKind} {xs:List Int} {el:TypeId} {cf:Cf} {K:List Fr} {s:St} {Q:Exit->Act->World->Prop} (ht:s.g.get t=some (.buf l)) (hB:s.T B l=some (.cT k xs el)) (Er:0<xs.length)
 (hG:∀ cap zs,xs.length+zs.length=cap->cap<=maxLen->G P Γ w0 M B N F0 V0 cf K (Rc F0 N B t cap zs s) Q):G P Γ w0 M B N F0 V0 cf K s Q:=by
 intro V a w hi
 obtain ⟨cap,zs,h1,h2,V',hV,hx,hT⟩:=aC.grown hi.eG hi.top.fresh hi.hi hB Er (hi.tmp t _ ht)
 have hG':=hG cap zs h1 h2
 unfold Rc at hG'
 split at hG'
 .rename_i s' hs
  unfold JS at hs
  rw [ht] at hs
  simp only [hB] at hs
  have:=hi.step (x:=a.eval (.tmp t)) hs (Nat.le_refl _) (Nat.le_refl _) hV (fun _=>hx) hT
  rw [Act.iM] at this
  exact hG' V' a w this
 .exact hG' V a w hi
end
noncomputable def aPq (rm:List Int->List Int) (sb:zT) (ob:yV) (so oo:Int->Nat):Nat->Option Sum:=dM (dM (dM (dM (dM (dM gC 9 (aK aB 100 (Up sb so))) 12 (aK aB 100 (Ut ob oo))) 8 (aK aB 100 (FL rm))) 11 (aK aB 100 FH)) 13 (aK aB 100 (FG rm))) 14 (aK aB 100 GM)
def Fm:Int->Nat:=fun _=>0
def Lo (x y N:Int) (key:List Int) (la lp lr:Nat):List SV:=[.int false .i64 x,.int false .i64 y,.ai .u8 key,.int false .u64 N,.eV 60 la,.eV 61 lp,.eV 62 lr]
def abL (ad p r:List Int):List (Nat × SB):=[(60,.gQ .u8 ad),(61,.gQ .u8 p),(62,.gQ .u8 r)]++(erO++SM)
def Pp (ad p r:List Int):aZ:=fun l=>look l (abL ad p r)
noncomputable def El (rm:List Int->List Int) (sb:zT) (ob:yV) (so oo:Int->Nat) (e:Nat):Env:=env (dM (aPq rm sb ob so oo) 10 (aK aB 100 (GH e))) 22
noncomputable def abN (rm:List Int->List Int) (sb:zT) (ob:yV) (e:Nat) (ad p r:List Int) (k:Nat) (cf:Cf) (K:List Fr) (s:St):Option pU:=gZ (El rm sb ob Fm Fm e) (bH 100 (Pp ad p r)) 100 Tryz.f3.ntmps [] 400 k cf K s
def aPz (x y N:Int) (la lp lr m:Nat):List (Nat × SV):=[(0,.int false .i64 x),(1,.int false .i64 y),(3,.int false .u64 N),(4,.eV 60 la),(5,.eV 61 lp),(6,.eV 62 lr),(9,.ptr 100 true 0),(15,.buf 101),(16,.aG 102 false 0 m m)]
def VD (key X Z:List Int):List (Nat × SB):=[(100,.ints .u8 key 23),(101,.cT .u8 X 5),(102,.ints .u8 Z 5)]
def aPy (y N:Int) (la lp lr n m:Nat):List (Nat × SV):=[(1,.int false .i64 y),(3,.int false .u64 N),(4,.eV 60 la),(5,.eV 61 lp),(6,.eV 62 lr),(9,.ptr 100 true 0),(15,.buf 101),(16,.aG 102 false 0 m m),(17,.int false .i64 (n:Int)),(18,.raw .nilIface)]
def aPx (y N:Int) (la lp lr n m:Nat):List (Nat × SV):=[(1,.int false .i64 y),(3,.int false .u64 N),(4,.eV 60 la),(5,.eV 61 lp),(6,.eV 62 lr),(9,.ptr 100 true 0),(15,.buf 101),(16,.aG 102 false 0 m m),(17,.int false .i64 (n:Int)),(19,.buf 103)]
def aPw (lp lr n m:Nat) (k:Int):List (Nat × SV):=[(5,.eV 61 lp),(6,.eV 62 lr),(15,.buf 100),(16,.aG 101 false 0 m m),(17,.int false .i64 (n:Int)),(18,.raw .nilIface),(19,.buf 102),(20,.int false .i64 k)]
def aQd (key X Z W:List Int):List (Nat × SB):=[(100,.ints .u8 key 23),(101,.cT .u8 X 5),(102,.ints .u8 Z 5),(103,.cT .u8 W 5)]
def aQc (X Z W:List Int):List (Nat × SB):=[(100,.cT .u8 X 5),(101,.ints .u8 Z 5),(102,.cT .u8 W 5)]
def aPv (m:Nat):List (Nat × SV):=[(15,.buf 100),(16,.aG 101 false 0 m m)]
def aQb (X Z:List Int):List (Nat × SB):=[(100,.cT .u8 X 5),(101,.ints .u8 Z 5)]
def aPu (lx cap m:Nat):List (Nat × SV):=[(15,.aG 100 false 0 lx cap),(16,.aG 101 false 0 m m)]
def aQa (Y Z:List Int):List (Nat × SB):=[(100,.ints .u8 Y 5),(101,.ints .u8 Z 5)]
theorem bBu (e:Nat) (he:e=1\/e=2) (rm:List Int->List Int) (sb:zT) (ob:yV) (x y N:Int) (key ad p r X Z:List Int) (m:Nat) :
 (fM 100 Tryz.f3.ntmps (bH 100 (Pp ad p r)) [] (aPz x y N ad.length p.length r.length m) (VD key X Z) 103 [] [] (abN rm sb ob e ad p r 22 (.go (codeOf Tryz.f3)) [] ((zM (Lo x y N key ad.length p.length r.length) 100).hint [false,false,false]))) =
 sh (0:Nat) fun z1=>
 sh (16:Nat) fun z3=>
 sh (0:Int) fun z2=>
 sh (List.take z1 []++p++List.replicate z3 z2++r) fun z0=>
 sh (131072:Int) fun z4=>
 sh (140737488355328:Nat) fun z5=>
 some (.go (gH 6 (codeOf Tryz.f3)),[],[Zd rm z0,z0.length<=(1073741824:Nat),z0.length=z0.length,List.take z1 []++p++List.replicate z3 z2++r=List.take z1 []++p++List.replicate z3 z2++r,((List.take z1 []++p++List.replicate z3 z2).length+r.length)*(1:Nat)<=z5,z2<(16:Int)/\((↑(List.take z1 []++p).length:Int)+(16:Int))*(1:Int)<=(140737488355328:Int),(z1+p.length)*(1:Nat)<=z5,decide ((↑r.length:Int)>z4)=false,decide ((↑p.length:Int)>z4)=false,decide ((↑ad.length:Int)>z4)=false,x=x,y=y,N=N,ad.length=ad.length,p.length=p.length,r.length=r.length,z1=z1,z0.length+(70:Nat)=m,z0.length+(70:Nat)=m,key=key/\(23:Nat)=(23:TypeId),List.take z1 []++p++List.replicate z3 z2++r=X,rm z0=Z/\(5:TypeId)=(5:TypeId)]):=by rcases he with rfl | rfl <;> kernel_rfl
theorem bBt (e:Nat) (he:e=1\/e=2) (rm:List Int->List Int) (sb:zT) (ob:yV) (x y N:Int) (key ad p r X Z Z':List Int) (n m lp lr:Nat) :
 (fM 100 Tryz.f3.ntmps (bH 100 (Pp ad p r)) [] (aPy y N ad.length lp lr n m) (VD key X Z') 103 [] [] (abN rm sb ob e ad p r 3 (.go (gH 6 (codeOf Tryz.f3))) [] ((cB (aPz x y N ad.length lp lr m) (VD key X Z) 103 [] []).hint []))) =
 sh (↑X.length:Int) fun z0=>
 sh (0:Nat) fun z1=>
 sh (↑m:Int) fun z2=>
 sh (↑lp:Int) fun z3=>
 sh (0:Int) fun z4=>
 sh (5:TypeId) fun z5=>
 some (.go (gH 7 (codeOf Tryz.f3)),[],[EM sb key N ad Z z3.toNat,dE e,key.length=(32:Nat),bR ad,bR Z,ad.length<=(500000000:Nat),z3.toNat+(16:Nat)<=z0.toNat-z1,z0.toNat-z1<=z2.toNat-z1,z0.toNat-z1<=Z.length,z2.toNat-z1<=(500000000:Nat),key=key,N=N,ad.length=ad.length,ad.length=ad.length,z1=z1,z0.toNat-z1=z0.toNat-z1,z2.toNat-z1=z2.toNat-z1,z3=(↑z3.toNat:Int),Z=Z/\z5=z5,ad=ad,z4<=z2/\z2<=z2/\z4<=z0/\z0<=z2/\z4<=z4/\z4<=z0,key.length=(32:Nat),(e=1\/e=2),(x.tmod (2:Int) != z4)=mkF e,x=x,y=y,N=N,ad.length=ad.length,lp=lp,lr=lr,z1=z1,m=m,m=m,(↑(z3.toNat+(16:Nat)):Int)=(↑n:Int),key=key/\(23:TypeId)=(23:TypeId),X=X,sb key N ad Z z3.toNat=Z'/\z5=z5]):=by rcases he with rfl | rfl <;> kernel_rfl
theorem bBs (e:Nat) (he:e=1\/e=2) (rm:List Int->List Int) (sb:zT) (ob:yV) (y N:Int) (key ad p r X Z W:List Int) (n m lp lr:Nat) :
 (fM 100 Tryz.f3.ntmps (bH 100 (Pp ad p r)) [] (aPx y N ad.length lp lr n m) (aQd key X Z W) 104 [] [] (abN rm sb ob e ad p r 10 (.go (gH 7 (codeOf Tryz.f3))) [] ((cB (aPy y N ad.length lp lr n m) (VD key X Z) 103 [] []).hint [false]))) =
 sh (↑m:Int) fun z3=>
 sh (↑n:Int) fun z1=>
 sh (0:Nat) fun z5=>
 sh (1:Nat) fun z8=>
 sh (List.drop (if z3=z1 then z5 else z5+z1.toNat*z8) Z) fun z0=>
 sh (↑X.length:Int) fun z4=>
 sh (z4.toNat-z1.toNat) fun z2=>
 sh (↑lp:Int) fun z6=>
 sh (List.drop (if z3=z6 then z5 else z5+z6.toNat*z8) Z) fun z7=>
 sh (z1.toNat-z6.toNat) fun z9=>
 sh (0:Int) fun iJ=>
 sh (List.take z2 z0) fun iQ=>
 some (.go (gH 9 (codeOf Tryz.f3)),[],[(z5+(List.take z9 z7).length)*z8<=(140737488355328:Nat),(if z3=z6 then z5 else z5+z6.toNat*z8)+z9<=Z.length,iJ<=z3/\z3<=z3/\iJ<=z1/\z1<=z3/\iJ<=z6/\z6<=z1,List.take z2 z0=r,iQ.length<=(1073741824:Nat),(if z3=z1 then z5 else z5+z1.toNat*z8)+z2<=Z.length/\z4.toNat-z1.toNat<=z3.toNat-z1.toNat,(if z3=z1 then z5 else z5+z1.toNat*z8)=if z3=z1 then z5 else z5+z1.toNat*z8,z4.toNat-z1.toNat=z4.toNat-z1.toNat,z3.toNat-z1.toNat=z3.toNat-z1.toNat,(if z3=z1 then z5 else z5+z1.toNat*z8)+z2<=Z.length/\z4.toNat-z1.toNat<=z3.toNat-z1.toNat,iQ.length=iQ.length,lr=lr,r.length=r.length,List.take z2 z0=List.take z2 z0,(if z3=z1 then z5 else z5+z1.toNat*z8)+z2<=Z.length/\z4.toNat-z1.toNat<=z3.toNat-z1.toNat,r=r,iJ<=z3/\z3<=z3/\iJ<=z4/\z4<=z3/\iJ<=z1/\z1<=z4,(z1 != IntKind.i64.wrap (z6+(16:Int)))=false,y=y,N=N,ad.length=ad.length,lp=lp,lr=lr,z5=z5,m=m,m=m,z1=z1,key=key/\(23:TypeId)=(23:TypeId),X=X,Z=Z/\(5:TypeId)=(5:TypeId),List.take z5 []++List.take z9 z7=W]):=by rcases he with rfl | rfl <;> kernel_rfl
theorem bBr (e:Nat) (he:e=1\/e=2) (rm:List Int->List Int) (sb:zT) (ob:yV) (y N k:Int) (key ad p r X Z Z' W:List Int) (n m lp lr:Nat) :
 (fM 100 Tryz.f3.ntmps (bH 100 (Pp ad p r)) [] (aPw lp lr n m k) (aQc X Z' W) 103 [] [] (abN rm sb ob e ad p r 3 (.go (gH 9 (codeOf Tryz.f3))) [] ((cB (aPx y N ad.length lp lr n m) (aQd key X Z W) 104 [] []).hint []))) =
 sh (↑X.length:Int) fun z0=>
 sh (↑n:Int) fun z4=>
 sh (16:Nat) fun z6=>
 sh (z4.toNat-z6) fun z1=>
 sh (0:Nat) fun z2=>
 sh (↑m:Int) fun z3=>
 sh (0:Int) fun z5=>
 sh (5:TypeId) fun z7=>
 some (.go (gH 10 (codeOf Tryz.f3)),[],[EN ob true key N Z z1,dE e,key.length=(32:Nat),bR ad,bR Z,ad.length<=(500000000:Nat),z4.toNat-z6+z6<=z0.toNat-z2,z0.toNat-z2<=z3.toNat-z2,z0.toNat-z2<=Z.length,z3.toNat-z2<=(500000000:Nat),Mj true key N ad Z z1,key=key,N=N,ad.length=ad.length,ad.length=ad.length,z2=z2,z0.toNat-z2=z0.toNat-z2,z3.toNat-z2=z3.toNat-z2,z4=(↑(z4.toNat-z6+z6):Int),Z=Z/\z7=z7,ad=ad,z5<=z3/\z3<=z3/\z5<=z0/\z0<=z3/\z5<=z5/\z5<=z0,key.length=(32:Nat),(e=1\/e=2),(y.tmod (2:Int) != z5)=mkF e,y=y,lp=lp,lr=lr,z2=z2,m=m,m=m,z4=z4,(↑z1:Int)=k,X=X,ob true key N Z z1=Z'/\z7=z7,W=W]):=by rcases he with rfl | rfl <;> kernel_rfl
theorem bBq (e:Nat) (he:e=1\/e=2) (rm:List Int->List Int) (sb:zT) (ob:yV) (k:Int) (ad p r X Z W:List Int) (n m lp lr:Nat) :
 (fM 100 Tryz.f3.ntmps (bH 100 (Pp ad p r)) [] (aPv m) (aQb X Z) 102 [] [] (abN rm sb ob e ad p r 7 (.go (gH 10 (codeOf Tryz.f3))) [] ((cB (aPw lp lr n m k) (aQc X Z W) 103 [] []).hint [false]))) =
 sh (↑n:Int) fun z0=>
 sh (0:Nat) fun z1=>
 sh (↑m:Int) fun z2=>
 sh (1:Nat) fun z9=>
 sh (List.drop (if z2=z0 then z1 else z1+z0.toNat*z9) Z) fun z3=>
 sh (List.drop (if z2=k then z1 else z1+k.toNat*z9) Z) fun z4=>
 sh (↑X.length:Int) fun z7=>
 sh (z7.toNat-z0.toNat) fun z5=>
 sh (z0.toNat-k.toNat) fun z6=>
 sh (k.toNat-z1) fun z8=>
 sh (List.drop z1 Z) fun iJ=>
 sh (0:Int) fun iQ=>
 sh (1073741824:Nat) fun sF=>
 sh (List.take z8 iJ) fun Ou=>
 sh (List.take z5 z3) fun CL=>
 sh (List.take z6 z4) fun QO=>
 some (.go (gH 11 (codeOf Tryz.f3)),[],[List.take z5 z3=r,CL.length<=sF,(if z2=z0 then z1 else z1+z0.toNat*z9)+z5<=Z.length/\z7.toNat-z0.toNat<=z2.toNat-z0.toNat,(if z2=z0 then z1 else z1+z0.toNat*z9)=if z2=z0 then z1 else z1+z0.toNat*z9,z7.toNat-z0.toNat=z7.toNat-z0.toNat,z2.toNat-z0.toNat=z2.toNat-z0.toNat,(if z2=z0 then z1 else z1+z0.toNat*z9)+z5<=Z.length/\z7.toNat-z0.toNat<=z2.toNat-z0.toNat,CL.length=CL.length,lr=lr,r.length=r.length,List.take z5 z3=List.take z5 z3,(if z2=z0 then z1 else z1+z0.toNat*z9)+z5<=Z.length/\z7.toNat-z0.toNat<=z2.toNat-z0.toNat,r=r,iQ<=z2/\z2<=z2/\iQ<=z7/\z7<=z2/\iQ<=z0/\z0<=z7,List.take z6 z4=W,QO.length<=sF,(if z2=k then z1 else z1+k.toNat*z9)+z6<=Z.length/\z0.toNat-k.toNat<=z2.toNat-k.toNat,(if z2=k then z1 else z1+k.toNat*z9)=if z2=k then z1 else z1+k.toNat*z9,z0.toNat-k.toNat=z0.toNat-k.toNat,z2.toNat-k.toNat=z2.toNat-k.toNat,(if z2=k then z1 else z1+k.toNat*z9)+z6<=Z.length/\z0.toNat-k.toNat<=z2.toNat-k.toNat,QO.length=QO.length,W.length=W.length,List.take z6 z4=List.take z6 z4,(if z2=k then z1 else z1+k.toNat*z9)+z6<=Z.length/\z0.toNat-k.toNat<=z2.toNat-k.toNat,W=W,iQ<=z2/\z2<=z2/\iQ<=z0/\z0<=z2/\iQ<=k/\k<=z0,List.take z8 iJ=p,Ou.length<=sF,z1+z8<=Z.length/\k.toNat-z1<=z2.toNat-z1,z1=z1,k.toNat-z1=k.toNat-z1,z2.toNat-z1=z2.toNat-z1,z1+z8<=Z.length/\k.toNat-z1<=z2.toNat-z1,Ou.length=Ou.length,lp=lp,p.length=p.length,List.take z8 iJ=List.take z8 iJ,z1+z8<=Z.length/\k.toNat-z1<=z2.toNat-z1,p=p,iQ<=z2/\z2<=z2/\iQ<=k/\k<=z2/\iQ<=iQ/\iQ<=k,(k != (↑lp:Int))=false,z1=z1,m=m,m=m,X=X,Z=Z/\(5:TypeId)=(5:TypeId)]):=by rcases he with rfl | rfl <;> kernel_rfl
theorem bBp (e:Nat) (he:e=1\/e=2) (rm:List Int->List Int) (sb:zT) (ob:yV) (ad p r X Y Z zs:List Int) (m cap lx:Nat) :
 (fM 100 Tryz.f3.ntmps (bH 100 (Pp ad p r)) [] (aPu lx cap m) (aQa Y Z) 102 [] [] (abN rm sb ob e ad p r 3 (.go (gH 11 (codeOf Tryz.f3))) [] ((Rc 100 Tryz.f3.ntmps (bH 100 (Pp ad p r)) 15 cap zs (cB (aPv m) (aQb X Z) 102 [] [])).hint []))) =
 sh (↑X.length:Int) fun z1=>
 sh (0:Nat) fun z2=>
 sh (List.take (z1.toNat-z2) (List.drop z2 Z)) fun z0=>
 sh (↑m:Int) fun z3=>
 sh (5:TypeId) fun z4=>
 sh (0:Int) fun z5=>
 some (.go (gH 12 (codeOf Tryz.f3)),[],[z2+z0.length.min X.length<=(X++zs).length,z2+(z1.toNat-z2)<=Z.length,z5<=z3/\z3<=z3/\z5<=z1/\z1<=z3/\z5<=z5/\z5<=z1,z2=z2,X.length=lx,cap=cap,z2=z2,m=m,m=m,List.take z2 (X++zs)++List.take (z0.length.min X.length) z0++List.drop (z2+z0.length.min X.length) (X++zs)=Y/\z4=z4,Z=Z/\z4=z4]):=by rcases he with rfl | rfl <;> kernel_rfl
theorem bBo (e:Nat) (he:e=1\/e=2) (rm:List Int->List Int) (sb:zT) (ob:yV) (ad p r Y Z:List Int) (m cap lx:Nat) :
 sW (El rm sb ob Fm Fm e) (Pp ad p r) 100 100 Tryz.f3 [] (abN rm sb ob e ad p r 400 (.go (gH 12 (codeOf Tryz.f3))) [] ((cB (aPu lx cap m) (aQa Y Z) 102 [] []).hint [])) =
 sh (0:Nat) fun z1=>
 sh (List.drop z1 Y) fun z3=>
 sh (List.take lx z3) fun z0=>
 sh (List.drop z1 Z) fun z2=>
 some {bM:=[Zd rm z0,List.take m z2=rm z0,z0.length<=(1073741824:Nat),z1+m<=Z.length/\m<=m,z1+lx<=Y.length/\lx<=cap,z1=z1,m=m,m=m,z1+m<=Z.length/\m<=m,(List.take m z2).length=(List.take m z2).length,z1=z1,lx=lx,cap=cap,z1+lx<=Y.length/\lx<=cap,z0.length=z0.length,List.take m z2=List.take m z2,z1+m<=Z.length/\m<=m,List.take lx z3=List.take lx z3,z1+lx<=Y.length/\lx<=cap],val:=SV.bool true true}:=by rcases he with rfl | rfl <;> kernel_rfl
theorem bBn (e:Nat) (he:e=1\/e=2) (rm:List Int->List Int) (sb:zT) (ob:yV) (x y N:Int) (key ad p r:List Int) :
 aJ (El rm sb ob Fm Fm e) Tryz.f3 true [true] 400 (Lo x y N key ad.length p.length r.length) (Pp ad p r) 100 100 =
 some {bM:=[decide ((↑ad.length:Int)>(131072:Int))=true],val:=SV.bool true true}:=by rcases he with rfl | rfl <;> kernel_rfl
theorem bBm (e:Nat) (he:e=1\/e=2) (rm:List Int->List Int) (sb:zT) (ob:yV) (x y N:Int) (key ad p r:List Int) :
 aJ (El rm sb ob Fm Fm e) Tryz.f3 true [false,true] 400 (Lo x y N key ad.length p.length r.length) (Pp ad p r) 100 100 =
 some {bM:=[decide ((↑p.length:Int)>(131072:Int))=true,decide ((↑ad.length:Int)>(131072:Int))=false],val:=SV.bool true true}:=by rcases he with rfl | rfl <;> kernel_rfl
theorem bBl (e:Nat) (he:e=1\/e=2) (rm:List Int->List Int) (sb:zT) (ob:yV) (x y N:Int) (key ad p r:List Int) :
 aJ (El rm sb ob Fm Fm e) Tryz.f3 true [false,false,true] 400 (Lo x y N key ad.length p.length r.length) (Pp ad p r) 100 100 =
 sh (131072:Int) fun z0=>
 some {bM:=[decide ((↑r.length:Int)>z0)=true,decide ((↑p.length:Int)>z0)=false,decide ((↑ad.length:Int)>z0)=false],val:=SV.bool true true}:=by rcases he with rfl | rfl <;> kernel_rfl
namespace Q
def mks (n:Nat):List Int:=(List.range 70).map fun j=>mk (n+j)
theorem IP (xs:List Int):kM xs=xs++mks xs.length:=rfl
theorem So (n:Nat):(mks n).length=70:=by simp [mks]
theorem Wq (n:Nat):bR (mks n):=by
 intro x hx
 simp only [mks,List.mem_map] at hx
 obtain ⟨j,_,rfl⟩:=hx
 exact aKb _
theorem YF {xs:List Int} (h:bR xs):bR (kM xs):=lQ h (Wq _)
end Q
theorem aCa (rm:List Int->List Int) (sb:zT) (ob:yV) (so oo:Int->Nat):∀ f S,aPq rm sb ob so oo f=some S->∀ Γ:Env,Γ.aR=aB->aH Tryz.prog Γ f S:=
 bD (bD (bD (bD (bD (bD gM 9 _ (IL sb so)) 12 _ (IZ ob oo)) 8 _ (aJg rm)) 11 _ aJe) 13 _ (aJd rm)) 14 _ aKo
theorem Jd (rm:List Int->List Int) (sb:zT) (ob:yV) (so oo:Int->Nat) (e:Nat):cA Tryz.prog (El rm sb ob so oo e):=bQ _ 22
theorem Je (rm:List Int->List Int) (sb:zT) (ob:yV) (so oo:Int->Nat) (e:Nat):cK Tryz.prog (El rm sb ob so oo e):=bW _ (bD (aCa rm sb ob so oo) 10 _ (aKa e)) 22
theorem Qj (rm:List Int->List Int) (sb:zT) (ob:yV) (so oo:Int->Nat) (e e':Nat):(El rm sb ob so oo e).aR=(El rm sb ob so oo e').aR:=by kernel_rfl
noncomputable abbrev ΓW (e:Nat):Env:=El Q.kM Q.iL Q.Uf Fm Fm e
def Lh (x:Int):Nat:=if (x.tmod 2 != 0)=true then 1 else 2
theorem Xi (x:Int):Lh x=1\/Lh x=2:=by unfold Lh;split <;> simp
theorem Xh (x:Int):(x.tmod 2 != 0)=mkF (Lh x):=by
 unfold Lh
 split
 .rename_i h;rw [h];rfl
 .rename_i h;rw [Bool.not_eq_true] at h;rw [h];rfl
theorem Nh {e:Nat} (h:e=1\/e=2):dE e:=.inr h
theorem aNt {x y N:Int} {key ad p r:List Int} (h:ad.length>131072\/p.length>131072\/r.length>131072):aF Tryz.prog (ΓW 1) 3 (Lo x y N key ad.length p.length r.length) (Pp ad p r) 100 100 { val:=.bool true true }:=by
 have hI:∀ hs,aH Tryz.prog (ΓW 1) 3 (aJ (ΓW 1) Tryz.f3 true hs 400):=fun hs=>aM (Jd _ _ _ _ _ _) (Je _ _ _ _ _ _) mix Tryz.func3 (by kernel_rfl) true hs 400
 by_cases h1:ad.length>131072
 .exact ((hI _).call (bBn 1 (.inl rfl) _ _ _ x y N key ad p r) (aA ⟨decide_eq_true (by omega),trivial⟩)).words rfl (fun _=>rfl) (fun _ _ h=>h) (fun _=>rfl) rfl rfl
 .by_cases h2:p.length>131072
  .exact ((hI _).call (bBm 1 (.inl rfl) _ _ _ x y N key ad p r) (aA ⟨decide_eq_true (by omega),decide_eq_false (by omega),trivial⟩)).words rfl (fun _=>rfl) (fun _ _ h=>h) (fun _=>rfl) rfl rfl
  .exact ((hI _).call (bBl 1 (.inl rfl) _ _ _ x y N key ad p r) (aA ⟨decide_eq_true (by omega),decide_eq_false (by omega),decide_eq_false (by omega),trivial⟩)).words rfl (fun _=>rfl) (fun _ _ h=>h) (fun _=>rfl) rfl rfl
theorem aDi {x y N:Int} {key ad p r:List Int} (hk:key.length=32) (ha:bR ad) (hp:bR p) (hr:bR r) (la:ad.length<=131072) (lp:p.length<=131072) (lr:r.length<=131072) :
 aF Tryz.prog (ΓW (Lh x)) 3 (Lo x y N key ad.length p.length r.length) (Pp ad p r) 100 100 { val:=.bool true true }:=by
 have he:=Xi x
 have hE:=Nh he
 have hm:=Xh x
 have he2:=Xi y
 have hE2:=Nh he2
 have hm2:=Xh y
 generalize Lh x=e at *
 generalize Lh y=e2 at *
 have aT:=Jd Q.kM Q.iL Q.Uf Fm Fm e
 have aX:=Je Q.kM Q.iL Q.Uf Fm Fm e
 refine gR aT aX Tryz.func3 (by kernel_rfl) rfl (Nat.le_of_ble_eq_true (by kernel_rfl)) rfl [] ?_
 intro w0 Mx V0 Qx eE H
 have hz:bR (List.replicate 16 (0:Int)):=Q.Aj 16
 have hXl:(p++List.replicate 16 0++r).length=p.length+16+r.length:=by simp only [List.length_append,List.length_replicate]
 have hXB:bR (p++List.replicate 16 0++r):=Q.lQ (Q.lQ hp hz) hr
 have hZ:Q.kM (p++List.replicate 16 0++r)=p++(List.replicate 16 0++(r++Q.mks (p.length+16+r.length))):=by
  rw [Q.IP,hXl];simp only [List.append_assoc]
 have hZB:=Q.YF hXB
 have hZl:(Q.kM (p++List.replicate 16 0++r)).length=p.length+16+r.length+70:=by rw [Q.tQ,hXl]
 generalize hX:p++List.replicate 16 0++r=X at *
 generalize An:Q.mks (p.length+16+r.length)=K at *
 have hKl:K.length=70:=by rw [<- An,Q.So]
 have gD:0<X.length:=by omega
 have d1:decide ((r.length:Int)>131072)=false:=decide_eq_false (by omega)
 have d2:decide ((p.length:Int)>131072)=false:=decide_eq_false (by omega)
 have d3:decide ((ad.length:Int)>131072)=false:=decide_eq_false (by omega)
 refine G.fM aT aX mix eE [false,false,false] (bBu e he Q.kM Q.iL Q.Uf x y N key ad p r X (Q.kM X) (X.length+70)) (aA ?_) ?_
 .simp only [bX,List.take_zero,List.nil_append,hX,List.length_append,List.length_replicate]
  repeat' apply And.intro
  all_goals first | rfl | assumption | omega | trivial | exact ⟨rfl⟩
 have Uy:Q.iL key N ad (Q.kM X) p.length=Q.cx key N p++(Q.tg key N ad (Q.cx key N p)++(r++K)):=by rw [hZ];exact Q.Dk key N ad p _ _ (by simp)
 have hCl:=Q.oZ key N p
 have hCB:=Q.JZ key N hp
 have hTl:=Q.xQ key N ad (Q.cx key N p)
 have hTB:=Q.IG key N ad (Q.cx key N p)
 have Aq:=Q.aEy key N hp
 generalize hC:Q.cx key N p=C at *
 generalize hT:Q.tg key N ad C=Tg at *
 have aZl:(C++(Tg++(r++K))).length=X.length+70:=by simp only [List.length_append];omega
 have bCk:bR (C++(Tg++(r++K))):=by rw [<- Uy];exact Q.KX _ _ _ _ hZB
 have hKB:bR K:=by rw [<- An];exact Q.Wq _
 refine G.fM aT aX mix eE [] (bBt e he Q.kM Q.iL Q.Uf x y N key ad p r X (Q.kM X) (C++(Tg++(r++K))) (p.length+16) (X.length+70) p.length r.length) (aA ?_) ?_
 .simp only [bX,Int.toNat_natCast,Nat.sub_zero,Uy]
  repeat' apply And.intro
  all_goals first | rfl | assumption | omega | trivial | exact ⟨rfl⟩
 have hsf:∀ a:Nat,a<X.length+70->(if ((X.length+70:Nat):Int)=(a:Int) then 0 else 0+a*1)=a:=fun a ha=>by rw [if_neg (by omega)];omega
 have g1:List.drop p.length (C++(Tg++(r++K)))=Tg++(r++K):=by rw [<- hCl,List.drop_left]
 have g2:List.drop (p.length+16) (C++(Tg++(r++K)))=r++K:=by rw [<- hCl,List.drop_length_add_append,<- hTl,List.drop_left]
 have g3:List.take 16 (Tg++(r++K))=Tg:=by rw [<- hTl,List.take_left]
 have g4:List.take r.length (r++K)=r:=List.take_left
 have g5:X.length-(p.length+16)=r.length:=by omega
 have g6:p.length+16-p.length=16:=by omega
 have g7:((p.length+16:Nat):Int)=IntKind.i64.wrap ((p.length:Int)+16):=by rw [IntWalk.i64_in _ ⟨by omega,by omega⟩];omega
 have g8:(((p.length+16:Nat):Int) != IntKind.i64.wrap ((p.length:Int)+16))=false:=by rw [<- g7];simp
 refine G.fM aT aX mix eE [false] (bBs e he Q.kM Q.iL Q.Uf y N key ad p r X (C++(Tg++(r++K))) Tg (p.length+16) (X.length+70) p.length r.length) (aA ?_) ?_
 .simp only [bX,Int.toNat_natCast,Nat.sub_zero,hsf p.length (by omega),hsf (p.length+16) (by omega),g1,g2,g5,g6,g3,g4,List.take_zero,List.nil_append,aZl,hTl]
  repeat' apply And.intro
  all_goals first | rfl | assumption | omega | trivial | exact ⟨rfl⟩
 have bT:Q.mU key N (C++(Tg++(r++K))) p.length=p++(Tg++(r++K)):=by rw [<- hCl,Q.Dq,Aq]
 have hdt:decide (Q.tg key N ad (List.take p.length (C++(Tg++(r++K))))=List.take 16 (List.drop p.length (C++(Tg++(r++K)))))=true:=by
  rw [g1,g3,<- hCl,List.take_left,hT];exact decide_eq_true rfl
 refine G.Kq (Qj _ _ _ _ _ e2 e) ?_
 refine G.fM (Jd Q.kM Q.iL Q.Uf Fm Fm e2) (Je Q.kM Q.iL Q.Uf Fm Fm e2) mix (eE.Kq (Qj _ _ _ _ _ e2 e)) [] (bBr e2 he2 Q.kM Q.iL Q.Uf y N (p.length:Int) key ad p r X (C++(Tg++(r++K))) (p++(Tg++(r++K))) Tg (p.length+16) (X.length+70) p.length r.length) (aA ?_) ?_
 .simp only [bX,Int.toNat_natCast,Nat.sub_zero,Nat.add_sub_cancel]
  repeat' apply And.intro
  all_goals first | rfl | assumption | omega | trivial | exact ⟨rfl⟩ | exact ⟨hdt⟩
 refine G.Kq (Qj _ _ _ _ _ e e2) ?_
 have aGi:(p++(Tg++(r++K))).length=X.length+70:=by simp only [List.length_append];omega
 have k1:List.drop p.length (p++(Tg++(r++K)))=Tg++(r++K):=List.drop_left
 have k2:List.drop (p.length+16) (p++(Tg++(r++K)))=r++K:=by rw [List.drop_length_add_append,<- hTl,List.drop_left]
 have k3:List.take p.length (p++(Tg++(r++K)))=p:=List.take_left
 have k4:((p.length:Int) != (p.length:Int))=false:=by simp
 refine G.fM aT aX mix eE [false] (bBq e he Q.kM Q.iL Q.Uf (p.length:Int) ad p r X (p++(Tg++(r++K))) Tg (p.length+16) (X.length+70) p.length r.length) (aA ?_) ?_
 .simp only [bX,Int.toNat_natCast,Nat.sub_zero,hsf p.length (by omega),hsf (p.length+16) (by omega),k1,k2,k3,g5,g6,g3,g4,List.drop_zero,aGi,hTl]
  repeat' apply And.intro
  all_goals first | rfl | assumption | omega | trivial | exact ⟨rfl⟩
 refine G.grown (t:=15) (l:=100) (k:=.u8) (xs:=X) (el:=5) (by kernel_rfl) (by kernel_rfl) gD ?_
 intro cap zs qC Ib
 have u1:List.take X.length (p++(Tg++(r++K)))=p++(Tg++r):=by
  have e1:p++(Tg++(r++K))=(p++(Tg++r))++K:=by simp only [List.append_assoc]
  have e2:X.length=(p++(Tg++r)).length:=by simp only [List.length_append];omega
  rw [e1,e2,List.take_left]
 have u2:(p++(Tg++r)).length=X.length:=by simp only [List.length_append];omega
 have u3:List.drop X.length (X++zs)=zs:=List.drop_left
 have u4:X.length.min X.length=X.length:=Nat.min_self _
 have u5:List.take X.length (p++(Tg++r))=p++(Tg++r):=List.take_of_length_le (by omega)
 refine G.fM aT aX mix eE [] (bBp e he Q.kM Q.iL Q.Uf ad p r X (p++(Tg++r)++zs) (p++(Tg++(r++K))) zs (X.length+70) cap X.length) (aA ?_) ?_
 .simp only [bX,Int.toNat_natCast,Nat.sub_zero,List.drop_zero,List.take_zero,List.nil_append,u1,u2,u4,u5,Nat.zero_add,u3,aGi]
  repeat' apply And.intro
  all_goals first | rfl | assumption | omega | trivial | (rw [List.length_append];omega)
 have v1:List.take X.length (p++(Tg++r)++zs)=p++(Tg++r):=by rw [<- u2,List.take_left]
 have v2:List.take (X.length+70) (p++(Tg++(r++K)))=p++(Tg++(r++K)):=List.take_of_length_le (by omega)
 have v3:p++(Tg++(r++K))=Q.kM (p++(Tg++r)):=by
  rw [Q.IP,u2,hXl,An];simp only [List.append_assoc]
 have v4:(p++(Tg++r)++zs).length=X.length+zs.length:=by rw [List.length_append,u2]
 refine G.qR (cl:=[]) aT aX mix [] H (bBo e he Q.kM Q.iL Q.Uf ad p r (p++(Tg++r)++zs) (p++(Tg++(r++K))) (X.length+70) cap X.length) (aA ?_) rfl rfl rfl
 simp only [bX,List.drop_zero,v1,v2,u2,v4,aGi]
 repeat' apply And.intro
 all_goals first | rfl | assumption | omega | trivial | exact ⟨rfl⟩
section
open Go.ChangeShapes Go.WideShapes
section
variable {H:Type} {enc:TypeId × Value->H} {P:Program} {w:World} {held:Bool}
theorem wf_u8 {n:Int} (h:(Lit.int .u8 n).wf=true):Bt n:=by
 have:=bounds_u8 h
 exact ⟨this.1,by omega⟩
theorem tP {fuel:Nat} {tb t5:TypeId} {cs:List Value} {x:DataW H × List MemPlace} (ht:P.underlying tb=some (.slice t5)) (h5:P.underlying t5=some (.int .u8)) (hc:P.cellsOf t5=1)
 (h:DataW.trod enc P w 0 (fun _=>true) held fuel tb cs=some x):∃ v xs,cs=[v]/\pE w .u8 v xs/\bR xs:=by
 rcases open_ints ht h5 hc h with ⟨rfl,_⟩ | ⟨a,len,cap,zs,rfl,_,hle,_,hz,_,fE,hwf⟩
 .exact ⟨_,[],rfl,.inl ⟨.nil,rfl⟩,fun _ h=>by cases h⟩
 .simp only [if_true] at hz
  refine ⟨_,zs.take len,rfl,?_,fun z hzm=>wf_u8 (hwf z (List.mem_of_mem_take hzm))⟩
  by_cases h0:cap=0
  .subst h0
   have:len=0:=by omega
   subst this
   exact .inl ⟨⟨_,rfl⟩,by simp⟩
  .have Ar:=fE 0 (by omega)
   obtain ⟨b,o,s⟩:=a
   have hs:s=none:=by
    have:=World.cell?_spot Ar
    cases s with
    | none=>rfl
    | some s=>simp [Addr.add] at this
   subst hs
   have hlen:(zs.take len).length=len:=by rw [List.length_take];omega
   refine .inr ⟨b,o,cap,by rw [hlen],?_,by omega,fun j u hj=>?_⟩
   .rw [bG] at Ar
    unfold World.cell? at Ar
    simp only at Ar
    cases hb:w.heap[b]? with
    | none=>rw [hb] at Ar;simp at Ar
    | some y=>exact (Array.getElem?_eq_some_iff.1 hb).1
   .rw [List.map_take,List.getElem?_take] at hj
    split at hj
    .rename_i hjl
     rw [List.getElem?_map] at hj
     obtain ⟨z,hzj,rfl⟩:=Option.map_eq_some_iff.1 hj
     have:=fE j (by omega)
     rw [bG] at this
     rw [this,List.getD_eq_getElem?_getD,hzj]
     rfl
    .cases hj
def intOf:Value->Int
 | .int _ z=>z
 | _=>0
theorem Oo {fuel:Nat} {ta t5:TypeId} {n:Nat} {cs:List Value} {x:DataW H × List MemPlace} (ht:P.underlying ta=some (.array n t5)) (h5:P.underlying t5=some (.int .u8)) (hc:P.cellsOf t5=1) (lB:P.cellsOf ta=n)
 (h:DataW.trod enc P w 0 (fun _=>true) held fuel ta cs=some x):∃ xs,xs.length=n/\cs=xs.map (Value.int .u8)/\bR xs:=by
 obtain ⟨xs,m,_,_,hlen,hn,SI⟩:=DataW.trod_array ht h
 rw [lB] at hlen
 have key:∀ i,i<n->∃ z,cs[i]?=some (.int .u8 z)/\Bt z:=by
  intro i hi
  have h1:=SI i hi
  rw [hc,Nat.mul_one,List.getElem?_eq_getElem (by omega)] at h1
  obtain ⟨z,hz,_,hw⟩:=DataW.trod_int h5 h1
  refine ⟨z,?_,wf_u8 hw⟩
  have:=congrArg (·[0]?) hz
  simpa [List.getElem?_take,List.getElem?_drop] using this
 refine ⟨cs.map intOf,by simp [hlen],?_,fun z hz=>?_⟩
 .rw [List.map_map]
  refine List.ext_getElem? fun i=>?_
  rw [List.getElem?_map]
  by_cases hi:i<n
  .obtain ⟨z,hz,_⟩:=key i hi
   rw [hz];rfl
  .rw [List.getElem?_eq_none (by omega)];rfl
 .obtain ⟨v,hv,rfl⟩:=List.mem_map.1 hz
  obtain ⟨i,hi⟩:=List.getElem?_of_mem hv
  have hin:i<n:=by rw [<- hlen];exact (List.getElem?_eq_some_iff.1 hi).1
  obtain ⟨z,hz,hb⟩:=key i hin
  rw [hi] at hz
  cases hz
  exact hb
end
end
end Go.Proofs.YticicdfijghigaaGreatDoor.Sx
