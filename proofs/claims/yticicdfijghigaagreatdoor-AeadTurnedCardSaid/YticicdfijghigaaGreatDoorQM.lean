/- Plain Lean for slow.Tag: the clamped key, the bytes that are held, a block's step, the last sum. -/
import Derived.ProofKit
import Derived.OpenShut
import Derived.Test.YticicdfijghigaaGreatDoorQL
open Go
set_option maxRecDepth 100000
namespace Go.Proofs.YticicdfijghigaaGreatDoor.Sx
namespace M
theorem Xv {x:Int} (h:Bt x):bW .u8 x 15=(IntKind.i64.wrap x).tmod 16:=by
 have key:∀ n:Fin 256,bW .u8 ((n.val:Nat):Int) 15=(IntKind.i64.wrap ((n.val:Nat):Int)).tmod 16:=by decide +kernel
 obtain ⟨h0,h1⟩:=h
 have:=key ⟨x.toNat,by omega⟩
 simpa [Int.toNat_of_nonneg h0] using this
theorem Us {x:Int} (h:Bt x):bW .u8 x 252=IntKind.i64.wrap (IntKind.i64.wrap x-(IntKind.i64.wrap x).tmod 4):=by
 have key:∀ n:Fin 256,bW .u8 ((n.val:Nat):Int) 252=IntKind.i64.wrap (IntKind.i64.wrap ((n.val:Nat):Int)-(IntKind.i64.wrap ((n.val:Nat):Int)).tmod 4):=by decide +kernel
 obtain ⟨h0,h1⟩:=h
 have:=key ⟨x.toNat,by omega⟩
 simpa [Int.toNat_of_nonneg h0] using this
theorem Fj {x:Int} (h:Bt x):0<=bW .u8 x 15/\bW .u8 x 15<=15:=by
 have key:∀ n:Fin 256,0<=bW .u8 ((n.val:Nat):Int) 15/\bW .u8 ((n.val:Nat):Int) 15<=15:=by decide +kernel
 obtain ⟨h0,h1⟩:=h
 have:=key ⟨x.toNat,by omega⟩
 simpa [Int.toNat_of_nonneg h0] using this
theorem zH {x:Int} (h:Bt x):0<=bW .u8 x 252/\bW .u8 x 252<=255:=by
 have key:∀ n:Fin 256,0<=bW .u8 ((n.val:Nat):Int) 252/\bW .u8 ((n.val:Nat):Int) 252<=255:=by decide +kernel
 obtain ⟨h0,h1⟩:=h
 have:=key ⟨x.toNat,by omega⟩
 simpa [Int.toNat_of_nonneg h0] using this
theorem qD {x:Int} (h:Bt x):IntKind.i64.wrap x=x:=by
 obtain ⟨h0,h1⟩:=h
 exact IntWalk.i64_in _ ⟨by omega,by omega⟩
def vE (k:List Int):Int:=V [k.getD 0 0,k.getD 1 0,k.getD 2 0,bW .u8 (k.getD 3 0) 15,bW .u8 (k.getD 4 0) 252,k.getD 5 0,k.getD 6 0,bW .u8 (k.getD 7 0) 15]
def tO (k:List Int):Int:=V [bW .u8 (k.getD 8 0) 252,k.getD 9 0,k.getD 10 0,bW .u8 (k.getD 11 0) 15,bW .u8 (k.getD 12 0) 252,k.getD 13 0,k.getD 14 0,bW .u8 (k.getD 15 0) 15]
def kS (k:List Int):List Int:=[k.getD 0 0,k.getD 1 0,k.getD 2 0,bW .u8 (k.getD 3 0) 15,bW .u8 (k.getD 4 0) 252,k.getD 5 0,k.getD 6 0,bW .u8 (k.getD 7 0) 15,bW .u8 (k.getD 8 0) 252,k.getD 9 0,k.getD 10 0,bW .u8 (k.getD 11 0) 15,bW .u8 (k.getD 12 0) 252,k.getD 13 0,k.getD 14 0,bW .u8 (k.getD 15 0) 15,k.getD 16 0,k.getD 17 0,k.getD 18 0,k.getD 19 0,k.getD 20 0,k.getD 21 0,k.getD 22 0,k.getD 23 0,k.getD 24 0,k.getD 25 0,k.getD 26 0,k.getD 27 0,k.getD 28 0,k.getD 29 0,k.getD 30 0,k.getD 31 0]
def yB (k:List Int):Int:=V [k.getD 16 0,k.getD 17 0,k.getD 18 0,k.getD 19 0,k.getD 20 0,k.getD 21 0,k.getD 22 0,k.getD 23 0]
def zN (k:List Int):Int:=V [k.getD 24 0,k.getD 25 0,k.getD 26 0,k.getD 27 0,k.getD 28 0,k.getD 29 0,k.getD 30 0,k.getD 31 0]
theorem bI.Sg:bI []:=fun _ h=>by cases h
theorem bI.bS {x:Int} {r:List Int} (h:Bt x) (hr:bI r):bI (x::r):=fun y hy=>by
 rcases List.mem_cons.1 hy with rfl | hy
 .exact h
 .exact hr y hy
theorem VR {k:List Int} (h:bI k) (i:Nat):Bt (bW .u8 (k.getD i 0) 15):=by have:=Fj (h.get i);exact ⟨by omega,by omega⟩
theorem BM {k:List Int} (h:bI k) (i:Nat):Bt (bW .u8 (k.getD i 0) 252):=by have:=zH (h.get i);exact ⟨by omega,by omega⟩
theorem MF {k:List Int} (h:bI k):bI (kS k):=
 bI.bS (h.get 0) (bI.bS (h.get 1) (bI.bS (h.get 2) (bI.bS (VR h 3) (bI.bS (BM h 4) (bI.bS (h.get 5) (bI.bS (h.get 6) (bI.bS (VR h 7) (bI.bS (BM h 8) (bI.bS (h.get 9) (bI.bS (h.get 10) (bI.bS (VR h 11) (bI.bS (BM h 12) (bI.bS (h.get 13) (bI.bS (h.get 14) (bI.bS (VR h 15) (bI.bS (h.get 16) (bI.bS (h.get 17) (bI.bS (h.get 18) (bI.bS (h.get 19) (bI.bS (h.get 20) (bI.bS (h.get 21) (bI.bS (h.get 22) (bI.bS (h.get 23) (bI.bS (h.get 24) (bI.bS (h.get 25) (bI.bS (h.get 26) (bI.bS (h.get 27) (bI.bS (h.get 28) (bI.bS (h.get 29) (bI.bS (h.get 30) (bI.bS (h.get 31) bI.Sg)))))))))))))))))))))))))))))))
theorem BN {l:List Int} (h:bI l) (hl:l.length=8):U (V l):=by
 obtain ⟨a,b,c,d,e,f,g,k,rfl⟩:∃ a b c d e f g k,l=[a,b,c,d,e,f,g,k]:=by
  match l,hl with
  | [a,b,c,d,e,f,g,k],_=>exact ⟨a,b,c,d,e,f,g,k,rfl⟩
 have q:∀ x∈[a,b,c,d,e,f,g,k],0<=x/\x<256:=h
 have:=q a (by simp);have:=q b (by simp);have:=q c (by simp);have:=q d (by simp);have:=q e (by simp);have:=q f (by simp);have:=q g (by simp);have:=q k (by simp)
 simp only [uT,Dw]
 unfold U
 omega
theorem bCn {k:List Int} (h:bI k):U (vE k)/\U (tO k)/\vE k+18446744073709551616*tO k<21267647932558653966460912964485513216:=by
 have u1:U (vE k):=BN (bI.bS (h.get 0) (bI.bS (h.get 1) (bI.bS (h.get 2) (bI.bS (VR h 3) (bI.bS (BM h 4) (bI.bS (h.get 5) (bI.bS (h.get 6) (bI.bS (VR h 7) bI.Sg)))))))) rfl
 have u2:U (tO k):=BN (bI.bS (BM h 8) (bI.bS (h.get 9) (bI.bS (h.get 10) (bI.bS (VR h 11) (bI.bS (BM h 12) (bI.bS (h.get 13) (bI.bS (h.get 14) (bI.bS (VR h 15) bI.Sg)))))))) rfl
 refine ⟨u1,u2,?_⟩
 have b1:tO k<1152921504606846976:=by
  unfold tO
  simp only [uT,Dw]
  have VR:=Fj (h.get 15)
  have:=h.get 9;have:=h.get 10;have:=h.get 13;have:=h.get 14
  have:=Fj (h.get 11);have:=zH (h.get 12);have:=zH (h.get 8)
  unfold Bt at *
  omega
 unfold U at u1
 omega
theorem bCm {k:List Int} (h:bI k):U (yB k)/\U (zN k):=
 ⟨BN (bI.bS (h.get 16) (bI.bS (h.get 17) (bI.bS (h.get 18) (bI.bS (h.get 19) (bI.bS (h.get 20) (bI.bS (h.get 21) (bI.bS (h.get 22) (bI.bS (h.get 23) bI.Sg)))))))) rfl,BN (bI.bS (h.get 24) (bI.bS (h.get 25) (bI.bS (h.get 26) (bI.bS (h.get 27) (bI.bS (h.get 28) (bI.bS (h.get 29) (bI.bS (h.get 30) (bI.bS (h.get 31) bI.Sg)))))))) rfl⟩
theorem aTo {k:List Int} (h:bI k):V (cl k)=vE k+18446744073709551616*tO k:=by
 unfold cl
 rw [TK]
 have z:V [0]=0:=by decide
 rw [z,Int.mul_zero,Int.add_zero]
 have e:Un (lo k)=[k.getD 0 0,k.getD 1 0,k.getD 2 0,bW .u8 (k.getD 3 0) 15,bW .u8 (k.getD 4 0) 252,k.getD 5 0,k.getD 6 0,bW .u8 (k.getD 7 0) 15,bW .u8 (k.getD 8 0) 252,k.getD 9 0,k.getD 10 0,bW .u8 (k.getD 11 0) 15,bW .u8 (k.getD 12 0) 252,k.getD 13 0,k.getD 14 0,bW .u8 (k.getD 15 0) 15]:=by
  rw [Xv (h.get 3),Xv (h.get 7),Xv (h.get 11),Xv (h.get 15),Us (h.get 4),Us (h.get 8),Us (h.get 12)]
  have w0:=qD (h.get 0);have w1:=qD (h.get 1);have w2:=qD (h.get 2)
  have w5:=qD (h.get 5);have w6:=qD (h.get 6);have w9:=qD (h.get 9)
  have w10:=qD (h.get 10);have w13:=qD (h.get 13);have w14:=qD (h.get 14)
  have l:Un (lo k)=[IntKind.i64.wrap (k.getD 0 0),IntKind.i64.wrap (k.getD 1 0),IntKind.i64.wrap (k.getD 2 0),(IntKind.i64.wrap (k.getD 3 0)).tmod 16,IntKind.i64.wrap (IntKind.i64.wrap (k.getD 4 0)-(IntKind.i64.wrap (k.getD 4 0)).tmod 4),IntKind.i64.wrap (k.getD 5 0),IntKind.i64.wrap (k.getD 6 0),(IntKind.i64.wrap (k.getD 7 0)).tmod 16,IntKind.i64.wrap (IntKind.i64.wrap (k.getD 8 0)-(IntKind.i64.wrap (k.getD 8 0)).tmod 4),IntKind.i64.wrap (k.getD 9 0),IntKind.i64.wrap (k.getD 10 0),(IntKind.i64.wrap (k.getD 11 0)).tmod 16,IntKind.i64.wrap (IntKind.i64.wrap (k.getD 12 0)-(IntKind.i64.wrap (k.getD 12 0)).tmod 4),IntKind.i64.wrap (k.getD 13 0),IntKind.i64.wrap (k.getD 14 0),(IntKind.i64.wrap (k.getD 15 0)).tmod 16]:=rfl
  rw [l,w0,w1,w2,w5,w6,w9,w10,w13,w14]
 rw [e,aTp]
 rfl
theorem bGw (k:List Int):V (hi k)=yB k+18446744073709551616*zN k:=by
 have e:hi k=[k.getD 16 0,k.getD 17 0,k.getD 18 0,k.getD 19 0,k.getD 20 0,k.getD 21 0,k.getD 22 0,k.getD 23 0,k.getD 24 0,k.getD 25 0,k.getD 26 0,k.getD 27 0,k.getD 28 0,k.getD 29 0,k.getD 30 0,k.getD 31 0]:=rfl
 rw [e,aTp]
 rfl
theorem aOf {k:List Int} (h:bI k):bI (hi k):=by
 intro x hx
 simp only [hi,List.mem_map] at hx
 obtain ⟨j,_,rfl⟩:=hx
 exact h.get _
def held (D:List Int) (t:Nat):List Int:=(List.range (t%16)).map fun j=>D.getD (16*(t/16)+j) 0
theorem Qt (D:List Int) (t:Nat):(held D t).length=t%16:=by simp [held]
theorem CT (D:List Int) {t:Nat} (h:t%16<15):held D t++[D.getD t 0]=held D (t+1):=by
 unfold held
 have e1:(t+1)%16=t%16+1:=by omega
 have e2:(t+1)/16=t/16:=by omega
 have e3:16*(t/16)+t%16=t:=by omega
 rw [e1,e2,List.range_succ,List.map_append,List.map_singleton,e3]
theorem aDm (D:List Int) {t:Nat} (h:t%16=15):held D t=[D.getD (16*(t/16)) 0,D.getD (16*(t/16)+1) 0,D.getD (16*(t/16)+2) 0,D.getD (16*(t/16)+3) 0,D.getD (16*(t/16)+4) 0,D.getD (16*(t/16)+5) 0,D.getD (16*(t/16)+6) 0,D.getD (16*(t/16)+7) 0,D.getD (16*(t/16)+8) 0,D.getD (16*(t/16)+9) 0,D.getD (16*(t/16)+10) 0,D.getD (16*(t/16)+11) 0,D.getD (16*(t/16)+12) 0,D.getD (16*(t/16)+13) 0,D.getD (16*(t/16)+14) 0]:=by
 unfold held;rw [h];rfl
theorem MI (D:List Int) {t:Nat} (h:t%16=0):held D t=[]:=by unfold held;rw [h];rfl
theorem MW (D:List Int) {k:Nat} (h:16*k+16<=1073741824):aN D ((16*k:Nat):Int) 16=[D.getD (16*k) 0,D.getD (16*k+1) 0,D.getD (16*k+2) 0,D.getD (16*k+3) 0,D.getD (16*k+4) 0,D.getD (16*k+5) 0,D.getD (16*k+6) 0,D.getD (16*k+7) 0,D.getD (16*k+8) 0,D.getD (16*k+9) 0,D.getD (16*k+10) 0,D.getD (16*k+11) 0,D.getD (16*k+12) 0,D.getD (16*k+13) 0,D.getD (16*k+14) 0,D.getD (16*k+15) 0,1]:=by
 have e:aN D ((16*k:Nat):Int) 16=((List.range 16).map fun j:Nat=>D.getD (16*k+j) 0)++[1]:=by
  unfold aN
  congr 1
  refine List.map_congr_left fun j hj=>?_
  have hj:j<16:=by simpa using hj
  rw [IntWalk.i64_in _ ⟨by omega,by omega⟩]
  congr 1
 rw [e];rfl
theorem Qi (r:Int) {D:List Int} {k:Nat} (h:16*k+16<=D.length):acc r D (k+1)=((acc r D k+V (aN D ((16*k:Nat):Int) 16))*r)%p:=by
 show ((acc r D k+V (aN D (16*(k:Int)) (min 16 (D.length-16*k))))*r)%p=_
 rw [show min 16 (D.length-16*k)=16 from by omega,show (16*(k:Int))=((16*k:Nat):Int) from by omega]
theorem Nb {R:Int} (h0:0<=R) (h:R<aO):n3 (w0 R) (w1 R) (w2 R)=R:=by
 unfold n3 w0 w1 w2;unfold aO at h;omega
theorem VW (R:Int):U (w0 R)/\U (w1 R)/\U (w2 R):=by unfold U w0 w1 w2;omega
theorem aBl:aO=p:=rfl
theorem Ks (x:Int):0<=x%aO/\x%aO<aO:=⟨Int.emod_nonneg _ (by decide),Int.emod_lt_of_pos _ (by decide)⟩
theorem step_eq {R Y S y0 y1:Int} (hS:S=(R+Y)%aO):(n3 (w0 S) (w1 S) (w2 S)*(y0+18446744073709551616*y1))%aO=((R+Y)*(y0+18446744073709551616*y1))%p:=by
 obtain ⟨h0,h1⟩:=Ks (R+Y)
 rw [<- hS] at h0 h1
 rw [Nb h0 h1,hS,aBl,Int.mul_emod,Int.emod_emod_of_dvd _ (Int.dvd_refl p),<- Int.mul_emod]
def cat (d:Nat->List Int):List Int:=d 1++(d 2++(d 3++(d 4++d 5)))
def off (d:Nat->List Int):Nat->Nat
 | 0=>0
 | j+1=>off d j+(d (j+1)).length
theorem aHe (d:Nat->List Int):off d 5=(cat d).length:=by simp [off,cat];omega
theorem aFt (d:Nat->List Int) {J i:Nat} (hJ:J<5) (hi:i<(d (J+1)).length):(cat d).getD (off d J+i) 0=(d (J+1)).getD i 0:=by
 have L:∀ (a b:List Int) (n:Nat),n<a.length->(a++b).getD n 0=a.getD n 0:=fun a b n h=>by simp [zzG,List.getElem?_append_left h]
 have R:∀ (a b:List Int) (n:Nat),(a++b).getD (a.length+n) 0=b.getD n 0:=fun a b n=>by simp [zzG,List.getElem?_append_right]
 unfold cat
 match J,hJ with
 | 0,_=>rw [show off d 0+i=i from by simp [off],L _ _ _ hi]
 | 1,_=>rw [show off d 1+i=(d 1).length+i from by simp [off],R,L _ _ _ hi]
 | 2,_=>rw [show off d 2+i=(d 1).length+((d 2).length+i) from by simp [off];omega,R,R,L _ _ _ hi]
 | 3,_=>rw [show off d 3+i=(d 1).length+((d 2).length+((d 3).length+i)) from by simp [off];omega,R,R,R,L _ _ _ hi]
 | 4,_=>rw [show off d 4+i=(d 1).length+((d 2).length+((d 3).length+((d 4).length+i))) from by simp [off];omega,R,R,R,R]
theorem LR (d:Nat->List Int) {J:Nat} (hJ:J<5):off d J+(d (J+1)).length<=(cat d).length:=by
 rw [<- aHe]
 match J,hJ with
 | 0,_=>simp only [off];omega
 | 1,_=>simp only [off];omega
 | 2,_=>simp only [off];omega
 | 3,_=>simp only [off];omega
 | 4,_=>simp only [off];omega
theorem aMy (N:Int) {j:Nat} (h:j<16):nb (w0 N+18446744073709551616*w1 N) j=nb N j:=by
 have e:w0 N+18446744073709551616*w1 N=N%340282366920938463463374607431768211456:=by unfold w0 w1;omega
 rw [e]
 unfold nb
 have hk:∀ k:Nat,k<16->(256:Int)^16=256^k*(256*256^(15-k)):=fun k hk=>by
  have:(256:Int)^16=256^(k+(1+(15-k))):=by congr 1;omega
  rw [this,Int.pow_add,Int.pow_add];rfl
 have hP:(0:Int)<256^j:=Int.pow_pos (by decide)
 have e1:(340282366920938463463374607431768211456:Int)=256^j*(256*256^(15-j)):=by
  rw [<- hk j h];decide
 rw [e1]
 generalize (256:Int)^j=P at *
 generalize (256:Int)^(15-j)=Q
 have e2:N=N%(P*(256*Q))+P*(256*Q)*(N/(P*(256*Q))):=(Int.emod_add_mul_ediv N _).symm
 have e3:N/P=N%(P*(256*Q))/P+256*Q*(N/(P*(256*Q))):=by
  conv=>lhs;rw [e2,Int.mul_assoc,Int.add_mul_ediv_left _ _ (by omega)]
 rw [e3,Int.mul_assoc,Int.add_mul_emod_self_left]
theorem LA {key D:List Int} (hk:bI key) (hD:D.length%16=0) :
 tag key D=(List.range 16).map (nb (w0 (acc (V (cl key)) D (D.length/16)+(yB key+18446744073709551616*zN key))+18446744073709551616*w1 (acc (V (cl key)) D (D.length/16)+(yB key+18446744073709551616*zN key)))):=by
 unfold tag
 rw [YT (aOf hk),show (D.length+15)/16=D.length/16 from by omega,<- bGw key]
 have e:vs (fun j=>(hi key).getD j 0) 16=V (hi key):=aTn (hi key) 16 (by simp [hi])
 rw [e]
 refine List.map_congr_left fun j hj=>?_
 have hj:j<16:=by simpa using hj
 rw [aMy _ hj]
end M
theorem G.Hm {P:Program} {Γ Γ':Env} (hg:Γ'.aT=Γ.aT) {w0:World} {M:Nat->Prop} {B:bA} {N F0:Nat} {V0:aZ} {cf:Cf} {K:List Fr} {s:St} {Q:Exit->Act->World->Prop} (h:G P Γ' w0 M B N F0 V0 cf K s Q):G P Γ w0 M B N F0 V0 cf K s Q:=
 fun V a w hi=>h V a w ⟨hi.tmp,hi.keys,hi.size,hi.defers,hi.eI,fun n l e=>hi.aT n l (hg ▸ e),hi.top,hi.le,hi.low,hi.ch,hi.nx,hi.hi⟩
theorem pZ.Hm {Γ Γ':Env} (hg:Γ'.aT=Γ.aT) {B:bA} {F0:Nat} {V0:aZ} (h:pZ Γ B F0 V0):pZ Γ' B F0 V0:=⟨h.top,fun n l e=>h.aT n l (hg ▸ e),h.cut,h.cells⟩
def C5 (c:Nat):Prop:=c=0\/c=6\/c=7\/c=8\/c=9
theorem uG (iT gE nW:Nat):cC Tryz.prog (ΓT iT gE nW):=bP _ 22
theorem uH (iT gE nW:Nat):cK Tryz.prog (ΓT iT gE nW):=bV _ (aPh iT gE nW) 22
theorem pE (a b c a' b' c':Nat):(ΓT a b c).aT=(ΓT a' b' c').aT:=by kernel_rfl
theorem aMf {c:Nat} (hc:C5 c):SgA c:=by
 rcases hc with rfl | rfl | rfl | rfl | rfl
 .exact aVa
 .exact aUz
 .exact aUy
 .exact aUx
 .exact aUw
theorem aMc {c:Nat} (hc:C5 c):SgX c:=by
 rcases hc with rfl | rfl | rfl | rfl | rfl
 .exact aUu
 .exact aUt
 .exact aUs
 .exact aUr
 .exact aUq
theorem aMe {c J:Nat} (hc:C5 c) (hJ:J<4):Gm c J:=by
 obtain rfl | rfl | rfl | rfl:J=0\/J=1\/J=2\/J=3:=by omega
 .rcases hc with rfl | rfl | rfl | rfl | rfl
  .exact aLx
  .exact aLt
  .exact aLp
  .exact aLl
  .exact aLh
 .rcases hc with rfl | rfl | rfl | rfl | rfl
  .exact aLw
  .exact aLs
  .exact aLo
  .exact aLk
  .exact aLg
 .rcases hc with rfl | rfl | rfl | rfl | rfl
  .exact aLv
  .exact aLr
  .exact aLn
  .exact aLj
  .exact aLf
 .rcases hc with rfl | rfl | rfl | rfl | rfl
  .exact aLu
  .exact aLq
  .exact aLm
  .exact aLi
  .exact aLe
theorem aMd {c iT gE:Nat} (hc:C5 c) (Gu:iT=7\/(iT=8/\c≠0)) (Db:C5 gE):nY c iT gE:=by
 rcases hc with rfl | rfl | rfl | rfl | rfl
 .rcases Gu with rfl | ⟨rfl,dG⟩
  .rcases Db with rfl | rfl | rfl | rfl | rfl
   .exact aAs
   .exact aAr
   .exact aAq
   .exact aAp
   .exact aAo
  .exact (dG rfl).elim
 .rcases Gu with rfl | ⟨rfl,dG⟩
  .rcases Db with rfl | rfl | rfl | rfl | rfl
   .exact aAn
   .exact aAm
   .exact aAl
   .exact aAk
   .exact aAj
  .rcases Db with rfl | rfl | rfl | rfl | rfl
   .exact aAi
   .exact aAh
   .exact aAg
   .exact aAf
   .exact aAe
 .rcases Gu with rfl | ⟨rfl,dG⟩
  .rcases Db with rfl | rfl | rfl | rfl | rfl
   .exact aAd
   .exact aAc
   .exact aAb
   .exact aAa
   .exact ZZ
  .rcases Db with rfl | rfl | rfl | rfl | rfl
   .exact ZY
   .exact ZX
   .exact ZW
   .exact ZV
   .exact ZU
 .rcases Gu with rfl | ⟨rfl,dG⟩
  .rcases Db with rfl | rfl | rfl | rfl | rfl
   .exact ZT
   .exact ZS
   .exact ZR
   .exact ZQ
   .exact ZP
  .rcases Db with rfl | rfl | rfl | rfl | rfl
   .exact ZO
   .exact ZN
   .exact ZM
   .exact ZL
   .exact ZK
 .rcases Gu with rfl | ⟨rfl,dG⟩
  .rcases Db with rfl | rfl | rfl | rfl | rfl
   .exact ZJ
   .exact ZI
   .exact ZH
   .exact ZG
   .exact ZF
  .rcases Db with rfl | rfl | rfl | rfl | rfl
   .exact ZE
   .exact ZD
   .exact ZC
   .exact ZB
   .exact ZA
theorem NR {c m n:Nat} {ks held qU xs:List Int} {y0 y1 R j i':Int} {i:Nat} (hh:held.length<15) (hi:i<n) (hn:n=xs.length) (hl:n<=1073741824) (h':held++[xs.getD i 0]=qU) (fW:i'=((i+1:Nat):Int)) :
 ∀ q∈HY c m n ks held qU xs y0 y1 R j (i:Int) i',q:=by
 have e1:IntKind.i64.wrap ((i:Int)+1)=i':=by rw [fW,IntWalk.i64_in _ ⟨by omega,by omega⟩];omega
 have e2:((((held++[xs.getD i 0]).length:Int)==16)=false):=by
  rw [List.length_append,List.length_singleton]
  exact beq_eq_false_iff_ne.2 (by omega)
 have e3:(held.length+[xs.getD i 0].length)*1<=140737488355328:=by simp only [List.length_singleton];omega
 have e4:i<xs.length:=by omega
 have e5:(0:Int)<=(i:Int)/\(i:Int)<(n:Int):=by omega
 have e6:decide ((i:Int)<(n:Int))=true:=decide_eq_true e5.2
 refine aA ?_
 unfold HY
 rw [zzt]
 cases c with
 | zero=>exact ⟨e2,e3,e4,e5,e6,rfl,rfl,rfl,e1,⟨rfl,rfl⟩,rfl,rfl,rfl,rfl,h',rfl,trivial⟩
 | succ c=>exact ⟨e2,e3,e4,e5,e6,rfl,rfl,rfl,e1,⟨rfl,rfl⟩,rfl,rfl,rfl,rfl,rfl,rfl,rfl,h',rfl,rfl,trivial⟩
theorem NO {c m n:Nat} {ks held xs:List Int} {y0 y1 R j i J:Int} (hi:i=(n:Int)) (hj:j=J):∀ q∈HV c m n ks held xs y0 y1 R j i J,q:=by
 have e1:decide (i<(n:Int))=false:=zzF (by omega)
 refine aA ?_
 unfold HV
 cases c with
 | zero=>exact ⟨e1,hj,rfl,rfl,rfl,⟨rfl,rfl⟩,rfl,rfl,rfl,rfl,rfl,rfl,trivial⟩
 | succ c=>exact ⟨e1,hj,rfl,rfl,rfl,⟨rfl,rfl⟩,rfl,rfl,rfl,rfl,rfl,rfl,rfl,rfl,rfl,rfl,trivial⟩
theorem NQ {c m n:Nat} {ks held xs:List Int} {y0 y1 R j:Int}:∀ q∈HX c m n ks held xs y0 y1 R j,q:=by
 refine aA ?_
 unfold HX
 cases c with
 | zero=>exact ⟨rfl,rfl,rfl,rfl,⟨rfl,rfl⟩,rfl,rfl,rfl,rfl,rfl,rfl,trivial⟩
 | succ c=>exact ⟨rfl,rfl,rfl,rfl,⟨rfl,rfl⟩,rfl,rfl,rfl,rfl,rfl,rfl,rfl,rfl,rfl,rfl,trivial⟩
open M in
theorem NP {c iT gE m n:Nat} {ks xs:List Int} {y0 y1 R R' b0 b1 b2 b3 b4 b5 b6 b7 b8 b9 dF dE dD dJ dI x j i' S:Int} {i:Nat} (hS:0<=S/\S<aO) (hm:m=nl [y0,y1]) (Db:gE=if ln S=0\/m=0 then 0 else ln S+m+4)
 (fK:U y0) (iL:U y1) (hy:y0+18446744073709551616*y1<21267647932558653966460912964485513216) (Gu:iT=7/\(c≠0->ln R=0)\/iT=8/\ln R≠0) (hR:0<=R/\R<aO)
 (hb:bI [b0,b1,b2,b3,b4,b5,b6,b7,b8,b9,dF,dE,dD,dJ,dI,x,1]) (hi:i<n) (hn:n=xs.length) (hl:n<=1073741824) (fW:i'=((i+1:Nat):Int)) (hR':R'=AE S y0 y1) :
 ∀ q∈HW c iT gE m n ks xs y0 y1 R R' b0 b1 b2 b3 b4 b5 b6 b7 b8 b9 dF dE dD dJ dI x j (i:Int) i' S,q:=by
 have e1:IntKind.i64.wrap ((i:Int)+1)=i':=by rw [fW,IntWalk.i64_in _ ⟨by omega,by omega⟩];omega
 have e4:i<xs.length:=by omega
 have e5:(0:Int)<=(i:Int)/\(i:Int)<(n:Int):=by omega
 have e6:decide ((i:Int)<(n:Int))=true:=decide_eq_true e5.2
 have u:=VW S
 have v:=VW R
 have s1:n3 (w0 S) (w1 S) (w2 S)<aO:=by rw [Nb hS.1 hS.2];exact hS.2
 have r1:n3 (w0 R) (w1 R) (w2 R)<aO:=by rw [Nb hR.1 hR.2];exact hR.2
 have v0:U (V [b0,b1,b2,b3,b4,b5,b6,b7]):=BN (bI.bS (hb b0 (by simp)) (bI.bS (hb b1 (by simp)) (bI.bS (hb b2 (by simp)) (bI.bS (hb b3 (by simp)) (bI.bS (hb b4 (by simp)) (bI.bS (hb b5 (by simp)) (bI.bS (hb b6 (by simp)) (bI.bS (hb b7 (by simp)) bI.Sg)))))))) rfl
 have v1:U (V [b8,b9,dF,dE,dD,dJ,dI,x]):=BN (bI.bS (hb b8 (by simp)) (bI.bS (hb b9 (by simp)) (bI.bS (hb dF (by simp)) (bI.bS (hb dE (by simp)) (bI.bS (hb dD (by simp)) (bI.bS (hb dJ (by simp)) (bI.bS (hb dI (by simp)) (bI.bS (hb x (by simp)) bI.Sg)))))))) rfl
 subst hR'
 unfold HW
 rw [zzt]
 intro q hq
 rcases List.mem_append.1 hq with hq | hq
 .exact aA (l:=[ln S=nl [w0 S,w1 S,w2 S],m=nl [y0,y1],gE=(if ln S=0\/m=0 then 0 else ln S+m+4),U (w0 S),U (w1 S),U (w2 S),n3 (w0 S) (w1 S) (w2 S)<aO,U y0,U y1,y0+18446744073709551616*y1<21267647932558653966460912964485513216,0=0,ln S=ln S,iT=iT,0=0,m=m,6=6,w0 S::w1 S::w2 S::List.replicate (iT-3) 0=w0 S::w1 S::w2 S::List.replicate (iT-3) 0,[y0,y1,0,0,0,0]=[y0,y1,0,0,0,0]]) ⟨rfl,hm,Db,u.1,u.2.1,u.2.2,s1,fK,iL,hy,rfl,rfl,rfl,rfl,rfl,rfl,rfl,rfl,trivial⟩ q hq
 .rcases List.mem_append.1 hq with hq | hq
  .cases c with
   | zero=>cases hq
   | succ c=>
     rcases Gu with ⟨rfl,h0⟩ | ⟨rfl,h0⟩
     .exact aA (l:=[ln R=nl [w0 R,w1 R,w2 R],ln R=0]) ⟨rfl,h0 (by omega),trivial⟩ q hq
     .exact aA (l:=[ln R=nl [w0 R,w1 R,w2 R],ln R≠0,U (w0 R),U (w1 R),U (w2 R),n3 (w0 R) (w1 R) (w2 R)<aO]) ⟨rfl,h0,v.1,v.2.1,v.2.2,r1,trivial⟩ q hq
  .rcases List.mem_append.1 hq with hq | hq
   .exact aA (l:=[U (V [b0,b1,b2,b3,b4,b5,b6,b7]),U (V [b8,b9,dF,dE,dD,dJ,dI,x]),(1:Int)=1]) ⟨v0,v1,rfl,trivial⟩ q hq
   .rcases List.mem_append.1 hq with hq | hq
    .cases c with
     | zero=>cases hq
     | succ c=>exact aA (l:=[0=0,ln R=ln R,c+1=c+1,w0 R::w1 R::w2 R::List.replicate (c+1-3) 0=w0 R::w1 R::w2 R::List.replicate (c+1-3) 0]) ⟨rfl,rfl,rfl,rfl,trivial⟩ q hq
    .rcases List.mem_append.1 hq with hq | hq
     .refine aA ?_ q hq
      exact ⟨rfl,hb,rfl,rfl,rfl,e4,e5,e6,rfl,rfl,rfl,e1,⟨rfl,rfl⟩,rfl,rfl,rfl,rfl,trivial⟩
     .cases gE with
      | zero=>exact aA (l:=[([]:List Int)=[],xs=xs]) ⟨rfl,rfl,trivial⟩ q hq
      | succ gE=>
        refine aA ?_ q hq
        exact ⟨rfl,rfl,rfl,rfl,rfl,rfl,trivial⟩
namespace M
def rm (S:Int) (m:Nat):Nat:=if ln S=0\/m=0 then 0 else ln S+m+4
theorem aGw (S y0 y1:Int):C5 (rm S (nl [y0,y1])):=by
 unfold rm C5
 split
 .exact Or.inl rfl
 .rename_i h
  have h3:ln S<=3:=by unfold ln;rcases nl3 (w0 S) (w1 S) (w2 S) with h | h | h | h <;> omega
  have h2:nl [y0,y1]<=2:=by rcases VB y0 y1 with h | h | h <;> omega
  omega
theorem ln0 {S:Int} (h0:0<=S) (h1:S<aO) (h:ln S=0):S=0:=by
 have e:=Nb h0 h1
 unfold ln at h
 rcases nl3 (w0 S) (w1 S) (w2 S) with ⟨_,a,b,c⟩ | h' | h' | h'
 .rw [<- e,a,b,c];rfl
 all_goals omega
theorem aAz {S y0 y1:Int} (h0:0<=S) (h1:S<aO) (h:rm S (nl [y0,y1])=0):AE S y0 y1=0:=by
 unfold rm at h
 split at h
 .rename_i h2
  unfold AE
  rw [Nb h0 h1]
  rcases h2 with h2 | h2
  .rw [ln0 h0 h1 h2];simp
  .rcases VB y0 y1 with ⟨_,rfl,rfl⟩ | h' | h'
   .simp
   all_goals omega
 .omega
end M
def TR (c:Nat) (R:Int):Prop:=C5 c/\(c=0->R=0)/\0<=R/\R<M.aO
theorem NN {c:Nat} {R Y:Int} (h:TR c R):HU c R Y=(R+Y)%M.aO:=by
 obtain ⟨hc,h0,h1,h2⟩:=h
 cases c with
 | zero=>rw [h0 rfl];rfl
 | succ c=>show (M.n3 (M.w0 R) (M.w1 R) (M.w2 R)+Y)%M.aO=_;rw [M.Nb h1 h2]
noncomputable def TP (key:List Int) (d:Nat->List Int) (j:SV) (J:Nat) (i:Int) (c:Nat) (R:Int) (t:Nat):St:=Ct j (d (J+1)).length i (M.kS key) (M.vE key) (M.tO key) (M.nl [M.vE key,M.tO key]) c R (M.held (M.cat d) t) (d (J+1))
def eU (key:List Int) (d:Nat->List Int) (t:Nat):Int:=M.acc (M.vE key+18446744073709551616*M.tO key) (M.cat d) (t/16)
set_option maxHeartbeats 4000000 in
theorem Pf {nW:Nat} {key:List Int} {d:Nat->List Int} (hk:bI key) (hd:bI (M.cat d)) (hl:(M.cat d).length<=1073741824) {J:Nat} (hJ:J<5) {w0:World} {Mx:Nat->Prop} {V0:aZ} (hb:pZ (ΓT 7 0 nW) (aY 100 (Ai d)) 100 V0) {K:List Fr} {Q:Exit->Act->World->Prop}
 (hx:∀ c,TR c (eU key d (M.off d (J+1)))->G Tryz.prog (ΓT 7 0 nW) w0 Mx (aY 100 (Ai d)) Tryz.f56.ntmps 100 V0 (.at (.exit 5)) K (TP key d (.int true .i64 (J:Nat)) J (d (J+1)).length c (eU key d (M.off d (J+1))) (M.off d (J+1))) Q)
 {c:Nat} (hc:TR c (eU key d (M.off d J))):G Tryz.prog (ΓT 7 0 nW) w0 Mx (aY 100 (Ai d)) Tryz.f56.ntmps 100 V0 (.go (.loop qA)) K (TP key d (.int false .i64 (J:Nat)) J 0 c (eU key d (M.off d J)) (M.off d J)) Q:=by
 obtain ⟨u0,u1,u2⟩:=M.bCn hk
 have vM:=M.LR d hJ
 have uC:pZ (ΓT 7 0 0) (aY 100 (Ai d)) 100 V0:=hb.Hm (pE _ _ _ _ _ _)
 refine G.loop (fun r s=>∃ i c:Nat,i<=(d (J+1)).length/\r=(d (J+1)).length-i/\TR c (eU key d (M.off d J+i))/\s=TP key d (.int false .i64 (J:Nat)) J (i:Nat) c (eU key d (M.off d J+i)) (M.off d J+i)) (r0:=(d (J+1)).length) ⟨0,c,by omega,rfl,hc,rfl⟩ ?_
 rintro r s ⟨i,c,hi,rfl,hR,rfl⟩
 by_cases cM:i<(d (J+1)).length
 .have rA:=M.aFt d hJ cM
  by_cases h15:(M.off d J+i)%16=15
  ·
   have Bf:(M.off d J+i+1)/16=(M.off d J+i)/16+1:=by omega
   have vF:16*((M.off d J+i)/16)+16<=(M.cat d).length:=by omega
   have JM:(M.cat d).getD (16*((M.off d J+i)/16)+15) 0=(d (J+1)).getD i 0:=by rw [<- rA];congr 1;omega
   have fE:=M.MW (M.cat d) (k:=(M.off d J+i)/16) (by omega)
   have FY:=M.aFy hd ((16*((M.off d J+i)/16):Nat):Int) 16
   rw [fE,JM] at FY
   have bDp:=M.Qi (M.vE key+18446744073709551616*M.tO key) vF
   obtain ⟨hC,hR0,hR1,hR2⟩:=hR
   have hR:TR c (eU key d (M.off d J+i)):=⟨hC,hR0,hR1,hR2⟩
   generalize hRR:eU key d (M.off d J+i)=R at *
   have hS:=NN (Y:=M.V (M.aN (M.cat d) ((16*((M.off d J+i)/16):Nat):Int) 16)) hR
   generalize hSS:HU c R (M.V (M.aN (M.cat d) ((16*((M.off d J+i)/16):Nat):Int) 16))=S at *
   have hSb:0<=S/\S<M.aO:=by rw [hS];exact M.Ks _
   have hQ:eU key d (M.off d J+(i+1))=AE S (M.vE key) (M.tO key):=by
    show M.acc _ (M.cat d) ((M.off d J+(i+1))/16)=_
    rw [<- Nat.add_assoc,Bf,bDp]
    unfold AE
    rw [M.step_eq hS,<- hRR]
    rfl
   obtain ⟨iT,Gu,aXb⟩:∃ iT,(iT=7\/(iT=8/\c≠0))/\(iT=7/\(c≠0->M.ln R=0)\/iT=8/\M.ln R≠0):=by
    by_cases h:M.ln R=0
    .exact ⟨7,Or.inl rfl,Or.inl ⟨rfl,fun _=>h⟩⟩
    .by_cases Ck:c=0
     .exact ⟨7,Or.inl rfl,Or.inl ⟨rfl,fun dG=>(dG Ck).elim⟩⟩
     .exact ⟨8,Or.inr ⟨rfl,Ck⟩,Or.inr ⟨rfl,h⟩⟩
   have dS:=aMd hC Gu (M.aGw S (M.vE key) (M.tO key))
   have aWs:M.rm S (M.nl [M.vE key,M.tO key])=0->AE S (M.vE key) (M.tO key)=0:=M.aAz hSb.1 hSb.2
   have aWr:=M.aGw S (M.vE key) (M.tO key)
   have aWq:M.rm S (M.nl [M.vE key,M.tO key])=if M.ln S=0\/M.nl [M.vE key,M.tO key]=0 then 0 else M.ln S+M.nl [M.vE key,M.tO key]+4:=rfl
   generalize M.rm S (M.nl [M.vE key,M.tO key])=gE at *
   refine G.op 9 0 ?_
   unfold TP
   rw [M.aDm _ h15]
   have hr:=dS (M.kS key) d (M.vE key) (M.tO key) (M.nl [M.vE key,M.tO key]) R (AE S (M.vE key) (M.tO key)) ((M.cat d).getD (16*((M.off d J+i)/16)) 0) ((M.cat d).getD (16*((M.off d J+i)/16)+1) 0) ((M.cat d).getD (16*((M.off d J+i)/16)+2) 0) ((M.cat d).getD (16*((M.off d J+i)/16)+3) 0) ((M.cat d).getD (16*((M.off d J+i)/16)+4) 0) ((M.cat d).getD (16*((M.off d J+i)/16)+5) 0) ((M.cat d).getD (16*((M.off d J+i)/16)+6) 0) ((M.cat d).getD (16*((M.off d J+i)/16)+7) 0) ((M.cat d).getD (16*((M.off d J+i)/16)+8) 0) ((M.cat d).getD (16*((M.off d J+i)/16)+9) 0) ((M.cat d).getD (16*((M.off d J+i)/16)+10) 0) ((M.cat d).getD (16*((M.off d J+i)/16)+11) 0) ((M.cat d).getD (16*((M.off d J+i)/16)+12) 0) ((M.cat d).getD (16*((M.off d J+i)/16)+13) 0) ((M.cat d).getD (16*((M.off d J+i)/16)+14) 0) (d (J+1)) (J:Nat) (d (J+1)).length (i:Nat) ((i+1:Nat):Int)
   refine G.Hm (Γ':=ΓT iT gE 0) (pE _ _ _ _ _ _) ?_
   refine G.cW (uG _ _ _) (uH _ _ _) mix (hb.Hm (pE _ _ _ _ _ _)) [true] hr ?_ (G.Hm (Γ':=ΓT 7 0 nW) (pE _ _ _ _ _ _) (G.again fun V _ _ fW=>⟨(d (J+1)).length-(i+1),by omega,_,⟨i+1,gE,by omega,rfl,?_,?_⟩,V,fW⟩))
   .rw [zzt,<- M.bGx,<- JM,<- fE,hSS]
    rw [<- JM] at FY
    exact NP hSb rfl aWq u0 u1 u2 aXb ⟨hR1,hR2⟩ FY cM rfl (by omega) rfl rfl
   .rw [hQ]
    exact ⟨aWr,aWs,by unfold AE;exact (M.Ks _).1,by unfold AE;exact (M.Ks _).2⟩
   .rw [hQ]
    show _=Ct _ _ _ _ _ _ _ _ _ (M.held (M.cat d) (M.off d J+(i+1))) _
    rw [M.MI _ (by omega)]
    rfl
  ·
   have Bf:(M.off d J+(i+1))/16=(M.off d J+i)/16:=by omega
   have hQ:eU key d (M.off d J+(i+1))=eU key d (M.off d J+i):=by unfold eU;rw [Bf]
   have hh:M.held (M.cat d) (M.off d J+i)++[(d (J+1)).getD i 0]=M.held (M.cat d) (M.off d J+(i+1)):=by rw [<- rA];exact M.CT _ (by omega)
   refine G.Hm (Γ':=ΓT 7 0 0) (pE _ _ _ _ _ _) ?_
   refine G.cW (uG _ _ _) (uH _ _ _) mix uC [true,false] (aMf hR.1 (M.kS key) d (M.vE key) (M.tO key) (M.nl [M.vE key,M.tO key]) _ _ (M.held (M.cat d) (M.off d J+(i+1))) (d (J+1)) (J:Nat) (d (J+1)).length (i:Nat) ((i+1:Nat):Int)) ?_ (G.Hm (Γ':=ΓT 7 0 nW) (pE _ _ _ _ _ _) (G.again fun V _ _ fW=>⟨(d (J+1)).length-(i+1),by omega,_,⟨i+1,c,by omega,rfl,?_,?_⟩,V,fW⟩))
   .exact NR (by rw [M.Qt];omega) cM rfl (by omega) hh rfl
   .rw [hQ];exact hR
   .rw [hQ];rfl
 .obtain rfl:i=(d (J+1)).length:=by omega
  refine G.Hm (Γ':=ΓT 7 0 0) (pE _ _ _ _ _ _) ?_
  refine G.cW (uG _ _ _) (uH _ _ _) mix uC [false] (aMc hR.1 (M.kS key) d (M.vE key) (M.tO key) (M.nl [M.vE key,M.tO key]) _ _ (d (J+1)) (J:Nat) (d (J+1)).length ((d (J+1)).length:Nat) (J:Nat)) (NO rfl rfl) (G.Hm (Γ':=ΓT 7 0 nW) (pE _ _ _ _ _ _) (G.leave (fun h=>by cases h) ?_))
  exact hx c hR
theorem aMb (d:Nat->List Int) (y0 y1:Int) (m:Nat) (R:Int) (k:Nat->Int) (xs:List Int) (n:Nat) (i:Int) :
 Nk (ΓT 7 0 0) (Ai d) 100 100 Tryz.f56 (FE 7 0 0 d (.at (.exit 5)) (yI 4) ((Ct (.int true .i64 4) n i [k 0,k 1,k 2,k 3,k 4,k 5,k 6,k 7,k 8,k 9,k 10,k 11,k 12,k 13,k 14,k 15,k 16,k 17,k 18,k 19,k 20,k 21,k 22,k 23,k 24,k 25,k 26,k 27,k 28,k 29,k 30,k 31] y0 y1 m 0 R [] xs).hint [false])) =
 sh (0:Int) fun z0=>
 sh (0:Nat) fun z1=>
 some {bK:=[z1=M.nl [M.V [k 16,k 17,k 18,k 19,k 20,k 21,k 22,k 23],M.V [k 24,k 25,k 26,k 27,k 28,k 29,k 30,k 31]],z1=z1,M.nl [M.V [k 16,k 17,k 18,k 19,k 20,k 21,k 22,k 23],M.V [k 24,k 25,k 26,k 27,k 28,k 29,k 30,k 31]]=z1,(6:Nat)=(6:Nat),[M.V [k 16,k 17,k 18,k 19,k 20,k 21,k 22,k 23],M.V [k 24,k 25,k 26,k 27,k 28,k 29,k 30,k 31],z0,z0,z0,z0]=[M.V [k 16,k 17,k 18,k 19,k 20,k 21,k 22,k 23],M.V [k 24,k 25,k 26,k 27,k 28,k 29,k 30,k 31],z0,z0,z0,z0],bI [k 0,k 1,k 2,k 3,k 4,k 5,k 6,k 7,k 8,k 9,k 10,k 11,k 12,k 13,k 14,k 15,k 16,k 17,k 18,k 19,k 20,k 21,k 22,k 23,k 24,k 25,k 26,k 27,k 28,k 29,k 30,k 31],[k 0,k 1,k 2,k 3,k 4,k 5,k 6,k 7,k 8,k 9,k 10,k 11,k 12,k 13,k 14,k 15,k 16,k 17,k 18,k 19,k 20,k 21,k 22,k 23,k 24,k 25,k 26,k 27,k 28,k 29,k 30,k 31]=[k 0,k 1,k 2,k 3,k 4,k 5,k 6,k 7,k 8,k 9,k 10,k 11,k 12,k 13,k 14,k 15,k 16,k 17,k 18,k 19,k 20,k 21,k 22,k 23,k 24,k 25,k 26,k 27,k 28,k 29,k 30,k 31],false=false],val:=SV.agg [SV.int false IntKind.u8 z0,SV.int false IntKind.u8 z0,SV.int false IntKind.u8 z0,SV.int false IntKind.u8 z0,SV.int false IntKind.u8 z0,SV.int false IntKind.u8 z0,SV.int false IntKind.u8 z0,SV.int false IntKind.u8 z0,SV.int false IntKind.u8 z0,SV.int false IntKind.u8 z0,SV.int false IntKind.u8 z0,SV.int false IntKind.u8 z0,SV.int false IntKind.u8 z0,SV.int false IntKind.u8 z0,SV.int false IntKind.u8 z0,SV.int false IntKind.u8 z0]}:=by kernel_rfl
theorem aMa (d:Nat->List Int) (y0 y1:Int) (m:Nat) (R:Int) (k:Nat->Int) (xs:List Int) (n:Nat) (i:Int) :
 Nk (ΓT 7 0 1) (Ai d) 100 100 Tryz.f56 (FE 7 0 1 d (.at (.exit 5)) (yI 4) ((Ct (.int true .i64 4) n i [k 0,k 1,k 2,k 3,k 4,k 5,k 6,k 7,k 8,k 9,k 10,k 11,k 12,k 13,k 14,k 15,k 16,k 17,k 18,k 19,k 20,k 21,k 22,k 23,k 24,k 25,k 26,k 27,k 28,k 29,k 30,k 31] y0 y1 m 0 R [] xs).hint [false])) =
 sh (M.V [k 16,k 17,k 18,k 19,k 20,k 21,k 22,k 23]) fun z0=>
 sh (0:Int) fun z1=>
 sh (1:Nat) fun z2=>
 sh (0:Nat) fun z3=>
 some {bK:=[M.U z0,z3=z3,z2=z2,z2=z2,[M.V [k 16,k 17,k 18,k 19,k 20,k 21,k 22,k 23]]=[M.V [k 16,k 17,k 18,k 19,k 20,k 21,k 22,k 23]],z2=M.nl [M.V [k 16,k 17,k 18,k 19,k 20,k 21,k 22,k 23],M.V [k 24,k 25,k 26,k 27,k 28,k 29,k 30,k 31]],z3=z3,M.nl [M.V [k 16,k 17,k 18,k 19,k 20,k 21,k 22,k 23],M.V [k 24,k 25,k 26,k 27,k 28,k 29,k 30,k 31]]=z2,(6:Nat)=(6:Nat),[M.V [k 16,k 17,k 18,k 19,k 20,k 21,k 22,k 23],M.V [k 24,k 25,k 26,k 27,k 28,k 29,k 30,k 31],z1,z1,z1,z1]=[M.V [k 16,k 17,k 18,k 19,k 20,k 21,k 22,k 23],M.V [k 24,k 25,k 26,k 27,k 28,k 29,k 30,k 31],z1,z1,z1,z1],bI [k 0,k 1,k 2,k 3,k 4,k 5,k 6,k 7,k 8,k 9,k 10,k 11,k 12,k 13,k 14,k 15,k 16,k 17,k 18,k 19,k 20,k 21,k 22,k 23,k 24,k 25,k 26,k 27,k 28,k 29,k 30,k 31],[k 0,k 1,k 2,k 3,k 4,k 5,k 6,k 7,k 8,k 9,k 10,k 11,k 12,k 13,k 14,k 15,k 16,k 17,k 18,k 19,k 20,k 21,k 22,k 23,k 24,k 25,k 26,k 27,k 28,k 29,k 30,k 31]=[k 0,k 1,k 2,k 3,k 4,k 5,k 6,k 7,k 8,k 9,k 10,k 11,k 12,k 13,k 14,k 15,k 16,k 17,k 18,k 19,k 20,k 21,k 22,k 23,k 24,k 25,k 26,k 27,k 28,k 29,k 30,k 31],false=false],val:=SV.agg [SV.int false IntKind.u8 (M.nb z0 z3),SV.int false IntKind.u8 (M.nb z0 z2),SV.int false IntKind.u8 (M.nb z0 (2:Nat)),SV.int false IntKind.u8 (M.nb z0 (3:Nat)),SV.int false IntKind.u8 (M.nb z0 (4:Nat)),SV.int false IntKind.u8 (M.nb z0 (5:Nat)),SV.int false IntKind.u8 (M.nb z0 (6:Nat)),SV.int false IntKind.u8 (M.nb z0 (7:Nat)),SV.int false IntKind.u8 (M.nb z0 (8:Nat)),SV.int false IntKind.u8 (M.nb z0 (9:Nat)),SV.int false IntKind.u8 (M.nb z0 (10:Nat)),SV.int false IntKind.u8 (M.nb z0 (11:Nat)),SV.int false IntKind.u8 (M.nb z0 (12:Nat)),SV.int false IntKind.u8 (M.nb z0 (13:Nat)),SV.int false IntKind.u8 (M.nb z0 (14:Nat)),SV.int false IntKind.u8 (M.nb z0 (15:Nat))]}:=by kernel_rfl
theorem aLz (d:Nat->List Int) (y0 y1:Int) (m:Nat) (R:Int) (k:Nat->Int) (xs:List Int) (n:Nat) (i:Int) :
 Nk (ΓT 7 0 2) (Ai d) 100 100 Tryz.f56 (FE 7 0 2 d (.at (.exit 5)) (yI 4) ((Ct (.int true .i64 4) n i [k 0,k 1,k 2,k 3,k 4,k 5,k 6,k 7,k 8,k 9,k 10,k 11,k 12,k 13,k 14,k 15,k 16,k 17,k 18,k 19,k 20,k 21,k 22,k 23,k 24,k 25,k 26,k 27,k 28,k 29,k 30,k 31] y0 y1 m 0 R [] xs).hint [false])) =
 sh (M.V [k 16,k 17,k 18,k 19,k 20,k 21,k 22,k 23]+(18446744073709551616:Int)*M.V [k 24,k 25,k 26,k 27,k 28,k 29,k 30,k 31]) fun z0=>
 sh (0:Int) fun z1=>
 sh (6:Nat) fun z2=>
 sh (2:Nat) fun z3=>
 sh (0:Nat) fun z4=>
 some {bK:=[z2=z2\/z2=(7:Nat)\/z2=(8:Nat)\/z2=(9:Nat),M.U (M.V [k 16,k 17,k 18,k 19,k 20,k 21,k 22,k 23]),M.U (M.V [k 24,k 25,k 26,k 27,k 28,k 29,k 30,k 31]),z1<=z1/\z1<(8:Int),z3=M.nl [M.V [k 16,k 17,k 18,k 19,k 20,k 21,k 22,k 23],M.V [k 24,k 25,k 26,k 27,k 28,k 29,k 30,k 31],z1],z4=z4,z3=z3,z2=z2,[M.V [k 16,k 17,k 18,k 19,k 20,k 21,k 22,k 23],M.V [k 24,k 25,k 26,k 27,k 28,k 29,k 30,k 31],z1,z1,z1,z1]=[M.V [k 16,k 17,k 18,k 19,k 20,k 21,k 22,k 23],M.V [k 24,k 25,k 26,k 27,k 28,k 29,k 30,k 31],z1,z1,z1,z1],z3=M.nl [M.V [k 16,k 17,k 18,k 19,k 20,k 21,k 22,k 23],M.V [k 24,k 25,k 26,k 27,k 28,k 29,k 30,k 31]],z4=z4,M.nl [M.V [k 16,k 17,k 18,k 19,k 20,k 21,k 22,k 23],M.V [k 24,k 25,k 26,k 27,k 28,k 29,k 30,k 31]]=z3,z2=z2,[M.V [k 16,k 17,k 18,k 19,k 20,k 21,k 22,k 23],M.V [k 24,k 25,k 26,k 27,k 28,k 29,k 30,k 31],z1,z1,z1,z1]=[M.V [k 16,k 17,k 18,k 19,k 20,k 21,k 22,k 23],M.V [k 24,k 25,k 26,k 27,k 28,k 29,k 30,k 31],z1,z1,z1,z1],bI [k 0,k 1,k 2,k 3,k 4,k 5,k 6,k 7,k 8,k 9,k 10,k 11,k 12,k 13,k 14,k 15,k 16,k 17,k 18,k 19,k 20,k 21,k 22,k 23,k 24,k 25,k 26,k 27,k 28,k 29,k 30,k 31],[k 0,k 1,k 2,k 3,k 4,k 5,k 6,k 7,k 8,k 9,k 10,k 11,k 12,k 13,k 14,k 15,k 16,k 17,k 18,k 19,k 20,k 21,k 22,k 23,k 24,k 25,k 26,k 27,k 28,k 29,k 30,k 31]=[k 0,k 1,k 2,k 3,k 4,k 5,k 6,k 7,k 8,k 9,k 10,k 11,k 12,k 13,k 14,k 15,k 16,k 17,k 18,k 19,k 20,k 21,k 22,k 23,k 24,k 25,k 26,k 27,k 28,k 29,k 30,k 31],false=false],val:=SV.agg [SV.int false IntKind.u8 (M.nb z0 z4),SV.int false IntKind.u8 (M.nb z0 (1:Nat)),SV.int false IntKind.u8 (M.nb z0 z3),SV.int false IntKind.u8 (M.nb z0 (3:Nat)),SV.int false IntKind.u8 (M.nb z0 (4:Nat)),SV.int false IntKind.u8 (M.nb z0 (5:Nat)),SV.int false IntKind.u8 (M.nb z0 z2),SV.int false IntKind.u8 (M.nb z0 (7:Nat)),SV.int false IntKind.u8 (M.nb z0 (8:Nat)),SV.int false IntKind.u8 (M.nb z0 (9:Nat)),SV.int false IntKind.u8 (M.nb z0 (10:Nat)),SV.int false IntKind.u8 (M.nb z0 (11:Nat)),SV.int false IntKind.u8 (M.nb z0 (12:Nat)),SV.int false IntKind.u8 (M.nb z0 (13:Nat)),SV.int false IntKind.u8 (M.nb z0 (14:Nat)),SV.int false IntKind.u8 (M.nb z0 (15:Nat))]}:=by kernel_rfl
theorem aZx {c:Nat} (hc:c=6\/c=7\/c=8\/c=9) (nW:Nat) (d:Nat->List Int) (y0 y1:Int) (m:Nat) (R:Int) (k:Nat->Int) (xs:List Int) (n:Nat) (i:Int) :
 Nk (ΓT 7 0 nW) (Ai d) 100 100 Tryz.f56 (FE 7 0 nW d (.at (.exit 5)) (yI 4) ((Ct (.int true .i64 4) n i [k 0,k 1,k 2,k 3,k 4,k 5,k 6,k 7,k 8,k 9,k 10,k 11,k 12,k 13,k 14,k 15,k 16,k 17,k 18,k 19,k 20,k 21,k 22,k 23,k 24,k 25,k 26,k 27,k 28,k 29,k 30,k 31] y0 y1 m c R [] xs).hint [false])) =
 sh (18446744073709551616:Int) fun z4=>
 sh (M.n3 (M.w0 R) (M.w1 R) (M.w2 R)+(M.V [k 16,k 17,k 18,k 19,k 20,k 21,k 22,k 23]+z4*M.V [k 24,k 25,k 26,k 27,k 28,k 29,k 30,k 31])) fun z0=>
 sh (M.w0 z0+z4*M.w1 z0) fun z1=>
 sh (0:Int) fun z2=>
 sh (0:Nat) fun z3=>
 some {bK:=[c=6\/c=7\/c=8\/c=9,M.U (M.w0 z0),M.U (M.w1 z0),z2<=M.w2 z0/\M.w2 z0<(8:Int),M.ln z0=M.nl [M.w0 z0,M.w1 z0,M.w2 z0],z3=z3,M.ln z0=M.ln z0,c=c,[M.w0 z0,M.w1 z0,M.w2 z0]++List.replicate (c-3) z2=[M.w0 z0,M.w1 z0,M.w2 z0]++List.replicate (c-3) z2,c=6\/c=7\/c=8\/c=9,M.U (M.w0 R),M.U (M.w1 R),z2<=M.w2 R/\M.w2 R<(4:Int),M.U (M.V [k 16,k 17,k 18,k 19,k 20,k 21,k 22,k 23]),M.U (M.V [k 24,k 25,k 26,k 27,k 28,k 29,k 30,k 31]),M.ln R=M.nl [M.w0 R,M.w1 R,M.w2 R],M.nl [M.V [k 16,k 17,k 18,k 19,k 20,k 21,k 22,k 23],M.V [k 24,k 25,k 26,k 27,k 28,k 29,k 30,k 31]]=M.nl [M.V [k 16,k 17,k 18,k 19,k 20,k 21,k 22,k 23],M.V [k 24,k 25,k 26,k 27,k 28,k 29,k 30,k 31]],z3=z3,M.ln R=M.ln R,c=c,z3=z3,M.nl [M.V [k 16,k 17,k 18,k 19,k 20,k 21,k 22,k 23],M.V [k 24,k 25,k 26,k 27,k 28,k 29,k 30,k 31]]=M.nl [M.V [k 16,k 17,k 18,k 19,k 20,k 21,k 22,k 23],M.V [k 24,k 25,k 26,k 27,k 28,k 29,k 30,k 31]],(6:Nat)=(6:Nat),[M.w0 R,M.w1 R,M.w2 R]++List.replicate (c-3) z2=[M.w0 R,M.w1 R,M.w2 R]++List.replicate (c-3) z2,[M.V [k 16,k 17,k 18,k 19,k 20,k 21,k 22,k 23],M.V [k 24,k 25,k 26,k 27,k 28,k 29,k 30,k 31],z2,z2,z2,z2]=[M.V [k 16,k 17,k 18,k 19,k 20,k 21,k 22,k 23],M.V [k 24,k 25,k 26,k 27,k 28,k 29,k 30,k 31],z2,z2,z2,z2],bI [k 0,k 1,k 2,k 3,k 4,k 5,k 6,k 7,k 8,k 9,k 10,k 11,k 12,k 13,k 14,k 15,k 16,k 17,k 18,k 19,k 20,k 21,k 22,k 23,k 24,k 25,k 26,k 27,k 28,k 29,k 30,k 31],[k 0,k 1,k 2,k 3,k 4,k 5,k 6,k 7,k 8,k 9,k 10,k 11,k 12,k 13,k 14,k 15,k 16,k 17,k 18,k 19,k 20,k 21,k 22,k 23,k 24,k 25,k 26,k 27,k 28,k 29,k 30,k 31]=[k 0,k 1,k 2,k 3,k 4,k 5,k 6,k 7,k 8,k 9,k 10,k 11,k 12,k 13,k 14,k 15,k 16,k 17,k 18,k 19,k 20,k 21,k 22,k 23,k 24,k 25,k 26,k 27,k 28,k 29,k 30,k 31],false=false],val:=SV.agg [SV.int false IntKind.u8 (M.nb z1 z3),SV.int false IntKind.u8 (M.nb z1 (1:Nat)),SV.int false IntKind.u8 (M.nb z1 (2:Nat)),SV.int false IntKind.u8 (M.nb z1 (3:Nat)),SV.int false IntKind.u8 (M.nb z1 (4:Nat)),SV.int false IntKind.u8 (M.nb z1 (5:Nat)),SV.int false IntKind.u8 (M.nb z1 (6:Nat)),SV.int false IntKind.u8 (M.nb z1 (7:Nat)),SV.int false IntKind.u8 (M.nb z1 (8:Nat)),SV.int false IntKind.u8 (M.nb z1 (9:Nat)),SV.int false IntKind.u8 (M.nb z1 (10:Nat)),SV.int false IntKind.u8 (M.nb z1 (11:Nat)),SV.int false IntKind.u8 (M.nb z1 (12:Nat)),SV.int false IntKind.u8 (M.nb z1 (13:Nat)),SV.int false IntKind.u8 (M.nb z1 (14:Nat)),SV.int false IntKind.u8 (M.nb z1 (15:Nat))]}:=by rcases hc with rfl | rfl | rfl | rfl <;> kernel_rfl
def sgE (key:List Int) (d:Nat->List Int):bL:={ val:=.agg ((M.tag key (M.cat d)).map (.int false .u8)) }
def Jy (key:List Int) (d:Nat->List Int):Int:=eU key d (M.cat d).length+(M.yB key+18446744073709551616*M.zN key)
theorem aLd {key:List Int} {d:Nat->List Int} (hk:bI key) (vF:(M.cat d).length%16=0) {W:Int} (hW:M.w0 (Jy key d)+18446744073709551616*M.w1 (Jy key d)=W) :
 (SV.agg [SV.int false .u8 (M.nb W 0),SV.int false .u8 (M.nb W 1),SV.int false .u8 (M.nb W 2),SV.int false .u8 (M.nb W 3),SV.int false .u8 (M.nb W 4),SV.int false .u8 (M.nb W 5),SV.int false .u8 (M.nb W 6),SV.int false .u8 (M.nb W 7),SV.int false .u8 (M.nb W 8),SV.int false .u8 (M.nb W 9),SV.int false .u8 (M.nb W 10),SV.int false .u8 (M.nb W 11),SV.int false .u8 (M.nb W 12),SV.int false .u8 (M.nb W 13),SV.int false .u8 (M.nb W 14),SV.int false .u8 (M.nb W 15)])=(sgE key d).val:=by
 unfold sgE
 rw [M.LA hk vF,M.aTo hk]
 show _=SV.agg (((List.range 16).map (M.nb (M.w0 (Jy key d)+18446744073709551616*M.w1 (Jy key d)))).map (SV.int false .u8))
 rw [hW];rfl
open M in
theorem aUv {c:Nat} (_:c=6\/c=7\/c=8\/c=9) {R Z0 Z1:Int} (hR:0<=R/\R<aO) (h0:U Z0) (h1:U Z1) :
 U (w0 (n3 (w0 R) (w1 R) (w2 R)+(Z0+18446744073709551616*Z1)))/\U (w1 (n3 (w0 R) (w1 R) (w2 R)+(Z0+18446744073709551616*Z1)))/\(0<=w2 (n3 (w0 R) (w1 R) (w2 R)+(Z0+18446744073709551616*Z1))/\w2 (n3 (w0 R) (w1 R) (w2 R)+(Z0+18446744073709551616*Z1))<8)/\(0<=w2 R/\w2 R<4):=by
 obtain ⟨a,b,c'⟩:=VW (n3 (w0 R) (w1 R) (w2 R)+(Z0+18446744073709551616*Z1))
 refine ⟨a,b,?_,?_⟩
 .rw [Nb hR.1 hR.2]
  unfold U at h0 h1;unfold aO at hR;unfold w2;omega
 .unfold aO at hR;unfold w2;omega
set_option maxHeartbeats 4000000 in
theorem aLy {key:List Int} {d:Nat->List Int} (hk:bI key) (vF:(M.cat d).length%16=0) {w0:World} {Mx:Nat->Prop} {V0:aZ} {Q:Exit->Act->World->Prop}
 (H:∀ x s e',Gz (ΓT 7 0 (M.nl [M.yB key,M.zN key])) (Ai d) 100 100 Tryz.f56 x s=some e'->(∀ q∈e'.bK,q)->e'.val=(sgE key d).val->e'.new=(sgE key d).new->e'.wr=(sgE key d).wr->G Tryz.prog (ΓT 7 0 (M.nl [M.yB key,M.zN key])) w0 Mx (aY 100 (Ai d)) Tryz.f56.ntmps 100 V0 (.at x) [] s Q)
 {c:Nat} (hR:TR c (eU key d (M.cat d).length)) :
 G Tryz.prog (ΓT 7 0 (M.nl [M.yB key,M.zN key])) w0 Mx (aY 100 (Ai d)) Tryz.f56.ntmps 100 V0 (.at (.exit 5)) (yI 4) (TP key d (.int true .i64 (4:Nat)) 4 (d 5).length c (eU key d (M.cat d).length) (M.cat d).length) Q:=by
 have hz:=M.bCm hk
 obtain ⟨z0,z1⟩:=hz
 have hB:bI (M.kS key):=M.MF hk
 have aR:=uG 7 0 (M.nl [M.yB key,M.zN key])
 have aU:=uH 7 0 (M.nl [M.yB key,M.zN key])
 obtain ⟨hC,hR0,hR1,hR2⟩:=hR
 have gW:=fun W h=>aLd (W:=W) hk vF h
 have hN:Jy key d=eU key d (M.cat d).length+(M.yB key+18446744073709551616*M.zN key):=rfl
 unfold TP
 rw [M.MI _ vF]
 have big:∀ c,(c=6\/c=7\/c=8\/c=9)->M.w0 (Jy key d)+18446744073709551616*M.w1 (Jy key d)=M.w0 (M.n3 (M.w0 (eU key d (M.cat d).length)) (M.w1 (eU key d (M.cat d).length)) (M.w2 (eU key d (M.cat d).length))+(M.yB key+18446744073709551616*M.zN key))+18446744073709551616*M.w1 (M.n3 (M.w0 (eU key d (M.cat d).length)) (M.w1 (eU key d (M.cat d).length)) (M.w2 (eU key d (M.cat d).length))+(M.yB key+18446744073709551616*M.zN key)):=by
  intro c hc
  rw [hN,M.Nb hR1 hR2]
 have ob:∀ c,(c=6\/c=7\/c=8\/c=9)->_:=fun c hc=>aUv (c:=c) hc ⟨hR1,hR2⟩ z0 z1
 rcases hC with rfl | hC
 .have UA:=hR0 rfl
  rw [UA,Int.zero_add] at hN
  rw [UA]
  have e0:M.w0 (Jy key d)=M.yB key:=by rw [hN];unfold M.U at z0 z1;unfold M.w0;omega
  have e1:M.w1 (Jy key d)=M.zN key:=by rw [hN];unfold M.U at z0 z1;unfold M.w1;omega
  have en:M.nl [M.yB key,M.zN key,0]=M.nl [M.yB key,M.zN key]:=M.gQ [M.yB key,M.zN key]
  rw [e0,e1] at gW
  generalize Kc:M.nl [M.yB key,M.zN key]=nW at *
  rcases M.VB (M.yB key) (M.zN key) with ⟨h,y0,y1⟩ | ⟨h,y0,y1⟩ | ⟨h,y0⟩
  .rw [Kc] at h;subst h
   refine G.oQ (cl:=[]) aR aU mix [false] H (aMb d _ _ _ _ (fun j=>(M.kS key).getD j 0) _ _ _) (aA ?_) (gW 0 (by rw [y0,y1];rfl)) rfl rfl
   exact ⟨Kc.symm,rfl,Kc,rfl,rfl,hB,rfl,rfl,trivial⟩
  .rw [Kc] at h;subst h
   refine G.oQ (cl:=[]) aR aU mix [false] H (aMa d _ _ _ _ (fun j=>(M.kS key).getD j 0) _ _ _) (aA ?_) (gW (M.yB key) (by rw [y1];omega)) rfl rfl
   exact ⟨z0,rfl,rfl,rfl,rfl,Kc.symm,rfl,Kc,rfl,rfl,hB,rfl,rfl,trivial⟩
  .rw [Kc] at h;subst h
   refine G.oQ (cl:=[]) aR aU mix [false] H (aLz d _ _ _ _ (fun j=>(M.kS key).getD j 0) _ _ _) (aA ?_) (gW _ rfl) rfl rfl
   exact ⟨.inl rfl,z0,z1,⟨by decide,by decide⟩,en.symm,rfl,rfl,rfl,rfl,Kc.symm,rfl,Kc,rfl,rfl,hB,rfl,rfl,trivial⟩
 obtain ⟨o1,o2,o3,o4⟩:=ob c hC
 have u:=M.VW (eU key d (M.cat d).length)
 refine G.oQ (cl:=[]) aR aU mix [false] H (aZx hC (M.nl [M.yB key,M.zN key]) d _ _ _ _ (fun j=>(M.kS key).getD j 0) _ _ _) (aA ?_) (gW _ (big c hC)) rfl rfl
 exact ⟨hC,o1,o2,o3,rfl,rfl,rfl,rfl,rfl,hC,u.1,u.2.1,o4,z0,z1,rfl,rfl,rfl,rfl,rfl,rfl,rfl,rfl,rfl,rfl,hB,rfl,rfl,trivial⟩
set_option maxHeartbeats 4000000 in
theorem aAt {key:List Int} {d:Nat->List Int} (hk:bI key) (hd:bI (M.cat d)) (hl:(M.cat d).length<=1073741824) (vF:(M.cat d).length%16=0) :
 aE Tryz.prog (ΓT 7 0 (M.nl [M.yB key,M.zN key])) 56 (GH key) (Ai d) 100 100 (sgE key d):=by
 refine gI (uG _ _ _) (uH _ _ _) Tryz.func56 (by kernel_rfl) rfl (zzL (by kernel_rfl)) rfl [] ?_
 intro w0 Mx V0 Q hb H
 have XK:=fun c hR=>aLy hk vF H (c:=c) hR
 have hB:bI (M.kS key):=M.MF hk
 generalize M.nl [M.yB key,M.zN key]=nW at *
 have uC:pZ (ΓT 7 0 0) (aY 100 (Ai d)) 100 V0:=hb.Hm (pE _ _ _ _ _ _)
 have h5:=M.aHe d
 have next:∀ J,J<4->(∀ c,TR c (eU key d (M.off d (J+1)))->G Tryz.prog (ΓT 7 0 nW) w0 Mx (aY 100 (Ai d)) Tryz.f56.ntmps 100 V0 (.go (.loop qA)) (yI (J+1)) (TP key d (.int false .i64 ((J+1:Nat):Int)) (J+1) 0 c (eU key d (M.off d (J+1))) (M.off d (J+1))) Q) ->
  ∀ c,TR c (eU key d (M.off d J))->G Tryz.prog (ΓT 7 0 nW) w0 Mx (aY 100 (Ai d)) Tryz.f56.ntmps 100 V0 (.go (.loop qA)) (yI J) (TP key d (.int false .i64 (J:Nat)) J 0 c (eU key d (M.off d J)) (M.off d J)) Q:=by
  intro J hJ hG c hR
  refine Pf hk hd hl (by omega) hb (fun c hR=>?_) hR
  refine G.Hm (Γ':=ΓT 7 0 0) (pE _ _ _ _ _ _) ?_
  exact G.cW (uG _ _ _) (uH _ _ _) mix uC [] (aMe hR.1 hJ (M.kS key) d (M.vE key) (M.tO key) (M.nl [M.vE key,M.tO key]) _ _ (d (J+1)) (d (J+1)).length ((d (J+1)).length:Nat)) NQ (G.Hm (Γ':=ΓT 7 0 nW) (pE _ _ _ _ _ _) (hG c hR))
 have last:∀ c,TR c (eU key d (M.off d 4))->G Tryz.prog (ΓT 7 0 nW) w0 Mx (aY 100 (Ai d)) Tryz.f56.ntmps 100 V0 (.go (.loop qA)) (yI 4) (TP key d (.int false .i64 ((4:Nat):Int)) 4 0 c (eU key d (M.off d 4)) (M.off d 4)) Q:=by
  intro c hR
  refine Pf hk hd hl (by omega) hb (fun c hR=>?_) hR
  have hR':TR c (eU key d (M.off d 5)):=hR
  show G Tryz.prog (ΓT 7 0 nW) w0 Mx (aY 100 (Ai d)) Tryz.f56.ntmps 100 V0 (.at (.exit 5)) (yI 4) (TP key d (.int true .i64 (4:Nat)) 4 (d 5).length c (eU key d (M.off d 5)) (M.off d 5)) Q
  rw [h5] at hR' |-
  exact XK c hR'
 have all:=next 0 (by decide) (next 1 (by decide) (next 2 (by decide) (next 3 (by decide) last)))
 have ha0:eU key d (M.off d 0)=0:=by simp [eU,M.off,M.acc]
 refine G.Hm (Γ':=ΓT 7 0 0) (pE _ _ _ _ _ _) ?_
 refine G.cW (uG _ _ _) (uH _ _ _) mix uC [] (aZy key (M.kS key) d (M.vE key) (M.tO key) (M.nl [M.vE key,M.tO key])) (aA ?_) (G.Hm (Γ':=ΓT 7 0 nW) (pE _ _ _ _ _ _) ?_)
 .exact ⟨hB,rfl,rfl,rfl,rfl,rfl,⟨rfl,rfl⟩,rfl,rfl,rfl,rfl,rfl,rfl,trivial⟩
 .have:=all 0 ⟨.inl rfl,fun _=>ha0,by rw [ha0];decide,by rw [ha0];decide⟩
  rw [ha0] at this
  exact this
def Cm (x1 x2 x3 x4 x5:List Int):Nat->List Int
 | 1=>x1
 | 2=>x2
 | 3=>x3
 | 4=>x4
 | _=>x5
def roL:SB->Option (List SV)
 | .own cs _=>some cs
 | .fS cs=>some cs
 | _=>none
def HZ (vs:List SV) (T:bA):Option Canon:=match vs with
 | [ks,.aJ L _ 0 5 5]=>match cJ ks,(T L).bind roL with
   | some (.u8,k),some [p1,p2,p3,p4,p5]=>match cZ T .u8 p1,cZ T .u8 p2,cZ T .u8 p3,cZ T .u8 p4,cZ T .u8 p5 with
     | some (o1,x1),some (o2,x2),some (o3,x3),some (o4,x4),some (o5,x5)=>some { eN:=[.ai .u8 k,.aJ 62 true 0 5 5],T0:=sgB (Cm x1 x2 x3 x4 x5),vl:=[(62,.lab L 0),(71,.cell L 0),(72,.cell L 1),(73,.cell L 2),(74,.cell L 3),(75,.cell L 4)],e0:={ val:=.ai .u8 (M.tag k (x1++(x2++(x3++(x4++x5))))) },conds:=(k.length=32)::bI k::bI (x1++(x2++(x3++(x4++x5))))::((x1++(x2++(x3++(x4++x5)))).length<=1073741824)::((x1++(x2++(x3++(x4++x5)))).length%16=0)::(o1++(o2++(o3++(o4++o5)))) }
     | _,_,_,_,_=>none
   | _,_=>none
 | _=>none
theorem aKl (a b c:Nat):(ΓT a b c).aT=aB:=by kernel_rfl
theorem aLc (Γ:Env) (hg:Γ.aT=aB):aI Tryz.prog Γ 56 (aL aB 100 HZ):=by
 refine aW hg fun vs T c hd hc=>?_
 unfold HZ at hd
 split at hd
 case h_2=>cases hd
 split at hd
 case h_2=>cases hd
 split at hd
 case h_2=>cases hd
 cases hd
 rename_i k _ _ _ _ _ _ _ _ _ _ _ _ o1 x1 o2 x2 o3 x3 o4 x4 o5 x5 _ _ _ _ _
 have h32:k.length=32:=hc _ zzC
 have h:aE Tryz.prog _ 56 (GH k) (Ai (Cm x1 x2 x3 x4 x5)) 100 100 (sgE k (Cm x1 x2 x3 x4 x5)):=aAt (hc _ (by simp)) (hc _ (by simp [M.cat,Cm])) (hc _ (by simp [M.cat,Cm])) (hc _ (by simp [M.cat,Cm]))
 refine h.words (hg.trans (aKl _ _ _).symm) (fun V=>?_) (fun _ _ h=>h) (fun V=>?_) rfl rfl
 .simp only [GH,aG,bB V h32]
 .show den V (.agg ((M.tag k (M.cat (Cm x1 x2 x3 x4 x5))).map (.int false .u8)))=_
  simp only [den,zF]
  rfl
namespace P
theorem aHi {x r q:Int}:(x*(r-p*q))%p=(x*r)%p:=by
 rw [Int.mul_sub,show x*(p*q)=p*(x*q) by rw [Int.mul_left_comm],Xa]
theorem Jd {r q:Int} (d:List Int):∀ j,hor (r-p*q) d j=hor r d j
 | 0=>rfl
 | j+1=>by simp only [hor];rw [Jd d j,aHi]
theorem Vl {r q:Int} (d:List Int):Sk (r-p*q) d=Sk r d:=by
 unfold Sk
 rw [Jd,aHi]
theorem EK {k:List Int} (hk:∀ i,tW (k.getD i 0)):∀ i,tW ((dR k).getD i 0):=tC fun x hx=>by
 unfold dR at hx
 rcases List.mem_append.1 hx with h | h
 .obtain ⟨i,_,rfl⟩:=List.mem_map.1 h
  have Zz:∀ a b:Int,tW (bW .u8 a b):=fun a b=>by
   have e:bW .u8 a b=((BitVec.ofInt 8 a &&& BitVec.ofInt 8 b).toNat:Int)%256:=rfl
   unfold tW
   rw [e];omega
  unfold Kz
  split
  .exact Zz _ _
  .split
   .exact hk _
   .exact Zz _ _
  .exact hk _
 .simp only [List.mem_singleton] at h
  subst h
  exact ⟨by decide,by decide⟩
def BA (key data:List Int):Int:=(Sk (Rw (dR (key.take 16))) data+V2 (key.drop 16))%340282366920938463463374607431768211456
theorem aNl {key data:List Int} (hk:key.length=32) (hkb:∀ x∈key,tW x) (hd:∀ x∈data,tW x) :
 tag (Gw (put ⟨num (dR (key.take 16)),List.replicate 5 0,key.drop 16,oX,0⟩ data)) (put ⟨num (dR (key.take 16)),List.replicate 5 0,key.drop 16,oX,0⟩ data).mask =
  (List.range 8).map (byteOf (BA key data%18446744073709551616))++(List.range 8).map (byteOf (BA key data/18446744073709551616)):=by
 have hb:=Kp (EK (k:=key.take 16) (tC fun x hx=>hkb x (List.mem_of_mem_take hx)))
 obtain ⟨hO,q,hq⟩:=hb
 obtain ⟨h1,h2,h3⟩:=aOl (mask:=key.drop 16) hO (by rw [List.length_drop];omega) hd
 obtain ⟨t1,t2⟩:=BR h1 (s:=key.drop 16) (tC fun x hx=>hkb x (List.mem_of_mem_drop hx))
 rw [h2,hq,Vl] at t1 t2
 rw [h3]
 unfold tag aIg
 rw [t1,t2]
 rfl
end P
namespace P
theorem aFu {T:Int} (h:0<=T):(List.range 8).map (byteOf (T%18446744073709551616))++(List.range 8).map (byteOf (T/18446744073709551616))=(List.range 16).map fun i=>T/((256^i:Nat):Int)%256:=by
 have lo:∀ i,i<8->byteOf (T%18446744073709551616) i=T/((256^i:Nat):Int)%256:=by
  intro i hi
  rw [tH (by omega) hi]
  match i,hi with
  | 0,_=>show T%18446744073709551616/1%256=T/1%256;omega
  | 1,_=>show T%18446744073709551616/256%256=T/256%256;omega
  | 2,_=>show T%18446744073709551616/65536%256=T/65536%256;omega
  | 3,_=>show T%18446744073709551616/16777216%256=T/16777216%256;omega
  | 4,_=>show T%18446744073709551616/4294967296%256=T/4294967296%256;omega
  | 5,_=>show T%18446744073709551616/1099511627776%256=T/1099511627776%256;omega
  | 6,_=>show T%18446744073709551616/281474976710656%256=T/281474976710656%256;omega
  | 7,_=>show T%18446744073709551616/72057594037927936%256=T/72057594037927936%256;omega
 have fW:∀ i,i<8->byteOf (T/18446744073709551616) i=T/((256^(8+i):Nat):Int)%256:=by
  intro i hi
  rw [tH (by omega) hi]
  have e:((256^(8+i):Nat):Int)=18446744073709551616*((256^i:Nat):Int):=by rw [Nat.pow_add,Int.natCast_mul];rfl
  rw [e,Int.ediv_ediv_of_nonneg (by decide)]
 have split:(List.range 16).map (fun i=>T/((256^i:Nat):Int)%256)=(List.range 8).map (fun i=>T/((256^i:Nat):Int)%256)++(List.range 8).map (fun i=>T/((256^(8+i):Nat):Int)%256):=by
  rw [show (16:Nat)=8+8 from rfl,List.range_add,List.map_append,List.map_map]
  rfl
 rw [split]
 congr 1
 .exact List.map_congr_left fun i h=>lo i (by simpa using h)
 .exact List.map_congr_left fun i h=>fW i (by simpa using h)
end P
namespace P
theorem yW (l r:List Int) {i:Nat} (h:i<l.length):(l++r).getD i 0=l.getD i 0:=by simp [zzG,List.getElem?_append_left h]
theorem fV {d:List Int} {k i:Nat} (h:k+16<=d.length) (hi:i<16):((d.drop k).take 16++[1]).getD i 0=d.getD (k+i) 0:=by
 rw [yW _ _ (by rw [List.length_take,List.length_drop];omega)]
 simp [zzG,List.getElem?_take,hi,List.getElem?_drop]
theorem aFw {d:List Int} {k:Nat} (h:k+16<=d.length):((d.drop k).take 16++[1]).getD 16 0=1:=by
 have e:((d.drop k).take 16).length=16:=by rw [List.length_take,List.length_drop];omega
 rw [zzG,List.getElem?_append_right (by omega),e];rfl
theorem aGi {d:List Int} {k:Nat} (h:16*k+16<=d.length) (hl:d.length<=1073741824):Rw ((d.drop (16*k)).take 16++[1])=M.V (M.aN d ((16*k:Nat):Int) 16):=by
 rw [M.MW d (by omega)]
 unfold Rw
 rw [fV h (i:=0) (by decide),fV h (i:=1) (by decide),fV h (i:=2) (by decide),fV h (i:=3) (by decide),fV h (i:=4) (by decide),fV h (i:=5) (by decide),fV h (i:=6) (by decide),fV h (i:=7) (by decide),fV h (i:=8) (by decide),fV h (i:=9) (by decide),fV h (i:=10) (by decide),fV h (i:=11) (by decide),fV h (i:=12) (by decide),fV h (i:=13) (by decide),fV h (i:=14) (by decide),fV h (i:=15) (by decide),aFw h]
 simp only [M.uT,M.Dw,Nat.add_zero]
 omega
theorem Zh (r:Int) {d:List Int} (hl:d.length<=1073741824):∀ j,16*j<=d.length->hor r d j=M.acc r d j
 | 0,_=>rfl
 | j+1,h=>by
   rw [M.Qi r (by omega),<- Zh r hl j (by omega),<- aGi (by omega) hl]
   rfl
theorem dH (k:List Int) {i:Nat} (h:i<16):(k.take 16).getD i 0=k.getD i 0:=by simp [zzG,List.getElem?_take,h]
theorem EL (k:List Int):dR k=[k.getD 0 0,k.getD 1 0,k.getD 2 0,bW .u8 (k.getD 3 0) 15,bW .u8 (k.getD 4 0) 252,k.getD 5 0,k.getD 6 0,bW .u8 (k.getD 7 0) 15,bW .u8 (k.getD 8 0) 252,k.getD 9 0,k.getD 10 0,bW .u8 (k.getD 11 0) 15,bW .u8 (k.getD 12 0) 252,k.getD 13 0,k.getD 14 0,bW .u8 (k.getD 15 0) 15,0]:=rfl
theorem EO (k:List Int):Rw (dR (k.take 16))=M.vE k+18446744073709551616*M.tO k:=by
 rw [EL,dH k (i:=0) (by decide),dH k (i:=1) (by decide),dH k (i:=2) (by decide),dH k (i:=3) (by decide),dH k (i:=4) (by decide),dH k (i:=5) (by decide),dH k (i:=6) (by decide),dH k (i:=7) (by decide),dH k (i:=8) (by decide),dH k (i:=9) (by decide),dH k (i:=10) (by decide),dH k (i:=11) (by decide),dH k (i:=12) (by decide),dH k (i:=13) (by decide),dH k (i:=14) (by decide),dH k (i:=15) (by decide)]
 unfold Rw M.vE M.tO
 simp only [M.uT,M.Dw,List.getD_cons_zero,List.getD_cons_succ]
 omega
theorem nN (k:List Int) (i:Nat):(k.drop 16).getD i 0=k.getD (16+i) 0:=by simp [zzG,List.getElem?_drop]
theorem aYx (k:List Int):V2 (k.drop 16)=M.yB k+18446744073709551616*M.zN k:=by
 have e:∀ a,S (k.drop 16) a 8=k.getD (16+(a+0)) 0+256*k.getD (16+(a+1)) 0+65536*k.getD (16+(a+2)) 0+16777216*k.getD (16+(a+3)) 0+4294967296*k.getD (16+(a+4)) 0+1099511627776*k.getD (16+(a+5)) 0+281474976710656*k.getD (16+(a+6)) 0+72057594037927936*k.getD (16+(a+7)) 0:=by
  intro a
  simp only [S,nN]
  rw [show ((256^0:Nat):Int)=1 from rfl,show ((256^1:Nat):Int)=256 from rfl,show ((256^2:Nat):Int)=65536 from rfl,show ((256^3:Nat):Int)=16777216 from rfl,show ((256^4:Nat):Int)=4294967296 from rfl,show ((256^5:Nat):Int)=1099511627776 from rfl,show ((256^6:Nat):Int)=281474976710656 from rfl,show ((256^7:Nat):Int)=72057594037927936 from rfl]
  omega
 unfold V2
 rw [e 0,e 8]
 unfold M.yB M.zN
 simp only [M.uT,M.Dw,Nat.reduceAdd]
 omega
theorem aCd {key D:List Int} (hk:bI key) (hl:D.length<=1073741824) (vF:D.length%16=0) :
 BA key D=M.w0 (M.acc (M.V (M.cl key)) D (D.length/16)+(M.yB key+18446744073709551616*M.zN key))+18446744073709551616*M.w1 (M.acc (M.V (M.cl key)) D (D.length/16)+(M.yB key+18446744073709551616*M.zN key)):=by
 unfold BA Sk
 rw [if_pos vF,EO,<- M.aTo hk,aYx,Zh _ hl _ (by omega)]
 unfold M.w0 M.w1
 omega
theorem aCc {key D:List Int} (hk:key.length=32) (hb:bI key) (hd:bI D) (hl:D.length<=1073741824) (vF:D.length%16=0) :
 tag (Gw (put ⟨num (dR (key.take 16)),List.replicate 5 0,key.drop 16,oX,0⟩ D)) (put ⟨num (dR (key.take 16)),List.replicate 5 0,key.drop 16,oX,0⟩ D).mask=M.tag key D:=by
 have h0:0<=BA key D:=by unfold BA;omega
 rw [aNl hk hb hd,aFu h0,M.LA hb vF,aCd hb hl vF]
 refine List.map_congr_left fun i _=>?_
 unfold M.nb
 rw [Int.natCast_pow]
 rfl
end P
noncomputable def XS (cp:List Int->List Int):Nat->Option Sum:=dO (dO (dO (dO fD 77 (aL aB 100 uP)) 126 (aL aB 100 (Xq cp))) 84 (aL aB 100 IZ)) 85 (aL aB 100 Sz)
theorem aEs (cp:List Int->List Int):∀ f S,XS cp f=some S->∀ Γ:Env,Γ.aT=aB->aI Tryz.prog Γ f S:=bE (bE (bE (bE gY 77 _ Eg) 126 _ (MR cp)) 84 _ aNb) 85 _ YP
def of0 (cp:List Int->List Int) (key:List Int):P.MS:=⟨c5 (cp (cN 16 key)),c5 (List.replicate 5 0),Wp fun j=>key.getD (16+j) 0,Wp fun _=>0,(0:Int).toNat⟩
def Wq (cp:List Int->List Int) (key:List Int) (d:Nat->List Int):Nat->P.MS
 | 0=>of0 cp key
 | j+1=>P.nf (P.put (Wq cp key d j) (d (j+1)))
def ofQ (cp:List Int->List Int) (key:List Int) (d:Nat->List Int):Nat->List Prop
 | 0=>qM (cp (cN 16 key)) (List.replicate 5 0) (fun j=>key.getD (16+j) 0) (fun _=>0) 0 (of0 cp key)
 | j+1=>qMS (P.put (Wq cp key d j) (d (j+1))) (Wq cp key d (j+1))
def ofO (cp:List Int->List Int) (key:List Int) (d:Nat->List Int) (r:List Prop):Nat->List Prop
 | 0=>r
 | j+1=>(Wq cp key d j).WF::((d (j+1)).length<=1000000000000)::((d (j+1)).length=(d (j+1)).length)::((d (j+1)).length=(d (j+1)).length)::(ofQ cp key d j++(d (j+1)=d (j+1))::ofO cp key d r j)
theorem bBi (cp:List Int->List Int) (key:List Int) (d:Nat->List Int):aF (env (XS cp) 4) Tryz.f48 true [] 1500 [.raw (.pointer none),.agg (cI .u8 32 key),.aJ 62 true 0 5 5] (Ai d) 100 100 =
 some { bK:=(Wq cp key d 5).WF::(ofQ cp key d 5++ofO cp key d [(cN 16 key).length=16,cp (cN 16 key)=P.num (P.dR (cN 16 key)),cN 16 key=cN 16 key] 5),val:=.agg (cI .u8 16 (P.Hr (Wq cp key d 5))) }:=by kernel_rfl
namespace P
def new (key:List Int):MS:=⟨num (dR (key.take 16)),List.replicate 5 0,key.drop 16,oX,0⟩
theorem aMx {key:List Int} (h:key.length=32):(new key).WF:=⟨rfl,rfl,by simp only [new,List.length_drop];omega,rfl,(by decide:0<16),rfl⟩
theorem qR {key:List Int} (h:key.length=32):cN 16 key=key.take 16:=by
 unfold cN
 apply List.ext_getElem
 .simp;omega
 .intro i h1 h2
  have hi:i<16:=by simpa using h1
  simp [zzG,show i<key.length by omega]
end P
theorem Tn {key:List Int} (h:key.length=32):of0 (fun b=>P.num (P.dR b)) key=P.new key:=by
 unfold of0 P.new
 have e1:(Wp fun j=>key.getD (16+j) 0)=key.drop 16:=by
  have:(key.drop 16).length=16:=by rw [List.length_drop];omega
  rw [<- Bp this]
  unfold Wp
  refine List.map_congr_left fun j _=>?_
  rw [P.nN]
 have e5:c5 (P.num (P.dR (key.take 16)))=P.num (P.dR (key.take 16)):=jK (P.nT _)
 rw [P.qR h,e1]
 show P.MS.mk (c5 (P.num (P.dR (key.take 16)))) _ _ _ _=_
 rw [e5]
 rfl
theorem Ko {key:List Int} (h:key.length=32) (d:Nat->List Int):∀ j,(Wq (fun b=>P.num (P.dR b)) key d j).WF
 | 0=>by
   rw [Wq,Tn h];exact P.aMx h
 | j+1=>by
   have hw:=P.Kn (Ko h d j) (d (j+1))
   rw [Wq,P.Og hw];exact hw
theorem tA {key:List Int} (h:key.length=32) (d:Nat->List Int) (j:Nat):Wq (fun b=>P.num (P.dR b)) key d (j+1)=P.put (Wq (fun b=>P.num (P.dR b)) key d j) (d (j+1)):=P.Og (P.Kn (Ko h d j) (d (j+1)))
theorem aVj {key:List Int} (h:key.length=32) (d:Nat->List Int):Wq (fun b=>P.num (P.dR b)) key d 5=P.put (P.new key) (M.cat d):=by
 unfold M.cat
 rw [P.mF,P.mF,P.mF,P.mF,tA h,tA h,tA h,tA h,tA h,Wq,Tn h]
theorem LU {key:List Int} (h:key.length=32) (d:Nat->List Int):∀ j,∀ q∈ofQ (fun b=>P.num (P.dR b)) key d j,q
 | 0=>by
   rw [ofQ,Tn h]
   refine Hv (by rw [P.qR h];rfl) rfl (fun j _=>?_) (fun j _=>(P.Yc j).symm) rfl
   simp only [P.new,P.nN]
 | j+1=>by
   rw [ofQ,tA h]
   exact Eb rfl
theorem LV {key:List Int} (h:key.length=32) (d:Nat->List Int) {r:List Prop} (hr:∀ q∈r,q):∀ j,(∀ i,i<j->(d (i+1)).length<=1000000000000)->∀ q∈ofO (fun b=>P.num (P.dR b)) key d r j,q
 | 0,_=>hr
 | j+1,hd=>aV (Ko h d j) (aV (hd j (by omega)) (aV rfl (aV rfl (rS (LU h d j) (aV rfl (LV h d hr j fun i hi=>hd i (by omega)))))))
theorem M.oK (key data:List Int):(M.tag key data).length=16:=by simp [M.tag,M.Se]
theorem aBs {key:List Int} {d:Nat->List Int} (hk:key.length=32) (hb:bI key) (hd:bI (M.cat d)) (hl:(M.cat d).length<=1073741824) (vF:(M.cat d).length%16=0) (Γ:Env) (hg:Γ.aT=aB) :
 aE Tryz.prog Γ 48 [.raw (.pointer none),.ai .u8 key,.aJ 62 true 0 5 5] (Ai d) 100 100 { val:=.ai .u8 (M.tag key (M.cat d)) }:=by
 have hs:aI Tryz.prog (env (XS fun b=>P.num (P.dR b)) 4) 48 (aF (env (XS fun b=>P.num (P.dR b)) 4) Tryz.f48 true [] 1500):=aM (bP _ 4) (bV _ (aEs _) 4) mix Tryz.func48 (by kernel_rfl) true [] 1500
 have hlen:∀ i,i<5->(d (i+1)).length<=1000000000000:=fun i hi=>by
  have:=M.LR d hi
  omega
 have h:=hs.call (bBi (fun b=>P.num (P.dR b)) key d) (aV (Ko hk d 5) (rS (LU hk d 5) (LV hk d (aV (by rw [P.qR hk,List.length_take];omega) (aV rfl (aV rfl iQ))) 5 hlen)))
 have ht:P.Hr (Wq (fun b=>P.num (P.dR b)) key d 5)=M.tag key (M.cat d):=by
  rw [aVj hk]
  exact P.aCc hk hb hd hl vF
 rw [ht] at h
 refine h.words (by rw [hg];rfl) (fun V=>?_) (fun _ _ h=>h) (fun V=>bB V (M.oK _ _)) rfl rfl
 simp only [aG,bB V hk]
def Xh (mc:List Int->List Int->List Int) (vs:List SV) (T:bA):Option Canon:=match vs with
 | [.raw (.pointer none),ks,.aJ L _ 0 5 5]=>match cJ ks,(T L).bind roL with
   | some (.u8,k),some [p1,p2,p3,p4,p5]=>match cZ T .u8 p1,cZ T .u8 p2,cZ T .u8 p3,cZ T .u8 p4,cZ T .u8 p5 with
     | some (o1,x1),some (o2,x2),some (o3,x3),some (o4,x4),some (o5,x5)=>some { eN:=[.raw (.pointer none),.ai .u8 k,.aJ 62 true 0 5 5],T0:=sgB (Cm x1 x2 x3 x4 x5),vl:=[(62,.lab L 0),(71,.cell L 0),(72,.cell L 1),(73,.cell L 2),(74,.cell L 3),(75,.cell L 4)],e0:={ val:=.ai .u8 (mc k (x1++(x2++(x3++(x4++x5))))) },conds:=(mc k (x1++(x2++(x3++(x4++x5))))=M.tag k (x1++(x2++(x3++(x4++x5)))))::(k.length=32)::bI k::bI (x1++(x2++(x3++(x4++x5))))::((x1++(x2++(x3++(x4++x5)))).length<=1073741824)::((x1++(x2++(x3++(x4++x5)))).length%16=0)::(o1++(o2++(o3++(o4++o5)))) }
     | _,_,_,_,_=>none
   | _,_=>none
 | _=>none
theorem LS (mc:List Int->List Int->List Int) (Γ:Env) (hg:Γ.aT=aB):aI Tryz.prog Γ 48 (aL aB 100 (Xh mc)):=by
 refine aW hg fun vs T c hd hc=>?_
 unfold Xh at hd
 split at hd
 case h_2=>cases hd
 split at hd
 case h_2=>cases hd
 split at hd
 case h_2=>cases hd
 cases hd
 rename_i k _ _ _ _ _ _ _ _ _ _ _ _ o1 x1 o2 x2 o3 x3 o4 x4 o5 x5 _ _ _ _ _
 have e:=hc _ zzC
 have h:=aBs (d:=Cm x1 x2 x3 x4 x5) (hc _ (zzO _ zzC)) (hc _ (zzO _ (zzO _ zzC))) (hc _ (zzO _ (zzO _ (zzO _ zzC)))) (hc _ (zzO _ (zzO _ (zzO _ (zzO _ zzC))))) (hc _ (zzO _ (zzO _ (zzO _ (zzO _ (zzO _ zzC)))))) Γ hg
 have e':mc k (M.cat (Cm x1 x2 x3 x4 x5))=M.tag k (M.cat (Cm x1 x2 x3 x4 x5)):=e
 rw [<- e'] at h
 exact h
noncomputable def Rx (si:List Int->List Int->Int->List Int) (x4 tn:Nat->List Int->List Int->List Int) (on:List Int->List Int):Env:=env (aSt si x4 tn on) 4
theorem YC (si:List Int->List Int->Int->List Int) (x4 tn:Nat->List Int->List Int->List Int) (on:List Int->List Int):cC Tryz.prog (Rx si x4 tn on):=bP _ 4
theorem YD (si:List Int->List Int->Int->List Int) (x4 tn:Nat->List Int->List Int->List Int) (on:List Int->List Int):cK Tryz.prog (Rx si x4 tn on):=bV _ (aEt si x4 tn on) 4
def WX (key nonce:List Int) (c:Int) (off len cap:Nat):List SV:=[.raw (.pointer none),.ai .u8 key,.int false .u32 c,.ai .u8 nonce,.aJ 60 false off len cap]
noncomputable def TT (si:List Int->List Int->Int->List Int) (x4 tn:Nat->List Int->List Int->List Int) (on:List Int->List Int) (xs:List Int) (t:TypeId) (cf:Cf) (K:List Fr) (s:St):Option oY:=gV (Rx si x4 tn on) (aY 100 (vG xs t)) 100 Tryz.f46.ntmps [3,9] 400 3000 cf K s
def rO (off len cap:Nat) (a:Int):List (Nat × SV):=[(0,.raw (.pointer none)),(4,.aJ 60 false off len cap),(10,.ptr 100 true 0),(11,.int false .i64 a)]
def rN (xs s:List Int) (t:TypeId):List (Nat × SB):=[(60,.ints .u8 xs t),(100,.ints .u32 s 113)]
namespace Q
def oA (off cap:Nat) (a:Int):Nat:=if (cap:Int)=a then off else off+a.toNat*1
def pd (off len cap:Nat) (a:Int) (xs:List Int):List Int:=(xs.drop (oA off cap a)).take ((len:Int).toNat-a.toNat)
def qd (p:List Int):List Int:=p.take (p.length.min 64)
def ld (q:List Int):List Int:=(List.replicate 64 0).take 0++q++(List.replicate 64 0).drop (0+q.length)
def go (len:Nat) (a k:Int):Prop:=decide (IntKind.i64.wrap ((len:Int)-a)>=k)=true
def no (len:Nat) (a k:Int):Prop:=decide (IntKind.i64.wrap ((len:Int)-a)>=k)=false
def sa (len:Nat) (a k:Int):Prop:=decide (IntKind.i64.wrap ((len:Int)-a)>=k)=decide (IntKind.i64.wrap ((len:Int)-a)>=k)
def sl (len cap:Nat) (a:Int):Prop:=(0:Int)<=(cap:Int)/\(cap:Int)<=(cap:Int)/\(0:Int)<=(len:Int)/\(len:Int)<=(cap:Int)/\(0:Int)<=a/\a<=(len:Int)
end Q
noncomputable def mxR:Option oY:=TT (fun _ _ _=>[]) (fun _ _ _=>[]) (fun _ _ _=>[]) (fun _=>[]) [] 0 (.go (codeOf Tryz.f46)) [] ((zL (WX [] [] 0 0 0 0) 100).hint [])
noncomputable def aIw:Code:=Df mxR
noncomputable def mxK:List Fr:=De mxR
noncomputable def aRw:Option oY:=TT (fun _ _ _=>[]) (fun _ _ _=>[]) (fun _ _ _=>[]) (fun _=>[]) [] 0 (.at (.exit 0)) mxK ((bM (rO 0 0 0 0) (rN [] [] 0) 101 [60] []).hint [])
noncomputable def aIx:Code:=Df aRw
noncomputable def WY:List Fr:=De aRw
theorem bBu (si:List Int->List Int->Int->List Int) (x4 tn:Nat->List Int->List Int->List Int) (on:List Int->List Int) (key nonce xs iZ s':List Int) (c:Int) (t:TypeId) (off len cap:Nat) (a':Int):cW 100 Tryz.f46.ntmps (aY 100 (vG xs t)) [] (rO off len cap a') (rN iZ s' t) 101 [60] [] (TT si x4 tn on xs t (.go (codeOf Tryz.f46)) [] ((zL (WX key nonce c off len cap) 100).hint [])) =
 some (.go (.loop aIw),mxK,[(si key nonce c).length=16,si key nonce c=B.init key nonce c,key.length=32,nonce.length=12,key=key,c=c,nonce=nonce,nonce.length=12,key.length=32,off=off,len=len,cap=cap,0=a',xs=iZ/\t=t,si key nonce c=s'/\(113:Nat)=(113:TypeId)]):=by kernel_rfl
theorem bBt (si:List Int->List Int->Int->List Int) (x4 tn:Nat->List Int->List Int->List Int) (on:List Int->List Int) (iK xs iZ s s':List Int) (t:TypeId) (off len cap:Nat) (a a':Int):cW 100 Tryz.f46.ntmps (aY 100 (vG iK t)) [] (rO off len cap a') (rN iZ s' t) 101 [60] [] (TT si x4 tn on iK t (.go aIw) [] ((bM (rO off len cap a) (rN xs s t) 101 [60] []).hint [true])) =
 some (.at .normal,[],[12<s.length,13<=s.length,x4 (Q.oA off cap a) s xs=Q.x4 (Q.oA off cap a) s xs,s.length=16,Q.oA off cap a+256<=xs.length,s=s,Q.oA off cap a=0+Q.oA off cap a,xs=xs/\t=t,s.length=16,256<=(len:Int).toNat-a.toNat,Q.sl len cap a,Q.go len a 256,Q.sa len a 256,
  off=off,len=len,cap=cap,IntKind.i64.wrap (a+256)=a',x4 (Q.oA off cap a) s xs=iZ/\t=t,s.set 12 (IntKind.u32.wrap (s.getD 12 0+4))=s'/\(113:Nat)=(113:TypeId)]):=by kernel_rfl
theorem bBs (si:List Int->List Int->Int->List Int) (x4 tn:Nat->List Int->List Int->List Int) (on:List Int->List Int) (iK xs iZ s s':List Int) (t:TypeId) (off len cap:Nat) (a a':Int):cW 100 Tryz.f46.ntmps (aY 100 (vG iK t)) [] (rO off len cap a') (rN iZ s' t) 101 [60] [] (TT si x4 tn on iK t (.go aIw) [] ((bM (rO off len cap a) (rN xs s t) 101 [60] []).hint [false])) =
 some (.at (.exit 0),[],[Q.no len a 256,Q.sa len a 256,off=off,len=len,cap=cap,a=a',xs=iZ/\t=t,s=s'/\(113:Nat)=(113:TypeId)]):=by kernel_rfl
theorem bBr (si:List Int->List Int->Int->List Int) (x4 tn:Nat->List Int->List Int->List Int) (on:List Int->List Int) (iK xs iZ s s':List Int) (t:TypeId) (off len cap:Nat) (a a':Int):cW 100 Tryz.f46.ntmps (aY 100 (vG iK t)) [] (rO off len cap a') (rN iZ s' t) 101 [60] [] (TT si x4 tn on iK t (.at (.exit 0)) mxK ((bM (rO off len cap a) (rN xs s t) 101 [60] []).hint [])) =
 some (.go (.loop aIx),WY,[off=off,len=len,cap=cap,a=a',xs=iZ/\t=t,s=s'/\(113:Nat)=(113:TypeId)]):=by kernel_rfl
theorem bBq (si:List Int->List Int->Int->List Int) (x4 tn:Nat->List Int->List Int->List Int) (on:List Int->List Int) (iK xs iZ s s':List Int) (t:TypeId) (off len cap:Nat) (a a':Int):cW 100 Tryz.f46.ntmps (aY 100 (vG iK t)) [] (rO off len cap a') (rN iZ s' t) 101 [60] [] (TT si x4 tn on iK t (.go aIx) [] ((bM (rO off len cap a) (rN xs s t) 101 [60] []).hint [true])) =
 some (.at .normal,[],[12<s.length,13<=s.length,tn (Q.oA off cap a) (on s) xs=Q.tn (Q.oA off cap a) (on s) xs,(on s).length=64,Q.oA off cap a+64<=xs.length,Q.oA off cap a=0+Q.oA off cap a,on s=on s,xs=xs/\t=t,on s=Q.one s,s.length=16,s=s,s.length=16,64<=(len:Int).toNat-a.toNat,Q.sl len cap a,Q.go len a 64,Q.sa len a 64,
  off=off,len=len,cap=cap,IntKind.i64.wrap (a+64)=a',tn (Q.oA off cap a) (on s) xs=iZ/\t=t,s.set 12 (IntKind.u32.wrap (s.getD 12 0+1))=s'/\(113:Nat)=(113:TypeId)]):=by kernel_rfl
theorem bBp (si:List Int->List Int->Int->List Int) (x4 tn:Nat->List Int->List Int->List Int) (on:List Int->List Int) (iK xs iZ s s':List Int) (t:TypeId) (off len cap:Nat) (a a':Int):cW 100 Tryz.f46.ntmps (aY 100 (vG iK t)) [] (rO off len cap a') (rN iZ s' t) 101 [60] [] (TT si x4 tn on iK t (.go aIx) [] ((bM (rO off len cap a) (rN xs s t) 101 [60] []).hint [false])) =
 some (.at (.exit 2),[],[Q.no len a 64,Q.sa len a 64,off=off,len=len,cap=cap,a=a',xs=iZ/\t=t,s=s'/\(113:Nat)=(113:TypeId)]):=by kernel_rfl
theorem bBo (si:List Int->List Int->Int->List Int) (x4 tn:Nat->List Int->List Int->List Int) (on:List Int->List Int) (iK xs s:List Int) (t:TypeId) (off len cap:Nat) (a:Int):pY (Rx si x4 tn on) (vG iK t) 100 100 Tryz.f46 [] (TT si x4 tn on iK t (.at (.exit 2)) WY ((bM (rO off len cap a) (rN xs s t) 101 [60] []).hint [false])) =
 some { bK:=[decide (IntKind.i64.wrap ((len:Int)-a)>0)=false,decide (IntKind.i64.wrap ((len:Int)-a)>0)=decide (IntKind.i64.wrap ((len:Int)-a)>0)],val:=.eP [],wr:=[(60,.ints .u8 xs t)] }:=by kernel_rfl
def Q.lt (tn:Nat->List Int->List Int->List Int) (b p:List Int):List Int:=((tn 0 b (ld (qd p))).drop 0).take 64
def Q.mv (o m:Nat) (xs y:List Int):List Int:=xs.take o++y.take (Nat.min y.length m)++xs.drop (o+Nat.min y.length m)
theorem bBn (si:List Int->List Int->Int->List Int) (x4 tn:Nat->List Int->List Int->List Int) (on:List Int->List Int) (iK xs s:List Int) (t:TypeId) (off len cap:Nat) (a:Int):pY (Rx si x4 tn on) (vG iK t) 100 100 Tryz.f46 [] (TT si x4 tn on iK t (.at (.exit 2)) WY ((bM (rO off len cap a) (rN xs s t) 101 [60] []).hint [true])) =
 some { bK:=[Q.oA off cap a+Nat.min (Q.lt tn (on s) (Q.pd off len cap a xs)).length ((len:Int).toNat-a.toNat)<=xs.length,64<=(tn 0 (on s) (Q.ld (Q.qd (Q.pd off len cap a xs)))).length,tn 0 (on s) (Q.ld (Q.qd (Q.pd off len cap a xs)))=Q.tn 0 (on s) (Q.ld (Q.qd (Q.pd off len cap a xs))),(on s).length=64,0+64<=(Q.ld (Q.qd (Q.pd off len cap a xs))).length,0=0,on s=on s,Q.ld (Q.qd (Q.pd off len cap a xs))=Q.ld (Q.qd (Q.pd off len cap a xs))/\(122:Nat)=(122:TypeId),on s=Q.one s,s.length=16,s=s,s.length=16,(0:Nat)<=0/\0+(Q.qd (Q.pd off len cap a xs)).length<=64,Q.oA off cap a+((len:Int).toNat-a.toNat)<=xs.length,Q.sl len cap a,decide (IntKind.i64.wrap ((len:Int)-a)>0)=true,decide (IntKind.i64.wrap ((len:Int)-a)>0)=decide (IntKind.i64.wrap ((len:Int)-a)>0)],val:=.eP [],wr:=[(60,.ints .u8 (Q.mv (Q.oA off cap a) ((len:Int).toNat-a.toNat) xs (Q.lt tn (on s) (Q.pd off len cap a xs))) t)] }:=by kernel_rfl
namespace Q
theorem YG (a b:Int):IntKind.u32.wrap (IntKind.u32.wrap a+b)=IntKind.u32.wrap (a+b):=by simp only [IntKind.wrap_u32];omega
def S (key nonce:List Int) (c:Int) (j:Nat):List Int:=B.init key nonce (IntKind.u32.wrap (c+(j:Int)))
theorem iW (key nonce:List Int) (c:Int) (j:Nat):(S key nonce c j).length=16:=rfl
theorem bGy (key nonce:List Int) (c:Int) (j:Nat):(S key nonce c j).getD 12 0=IntKind.u32.wrap (c+(j:Int)):=rfl
theorem aYy (key nonce:List Int) (c d:Int) (j:Nat):(S key nonce c j).set 12 d=B.init key nonce d:=rfl
theorem Uu (key nonce:List Int) (c:Int) (j k:Nat):(S key nonce c j).set 12 (IntKind.u32.wrap ((S key nonce c j).getD 12 0+(k:Int)))=S key nonce c (j+k):=by
 rw [bGy,aYy,YG]
 unfold S
 congr 2
 omega
theorem S_0 (key nonce:List Int) {c:Int} (hc:0<=c/\c<=4294967295):S key nonce c 0=B.init key nonce c:=by
 unfold S
 rw [show c+((0:Nat):Int)=c by omega,IntWalk.u32_in c hc]
theorem aVi (key nonce:List Int) (c:Int) (j:Nat):one (S key nonce c j)=B.block key nonce (IntKind.u32.wrap (c+(j:Int))):=rfl
theorem Ft (s:List Int):(one s).length=64:=by simp [one,B.out]
theorem Tl (key nonce:List Int) (c:Int) (j:Nat) {m:Nat} (hm:m<64):(one (S key nonce c j)).getD m 0=As key nonce c (64*j+m):=by
 rw [aVi]
 unfold As
 rw [show (64*j+m)/64=j by omega,show (64*j+m)%64=m by omega]
theorem aEg (key nonce:List Int) (c:Int) (j:Nat) {m:Nat} (_:m<256):jJ (S key nonce c j) m=As key nonce c (64*j+m):=by
 have e:st4 (S key nonce c j) (m/64)=S key nonce c (j+m/64):=Uu key nonce c j (m/64)
 unfold jJ
 rw [e]
 show (one (S key nonce c (j+m/64))).getD (m%64) 0=_
 rw [Tl _ _ _ _ (by omega)]
 congr 1
 omega
theorem rV (off n:Nat) (f:Nat->Int) (xs:List Int) {m:Nat} (h:m<xs.length):(tK off n f xs).getD m 0=if off<=m/\m<off+n then eZ .u8 (xs.getD m 0) (f (m-off)) else xs.getD m 0:=by
 simp [tK,zzG,h]
theorem Ib {n:Nat} {a b:List Int} (ha:a.length=n) (hb:b.length=n) (h:∀ i,i<n->a.getD i 0=b.getD i 0):a=b:=by
 apply List.ext_getElem (by omega)
 intro i h1 h2
 have:=h i (by omega)
 rw [zzG,zzG,List.getElem?_eq_getElem h1,List.getElem?_eq_getElem h2] at this
 simpa using this
theorem yX {off n k:Nat} {f g:Nat->Int} {xs:List Int} (h:∀ m,m<k->g m=f (n+m)):tK (off+n) k g (tK off n f xs)=tK off (n+k) f xs:=by
 refine Ib (n:=xs.length) (by rw [hH,hH]) (by rw [hH]) fun i hi=>?_
 rw [rV _ _ _ _ (by rw [hH];exact hi),rV _ _ _ _ hi,rV _ _ _ _ hi]
 by_cases h1:off<=i/\i<off+n
 .rw [if_neg (by omega),if_pos h1,if_pos (by omega)]
 .rw [if_neg h1]
  by_cases h2:off+n<=i/\i<off+n+k
  .rw [if_pos h2,if_pos (by omega),h _ (by omega)]
   congr 2;omega
  .rw [if_neg h2,if_neg (by omega)]
theorem aTz {key nonce:List Int} {c:Int} {off j:Nat} {xs:List Int}:x4 (off+64*j) (S key nonce c j) (cL key nonce c off (64*j) xs)=cL key nonce c off (64*(j+4)) xs:=by
 rw [vZ,vZ,show 64*(j+4)=64*j+256 by omega]
 exact yX fun m hm=>aEg key nonce c j hm
theorem aUa {key nonce:List Int} {c:Int} {off j:Nat} {xs:List Int}:tn (off+64*j) (one (S key nonce c j)) (cL key nonce c off (64*j) xs)=cL key nonce c off (64*(j+1)) xs:=by
 rw [vZ,vZ,show 64*(j+1)=64*j+64 by omega]
 exact yX fun m hm=>Tl key nonce c j hm
theorem IS (off:Nat) {cap a:Nat} (h:a<cap):oA off cap (a:Int)=off+a:=by
 unfold oA
 rw [if_neg (by omega)];omega
theorem yW (l r:List Int) {i:Nat} (h:i<l.length):(l++r).getD i 0=l.getD i 0:=by simp [zzG,List.getElem?_append_left h]
theorem Ur (l r:List Int) {i:Nat} (h:l.length<=i):(l++r).getD i 0=r.getD (i-l.length) 0:=by simp [zzG,List.getElem?_append_right h]
theorem nN (l:List Int) (k i:Nat):(l.drop k).getD i 0=l.getD (k+i) 0:=by simp [zzG,List.getElem?_drop]
theorem dH (l:List Int) {k i:Nat} (h:i<k):(l.take k).getD i 0=l.getD i 0:=by simp [zzG,h]
theorem aVs {o r:Nat} {b xs:List Int} (hr:r<=64) (hx:o+r<=xs.length):mv o r xs (lt tn b ((xs.drop o).take r))=tK o r (b.getD · 0) xs:=by
 have hp:((xs.drop o).take r).length=r:=by rw [List.length_take,List.length_drop];omega
 have hq:qd ((xs.drop o).take r)=(xs.drop o).take r:=by
  unfold qd
  rw [hp]
  exact List.take_of_length_le (by rw [hp];exact Nat.le_min.2 ⟨zzr _,hr⟩)
 have hl:(ld ((xs.drop o).take r)).length=64:=by
  unfold ld
  rw [List.take_zero,zzv,List.length_append,List.length_drop,hp,List.length_replicate];omega
 have ht:(lt tn b ((xs.drop o).take r)).length=64:=by
  unfold lt
  rw [hq,List.drop_zero,List.length_take]
  unfold tn
  rw [hH,hl];rfl
 unfold mv
 rw [ht,show Nat.min 64 r=r from Nat.min_eq_right hr]
 have h1:(xs.take o).length=o:=by rw [List.length_take];omega
 have h2:((lt tn b ((xs.drop o).take r)).take r).length=r:=by rw [List.length_take,ht];omega
 refine Ib (n:=xs.length) (by simp only [List.length_append,h1,h2,List.length_drop];omega) (hH _ _ _ _) fun i hi=>?_
 rw [rV _ _ _ _ hi]
 by_cases hA:i<o
 .rw [if_neg (by omega),List.append_assoc,yW _ _ (by omega),dH _ hA]
 .by_cases hB:i<o+r
  .rw [if_pos (by omega),yW _ _ (by rw [List.length_append];omega),Ur _ _ (by omega),h1,dH _ (by omega)]
   unfold lt
   rw [hq,List.drop_zero,dH _ (by omega)]
   unfold tn
   rw [rV _ _ _ _ (by rw [hl];omega),if_pos (by omega),Nat.sub_zero]
   congr 1
   unfold ld
   rw [List.take_zero,zzv,yW _ _ (by rw [hp];omega),dH _ (by omega),nN]
   congr 1;omega
  .rw [if_neg (by omega),Ur _ _ (by rw [List.length_append];omega),List.length_append,h1,h2,nN]
   congr 1;omega
end Q
theorem aBx {key nonce xs:List Int} {c:Int} {t:TypeId} {off len cap:Nat} (hk:key.length=32) (hn:nonce.length=12) (hx:off+len<=xs.length) (hlc:len<=cap) (hl:len<=4611686018427387904) (hc:0<=c/\c<=4294967295) :
 aE Tryz.prog (Rx B.init Q.x4 Q.tn Q.one) 46 (WX key nonce c off len cap) (vG xs t) 100 100 { val:=.eP [],wr:=[(60,.ints .u8 (cL key nonce c off len xs) t)] }:=by
 have aR:=YC B.init Q.x4 Q.tn Q.one
 have aU:=YD B.init Q.x4 Q.tn Q.one
 refine gI aR aU Tryz.func46 (by kernel_rfl) rfl (zzL (by kernel_rfl)) rfl [] ?_
 intro w0 M V0 Q' cA H
 have wi:∀ a:Nat,a<=len->IntKind.i64.wrap ((len:Int)-(a:Int))=((len-a:Nat):Int):=fun a ha=>by rw [IntWalk.i64_in _ (by omega)];omega
 have Ho:∀ n,(cL key nonce c off n xs).length=xs.length:=fun n=>fP _ _ _ _ _ _
 refine G.cW aR aU mix cA [] (bBu B.init Q.x4 Q.tn Q.one key nonce xs xs (Q.S key nonce c 0) c t off len cap 0) (aA ?_) ?_
 .exact ⟨rfl,rfl,hk,hn,rfl,rfl,rfl,hn,hk,rfl,rfl,rfl,rfl,⟨rfl,rfl⟩,⟨(Q.S_0 key nonce hc).symm,rfl⟩,trivial⟩
 refine G.loop (fun r s=>∃ i:Nat,256*i<=len/\r=len-256*i/\s=bM (rO off len cap ((256*i:Nat):Int)) (rN (cL key nonce c off (64*(4*i)) xs) (Q.S key nonce c (4*i)) t) 101 [60] []) (r0:=len) ⟨0,by omega,by omega,by rw [show 64*(4*0)=0 by omega,Fk];rfl⟩ ?_
 rintro r s ⟨i,hi,rfl,rfl⟩
 by_cases h:256<=len-256*i
 .have eo:Q.oA off cap ((256*i:Nat):Int)=off+64*(4*i):=by rw [Q.IS off (by omega)];omega
  refine G.kW aR aU mix cA [true] (bBt B.init Q.x4 Q.tn Q.one xs _ (cL key nonce c off (64*(4*(i+1))) xs) (Q.S key nonce c (4*i)) (Q.S key nonce c (4*(i+1))) t off len cap ((256*i:Nat):Int) ((256*(i+1):Nat):Int)) (aA ?_) (len-256*(i+1)) (by omega) ⟨i+1,by omega,rfl,rfl⟩
  rw [eo]
  refine ⟨by rw [Q.iW];decide,by rw [Q.iW];decide,rfl,Q.iW _ _ _ _,by rw [Ho];omega,rfl,by omega,⟨rfl,rfl⟩,Q.iW _ _ _ _,by omega,by unfold Q.sl;omega,?_,rfl,rfl,rfl,rfl,?_,⟨?_,rfl⟩,⟨?_,rfl⟩,trivial⟩
  .unfold Q.go
   rw [wi _ hi];exact decide_eq_true (by omega)
  .rw [IntWalk.i64_in _ (by omega)];omega
  .rw [Q.aTz];rfl
  .exact Q.Uu key nonce c (4*i) 4
 have Nd:∀ i,64*i<=len->¬ 64<=len-64*i->G Tryz.prog (Rx B.init Q.x4 Q.tn Q.one) w0 M (aY 100 (vG xs t)) Tryz.f46.ntmps 100 V0 (.at (.exit 2)) WY (bM (rO off len cap ((64*i:Nat):Int)) (rN (cL key nonce c off (64*i) xs) (Q.S key nonce c i) t) 101 [60] []) Q':=by
  intro i hi h
  by_cases hz:0<len-64*i
  .have eo:Q.oA off cap ((64*i:Nat):Int)=off+64*i:=Q.IS off (by omega)
   have e1:(len:Int).toNat-((64*i:Nat):Int).toNat=len-64*i:=by omega
   have hpd:Q.pd off len cap ((64*i:Nat):Int) (cL key nonce c off (64*i) xs)=((cL key nonce c off (64*i) xs).drop (off+64*i)).take (len-64*i):=by unfold Q.pd;rw [eo,e1]
   have Rq:(((cL key nonce c off (64*i) xs).drop (off+64*i)).take (len-64*i)).length=len-64*i:=by rw [List.length_take,List.length_drop,Ho];omega
   have hql:(Q.qd (((cL key nonce c off (64*i) xs).drop (off+64*i)).take (len-64*i))).length<=64:=by unfold Q.qd;rw [List.length_take];exact Nat.le_trans (Nat.min_le_left _ _) (Nat.min_le_right _ _)
   have hld:∀ q:List Int,q.length<=64->(Q.ld q).length=64:=fun q hq=>by
    unfold Q.ld
    rw [List.take_zero,zzv,List.length_append,List.length_drop,List.length_replicate];omega
   have hB:=Q.Ft (Q.S key nonce c i)
   refine G.oQ (cl:=[]) aR aU mix [true] H (bBn B.init Q.x4 Q.tn Q.one xs _ (Q.S key nonce c i) t off len cap ((64*i:Nat):Int)) (aA ?_) rfl rfl ?_
   .rw [eo,e1,hpd]
    refine ⟨?_,by rw [Q.tn,Q.hH,hld _ hql];decide,rfl,hB,by rw [hld _ hql];decide,rfl,rfl,⟨rfl,rfl⟩,rfl,Q.iW _ _ _ _,rfl,Q.iW _ _ _ _,⟨zzr _,by omega⟩,by rw [Ho];omega,by unfold Q.sl;omega,?_,rfl,trivial⟩
    .rw [Ho]
     have:=Nat.min_le_right (Q.lt Q.tn (Q.one (Q.S key nonce c i)) (((cL key nonce c off (64*i) xs).drop (off+64*i)).take (len-64*i))).length (len-64*i)
     exact Nat.le_trans (Nat.add_le_add_left this _) (by omega)
    .rw [wi _ hi];exact decide_eq_true (by omega)
   .show [(60,SB.ints .u8 _ t)]=[(60,SB.ints .u8 _ t)]
    rw [eo,e1,hpd,Q.aVs (by omega) (by rw [Ho];omega),Q.vZ,Q.yX fun m hm=>Q.Tl key nonce c i (by omega),show 64*i+(len-64*i)=len by omega]
    rfl
  .refine G.oQ (cl:=[]) aR aU mix [false] H (bBo B.init Q.x4 Q.tn Q.one xs _ (Q.S key nonce c i) t off len cap ((64*i:Nat):Int)) (aA ⟨?_,rfl,trivial⟩) rfl rfl ?_
   .rw [wi _ hi];exact zzF (by omega)
   .rw [show 64*i=len by omega]
 refine G.cW aR aU mix cA [false] (bBs B.init Q.x4 Q.tn Q.one xs _ (cL key nonce c off (64*(4*i)) xs) (Q.S key nonce c (4*i)) (Q.S key nonce c (4*i)) t off len cap ((256*i:Nat):Int) ((64*(4*i):Nat):Int)) (aA ?_) (G.leave (by simp) ?_)
 .refine ⟨?_,rfl,rfl,rfl,rfl,by omega,⟨rfl,rfl⟩,⟨rfl,rfl⟩,trivial⟩
  unfold Q.no
  rw [wi _ hi];exact zzF (by omega)
 have hi4:64*(4*i)<=len:=by omega
 clear h hi
 generalize 4*i=j0 at hi4
 refine G.cW aR aU mix cA [] (bBr B.init Q.x4 Q.tn Q.one xs _ (cL key nonce c off (64*j0) xs) (Q.S key nonce c j0) (Q.S key nonce c j0) t off len cap ((64*j0:Nat):Int) ((64*j0:Nat):Int)) (aA ?_) ?_
 .exact ⟨rfl,rfl,rfl,rfl,⟨rfl,rfl⟩,⟨rfl,rfl⟩,trivial⟩
 refine G.loop (fun r s=>∃ j:Nat,64*j<=len/\r=len-64*j/\s=bM (rO off len cap ((64*j:Nat):Int)) (rN (cL key nonce c off (64*j) xs) (Q.S key nonce c j) t) 101 [60] []) (r0:=len-64*j0) ⟨j0,hi4,rfl,rfl⟩ ?_
 clear hi4
 rintro r s ⟨j,hj,rfl,rfl⟩
 by_cases h:64<=len-64*j
 .have eo:Q.oA off cap ((64*j:Nat):Int)=off+64*j:=Q.IS off (by omega)
  refine G.kW aR aU mix cA [true] (bBq B.init Q.x4 Q.tn Q.one xs _ (cL key nonce c off (64*(j+1)) xs) (Q.S key nonce c j) (Q.S key nonce c (j+1)) t off len cap ((64*j:Nat):Int) ((64*(j+1):Nat):Int)) (aA ?_) (len-64*(j+1)) (by omega) ⟨j+1,by omega,rfl,rfl⟩
  rw [eo]
  refine ⟨by rw [Q.iW];decide,by rw [Q.iW];decide,rfl,Q.Ft _,by rw [Ho];omega,by omega,rfl,⟨rfl,rfl⟩,rfl,Q.iW _ _ _ _,rfl,Q.iW _ _ _ _,by omega,by unfold Q.sl;omega,?_,rfl,rfl,rfl,rfl,?_,⟨Q.aUa,rfl⟩,⟨Q.Uu key nonce c j 1,rfl⟩,trivial⟩
  .unfold Q.go
   rw [wi _ hj];exact decide_eq_true (by omega)
  .rw [IntWalk.i64_in _ (by omega)];omega
 .refine G.cW aR aU mix cA [false] (bBp B.init Q.x4 Q.tn Q.one xs _ (cL key nonce c off (64*j) xs) (Q.S key nonce c j) (Q.S key nonce c j) t off len cap ((64*j:Nat):Int) ((64*j:Nat):Int)) (aA ?_) (G.leave (by simp) (Nd j hj h))
  refine ⟨?_,rfl,rfl,rfl,rfl,rfl,⟨rfl,rfl⟩,⟨rfl,rfl⟩,trivial⟩
  unfold Q.no
  rw [wi _ hj];exact zzF (by omega)
def IY (vs:List SV) (T:bA):Option Canon:=match vs with
 | [.raw (.pointer none),ks,.int _ .u32 c,ns,.aJ l _ off len cap]=>match cJ ks,cJ ns with
   | some (.u8,k),some (.u8,n)=>match T l with
     | some B=>match Dp B with
       | some (.u8,xs,ty)=>some { eN:=WX k n c off len cap,T0:=[(60,.ints .u8 xs ty)],vl:=[(60,.lab l 0)],e0:={ val:=.eP [],wr:=[(60,.ints .u8 (cL k n c off len xs) ty)] },conds:=[k.length=32,n.length=12,off+len<=xs.length,len<=cap,len<=4611686018427387904,0<=c/\c<=4294967295] }
       | _=>none
     | none=>none
   | _,_=>none
 | _=>none
theorem aNa (Γ:Env) (hg:Γ.aT=aB):aI Tryz.prog Γ 46 (aL aB 100 IY):=by
 refine aW hg fun vs T c hd hc=>?_
 unfold IY at hd
 split at hd
 case h_2=>cases hd
 split at hd
 case h_2=>cases hd
 split at hd
 case h_2=>cases hd
 split at hd
 case h_2=>cases hd
 cases hd
 exact (aBx (hc _ (by simp)) (hc _ (by simp)) (hc _ (by simp)) (hc _ (by simp)) (hc _ (by simp)) (hc _ (by simp))).words (by rw [hg];rfl) (fun _=>rfl) (fun _ _ h=>h) (fun _=>rfl) rfl rfl
namespace P
def orT (a b:List Int):Nat->Int
 | 0=>0
 | j+1=>lD .u8 (orT a b j) (eZ .u8 (a.getD j 0) (b.getD j 0))
def HQ (x:Int):Int:=cB .u64 (lD .u64 x (W (0-x))) 63
def GB (a b:List Int):Int:=eZ .u64 1 (HQ (W (orT a b 16)))
theorem bv8 (a:Nat) (h:a<256):(BitVec.ofInt 8 (a:Int)).toNat=a:=by
 rw [BitVec.ofInt_natCast,BitVec.toNat_ofNat];exact Nat.mod_eq_of_lt h
theorem or8 {a b:Nat} (ha:a<256) (hb:b<256):lD .u8 (a:Int) (b:Int)=((a ||| b:Nat):Int)/\a ||| b<256:=by
 have hl:a ||| b<2^8:=Nat.or_lt_two_pow (by omega) (by omega)
 refine ⟨?_,by omega⟩
 show (((BitVec.ofInt 8 (a:Int) ||| BitVec.ofInt 8 (b:Int)).toNat:Nat):Int)%256=_
 rw [BitVec.toNat_or,bv8 a ha,bv8 b hb]
 omega
theorem Sb {a b:Nat} (ha:a<256) (hb:b<256):eZ .u8 (a:Int) (b:Int)=((a ^^^ b:Nat):Int)/\a ^^^ b<256:=by
 have hl:a ^^^ b<2^8:=Nat.xor_lt_two_pow (by omega) (by omega)
 refine ⟨?_,by omega⟩
 show (((BitVec.ofInt 8 (a:Int) ^^^ BitVec.ofInt 8 (b:Int)).toNat:Nat):Int)%256=_
 rw [BitVec.toNat_xor,bv8 a ha,bv8 b hb]
 omega
theorem aTu {x y:Nat}:x ^^^ y=0<->x=y:=by
 constructor
 .intro h
  have:x ^^^ y ^^^ y=0 ^^^ y:=by rw [h]
  rwa [Nat.xor_assoc,Nat.xor_self,Nat.xor_zero,Nat.zero_xor] at this
 .rintro rfl
  exact Nat.xor_self x
theorem LN {a b:List Int} (ha:bI a) (hb:bI b):∀ j,∃ n:Nat,orT a b j=(n:Int)/\n<256/\(n=0<->∀ i,i<j->a.getD i 0=b.getD i 0)
 | 0=>⟨0,rfl,by decide,⟨fun _ i hi=>absurd hi (Nat.not_lt_zero i),fun _=>rfl⟩⟩
 | j+1=>by
   obtain ⟨n,e,hn,hz⟩:=LN ha hb j
   obtain ⟨x,ex,hx⟩:=(ha.get j).nat
   obtain ⟨y,ey,hy⟩:=(hb.get j).nat
   obtain ⟨x1,x2⟩:=Sb hx hy
   obtain ⟨o1,o2⟩:=or8 hn x2
   refine ⟨n ||| (x ^^^ y),by rw [orT,e,ex,ey,x1,o1],o2,?_⟩
   rw [Nat.or_eq_zero_iff,hz,aTu]
   constructor
   .rintro ⟨h1,h2⟩ i hi
    by_cases hij:i<j
    .exact h1 i hij
    .have:i=j:=by omega
     subst this
     rw [ex,ey,h2]
   .intro h
    refine ⟨fun i hi=>h i (by omega),?_⟩
    have:=h j (by omega)
    rw [ex,ey] at this
    omega
theorem aUi {n:Nat} (h:n<256):eZ .u64 1 (HQ (W (n:Int)))=if n=0 then 1 else 0:=by
 have key:∀ n:Fin 256,eZ .u64 1 (HQ (W ((n.val:Nat):Int)))=if n.val=0 then 1 else 0:=by decide +kernel
 exact key ⟨n,h⟩
theorem aPm {a b:List Int} (ha:bI a) (hb:bI b) (la:a.length=16) (lb:b.length=16):GB a b=if a=b then 1 else 0:=by
 obtain ⟨n,e,hn,hz⟩:=LN ha hb 16
 unfold GB
 rw [e,aUi hn]
 by_cases h:a=b
 .rw [if_pos h,if_pos (hz.2 fun i _=>by rw [h])]
 .rw [if_neg h,if_neg fun q=>h (Q.Ib la lb (hz.1 q))]
end P
theorem aXm (a b:List Int):aF (env fD 4) Tryz.f86 true [] 1500 [.agg (cI .u8 16 a),.agg (cI .u8 16 b)] Fz 100 100=some { val:=.int false .u64 (P.GB a b) }:=by kernel_rfl
theorem SH {a b:List Int} (la:a.length=16) (lb:b.length=16) (Γ:Env) (hg:Γ.aT=aB):aE Tryz.prog Γ 86 [.ai .u8 a,.ai .u8 b] Fz 100 100 { val:=.int false .u64 (P.GB a b) }:=by
 have hs:aI Tryz.prog (env fD 4) 86 (aF (env fD 4) Tryz.f86 true [] 1500):=aM (bP fD 4) (kJ 4) mix Tryz.func86 (by kernel_rfl) true [] 1500
 refine (hs.call (aXm a b) iQ).words (by rw [hg];rfl) (fun V=>?_) (fun _ _ h=>h) (fun V=>rfl) rfl rfl
 simp only [aG,bB V la,bB V lb]
def JU (et:List Int->List Int->Int) (vs:List SV) (_:bA):Option Canon:=match vs with
 | [v,u]=>match cJ v,cJ u with
   | some (.u8,a),some (.u8,b)=>some { eN:=[.ai .u8 a,.ai .u8 b],T0:=[],vl:=[],e0:={ val:=.int false .u64 (et a b) },conds:=[et a b=P.GB a b,a.length=16,b.length=16] }
   | _,_=>none
 | _=>none
theorem aPk (et:List Int->List Int->Int) (Γ:Env) (hg:Γ.aT=aB):aI Tryz.prog Γ 86 (aL aB 100 (JU et)):=by
 refine aW hg fun vs T c hd hc=>?_
 unfold JU at hd
 split at hd
 case h_2=>cases hd
 split at hd
 case h_2=>cases hd
 cases hd
 have e:=hc _ zzC
 have h:=SH (hc _ (zzO _ zzC)) (hc _ (zzO _ (zzO _ zzC))) Γ hg
 rw [<- e] at h
 exact h
noncomputable def XV (mc:List Int->List Int->List Int) (et:List Int->List Int->Int):Nat->Option Sum:=dO (dO (dO fD 77 (aL aB 100 uP)) 48 (aL aB 100 (Xh mc))) 86 (aL aB 100 (JU et))
theorem aFa (mc:List Int->List Int->List Int) (et:List Int->List Int->Int):∀ f S,XV mc et f=some S->∀ Γ:Env,Γ.aT=aB->aI Tryz.prog Γ f S:=bE (bE (bE gY 77 _ Eg) 48 _ (LS mc)) 86 _ (aPk et)
def ckO (mc:List Int->List Int->List Int) (et:List Int->List Int->Int) (key t D:List Int) (d:Nat->List Int):List Prop:=
 let T:=mc key D
 [(et T t==1)=(et T t==1),et T t=P.GB T t,T.length=16,t.length=16,T=T,t=t,t.length=16,T=M.tag key D,key.length=32,bI key,bI D,D.length<=1073741824,D.length%16=0,key=key,
  (d 1).length=(d 1).length,(d 1).length=(d 1).length,(d 2).length=(d 2).length,(d 2).length=(d 2).length,(d 3).length=(d 3).length,(d 3).length=(d 3).length,(d 4).length=(d 4).length,(d 4).length=(d 4).length,(d 5).length=(d 5).length,(d 5).length=(d 5).length,
  d 1=d 1,d 2=d 2,d 3=d 3,d 4=d 4,d 5=d 5,key.length=32]
theorem bFk (mc:List Int->List Int->List Int) (et:List Int->List Int->Int) (key t:List Int) (d:Nat->List Int):aF (env (XV mc et) 4) Tryz.f50 true [] 1500 [.raw (.pointer none),.ai .u8 key,.ai .u8 t,.aJ 62 true 0 5 5] (Ai d) 100 100 =
 some { val:=.bool false (et (mc key (M.cat d)) t==1),bK:=ckO mc et key t (M.cat d) d }:=by kernel_rfl
theorem aFs {key t:List Int} {d:Nat->List Int} (hk:key.length=32) (hb:bI key) (ht:t.length=16) (htb:bI t) (hd:bI (M.cat d)) (hl:(M.cat d).length<=1073741824) (vF:(M.cat d).length%16=0) (Γ:Env) (hg:Γ.aT=aB) :
 aE Tryz.prog Γ 50 [.raw (.pointer none),.ai .u8 key,.ai .u8 t,.aJ 62 true 0 5 5] (Ai d) 100 100 { val:=.bool false (decide (M.tag key (M.cat d)=t)) }:=by
 have hs:aI Tryz.prog (env (XV M.tag P.GB) 4) 50 (aF (env (XV M.tag P.GB) 4) Tryz.f50 true [] 1500):=aM (bP _ 4) (bV _ (aFa _ _) 4) mix Tryz.func50 (by kernel_rfl) true [] 1500
 have hT:=M.oK key (M.cat d)
 have UM:bI (M.tag key (M.cat d)):=fun x hx=>by
  simp only [M.tag,M.Se,List.mem_map] at hx
  obtain ⟨m,_,rfl⟩:=hx
  rw [IntKind.wrap_u8]
  exact ⟨Int.emod_nonneg _ (by decide),Int.emod_lt_of_pos _ (by decide)⟩
 have h:=hs.call (bFk M.tag P.GB key t d) (aA (show _/\_/\_/\_/\_/\_/\_/\_/\_/\_/\_/\_/\_/\_/\_/\_/\_/\_/\_/\_/\_/\_/\_/\_/\_/\_/\_/\_/\_/\_/\True from
  ⟨rfl,rfl,hT,ht,rfl,rfl,ht,rfl,hk,hb,hd,hl,vF,rfl,rfl,rfl,rfl,rfl,rfl,rfl,rfl,rfl,rfl,rfl,rfl,rfl,rfl,rfl,rfl,hk,trivial⟩))
 refine h.words (by rw [hg];rfl) (fun V=>rfl) (fun _ _ h=>h) (fun V=>?_) rfl rfl
 have e:(P.GB (M.tag key (M.cat d)) t==1)=decide (M.tag key (M.cat d)=t):=by
  rw [P.aPm UM htb hT ht]
  by_cases q:M.tag key (M.cat d)=t
  .rw [if_pos q,decide_eq_true q];rfl
  .rw [if_neg q,zzF q];rfl
 show den V (.bool false (P.GB (M.tag key (M.cat d)) t==1))=_
 rw [e]
def KO (vs:List SV) (T:bA):Option Canon:=match vs with
 | [.raw (.pointer none),ks,ts,.aJ L _ 0 5 5]=>match cJ ks,cJ ts,(T L).bind roL with
   | some (.u8,k),some (.u8,t),some [p1,p2,p3,p4,p5]=>match cZ T .u8 p1,cZ T .u8 p2,cZ T .u8 p3,cZ T .u8 p4,cZ T .u8 p5 with
     | some (o1,x1),some (o2,x2),some (o3,x3),some (o4,x4),some (o5,x5)=>some { eN:=[.raw (.pointer none),.ai .u8 k,.ai .u8 t,.aJ 62 true 0 5 5],T0:=sgB (Cm x1 x2 x3 x4 x5),vl:=[(62,.lab L 0),(71,.cell L 0),(72,.cell L 1),(73,.cell L 2),(74,.cell L 3),(75,.cell L 4)],e0:={ val:=.bool false (decide (M.tag k (x1++(x2++(x3++(x4++x5))))=t)) },conds:=(k.length=32)::bI k::(t.length=16)::bI t::bI (x1++(x2++(x3++(x4++x5))))::((x1++(x2++(x3++(x4++x5)))).length<=1073741824)::((x1++(x2++(x3++(x4++x5)))).length%16=0)::(o1++(o2++(o3++(o4++o5)))) }
     | _,_,_,_,_=>none
   | _,_,_=>none
 | _=>none
theorem aQm (Γ:Env) (hg:Γ.aT=aB):aI Tryz.prog Γ 50 (aL aB 100 KO):=by
 refine aW hg fun vs T c hd hc=>?_
 unfold KO at hd
 split at hd
 case h_2=>cases hd
 split at hd
 case h_2=>cases hd
 split at hd
 case h_2=>cases hd
 cases hd
 rename_i o1 x1 o2 x2 o3 x3 o4 x4 o5 x5 _ _ _ _ _
 exact aFs (d:=Cm x1 x2 x3 x4 x5) (hc _ zzC) (hc _ (zzO _ zzC)) (hc _ (zzO _ (zzO _ zzC))) (hc _ (zzO _ (zzO _ (zzO _ zzC)))) (hc _ (zzO _ (zzO _ (zzO _ (zzO _ zzC))))) (hc _ (zzO _ (zzO _ (zzO _ (zzO _ (zzO _ zzC)))))) (hc _ (zzO _ (zzO _ (zzO _ (zzO _ (zzO _ (zzO _ zzC))))))) Γ hg
namespace M
def nonce (N:Int):List Int:=[0,0,0,0,IntKind.u8.wrap (cB IntKind.u64 N 0),IntKind.u8.wrap (cB IntKind.u64 N 8),IntKind.u8.wrap (cB IntKind.u64 N 16),IntKind.u8.wrap (cB IntKind.u64 N 24),IntKind.u8.wrap (cB IntKind.u64 N 32),IntKind.u8.wrap (cB IntKind.u64 N 40),IntKind.u8.wrap (cB IntKind.u64 N 48),IntKind.u8.wrap (cB IntKind.u64 N 56)]
def once (key:List Int) (N:Int):List Int:=cL key (nonce N) 0 0 32 (List.replicate 32 0)
def le (N:Int) (j:Nat):Int:=IntKind.u8.wrap (cB IntKind.u64 N ((8*j:Nat):Int))
def Cw (n:Int):Int:=(IntKind.i64.wrap (16-n.tmod 16)).tmod 16
def qZ (n:Int):Nat:=(Cw n).toNat
def Ic (a n:Int):List Int:=[le (IntKind.u64.wrap a) 0,le (IntKind.u64.wrap a) 1,le (IntKind.u64.wrap a) 2,le (IntKind.u64.wrap a) 3,le (IntKind.u64.wrap a) 4,le (IntKind.u64.wrap a) 5,le (IntKind.u64.wrap a) 6,le (IntKind.u64.wrap a) 7,le (IntKind.u64.wrap n) 0,le (IntKind.u64.wrap n) 1,le (IntKind.u64.wrap n) 2,le (IntKind.u64.wrap n) 3,le (IntKind.u64.wrap n) 4,le (IntKind.u64.wrap n) 5,le (IntKind.u64.wrap n) 6,le (IntKind.u64.wrap n) 7]
def WO (n:Int):List Int:=List.take (qZ n) (List.drop 0 (List.replicate (qZ n) 0))
def AO (ad:List Int) (la:Nat) (c:List Int) (n:Nat):List Int:=ad++(WO la++(c++(WO n++List.take 16 (List.drop 0 (Ic la n)))))
theorem lP (key:List Int) (N:Int):(once key N).length=32:=by unfold once;rw [fP];rfl
end M
theorem bBl (N:Int):aF (env fD 22) Tryz.f23 true [] 400 [.int false .u64 N] (fun l=>look l []) 100 100=some { val:=.agg [.int true .u8 0,.int true .u8 0,.int true .u8 0,.int true .u8 0,.int false .u8 (IntKind.u8.wrap (cB IntKind.u64 N 0)),.int false .u8 (IntKind.u8.wrap (cB IntKind.u64 N 8)),.int false .u8 (IntKind.u8.wrap (cB IntKind.u64 N 16)),.int false .u8 (IntKind.u8.wrap (cB IntKind.u64 N 24)),.int false .u8 (IntKind.u8.wrap (cB IntKind.u64 N 32)),.int false .u8 (IntKind.u8.wrap (cB IntKind.u64 N 40)),.int false .u8 (IntKind.u8.wrap (cB IntKind.u64 N 48)),.int false .u8 (IntKind.u8.wrap (cB IntKind.u64 N 56))] }:=by kernel_rfl
theorem Lm:∀ f S,fD f=some S->∀ Γ:Env,Γ.aT=aB->aI Tryz.prog Γ f S:=fun f S h Γ _=>qC f S h Γ
theorem aBt (N:Int):aE Tryz.prog (env fD 22) 23 [.int false .u64 N] (fun l=>look l []) 100 100 { val:=.ai .u8 (M.nonce N) }:=
 ((aM (bP fD 22) (bV fD Lm 22) mix Tryz.func23 (by kernel_rfl) true [] 400:aI Tryz.prog (env fD 22) 23 _).call (bBl N) (by simp)).re rfl (fun _=>rfl) trivial trivial
def IX (vs:List SV) (_:bA):Option Canon:=match vs with
 | [.int _ .u64 N]=>some { eN:=[.int false .u64 N],T0:=[],vl:=[],e0:={ val:=.ai .u8 (M.nonce N) } }
 | _=>none
theorem aVp (Γ:Env) (hg:Γ.aT=aB):aI Tryz.prog Γ 23 (aL aB 100 IX):=by
 refine aW hg fun vs T c hd hc=>?_
 unfold IX at hd
 split at hd
 case h_2=>cases hd
 cases hd
 exact (aBt _).words (by rw [hg];rfl) (fun _=>rfl) (fun _ _ h=>h) (fun _=>rfl) rfl rfl
theorem bCg (N:Int):aF (env fD 22) Tryz.f39 true [] 400 [.int false .u64 N] (fun l=>look l []) 100 100=some { val:=.aJ 100 true 0 8 8,new:=[.own [.int false .u8 (M.le N 0),.int false .u8 (M.le N 1),.int false .u8 (M.le N 2),.int false .u8 (M.le N 3),.int false .u8 (M.le N 4),.int false .u8 (M.le N 5),.int false .u8 (M.le N 6),.int false .u8 (M.le N 7)] 5] }:=by kernel_rfl
theorem aCf (N:Int):aE Tryz.prog (env fD 22) 39 [.int false .u64 N] (fun l=>look l []) 100 100 { val:=.aJ 100 true 0 8 8,new:=[.own [.int false .u8 (M.le N 0),.int false .u8 (M.le N 1),.int false .u8 (M.le N 2),.int false .u8 (M.le N 3),.int false .u8 (M.le N 4),.int false .u8 (M.le N 5),.int false .u8 (M.le N 6),.int false .u8 (M.le N 7)] 5] }:=
 (aM (bP fD 22) (bV fD Lm 22) mix Tryz.func39 (by kernel_rfl) true [] 400:aI Tryz.prog (env fD 22) 39 _).call (bCg N) (by simp)
def JD (vs:List SV) (_:bA):Option Canon:=match vs with
 | [.int _ .u64 N]=>some { eN:=[.int false .u64 N],T0:=[],vl:=[],e0:={ val:=.aJ 100 true 0 8 8,new:=[.own [.int false .u8 (M.le N 0),.int false .u8 (M.le N 1),.int false .u8 (M.le N 2),.int false .u8 (M.le N 3),.int false .u8 (M.le N 4),.int false .u8 (M.le N 5),.int false .u8 (M.le N 6),.int false .u8 (M.le N 7)] 5] } }
 | _=>none
theorem aWa (Γ:Env) (hg:Γ.aT=aB):aI Tryz.prog Γ 39 (aL aB 100 JD):=by
 refine aW hg fun vs T c hd hc=>?_
 unfold JD at hd
 split at hd
 case h_2=>cases hd
 cases hd
 exact (aCf _).words (by rw [hg];rfl) (fun _=>rfl) (fun _ _ h=>h) (fun _=>rfl) rfl rfl
theorem bEo (n:Int):aF (env fD 22) Tryz.f40 true [] 400 [.int false .i64 n] (fun l=>look l []) 100 100=some { bK:=[0<=M.Cw n/\M.Cw n<=M.Cw n/\1*M.Cw n<=281474976710656/\M.Cw n<9223372036854775808],val:=.aJ 100 false 0 (M.qZ n) (M.qZ n),new:=[.ints .u8 (List.replicate (M.qZ n) 0) 5] }:=by kernel_rfl
theorem M.Yr (n:Int) (h:0<=n/\n<=1073741824):M.Cw n=(16-n%16)%16/\0<=M.Cw n/\M.Cw n<16:=by
 have e:M.Cw n=(16-n%16)%16:=by
  unfold M.Cw
  rw [Int.tmod_eq_emod_of_nonneg h.1,IntWalk.i64_in _ ⟨by omega,by omega⟩,Int.tmod_eq_emod_of_nonneg (by omega)]
 rw [e];omega
theorem aEk {n:Int} (h:0<=n/\n<=1073741824):aE Tryz.prog (env fD 22) 40 [.int false .i64 n] (fun l=>look l []) 100 100 { val:=.aJ 100 false 0 (M.qZ n) (M.qZ n),new:=[.ints .u8 (List.replicate (M.qZ n) 0) 5] }:=
 ((aM (bP fD 22) (bV fD Lm 22) mix Tryz.func40 (by kernel_rfl) true [] 400:aI Tryz.prog (env fD 22) 40 _).call (bEo n) (aA ⟨by have:=M.Yr n h;omega,trivial⟩)).re rfl (fun _=>rfl) ⟨rfl,trivial⟩ trivial
def JR (vs:List SV) (_:bA):Option Canon:=match vs with
 | [.int _ .i64 n]=>some { eN:=[.int false .i64 n],T0:=[],vl:=[],e0:={ val:=.aJ 100 false 0 (M.qZ n) (M.qZ n),new:=[.ints .u8 (List.replicate (M.qZ n) 0) 5] },conds:=[0<=n/\n<=1073741824] }
 | _=>none
theorem aXh (Γ:Env) (hg:Γ.aT=aB):aI Tryz.prog Γ 40 (aL aB 100 JR):=by
 refine aW hg fun vs T c hd hc=>?_
 unfold JR at hd
 split at hd
 case h_2=>cases hd
 cases hd
 exact (aEk (hc _ (by simp))).words (by rw [hg];rfl) (fun _=>rfl) (fun _ _ h=>h) (fun _=>rfl) rfl rfl
theorem By (x:Int):Bt (IntKind.u8.wrap x):=by
 rw [IntKind.wrap_u8]
 exact ⟨Int.emod_nonneg _ (by decide),Int.emod_lt_of_pos _ (by decide)⟩
theorem Up (x y:Int):Bt (eZ .u8 x y):=By _
namespace Q
def cx (key:List Int) (N:Int) (xs:List Int):List Int:=cL key (M.nonce N) 1 0 xs.length xs
def tg (key:List Int) (N:Int) (ad c:List Int):List Int:=M.tag (M.once key N) (M.AO ad ad.length c c.length)
def bU (key:List Int) (N:Int) (ad bs:List Int) (n:Nat):List Int:=cx key N (bs.take n)++(tg key N ad (cx key N (bs.take n))++bs.drop (n+16))
def eL (key:List Int) (N:Int) (bs:List Int) (m:Nat):List Int:=cx key N (bs.take m)++bs.drop m
def gH (bs:List Int) (m:Nat):List Int:=List.replicate m 0++bs.drop m
theorem iJ (key:List Int) (N:Int) (xs:List Int):(cx key N xs).length=xs.length:=fP _ _ _ _ _ _
theorem kY (key:List Int) (N:Int) (ad c:List Int):(tg key N ad c).length=16:=by simp [tg,M.tag,M.Se]
theorem BQ {key nonce:List Int} {c:Int} {n:Nat} {xs:List Int} (h:n<=xs.length):cL key nonce c 0 n xs=cL key nonce c 0 n (xs.take n)++xs.drop n:=by
 have hl:(cL key nonce c 0 n (xs.take n)).length=n:=by rw [fP,List.length_take];omega
 refine Ib (n:=xs.length) (fP _ _ _ _ _ _) (by rw [List.length_append,hl,List.length_drop];omega) fun i hi=>?_
 rw [pN _ _ _ _ _ _ hi]
 by_cases h1:i<n
 .rw [if_pos (by omega),yW _ _ (by omega),pN _ _ _ _ _ _ (by rw [List.length_take];omega),if_pos (by omega),dH _ h1]
 .rw [if_neg (by omega),Ur _ _ (by omega),hl,nN]
  congr 1;omega
theorem Oy {key:List Int} {N:Int} {n:Nat} {xs:List Int} (h:n<=xs.length):cL key (M.nonce N) 1 0 n xs=eL key N xs n:=by
 unfold eL cx
 rw [BQ h]
 have:(xs.take n).length=n:=by rw [List.length_take];omega
 rw [this]
theorem Ei (key:List Int) (N:Int) {xs:List Int} (h:bI xs):bI (cx key N xs):=by
 intro x hx
 simp only [cx,cL,List.mem_map] at hx
 obtain ⟨m,_,rfl⟩:=hx
 split
 .exact Up _ _
 .exact h.get _
theorem aWe (key nonce:List Int) (c:Int) (i:Nat):Bt (As key nonce c i):=by
 unfold As
 refine bI.get (fun x hx=>?_) _
 simp only [B.block,B.out,List.mem_map] at hx
 obtain ⟨j,_,rfl⟩:=hx
 exact By _
theorem Yd {x k:Int} (hx:Bt x) (hk:Bt k):eZ .u8 (eZ .u8 x k) k=x:=by
 obtain ⟨a,rfl,ha⟩:=hx.nat
 obtain ⟨b,rfl,hb⟩:=hk.nat
 obtain ⟨e1,l1⟩:=P.Sb ha hb
 rw [e1,(P.Sb l1 hb).1,Nat.xor_assoc,Nat.xor_self,Nat.xor_zero]
theorem KL (key:List Int) (N:Int) {xs:List Int} (h:bI xs):cx key N (cx key N xs)=xs:=by
 refine Ib (n:=xs.length) (by rw [iJ,iJ]) rfl fun i hi=>?_
 have e:∀ ys:List Int,i<ys.length->(cx key N ys).getD i 0=eZ .u8 (ys.getD i 0) (As key (M.nonce N) 1 i):=fun ys hy=>by
  unfold cx
  rw [pN _ _ _ _ _ _ hy,if_pos (by omega),Nat.sub_zero]
 rw [e _ (by rw [iJ];exact hi),e _ hi,Yd (h.get i) (aWe _ _ _ _)]
theorem YR (key data:List Int):bI (M.tag key data):=fun x hx=>by
 simp only [M.tag,M.Se,List.mem_map] at hx
 obtain ⟨m,_,rfl⟩:=hx
 exact By _
theorem Tb (key:List Int) (N:Int) (ad c:List Int):bI (tg key N ad c):=YR _ _
theorem iI {a b:List Int} (ha:bI a) (hb:bI b):bI (a++b):=fun x hx=>(List.mem_append.1 hx).elim (ha x) (hb x)
theorem lN {a:List Int} (n:Nat) (ha:bI a):bI (a.take n):=fun x hx=>ha x (List.mem_of_mem_take hx)
theorem xP {a:List Int} (n:Nat) (ha:bI a):bI (a.drop n):=fun x hx=>ha x (List.mem_of_mem_drop hx)
theorem xA (n:Nat):bI (List.replicate n (0:Int)):=fun x hx=>by rw [(List.mem_replicate.1 hx).2];exact ⟨by decide,by decide⟩
theorem Pp (key:List Int) (N:Int):bI (M.once key N):=by
 intro x hx
 simp only [M.once,cL,List.mem_map] at hx
 obtain ⟨m,_,rfl⟩:=hx
 split
 .exact Up _ _
 .exact (xA 32).get _
theorem Yq {n:Nat} (h:n<=1073741824):M.qZ (n:Int)=(16-n%16)%16:=by
 obtain ⟨e,h0,h1⟩:=M.Yr (n:Int) ⟨by omega,by omega⟩
 unfold M.qZ;rw [e];omega
theorem Yp (n:Int):M.WO n=List.replicate (M.qZ n) 0:=by
 unfold M.WO
 rw [List.drop_zero,List.take_of_length_le (by simp)]
theorem CH (a n:Int):bI (M.Ic a n):=by
 intro x hx
 simp only [M.Ic,List.mem_cons,List.not_mem_nil,or_false] at hx
 rcases hx with rfl | rfl | rfl | rfl | rfl | rfl | rfl | rfl | rfl | rfl | rfl | rfl | rfl | rfl | rfl | rfl <;> exact By _
theorem aOj (ad:List Int) (la:Nat) (c:List Int) (n:Nat):M.AO ad la c n=ad++(List.replicate (M.qZ la) 0++(c++(List.replicate (M.qZ n) 0++M.Ic la n))):=by
 unfold M.AO
 rw [Yp,Yp]
 rfl
theorem ML {ad c:List Int} {la n:Nat} (ha:bI ad) (hc:bI c) (VH:ad.length=la) (hn:c.length=n) (bHn:la<=500000000) (Rc:n<=500000000) :
 bI (M.AO ad la c n)/\(M.AO ad la c n).length<=1073741824/\(M.AO ad la c n).length%16=0:=by
 have vF:(M.Ic (la:Int) (n:Int)).length=16:=rfl
 have p1:=Yq (n:=la) (by omega)
 have p2:=Yq (n:=n) (by omega)
 rw [aOj]
 refine ⟨iI ha (iI (xA _) (iI hc (iI (xA _) (CH _ _)))),?_,?_⟩
 .simp only [List.length_append,List.length_replicate,vF,VH,hn];omega
 .simp only [List.length_append,List.length_replicate,vF,VH,hn];omega
theorem Qq (key:List Int) (N:Int) (ad bs:List Int) {n:Nat} (h:n+16<=bs.length):(bU key N ad bs n).length=bs.length:=by
 simp only [bU,List.length_append,iJ,List.length_take,List.length_drop,kY];omega
theorem Ph (key:List Int) (N:Int) (ad:List Int) {bs:List Int} (n:Nat) (h:bI bs):bI (bU key N ad bs n):=
 iI (Ei _ _ (lN _ h)) (iI (Tb _ _ _ _) (xP _ h))
theorem Ae (key:List Int) (N:Int) (bs:List Int) {n:Nat} (h:n<=bs.length):(eL key N bs n).length=bs.length:=by
 simp only [eL,List.length_append,iJ,List.length_take,List.length_drop];omega
theorem Aa (bs:List Int) {n:Nat} (h:n<=bs.length):(gH bs n).length=bs.length:=by
 simp only [gH,List.length_append,List.length_replicate,List.length_drop];omega
theorem uW (key:List Int) (N:Int) (ad p t r:List Int) (ht:t.length=16):bU key N ad (p++(t++r)) p.length=cx key N p++(tg key N ad (cx key N p)++r):=by
 unfold bU
 rw [List.take_left,<- ht,List.drop_length_add_append,List.drop_left]
theorem Fs (key:List Int) (N:Int) (c r:List Int):eL key N (c++r) c.length=cx key N c++r:=by
 unfold eL
 rw [List.take_left,List.drop_left]
end Q
def rD:Nat->List SV
 | 0=>[.int true .i64 0,.raw .nilFunc,.raw .nilFunc,.raw .nilFunc,.raw .nilFunc,.raw .nilFunc,.raw .nilFunc]
 | 1=>[.int true .i64 1,.fn (.func 41) [] [.ptr 50 true 0],.fn (.func 43) [] [.ptr 50 true 0],.fn (.func 45) [] [.ptr 50 true 0],.fn (.func 47) [] [.ptr 50 true 0],.fn (.func 49) [] [.ptr 50 true 0],.fn (.func 51) [] [.ptr 50 true 0]]
 | _=>[.int true .i64 2,.fn (.func 53) [] [],.fn (.func 54) [] [],.fn (.func 55) [] [],.fn (.func 56) [] [],.fn (.func 57) [] [],.fn (.func 58) [] []]
def HD:Nat->List (Nat × SB)
 | 1=>[(50,.fS [.raw (.pointer none)])]
 | _=>[]
def zV:SV->Option (Nat × List (Nat × Kj))
 | .agg (.int true .i64 0::_)=>some (0,[])
 | .agg (.int true .i64 1 :: .fn _ _ [.ptr L _ _]::_)=>some (1,[(50,.lab L 0)])
 | .agg (.int true .i64 2::_)=>some (2,[])
 | _=>none
noncomputable def exE:Nat->Option Sum:=dO (dO fD 55 aRc) 46 (aL aB 100 IY)
noncomputable def Kg (mc:List Int->List Int->List Int):Nat->Option Sum:=dO (dO (dO fD 56 (aL aB 100 HZ)) 48 (aL aB 100 (Xh mc))) 50 (aL aB 100 KO)
def WG (e:Nat) (key nonce:List Int) (c:Int) (off len cap:Nat):List SV:=[.agg (rD e),.ai .u8 key,.int false .u32 c,.ai .u8 nonce,.aJ 60 false off len cap]
def stL (e:Nat) (xs:List Int) (t:TypeId):List (Nat × SB):=(60,.ints .u8 xs t)::(HD e++Jx)
def tkL (e:Nat) (d:Nat->List Int):List (Nat × SB):=HD e++sgB d
def cV (e:Nat):Prop:=e=0\/e=1\/e=2
def stO (key nonce xs:List Int) (c:Int) (t:TypeId) (off len cap:Nat) (m r:List Prop):List Prop:=
 (key.length=32)::(nonce.length=12)::(off+len<=xs.length)::(m++(len<=4611686018427387904)::(0<=c/\c<=4294967295)::(key=key)::(c=c)::(nonce=nonce)::(off=0+off)::(len=len)::(cap=cap)::(xs=xs/\t=t)::(nonce.length=12)::(key.length=32)::r)
def stE (key nonce:List Int) (c:Int) (off len:Nat) (xs:List Int) (t:TypeId):bL:={ val:=.eP [],wr:=[(60,.ints .u8 (cL key nonce c off len xs) t)] }
theorem aGp (e:Nat) (he:e=0\/e=2) (key nonce xs:List Int) (c:Int) (t:TypeId) (off len cap:Nat):aF (env exE 22) Tryz.f22 true [] 400 (WG e key nonce c off len cap) (fun l=>look l (stL e xs t)) 100 100=some { stE key nonce c off len xs t with bK:=stO key nonce xs c t off len cap [] [] }:=by rcases he with rfl | rfl <;> kernel_rfl
theorem aUh (key nonce xs:List Int) (c:Int) (t:TypeId) (off len cap:Nat):aF (env exE 22) Tryz.f22 true [] 400 (WG 1 key nonce c off len cap) (fun l=>look l (stL 1 xs t)) 100 100=some { stE key nonce c off len xs t with bK:=stO key nonce xs c t off len cap [len<=cap] [nonce.length=12,key.length=32] }:=by kernel_rfl
theorem aPi:∀ f S,exE f=some S->∀ Γ:Env,Γ.aT=aB->aI Tryz.prog Γ f S:=bE (bE gY 55 _ aKo) 46 _ aNa
theorem NM {e:Nat} (he:cV e) {key nonce xs:List Int} {c:Int} {t:TypeId} {off len cap:Nat} (hk:key.length=32) (hn:nonce.length=12) (hx:off+len<=xs.length) (hlc:len<=cap) (hl:len<=4611686018427387904) (hc:0<=c/\c<=4294967295) (Γ:Env) (hg:Γ.aT=aB) :
 aE Tryz.prog Γ 22 (WG e key nonce c off len cap) (fun l=>look l (stL e xs t)) 100 100 (stE key nonce c off len xs t):=by
 have hs:aI Tryz.prog (env exE 22) 22 (aF (env exE 22) Tryz.f22 true [] 400):=aM (bP exE 22) (bV exE aPi 22) mix Tryz.func22 (by kernel_rfl) true [] 400
 have uA:∀ m r:List Prop,(∀ q∈m,q)->(∀ q∈r,q)->∀ q∈stO key nonce xs c t off len cap m r,q:=fun m r hm hr=>
  aV hk (aV hn (aV hx (rS hm (aV hl (aV hc (aV rfl (aV rfl (aV rfl (aV (by omega) (aV rfl (aV rfl (aV ⟨rfl,rfl⟩ (aV hn (aV hk hr))))))))))))))
 rcases he with rfl | rfl | rfl
 .exact (hs.call (aGp 0 (.inl rfl) key nonce xs c t off len cap) (uA _ _ iQ iQ)).words (by rw [hg];rfl) (fun _=>rfl) (fun _ _ h=>h) (fun _=>rfl) rfl rfl
 .exact (hs.call (aUh key nonce xs c t off len cap) (uA _ _ (aV hlc iQ) (aV hn (aV hk iQ)))).words (by rw [hg];rfl) (fun _=>rfl) (fun _ _ h=>h) (fun _=>rfl) rfl rfl
 .exact (hs.call (aGp 2 (.inr rfl) key nonce xs c t off len cap) (uA _ _ iQ iQ)).words (by rw [hg];rfl) (fun _=>rfl) (fun _ _ h=>h) (fun _=>rfl) rfl rfl
def On (d:Nat->List Int) (r:List Prop):List Prop:=
 ((d 1).length=(d 1).length)::((d 1).length=(d 1).length)::((d 2).length=(d 2).length)::((d 2).length=(d 2).length)::((d 3).length=(d 3).length)::((d 3).length=(d 3).length)::((d 4).length=(d 4).length)::((d 4).length=(d 4).length)::((d 5).length=(d 5).length)::((d 5).length=(d 5).length) ::
   (d 1=d 1)::(d 2=d 2)::(d 3=d 3)::(d 4=d 4)::(d 5=d 5)::r
theorem pJ {d:Nat->List Int} {r:List Prop} (h:∀ q∈r,q):∀ q∈On d r,q:=
 aV rfl (aV rfl (aV rfl (aV rfl (aV rfl (aV rfl (aV rfl (aV rfl (aV rfl (aV rfl (aV rfl (aV rfl (aV rfl (aV rfl (aV rfl h))))))))))))))
def jG (key D:List Int) (r:List Prop):List Prop:=(key.length=32)::bI key::bI D::(D.length<=1073741824)::(D.length%16=0)::r
theorem Zk (mc:List Int->List Int->List Int):∀ f S,Kg mc f=some S->∀ Γ:Env,Γ.aT=aB->aI Tryz.prog Γ f S:=bE (bE (bE gY 56 _ aLc) 48 _ (LS mc)) 50 _ aQm
theorem aGo (e:Nat) (he:e=0\/e=2) (key:List Int) (d:Nat->List Int):aF (env (Kg M.tag) 22) Tryz.f24 true [] 400 [.agg (rD e),.ai .u8 key,.aJ 62 true 0 5 5] (fun l=>look l (tkL e d)) 100 100 =
 some { val:=.ai .u8 (M.tag key (M.cat d)),bK:=((M.tag key (M.cat d)).length=16)::((M.tag key (M.cat d)).length=16)::jG key (M.cat d) ((key=key)::On d [key.length=32]) }:=by rcases he with rfl | rfl <;> kernel_rfl
theorem aUd (mc:List Int->List Int->List Int) (key:List Int) (d:Nat->List Int):aF (env (Kg mc) 22) Tryz.f24 true [] 400 [.agg (rD 1),.ai .u8 key,.aJ 62 true 0 5 5] (fun l=>look l (tkL 1 d)) 100 100 =
 some { val:=.ai .u8 (mc key (M.cat d)),bK:=((mc key (M.cat d)).length=16)::((mc key (M.cat d)).length=16)::((mc key (M.cat d)).length=16)::((mc key (M.cat d)).length=16)::(mc key (M.cat d)=M.tag key (M.cat d))::jG key (M.cat d) ((key=key)::On d [key.length=32,key.length=32]) }:=by kernel_rfl
theorem NK {e:Nat} (he:cV e) {key:List Int} {d:Nat->List Int} (hk:key.length=32) (hb:bI key) (hd:bI (M.cat d)) (hl:(M.cat d).length<=1073741824) (vF:(M.cat d).length%16=0) (Γ:Env) (hg:Γ.aT=aB) :
 aE Tryz.prog Γ 24 [.agg (rD e),.ai .u8 key,.aJ 62 true 0 5 5] (fun l=>look l (tkL e d)) 100 100 { val:=.ai .u8 (M.tag key (M.cat d)) }:=by
 have hs:aI Tryz.prog (env (Kg M.tag) 22) 24 (aF (env (Kg M.tag) 22) Tryz.f24 true [] 400):=aM (bP _ 22) (bV _ (Zk _) 22) mix Tryz.func24 (by kernel_rfl) true [] 400
 have hT:=M.oK key (M.cat d)
 have hw:∀ r:List Prop,(∀ q∈r,q)->∀ q∈jG key (M.cat d) r,q:=fun r hr=>aV hk (aV hb (aV hd (aV hl (aV vF hr))))
 rcases he with rfl | rfl | rfl
 .exact (hs.call (aGo 0 (.inl rfl) key d) (aV hT (aV hT (hw _ (aV rfl (pJ (aV hk iQ))))))).words (by rw [hg];rfl) (fun _=>rfl) (fun _ _ h=>h) (fun _=>rfl) rfl rfl
 .exact (hs.call (aUd M.tag key d) (aV hT (aV hT (aV hT (aV hT (aV rfl (hw _ (aV rfl (pJ (aV hk (aV hk iQ)))))))))) ).words (by rw [hg];rfl) (fun _=>rfl) (fun _ _ h=>h) (fun _=>rfl) rfl rfl
 .exact (hs.call (aGo 2 (.inr rfl) key d) (aV hT (aV hT (hw _ (aV rfl (pJ (aV hk iQ))))))).words (by rw [hg];rfl) (fun _=>rfl) (fun _ _ h=>h) (fun _=>rfl) rfl rfl
theorem aHy (e:Nat) (he:e=0\/e=2) (key t:List Int) (d:Nat->List Int):aF (env (Kg M.tag) 22) Tryz.f29 true [] 400 [.agg (rD e),.ai .u8 key,.ai .u8 t,.aJ 62 true 0 5 5] (fun l=>look l (tkL e d)) 100 100 =
 some { val:=.bool false (decide (M.tag key (M.cat d)=t)),bK:=((M.tag key (M.cat d)).length=16/\t.length=16)::(t.length=16)::jG key (M.cat d) ((key=key)::On d [key.length=32,t.length=16,key.length=32]) }:=by rcases he with rfl | rfl <;> kernel_rfl
theorem aXx (key t:List Int) (d:Nat->List Int):aF (env (Kg M.tag) 22) Tryz.f29 true [] 400 [.agg (rD 1),.ai .u8 key,.ai .u8 t,.aJ 62 true 0 5 5] (fun l=>look l (tkL 1 d)) 100 100 =
 some { val:=.bool false (decide (M.tag key (M.cat d)=t)),bK:=(key.length=32)::bI key::(t.length=16)::bI t::bI (M.cat d)::((M.cat d).length<=1073741824)::((M.cat d).length%16=0)::(key=key)::(t=t)::On d [t.length=16,key.length=32,t.length=16,key.length=32] }:=by kernel_rfl
theorem TB {e:Nat} (he:cV e) {key t:List Int} {d:Nat->List Int} (hk:key.length=32) (hb:bI key) (ht:t.length=16) (htb:bI t) (hd:bI (M.cat d)) (hl:(M.cat d).length<=1073741824) (vF:(M.cat d).length%16=0) (Γ:Env) (hg:Γ.aT=aB) :
 aE Tryz.prog Γ 29 [.agg (rD e),.ai .u8 key,.ai .u8 t,.aJ 62 true 0 5 5] (fun l=>look l (tkL e d)) 100 100 { val:=.bool false (decide (M.tag key (M.cat d)=t)) }:=by
 have hs:aI Tryz.prog (env (Kg M.tag) 22) 29 (aF (env (Kg M.tag) 22) Tryz.f29 true [] 400):=aM (bP _ 22) (bV _ (Zk _) 22) mix Tryz.func29 (by kernel_rfl) true [] 400
 have hT:=M.oK key (M.cat d)
 have hw:∀ r:List Prop,(∀ q∈r,q)->∀ q∈jG key (M.cat d) r,q:=fun r hr=>aV hk (aV hb (aV hd (aV hl (aV vF hr))))
 rcases he with rfl | rfl | rfl
 .exact (hs.call (aHy 0 (.inl rfl) key t d) (aV ⟨hT,ht⟩ (aV ht (hw _ (aV rfl (pJ (aV hk (aV ht (aV hk iQ))))))))).words (by rw [hg];rfl) (fun _=>rfl) (fun _ _ h=>h) (fun _=>rfl) rfl rfl
 .exact (hs.call (aXx key t d) (aV hk (aV hb (aV ht (aV htb (aV hd (aV hl (aV vF (aV rfl (aV rfl (pJ (aV ht (aV hk (aV ht (aV hk iQ)))))))))))))) ).words (by rw [hg];rfl) (fun _=>rfl) (fun _ _ h=>h) (fun _=>rfl) rfl rfl
 .exact (hs.call (aHy 2 (.inr rfl) key t d) (aV ⟨hT,ht⟩ (aV ht (hw _ (aV rfl (pJ (aV hk (aV ht (aV hk iQ))))))))).words (by rw [hg];rfl) (fun _=>rfl) (fun _ _ h=>h) (fun _=>rfl) rfl rfl
def Te (vs:List SV) (T:bA):Option Canon:=match vs with
 | [ev,ks,.int _ .u32 c,ns,.aJ l _ off len cap]=>match zV ev,cJ ks,cJ ns,(T l).bind Dp with
   | some (e,vl),some (.u8,k),some (.u8,n),some (.u8,xs,ty)=>some { eN:=WG e k n c off len cap,T0:=stL e xs ty,vl:=(60,.lab l 0)::vl,e0:=stE k n c off len xs ty,conds:=[cV e,k.length=32,n.length=12,off+len<=xs.length,len<=cap,len<=4611686018427387904,0<=c/\c<=4294967295] }
   | _,_,_,_=>none
 | _=>none
theorem YU (Γ:Env) (hg:Γ.aT=aB):aI Tryz.prog Γ 22 (aL aB 100 Te):=by
 refine aW hg fun vs T c hd hc=>?_
 unfold Te at hd
 split at hd
 case h_2=>cases hd
 split at hd
 case h_2=>cases hd
 cases hd
 exact NM (hc _ (by simp)) (hc _ (by simp)) (hc _ (by simp)) (hc _ (by simp)) (hc _ (by simp)) (hc _ (by simp)) (hc _ (by simp)) Γ hg
def MM (L:Nat):List (Nat × Kj):=[(62,.lab L 0),(71,.cell L 0),(72,.cell L 1),(73,.cell L 2),(74,.cell L 3),(75,.cell L 4)]
def Ta (vs:List SV) (T:bA):Option Canon:=match vs with
 | [ev,ks,.aJ L _ 0 5 5]=>match zV ev,cJ ks,(T L).bind roL with
   | some (e,vl),some (.u8,k),some [p1,p2,p3,p4,p5]=>match cZ T .u8 p1,cZ T .u8 p2,cZ T .u8 p3,cZ T .u8 p4,cZ T .u8 p5 with
     | some (o1,x1),some (o2,x2),some (o3,x3),some (o4,x4),some (o5,x5)=>some { eN:=[.agg (rD e),.ai .u8 k,.aJ 62 true 0 5 5],T0:=tkL e (Cm x1 x2 x3 x4 x5),vl:=vl++MM L,e0:={ val:=.ai .u8 (M.tag k (x1++(x2++(x3++(x4++x5))))) },conds:=cV e::jG k (x1++(x2++(x3++(x4++x5)))) (o1++(o2++(o3++(o4++o5)))) }
     | _,_,_,_,_=>none
   | _,_,_=>none
 | _=>none
theorem YQ (Γ:Env) (hg:Γ.aT=aB):aI Tryz.prog Γ 24 (aL aB 100 Ta):=by
 refine aW hg fun vs T c hd hc=>?_
 unfold Ta at hd
 split at hd
 case h_2=>cases hd
 split at hd
 case h_2=>cases hd
 split at hd
 case h_2=>cases hd
 cases hd
 rename_i o1 x1 o2 x2 o3 x3 o4 x4 o5 x5 _ _ _ _ _
 exact NK (d:=Cm x1 x2 x3 x4 x5) (hc _ (by simp)) (hc _ (by simp [jG])) (hc _ (by simp [jG])) (hc _ (by simp [jG,M.cat,Cm])) (hc _ (by simp [jG,M.cat,Cm])) (hc _ (by simp [jG,M.cat,Cm])) Γ hg
def Uo (vs:List SV) (T:bA):Option Canon:=match vs with
 | [ev,ks,ts,.aJ L _ 0 5 5]=>match zV ev,cJ ks,cJ ts,(T L).bind roL with
   | some (e,vl),some (.u8,k),some (.u8,t),some [p1,p2,p3,p4,p5]=>match cZ T .u8 p1,cZ T .u8 p2,cZ T .u8 p3,cZ T .u8 p4,cZ T .u8 p5 with
     | some (o1,x1),some (o2,x2),some (o3,x3),some (o4,x4),some (o5,x5)=>some { eN:=[.agg (rD e),.ai .u8 k,.ai .u8 t,.aJ 62 true 0 5 5],T0:=tkL e (Cm x1 x2 x3 x4 x5),vl:=vl++MM L,e0:={ val:=.bool false (decide (M.tag k (x1++(x2++(x3++(x4++x5))))=t)) },conds:=cV e::(t.length=16)::bI t::jG k (x1++(x2++(x3++(x4++x5)))) (o1++(o2++(o3++(o4++o5)))) }
     | _,_,_,_,_=>none
   | _,_,_,_=>none
 | _=>none
theorem aFr (Γ:Env) (hg:Γ.aT=aB):aI Tryz.prog Γ 29 (aL aB 100 Uo):=by
 refine aW hg fun vs T c hd hc=>?_
 unfold Uo at hd
 split at hd
 case h_2=>cases hd
 split at hd
 case h_2=>cases hd
 split at hd
 case h_2=>cases hd
 cases hd
 rename_i o1 x1 o2 x2 o3 x3 o4 x4 o5 x5 _ _ _ _ _
 exact TB (d:=Cm x1 x2 x3 x4 x5) (hc _ (by simp)) (hc _ (by simp [jG])) (hc _ (by simp [jG])) (hc _ (by simp)) (hc _ (by simp)) (hc _ (by simp [jG,M.cat,Cm])) (hc _ (by simp [jG,M.cat,Cm])) (hc _ (by simp [jG,M.cat,Cm])) Γ hg
noncomputable def BK:Nat->Option Sum:=dO (dO (dO (dO (dO (dO fD 22 (aL aB 100 Te)) 24 (aL aB 100 Ta)) 29 (aL aB 100 Uo)) 23 (aL aB 100 IX)) 39 (aL aB 100 JD)) 40 (aL aB 100 JR)
theorem Zs:∀ f S,BK f=some S->∀ Γ:Env,Γ.aT=aB->aI Tryz.prog Γ f S:=bE (bE (bE (bE (bE (bE gY 22 _ YU) 24 _ YQ) 29 _ aFr) 23 _ aVp) 39 _ aWa) 40 _ aXh
def onL (e:Nat):List (Nat × SB):=HD e++Jx
theorem bGf (e:Nat) (he:cV e) (key:List Int) (N:Int):aF (env BK 22) Tryz.f21 true [] 400 [.agg (rD e),.ai .u8 key,.int false .u64 N] (fun l=>look l (onL e)) 100 100 =
 some { val:=.ai .u8 (M.once key N),bK:=[(M.once key N).length=32,(M.once key N).length=32,(M.once key N).length=32,cV e,key.length=32,(M.nonce N).length=12,0+32<=32,32<=32,32<=4611686018427387904,(0:Int)<=0/\(0:Int)<=4294967295,key=key,(0:Int)=0,M.nonce N=M.nonce N,0=0,32=32,32=32,List.replicate 32 (0:Int)=List.replicate 32 0/\(23:Nat)=(23:TypeId),N=N,key.length=32] }:=by rcases he with rfl | rfl | rfl <;> kernel_rfl
theorem aGg {e:Nat} (he:cV e) {key:List Int} (hk:key.length=32) (N:Int) (Γ:Env) (hg:Γ.aT=aB):aE Tryz.prog Γ 21 [.agg (rD e),.ai .u8 key,.int false .u64 N] (fun l=>look l (onL e)) 100 100 { val:=.ai .u8 (M.once key N) }:=
 ((aM (bP BK 22) (bV BK Zs 22) mix Tryz.func21 (by kernel_rfl) true [] 400:aI Tryz.prog (env BK 22) 21 _).call (bGf e he key N) (aA ⟨M.lP _ _,M.lP _ _,M.lP _ _,he,hk,rfl,by omega,by omega,by omega,by omega,rfl,rfl,rfl,rfl,rfl,rfl,⟨rfl,rfl⟩,rfl,hk,trivial⟩)).words (by rw [hg];rfl) (fun _=>rfl) (fun _ _ h=>h) (fun _=>rfl) rfl rfl
def KT (on:List Int->Int->List Int) (vs:List SV) (_:bA):Option Canon:=match vs with
 | [ev,ks,.int _ .u64 N]=>match zV ev,cJ ks with
   | some (e,vl),some (.u8,k)=>some { eN:=[.agg (rD e),.ai .u8 k,.int false .u64 N],T0:=onL e,vl:=vl,e0:={ val:=.ai .u8 (on k N) },conds:=[on k N=M.once k N,cV e,k.length=32] }
   | _,_=>none
 | _=>none
theorem aQu (on:List Int->Int->List Int) (Γ:Env) (hg:Γ.aT=aB):aI Tryz.prog Γ 21 (aL aB 100 (KT on)):=by
 refine aW hg fun vs T c hd hc=>?_
 unfold KT at hd
 split at hd
 case h_2=>cases hd
 split at hd
 case h_2=>cases hd
 cases hd
 have e:=hc _ zzC
 rw [e]
 exact aGg (hc _ (zzO _ zzC)) (hc _ (zzO _ (zzO _ zzC))) _ Γ hg
noncomputable def aSv (on:List Int->Int->List Int):Nat->Option Sum:=dO BK 21 (aL aB 100 (KT on))
theorem aFb (on:List Int->Int->List Int):∀ f S,aSv on f=some S->∀ Γ:Env,Γ.aT=aB->aI Tryz.prog Γ f S:=bE Zs 21 _ (aQu on)
noncomputable def oN (on:List Int->Int->List Int):Env:=env (aSv on) 22
theorem sV (on:List Int->Int->List Int):cC Tryz.prog (oN on):=bP _ 22
theorem sW (on:List Int->Int->List Int):cK Tryz.prog (oN on):=bV _ (aFb on) 22
def US:List (Nat × SB):=[(0,.fS [.rG 428 (.ptr 40 true 0)]),(2,.fS [.rG 428 (.ptr 42 true 0)]),(4,.fS [.rG 428 (.ptr 44 true 0)]),(8,.fS [.rG 428 (.ptr 48 true 0)]),(17,.fS [.int true .i64 40]),(18,.fS [.int true .i64 40])]++Jx
def HI:List (Nat × Kj):=[(40,.lab 40 0),(42,.lab 42 0),(44,.lab 44 0),(48,.lab 48 0)]
def AW (e:Nat) (key:List Int) (N:Int) (la lb cb:Nat) (n:Int):List SV:=[.agg (rD e),.ai .u8 key,.int false .u64 N,.eH 63 la,.aJ 62 false 0 lb cb,.int false .i64 n]
def seL (e:Nat) (ad bs:List Int) (t:TypeId):List (Nat × SB):=[(62,.ints .u8 bs t),(63,.gL .u8 ad)]++(HD e++US)
def FF (e:Nat) (ad bs:List Int) (t:TypeId):bA:=fun l=>look l (seL e ad bs t)
noncomputable def seM (on:List Int->Int->List Int) (e:Nat) (ad bs:List Int) (t:TypeId) (k:Nat) (cf:Cf) (K:List Fr) (s:St):Option oY:=gV (oN on) (aY 100 (FF e ad bs t)) 100 Tryz.f9.ntmps [] 400 k cf K s
def bR:Nat->Code->Code
 | 0,c=>c
 | n+1,.seq _ y=>bR n y
 | _,c=>c
def aRl (la lb cb n:Nat):List (Nat × SV):=[(3,.eH 63 la),(4,.aJ 62 false 0 lb cb),(5,.int false .i64 (n:Int)),(6,.ptr 100 true 0),(14,.aJ 62 false 0 n n),(15,.ptr 101 true 0)]
def aRo (e:Nat) (cs ok:List Int) (t:TypeId):List (Nat × SB):=[(62,.ints .u8 cs t),(100,.own (rD e) 38),(101,.ints .u8 ok 23)]
def aRk (lb cb n:Nat):List (Nat × SV):=[(4,.aJ 62 false 0 lb cb),(5,.int false .i64 (n:Int)),(16,.ptr 100 true 0)]
def aRn (cs tg:List Int) (t:TypeId):List (Nat × SB):=[(62,.ints .u8 cs t),(100,.ints .u8 tg 59)]
namespace Q
def oS (n:Nat):Nat:=(if IntKind.i64.wrap ((n:Int)+16)=(n:Int) then 0 else 0+(n:Int).toNat*1)
def aJb (n:Nat) (cs x:List Int):List Int:=cs.take (oS n)++x.take (x.length.min ((IntKind.i64.wrap ((n:Int)+16)).toNat-(n:Int).toNat))++cs.drop (oS n+x.length.min ((IntKind.i64.wrap ((n:Int)+16)).toNat-(n:Int).toNat))
end Q
theorem bAb (e:Nat) (he:cV e) (on:List Int->Int->List Int) (key ad bs cs ok:List Int) (N:Int) (la lb cb n:Nat) (t:TypeId):cW 100 Tryz.f9.ntmps (aY 100 (FF e ad bs t)) [] (aRl la lb cb n) (aRo e cs ok t) 102 [62] [] (seM on e ad bs t 25 (.go (codeOf Tryz.f9)) [] ((zL (AW e key N la lb cb (n:Int)) 100).hint [false,false,false])) =
 some (.go (bR 5 (codeOf Tryz.f9)),[],[cV e,key.length=32,(M.nonce N).length=12,0+((n:Int).toNat-0)<=bs.length,(n:Int).toNat-0<=(n:Int).toNat-0,(n:Int).toNat-0<=4611686018427387904,(0:Int)<=1/\(1:Int)<=4294967295,key=key,(1:Int)=1,M.nonce N=M.nonce N,0=0+0,(n:Int).toNat-0=(n:Int).toNat-0,(n:Int).toNat-0=(n:Int).toNat-0,bs=bs/\t=t,N=N,key.length=32,
  (on key N).length=32,on key N=M.once key N,cV e,key.length=32,key=key,N=N,key.length=32,(0:Int)<=(n:Int)/\(n:Int)<=(cb:Int)/\(0:Int)<=(n:Int)/\(n:Int)<=(n:Int)/\(0:Int)<=0/\(0:Int)<=(n:Int),decide (IntKind.i64.wrap ((lb:Int)-(n:Int))<16)=false,decide ((n:Int)>(lb:Int))=false,decide ((n:Int)<0)=false,
  la=la,0=0,lb=lb,cb=cb,(n:Int)=(n:Int),0=0,(n:Int).toNat-0=n,(n:Int).toNat-0=n,cL key (M.nonce N) 1 0 ((n:Int).toNat-0) bs=cs/\t=t,on key N=ok/\(23:Nat)=(23:TypeId)]):=by rcases he with rfl | rfl | rfl <;> kernel_rfl
def frO (e:Nat) (ad cs ok:List Int) (la n:Nat) (x y r:List Prop):List Prop:=
 let pa:=M.qZ la;let pn:=M.qZ n;let RA:=List.replicate pa (0:Int);let RN:=List.replicate pn (0:Int);let L16:=M.Ic la n
 let TA:=(RA.drop 0).take pa;let TC:=(cs.drop 0).take n;let TN:=(RN.drop 0).take pn;let T5:=(L16.drop 0).take 16
 let p2:=0+pa<=RA.length/\pa<=pa;let p3:=0+n<=cs.length/\n<=n;let p4:=0+pn<=RN.length/\pn<=pn;let p5:=16<=L16.length/\(0:Nat)<=0
 cV e::(x++jG ok (M.AO ad la TC n) (p2::p3::p4::p5::(ok=ok)::(y++(la=la)::(ad.length=ad.length)::(0=0)::(pa=pa)::(pa=pa)::p2::(TA.length=TA.length)::(0=0)::(n=n)::(n=n)::p3::(TC.length=TC.length)::(0=0)::(pn=pn)::(pn=pn)::p4::(TN.length=TN.length)::(16=16)::p5::(T5.length=T5.length) ::
  (ad=ad)::(TA=TA)::p2::(TC=TC)::p3::(TN=TN)::p4::(T5=T5)::p5::r)))
def fqO (la n:Nat) (r:List Prop):List Prop:=(0<=(n:Int)/\(n:Int)<=1073741824)::((n:Int)=(n:Int))::(0<=(la:Int)/\(la:Int)<=1073741824)::((la:Int)=(la:Int))::(IntKind.u64.wrap (n:Int)=IntKind.u64.wrap (n:Int))::(IntKind.u64.wrap (la:Int)=IntKind.u64.wrap (la:Int))::r
theorem bAa (e:Nat) (he:cV e) (on:List Int->Int->List Int) (ad bs cs ok tg:List Int) (la lb cb n:Nat) (t:TypeId):cW 100 Tryz.f9.ntmps (aY 100 (FF e ad bs t)) [] (aRk lb cb n) (aRn cs tg t) 101 [62] [] (seM on e ad bs t 3 (.go (bR 5 (codeOf Tryz.f9))) [] ((bM (aRl la lb cb n) (aRo e cs ok t) 102 [62] []).hint [])) =
 some (.go (bR 6 (codeOf Tryz.f9)),[],((M.tag ok (M.AO ad la ((cs.drop 0).take n) n)).length=16)::frO e ad cs ok la n [] [] (fqO la n [ok.length=32,0=0,lb=lb,cb=cb,(n:Int)=(n:Int),cs=cs/\t=t,M.tag ok (M.AO ad la ((cs.drop 0).take n) n)=tg/\(59:Nat)=(59:TypeId)])):=by rcases he with rfl | rfl | rfl <;> kernel_rfl
theorem aZz (e:Nat) (he:cV e) (on:List Int->Int->List Int) (ad bs cs tg:List Int) (lb cb n:Nat) (t:TypeId):pY (oN on) (FF e ad bs t) 100 100 Tryz.f9 [] (seM on e ad bs t 400 (.go (bR 6 (codeOf Tryz.f9))) [] ((bM (aRk lb cb n) (aRn cs tg t) 101 [62] []).hint [])) =
 some { bK:=[Q.oS n+((tg.drop 0).take 16).length.min ((IntKind.i64.wrap ((n:Int)+16)).toNat-(n:Int).toNat)<=cs.length,16<=tg.length,(0:Int)<=IntKind.i64.wrap ((n:Int)+16)/\IntKind.i64.wrap ((n:Int)+16)<=(cb:Int)/\(0:Int)<=IntKind.i64.wrap ((n:Int)+16)/\IntKind.i64.wrap ((n:Int)+16)<=IntKind.i64.wrap ((n:Int)+16)/\(0:Int)<=(n:Int)/\(n:Int)<=IntKind.i64.wrap ((n:Int)+16)],val:=.eP [.int false .i64 (IntKind.i64.wrap ((n:Int)+16)),.raw .nilIface],wr:=[(62,.ints .u8 (Q.aJb n cs ((tg.drop 0).take 16)) t)] }:=by rcases he with rfl | rfl | rfl <;> kernel_rfl
def Hc (e:Nat) (key:List Int) (N:Int) (la lb:Nat) (n:Int):List SV:=[.agg (rD e),.ai .u8 key,.int false .u64 N,.eH 63 la,.eH 62 lb,.int false .i64 n]
def UR (e:Nat) (ad bs:List Int):List (Nat × SB):=[(62,.gL .u8 bs),(63,.gL .u8 ad)]++(HD e++US)
def AR (l:Nat):SV:=.eP [.int true .i64 0,.rG 428 (.ptr l true 0)]
theorem aZr (e:Nat) (he:cV e) (key ad bs:List Int) (N n:Int) (la lb:Nat):aF (oN M.once) Tryz.f9 true [true] 400 (Hc e key N la lb n) (fun l=>look l (UR e ad bs)) 100 100=some { val:=AR 40,bK:=[decide (n<0)=true] }:=by rcases he with rfl | rfl | rfl <;> kernel_rfl
theorem aZq (e:Nat) (he:cV e) (key ad bs:List Int) (N n:Int) (la lb:Nat):aF (oN M.once) Tryz.f9 true [false,true] 400 (Hc e key N la lb n) (fun l=>look l (UR e ad bs)) 100 100=some { val:=AR 40,bK:=[decide (n>(lb:Int))=true,decide (n<0)=false] }:=by rcases he with rfl | rfl | rfl <;> kernel_rfl
theorem aZp (e:Nat) (he:cV e) (key ad bs:List Int) (N n:Int) (la lb:Nat):aF (oN M.once) Tryz.f9 true [false,false,true] 400 (Hc e key N la lb n) (fun l=>look l (UR e ad bs)) 100 100=some { val:=AR 42,bK:=[decide (IntKind.i64.wrap ((lb:Int)-n)<16)=true,decide (n>(lb:Int))=false,decide (n<0)=false] }:=by rcases he with rfl | rfl | rfl <;> kernel_rfl
theorem bBa (e:Nat) (he:cV e) (key ad bs:List Int) (N n:Int) (la lb:Nat):aF (oN M.once) Tryz.f12 true [true] 400 (Hc e key N la lb n) (fun l=>look l (UR e ad bs)) 100 100=some { val:=AR 40,bK:=[decide (n<0)=true] }:=by rcases he with rfl | rfl | rfl <;> kernel_rfl
theorem bAz (e:Nat) (he:cV e) (key ad bs:List Int) (N n:Int) (la lb:Nat):aF (oN M.once) Tryz.f12 true [false,true] 400 (Hc e key N la lb n) (fun l=>look l (UR e ad bs)) 100 100=some { val:=AR 40,bK:=[decide (n>(lb:Int))=true,decide (n<0)=false] }:=by rcases he with rfl | rfl | rfl <;> kernel_rfl
theorem bAy (e:Nat) (he:cV e) (key ad bs:List Int) (N n:Int) (la lb:Nat):aF (oN M.once) Tryz.f12 true [false,false,true] 400 (Hc e key N la lb n) (fun l=>look l (UR e ad bs)) 100 100=some { val:=AR 44,bK:=[decide (n<16)=true,decide (n>(lb:Int))=false,decide (n<0)=false] }:=by rcases he with rfl | rfl | rfl <;> kernel_rfl
def KN:Code->Code
 | .seq (.seq _ c) _=>c
 | c=>c
noncomputable def opM (on:List Int->Int->List Int) (e:Nat) (ad bs:List Int) (t:TypeId) (k:Nat) (cf:Cf) (K:List Fr) (s:St):Option oY:=gV (oN on) (aY 100 (FF e ad bs t)) 100 Tryz.f12.ntmps [] 400 k cf K s
def GL:List SV:=[.fn (.func 28) [] [.ptr 102 true 0,.ptr 103 true 0]]
def aHd (N:Int) (la lb cb n m:Nat):List (Nat × SV):=[(2,.int false .u64 N),(3,.eH 63 la),(4,.aJ 62 false 0 lb cb),(5,.int false .i64 (n:Int)),(6,.ptr 100 true 0),(7,.ptr 101 true 0),(12,.int true .i64 0),(13,.ptr 102 true 0),(14,.int false .i64 (m:Int)),(15,.ptr 103 true 0),(16,.ptr 104 true 0)]
def aHc (e:Nat) (key ok bs:List Int) (m:Nat) (t:TypeId):List (Nat × SB):=[(62,.ints .u8 bs t),(100,.own (rD e) 38),(101,.ints .u8 key 23),(102,.own [.raw .nilIface] 28),(103,.own [.aJ 62 false 0 m m] 25),(104,.ints .u8 ok 23)]
def IN (N:Int) (m:Nat) (b:Bool):List (Nat × SV):=[(2,.int false .u64 N),(6,.ptr 100 true 0),(7,.ptr 101 true 0),(12,.int true .i64 0),(13,.ptr 102 true 0),(14,.int false .i64 (m:Int)),(15,.ptr 103 true 0),(55,.bool false b)]
def IM (e:Nat) (key bs:List Int) (m:Nat) (t:TypeId):List (Nat × SB):=[(62,.ints .u8 bs t),(100,.own (rD e) 38),(101,.ints .u8 key 23),(102,.own [.raw .nilIface] 28),(103,.own [.aJ 62 false 0 m m] 25)]
theorem bBh (e:Nat) (he:cV e) (on:List Int->Int->List Int) (key ad bs ok:List Int) (N:Int) (la lb cb n m:Nat) (t:TypeId):cW 100 Tryz.f12.ntmps (aY 100 (FF e ad bs t)) [] (aHd N la lb cb n m) (aHc e key ok bs m t) 105 [62] GL (opM on e ad bs t 28 (.go (codeOf Tryz.f12)) [] ((zL (AW e key N la lb cb (n:Int)) 100).hint [false,false,false])) =
 some (.go (bR 6 (codeOf Tryz.f12)),[],[(on key N).length=32,on key N=M.once key N,cV e,key.length=32,key=key,N=N,key.length=32,(0:Int)<=IntKind.i64.wrap ((n:Int)-16)/\IntKind.i64.wrap ((n:Int)-16)<=(cb:Int)/\(0:Int)<=IntKind.i64.wrap ((n:Int)-16)/\IntKind.i64.wrap ((n:Int)-16)<=IntKind.i64.wrap ((n:Int)-16)/\(0:Int)<=0/\(0:Int)<=IntKind.i64.wrap ((n:Int)-16),
  decide ((n:Int)<16)=false,decide ((n:Int)>(lb:Int))=false,decide ((n:Int)<0)=false,N=N,la=la,0=0,lb=lb,cb=cb,(n:Int)=(n:Int),IntKind.i64.wrap ((n:Int)-16)=(m:Int),bs=bs/\t=t,key=key/\(23:Nat)=(23:TypeId),0=0,(IntKind.i64.wrap ((n:Int)-16)).toNat-0=m,(IntKind.i64.wrap ((n:Int)-16)).toNat-0=m,on key N=ok/\(23:Nat)=(23:TypeId)]):=by rcases he with rfl | rfl | rfl <;> kernel_rfl
def Q.oT (n m:Nat):Nat:=if (n:Int)=(m:Int) then 0 else 0+(m:Int).toNat*1
def Q.tT (n m:Nat) (bs:List Int):List Int:=(bs.drop (Q.oT n m)).take 16
theorem bBg (e:Nat) (he:cV e) (on:List Int->Int->List Int) (key ad bs ok:List Int) (N:Int) (la lb cb n m:Nat) (t:TypeId) (b:Bool):cW 100 Tryz.f12.ntmps (aY 100 (FF e ad bs t)) [] (IN N m b) (IM e key bs m t) 104 [62] GL (opM on e ad bs t 4 (.go (bR 6 (codeOf Tryz.f12))) [] ((bM (aHd N la lb cb n m) (aHc e key ok bs m t) 105 [62] GL).hint [])) =
 some (.go (KN (bR 6 (codeOf Tryz.f12))),[.seq (bR 7 (codeOf Tryz.f12))],frO e ad bs ok la m [(Q.tT n m bs).length=16,bI (Q.tT n m bs)] [Q.tT n m bs=Q.tT n m bs] (fqO la m [Q.oT n m+16<=bs.length,16<=(n:Int).toNat-(m:Int).toNat,(0:Int)<=(n:Int)/\(n:Int)<=(cb:Int)/\(0:Int)<=(n:Int)/\(n:Int)<=(n:Int)/\(0:Int)<=(m:Int)/\(m:Int)<=(n:Int),ok.length=32,N=N,(m:Int)=(m:Int),
  (!decide (M.tag ok (M.AO ad la ((bs.drop 0).take m) m)=Q.tT n m bs))=b,bs=bs/\t=t,key=key/\(23:Nat)=(23:TypeId),0=0,m=m,m=m])):=by rcases he with rfl | rfl | rfl <;> kernel_rfl
theorem bBf (e:Nat) (he:cV e) (on:List Int->Int->List Int) (key ad bs:List Int) (N:Int) (m:Nat) (t:TypeId) (b:Bool):pY (oN on) (FF e ad bs t) 100 100 Tryz.f12 [] (opM on e ad bs t 400 (.go (KN (bR 6 (codeOf Tryz.f12)))) [.seq (bR 7 (codeOf Tryz.f12))] ((bM (IN N m b) (IM e key bs m t) 104 [62] GL).hint [true])) =
 some { bK:=[0+m<=bs.length,b=true],val:=AR 48,wr:=[(62,.ints .u8 (bs.take 0++List.replicate m 0++bs.drop (0+m)) t)] }:=by rcases he with rfl | rfl | rfl <;> kernel_rfl
theorem bBe (e:Nat) (he:cV e) (on:List Int->Int->List Int) (key ad bs:List Int) (N:Int) (m:Nat) (t:TypeId) (b:Bool):pY (oN on) (FF e ad bs t) 100 100 Tryz.f12 [] (opM on e ad bs t 400 (.go (KN (bR 6 (codeOf Tryz.f12)))) [.seq (bR 7 (codeOf Tryz.f12))] ((bM (IN N m b) (IM e key bs m t) 104 [62] GL).hint [false])) =
 some { bK:=[cV e,key.length=32,(M.nonce N).length=12,0+m<=bs.length,m<=m,m<=4611686018427387904,(0:Int)<=1/\(1:Int)<=4294967295,key=key,(1:Int)=1,M.nonce N=M.nonce N,0=0,m=m,m=m,bs=bs/\t=t,N=N,key.length=32,b=false],val:=.eP [.int false .i64 (m:Int),.raw .nilIface],wr:=[(62,.ints .u8 (cL key (M.nonce N) 1 0 m bs) t)] }:=by rcases he with rfl | rfl | rfl <;> kernel_rfl
theorem Q.aCs {n:Nat} {cs x:List Int} (hn:n+16<=1073741824) (hx:x.length=16):Q.aJb n cs x=cs.take n++(x++cs.drop (n+16)):=by
 have w2:IntKind.i64.wrap ((n:Int)+16)=((n+16:Nat):Int):=by rw [IntWalk.i64_in _ ⟨by omega,by omega⟩];omega
 have e1:Q.oS n=n:=by unfold Q.oS;rw [w2,if_neg (by omega)];omega
 unfold Q.aJb
 rw [e1,w2,hx]
 have e3:(16:Nat).min ((((n+16:Nat):Int)).toNat-(n:Int).toNat)=16:=by
  have:(((n+16:Nat):Int)).toNat-(n:Int).toNat=16:=by omega
  rw [this];rfl
 rw [e3,List.take_of_length_le (Nat.le_of_eq hx),List.append_assoc]
def seE (key:List Int) (N:Int) (ad bs:List Int) (n:Nat) (t:TypeId):bL:={ val:=.eP [.int false .i64 ((n+16:Nat):Int),.raw .nilIface],wr:=[(62,.ints .u8 (Q.bU key N ad bs n) t)] }
theorem aAv {e:Nat} (he:cV e) {key ad bs:List Int} {N:Int} {lb cb n:Nat} {t:TypeId} (hk:key.length=32) (ha:bI ad) (UK:bI (bs.take n)) (VH:ad.length<=500000000) (hn:n+16<=lb) (hl:lb<=cb) (hb:lb<=bs.length) (hcb:lb<=500000000) :
 aE Tryz.prog (oN M.once) 9 (AW e key N ad.length lb cb n) (FF e ad bs t) 100 100 (seE key N ad bs n t):=by
 refine gI (sV _) (sW _) Tryz.func9 (by kernel_rfl) rfl (zzL (by kernel_rfl)) rfl [] ?_
 intro w0 Mx V0 Qx cA H
 have aR:=sV M.once
 have aU:=sW M.once
 have w1:IntKind.i64.wrap ((lb:Int)-(n:Int))=(lb:Int)-n:=IntWalk.i64_in _ ⟨by omega,by omega⟩
 have w2:IntKind.i64.wrap ((n:Int)+16)=((n+16:Nat):Int):=by rw [IntWalk.i64_in _ ⟨by omega,by omega⟩];omega
 have Ho:(cL key (M.nonce N) 1 0 n bs).length=bs.length:=fP _ _ _ _ _ _
 have hx:=Q.Ei key N UK
 have bY:cL key (M.nonce N) 1 0 n bs=Q.eL key N bs n:=Q.Oy (by omega)
 have qS:(Q.cx key N (bs.take n)).length=n:=by rw [Q.iJ,List.length_take];omega
 have FP:(M.nonce N).length=12:=rfl
 have hol:=M.lP key N
 have hoB:=Q.Pp key N
 have Rn:(Q.eL key N bs n).take n=Q.cx key N (bs.take n):=by
  unfold Q.eL;rw [List.take_append_of_le_length (by omega),List.take_of_length_le (by omega)]
 have EU:=Q.kY key N ad (Q.cx key N (bs.take n))
 have Oj:Q.bU key N ad bs n=(Q.eL key N bs n).take n++(Q.tg key N ad (Q.cx key N (bs.take n))++(Q.eL key N bs n).drop (n+16)):=by
  rw [Rn];unfold Q.bU Q.eL
  have:List.drop (n+16) (Q.cx key N (bs.take n)++bs.drop n)=bs.drop (n+16):=by
   rw [List.drop_append,qS,List.drop_of_length_le (by omega),zzv,List.drop_drop]
   congr 1;omega
  rw [this]
 have d1:decide ((lb:Int)-(n:Int)<16)=false:=zzF (by omega)
 have d2:decide ((n:Int)>(lb:Int))=false:=zzF (by omega)
 have d3:decide ((n:Int)<0)=false:=zzF (by omega)
 refine G.cW aR aU mix cA [false,false,false] (bAb e he M.once key ad bs (cL key (M.nonce N) 1 0 n bs) (M.once key N) N ad.length lb cb n t) (aA ?_) ?_
 .simp only [bJ,w1]
  repeat' apply And.intro
  all_goals first | rfl | assumption | omega | trivial | exact zzr _
 rw [bY] at Ho |-
 rw [<- Rn] at hx
 generalize mK:Q.eL key N bs n=cs at *
 have hd0:List.drop 0 cs=cs:=rfl
 have hct:(cs.take n).length=n:=by rw [List.length_take];omega
 obtain ⟨f1,f2,f3⟩:=Q.ML (la:=ad.length) (n:=n) ha hx rfl hct VH (by omega)
 have htg:M.tag (M.once key N) (M.AO ad ad.length (cs.take n) n)=Q.tg key N ad (Q.cx key N (bs.take n)):=by
  unfold Q.tg;rw [qS,<- Rn]
 generalize Q.tg key N ad (Q.cx key N (bs.take n))=tg at *
 generalize lQ:M.once key N=ok at *
 refine G.cW aR aU mix cA [] (bAa e he M.once ad bs cs ok tg ad.length lb cb n t) (aA ?_) ?_
 .simp only [bJ,frO,fqO,jG,List.cons_append,zzv,hd0,htg,List.length_replicate]
  repeat' apply And.intro
  all_goals first | rfl | assumption | omega | trivial | exact zzr _
 have e2:List.take 16 (List.drop 0 tg)=tg:=by rw [List.drop_zero,List.take_of_length_le (by omega)]
 have e1:Q.oS n=n:=by unfold Q.oS;rw [w2,if_neg (by omega)];omega
 have e3:(16:Nat).min (n+16-n)=16:=by rw [Nat.add_sub_cancel_left];rfl
 refine G.oQ (cl:=[]) aR aU mix [] H (aZz e he M.once ad bs cs tg lb cb n t) (aA ?_) ?_ rfl ?_
 .simp only [bJ,w2,e2,zzt,e1,EU,e3]
  repeat' apply And.intro
  all_goals first | rfl | assumption | omega | trivial | exact zzr _
 .show SV.eP [.int false .i64 (IntKind.i64.wrap ((n:Int)+16)),.raw .nilIface]=_
  rw [w2];rfl
 .show [(62,SB.ints .u8 _ t)]=[(62,SB.ints .u8 _ t)]
  rw [e2,Q.aCs (by omega) EU,Oj]
def opE (key:List Int) (N:Int) (bs:List Int) (m:Nat) (t:TypeId):Bool->bL
 | true=>{ val:=.eP [.int false .i64 (m:Int),.raw .nilIface],wr:=[(62,.ints .u8 (Q.eL key N bs m) t)] }
 | false=>{ val:=AR 48,wr:=[(62,.ints .u8 (Q.gH bs m) t)] }
theorem aBp {e:Nat} (he:cV e) {key ad bs:List Int} {N:Int} {lb cb m:Nat} {t:TypeId} {b:Bool} (hk:key.length=32) (ha:bI ad) (UK:bI (bs.take (m+16))) (VH:ad.length<=500000000) (hn:m+16<=lb) (hl:lb<=cb) (hb:lb<=bs.length) (hcb:lb<=500000000)
 (hd:decide (Q.tg key N ad (bs.take m)=(bs.drop m).take 16)=b) :
 aE Tryz.prog (oN M.once) 12 (AW e key N ad.length lb cb ((m+16:Nat):Int)) (FF e ad bs t) 100 100 (opE key N bs m t b):=by
 refine gI (sV _) (sW _) Tryz.func12 (by kernel_rfl) rfl (zzL (by kernel_rfl)) rfl [] ?_
 intro w0 Mx V0 Qx cA H
 have aR:=sV M.once
 have aU:=sW M.once
 have w1:IntKind.i64.wrap (((m+16:Nat):Int)-16)=(m:Int):=by rw [IntWalk.i64_in _ ⟨by omega,by omega⟩];omega
 have hol:=M.lP key N
 have hoB:=Q.Pp key N
 have FP:(M.nonce N).length=12:=rfl
 have d1:decide (((m+16:Nat):Int)<16)=false:=zzF (by omega)
 have d2:decide (((m+16:Nat):Int)>(lb:Int))=false:=zzF (by omega)
 have d3:decide (((m+16:Nat):Int)<0)=false:=zzF (by omega)
 have hct:(bs.take m).length=m:=by rw [List.length_take];omega
 have XC:M.tag (M.once key N) (M.AO ad ad.length (bs.take m) m)=Q.tg key N ad (bs.take m):=by unfold Q.tg;rw [hct]
 refine G.cW aR aU mix cA [false,false,false] (bBh e he M.once key ad bs (M.once key N) N ad.length lb cb (m+16) m t) (aA ?_) ?_
 .simp only [bJ,w1,zzt,Nat.sub_zero]
  repeat' apply And.intro
  all_goals first | rfl | assumption | omega | trivial | exact zzr _
 have hbm:bI (bs.take m):=by
  have e:bs.take m=(bs.take (m+16)).take m:=by rw [List.take_take,Nat.min_eq_left (by omega)]
  rw [e];exact Q.lN _ UK
 obtain ⟨f1,f2,f3⟩:=Q.ML (la:=ad.length) (n:=m) ha hbm rfl hct VH (by omega)
 have EU:=Q.kY key N ad (bs.take m)
 have e1:Q.oT (m+16) m=m:=by unfold Q.oT;rw [if_neg (by omega)];omega
 have e2:Q.tT (m+16) m bs=(bs.drop m).take 16:=by unfold Q.tT;rw [e1]
 have hdl:((bs.drop m).take 16).length=16:=by rw [List.length_take,List.length_drop];omega
 have hdB:bI ((bs.drop m).take 16):=by
  have e:(bs.drop m).take 16=(bs.take (m+16)).drop m:=by rw [List.drop_take,Nat.add_sub_cancel_left]
  rw [e];exact Q.xP _ UK
 generalize M.once key N=ok at *
 have hd0:List.drop 0 bs=bs:=rfl
 refine G.cW aR aU mix cA [] (bBg e he M.once key ad bs ok N ad.length lb cb (m+16) m t (!b)) (aA ?_) ?_
 .simp only [bJ,frO,fqO,jG,List.cons_append,zzv,zzt,e1,e2,hd0,XC,hdl,hd,List.length_replicate]
  repeat' apply And.intro
  all_goals first | rfl | assumption | omega | trivial | exact zzr _
 cases b
 .refine G.oQ (cl:=[]) aR aU mix [true] H (bBf e he M.once key ad bs N m t _) (aA ⟨by omega,rfl,trivial⟩) rfl rfl ?_
  show [(62,SB.ints .u8 _ t)]=[(62,SB.ints .u8 _ t)]
  simp only [List.take_zero,zzv,Nat.zero_add,Q.gH]
 .refine G.oQ (cl:=[]) aR aU mix [false] H (bBe e he M.once key ad bs N m t _) (aA ?_) rfl rfl ?_
  .simp only [bJ]
   repeat' apply And.intro
   all_goals first | rfl | assumption | omega | trivial | exact zzr _
  .show [(62,SB.ints .u8 _ t)]=[(62,SB.ints .u8 _ t)]
   rw [Q.Oy (by omega)]
def gJ (lb:Nat) (n:Int):Nat->Prop
 | 1=>n<0\/n>(lb:Int)
 | 2=>¬ n<0/\¬ n>(lb:Int)/\(lb:Int)-n<16
 | _=>¬ n<0/\¬ n>(lb:Int)/\n<16
def sxL:Nat->Nat
 | 1=>40
 | 2=>42
 | _=>44
theorem YS {e:Nat} (he:cV e) (key ad bs:List Int) (N n:Int) {la lb:Nat} (_:lb<=500000000) {o:Nat} (ho:o=1\/o=2) (h:gJ lb n o):aE Tryz.prog (oN M.once) 9 (Hc e key N la lb n) (fun l=>look l (UR e ad bs)) 100 100 { val:=AR (sxL o) }:=by
 have hI:∀ hs,aI Tryz.prog (oN M.once) 9 (aF (oN M.once) Tryz.f9 true hs 400):=fun hs=>aM (sV _) (sW _) mix Tryz.func9 (by kernel_rfl) true hs 400
 rcases ho with rfl | rfl
 .by_cases h0:n<0
  .exact ((hI _).call (aZr e he key ad bs N n la lb) (aA ⟨decide_eq_true h0,trivial⟩)).words rfl (fun _=>rfl) (fun _ _ h=>h) (fun _=>rfl) rfl rfl
  .have h1:n>(lb:Int):=h.resolve_left h0
   exact ((hI _).call (aZq e he key ad bs N n la lb) (aA ⟨decide_eq_true h1,zzF h0,trivial⟩)).words rfl (fun _=>rfl) (fun _ _ h=>h) (fun _=>rfl) rfl rfl
 .obtain ⟨h0,h1,h2⟩:=h
  exact ((hI _).call (aZp e he key ad bs N n la lb) (aA ⟨decide_eq_true (by rw [IntWalk.i64_in _ ⟨by omega,by omega⟩];exact h2),zzF h1,zzF h0,trivial⟩)).words rfl (fun _=>rfl) (fun _ _ h=>h) (fun _=>rfl) rfl rfl
theorem aBm {e:Nat} (he:cV e) (key ad bs:List Int) (N n:Int) {la lb:Nat} {o:Nat} (ho:o=1\/o=3) (h:gJ lb n o):aE Tryz.prog (oN M.once) 12 (Hc e key N la lb n) (fun l=>look l (UR e ad bs)) 100 100 { val:=AR (sxL o) }:=by
 have hI:∀ hs,aI Tryz.prog (oN M.once) 12 (aF (oN M.once) Tryz.f12 true hs 400):=fun hs=>aM (sV _) (sW _) mix Tryz.func12 (by kernel_rfl) true hs 400
 rcases ho with rfl | rfl
 .by_cases h0:n<0
  .exact ((hI _).call (bBa e he key ad bs N n la lb) (aA ⟨decide_eq_true h0,trivial⟩)).words rfl (fun _=>rfl) (fun _ _ h=>h) (fun _=>rfl) rfl rfl
  .have h1:n>(lb:Int):=h.resolve_left h0
   exact ((hI _).call (bAz e he key ad bs N n la lb) (aA ⟨decide_eq_true h1,zzF h0,trivial⟩)).words rfl (fun _=>rfl) (fun _ _ h=>h) (fun _=>rfl) rfl rfl
 .obtain ⟨h0,h1,h2⟩:=h
  exact ((hI _).call (bAy e he key ad bs N n la lb) (aA ⟨decide_eq_true h2,zzF h1,zzF h0,trivial⟩)).words rfl (fun _=>rfl) (fun _ _ h=>h) (fun _=>rfl) rfl rfl
abbrev iF:=List Int->Int->List Int->List Int->Nat->List Int
abbrev iC:=Bool->List Int->Int->List Int->Nat->List Int
def aRm (x:List Int) (n:Nat) (t:TypeId):bL:={ val:=.eP [.int false .i64 ((n+16:Nat):Int),.raw .nilIface],wr:=[(62,.ints .u8 x t)] }
def aRt (x:List Int) (m:Nat) (t:TypeId):Bool->bL
 | true=>{ val:=.eP [.int false .i64 (m:Int),.raw .nilIface],wr:=[(62,.ints .u8 x t)] }
 | false=>{ val:=AR 48,wr:=[(62,.ints .u8 x t)] }
def Q.jA:iC
 | true,k,N,bs,m=>Q.eL k N bs m
 | false,_,_,bs,m=>Q.gH bs m
structure Ns (sb:iF) (k:List Int) (N:Int) (ad bs:List Int) (n:Nat):Prop where
 h:sb k N ad bs n=Q.bU k N ad bs n
structure yK (ob:iC) (p:Bool) (k:List Int) (N:Int) (bs:List Int) (m:Nat):Prop where
 h:ob p k N bs m=Q.jA p k N bs m
structure iN (p:Bool) (k:List Int) (N:Int) (ad bs:List Int) (m:Nat):Prop where
 h:decide (Q.tg k N ad (bs.take m)=(bs.drop m).take 16)=p
def aIj (sb:iF) (ev ks a:SV) (N n:Int) (L lb cb:Nat) (T:bA):Option Canon:=match zV ev,cJ ks,cZ T .u8 a,(T L).bind Dp with
 | some (e,vl),some (.u8,k),some (oa,ad),some (.u8,bs,t)=>some { eN:=AW e k N ad.length lb cb (n.toNat:Int),T0:=seL e ad bs t,vl:=(62,.lab L 0)::(63,.arg 3)::(vl++HI),e0:=aRm (sb k N ad bs n.toNat) n.toNat t,conds:=Ns sb k N ad bs n.toNat::cV e::(k.length=32)::bI ad::bI (bs.take n.toNat)::(ad.length<=500000000)::(n.toNat+16<=lb)::(lb<=cb)::(lb<=bs.length)::(lb<=500000000)::oa }
 | _,_,_,_=>none
def WJ (o:Nat) (ev ks a b:SV) (N n:Int) (T:bA):Option Canon:=match zV ev,cJ ks,cZ T .u8 a,cZ T .u8 b with
 | some (e,vl),some (.u8,k),some (oa,ad),some (ob,bs)=>some { eN:=Hc e k N ad.length bs.length n,T0:=UR e ad bs,vl:=(62,.arg 4)::(63,.arg 3)::(vl++HI),e0:={ val:=AR (sxL o) },conds:=cV e::(bs.length<=500000000)::gJ bs.length n o::(oa++ob) }
 | _,_,_,_=>none
def Xc (sb:iF) (out:Int->Nat) (vs:List SV) (T:bA):Option Canon:=match vs with
 | [ev,ks,.int _ .u64 N,a,b,.int _ .i64 n]=>match out n,b with
   | 0,.aJ L _ 0 lb cb=>aIj sb ev ks a N n L lb cb T
   | 1,_=>WJ 1 ev ks a b N n T
   | 2,_=>WJ 2 ev ks a b N n T
   | _,_=>none
 | _=>none
def WR (ob:iC) (p:Bool) (ev ks a:SV) (N n:Int) (L lb cb:Nat) (T:bA):Option Canon:=match zV ev,cJ ks,cZ T .u8 a,(T L).bind Dp with
 | some (e,vl),some (.u8,k),some (oa,ad),some (.u8,bs,t)=>some { eN:=AW e k N ad.length lb cb ((n.toNat-16+16:Nat):Int),T0:=seL e ad bs t,vl:=(62,.lab L 0)::(63,.arg 3)::(vl++HI),e0:=aRt (ob p k N bs (n.toNat-16)) (n.toNat-16) t p,conds:=yK ob p k N bs (n.toNat-16)::cV e::(k.length=32)::bI ad::bI (bs.take (n.toNat-16+16))::(ad.length<=500000000)::(n.toNat-16+16<=lb)::(lb<=cb)::(lb<=bs.length)::(lb<=500000000)::iN p k N ad bs (n.toNat-16)::oa }
 | _,_,_,_=>none
def WS (o:Nat) (ev ks a b:SV) (N n:Int) (T:bA):Option Canon:=match zV ev,cJ ks,cZ T .u8 a,cZ T .u8 b with
 | some (e,vl),some (.u8,k),some (oa,ad),some (ob,bs)=>some { eN:=Hc e k N ad.length bs.length n,T0:=UR e ad bs,vl:=(62,.arg 4)::(63,.arg 3)::(vl++HI),e0:={ val:=AR (sxL o) },conds:=cV e::gJ bs.length n o::(oa++ob) }
 | _,_,_,_=>none
def Xg (ob:iC) (out:Int->Nat) (vs:List SV) (T:bA):Option Canon:=match vs with
 | [ev,ks,.int _ .u64 N,a,b,.int _ .i64 n]=>match out n,b with
   | 0,.aJ L _ 0 lb cb=>WR ob true ev ks a N n L lb cb T
   | 1,_=>WS 1 ev ks a b N n T
   | 3,_=>WS 3 ev ks a b N n T
   | 4,.aJ L _ 0 lb cb=>WR ob false ev ks a N n L lb cb T
   | _,_=>none
 | _=>none
theorem aAw {sb:iF} {ev ks a:SV} {N n:Int} {L lb cb:Nat} {T:bA} {c:Canon} (h:aIj sb ev ks a N n L lb cb T=some c) (hc:∀ q∈c.conds,q) (Γ:Env) (hg:Γ.aT=aB):aE Tryz.prog Γ 9 c.eN (fun l=>look l c.T0) 100 100 c.e0:=by
 unfold aIj at h
 split at h
 case h_2=>cases h
 cases h
 have e:sb _ _ _ _ _=_:=Ns.h (hc _ zzC)
 rw [aRm,e]
 exact (aAv (hc _ (by simp)) (hc _ (by simp)) (hc _ (by simp)) (hc _ (by simp)) (hc _ (by simp)) (hc _ (by simp)) (hc _ (by simp)) (hc _ (by simp)) (hc _ (by simp))).words (by rw [hg];rfl) (fun _=>rfl) (fun _ _ h=>h) (fun _=>rfl) rfl rfl
theorem Yk {o:Nat} (ho:o=1\/o=2) {ev ks a b:SV} {N n:Int} {T:bA} {c:Canon} (h:WJ o ev ks a b N n T=some c) (hc:∀ q∈c.conds,q) (Γ:Env) (hg:Γ.aT=aB):aE Tryz.prog Γ 9 c.eN (fun l=>look l c.T0) 100 100 c.e0:=by
 unfold WJ at h
 split at h
 case h_2=>cases h
 cases h
 exact (YS (hc _ (by simp)) _ _ _ _ _ (hc _ (by simp)) ho (hc _ (by simp))).words (by rw [hg];rfl) (fun _=>rfl) (fun _ _ h=>h) (fun _=>rfl) rfl rfl
theorem Yt {ob:iC} {p:Bool} {ev ks a:SV} {N n:Int} {L lb cb:Nat} {T:bA} {c:Canon} (h:WR ob p ev ks a N n L lb cb T=some c) (hc:∀ q∈c.conds,q) (Γ:Env) (hg:Γ.aT=aB):aE Tryz.prog Γ 12 c.eN (fun l=>look l c.T0) 100 100 c.e0:=by
 unfold WR at h
 split at h
 case h_2=>cases h
 cases h
 have e0:ob _ _ _ _ _=_:=yK.h (hc _ zzC)
 rw [e0]
 have e:∀ (k bs:List Int) (m:Nat) (t:TypeId),aRt (Q.jA p k N bs m) m t p=opE k N bs m t p:=fun _ _ _ _=>by cases p <;> rfl
 rw [e]
 exact (aBp (b:=p) (hc _ (by simp)) (hc _ (by simp)) (hc _ (by simp)) (hc _ (by simp)) (hc _ (by simp)) (hc _ (by simp)) (hc _ (by simp)) (hc _ (by simp)) (hc _ (by simp)) (hc (iN p _ N _ _ (n.toNat-16)) (by simp)).h).words (by rw [hg];rfl) (fun _=>rfl) (fun _ _ h=>h) (fun _=>rfl) rfl rfl
theorem Yu {o:Nat} (ho:o=1\/o=3) {ev ks a b:SV} {N n:Int} {T:bA} {c:Canon} (h:WS o ev ks a b N n T=some c) (hc:∀ q∈c.conds,q) (Γ:Env) (hg:Γ.aT=aB):aE Tryz.prog Γ 12 c.eN (fun l=>look l c.T0) 100 100 c.e0:=by
 unfold WS at h
 split at h
 case h_2=>cases h
 cases h
 exact (aBm (hc _ (by simp)) _ _ _ _ _ ho (hc _ (by simp))).words (by rw [hg];rfl) (fun _=>rfl) (fun _ _ h=>h) (fun _=>rfl) rfl rfl
theorem LF (sb:iF) (out:Int->Nat) (Γ:Env) (hg:Γ.aT=aB):aI Tryz.prog Γ 9 (aL aB 100 (Xc sb out)):=by
 refine aW hg fun vs T c hd hc=>?_
 unfold Xc at hd
 split at hd
 case h_2=>cases hd
 split at hd
 .exact aAw hd hc Γ hg
 .exact Yk (.inl rfl) hd hc Γ hg
 .exact Yk (.inr rfl) hd hc Γ hg
 .cases hd
theorem LQ (ob:iC) (out:Int->Nat) (Γ:Env) (hg:Γ.aT=aB):aI Tryz.prog Γ 12 (aL aB 100 (Xg ob out)):=by
 refine aW hg fun vs T c hd hc=>?_
 unfold Xg at hd
 split at hd
 case h_2=>cases hd
 split at hd
 .exact Yt hd hc Γ hg
 .exact Yu (.inl rfl) hd hc Γ hg
 .exact Yu (.inr rfl) hd hc Γ hg
 .exact Yt hd hc Γ hg
 .cases hd
def XB (x:Int):List SV:=[.int false .i64 x,.raw (.pointer none)]
def XA:Nat->bL
 | 1=>{ val:=.agg [.int true .i64 1,.fn (.func 41) [] [.ptr 100 true 0],.fn (.func 43) [] [.ptr 100 true 0],.fn (.func 45) [] [.ptr 100 true 0],.fn (.func 47) [] [.ptr 100 true 0],.fn (.func 49) [] [.ptr 100 true 0],.fn (.func 51) [] [.ptr 100 true 0]],new:=[.own [.raw (.pointer none)] 46] }
 | _=>{ val:=.agg (rD 2) }
def mkF:Nat->Bool
 | 1=>true
 | _=>false
theorem bCe (x:Int):aF (env fD 22) Tryz.f10 true [true] 400 (XB x) (fun _=>none) 100 100=some { XA 1 with bK:=[(x.tmod (2:Int) != (0:Int))=true] }:=by kernel_rfl
theorem bCd (x:Int):aF (env fD 22) Tryz.f10 true [false] 400 (XB x) (fun _=>none) 100 100=some { XA 2 with bK:=[(x.tmod (2:Int) != (0:Int))=false] }:=by kernel_rfl
theorem aCb {e:Nat} (he:e=1\/e=2) {x:Int} (h:(x.tmod 2 != 0)=mkF e) (Γ:Env) (hg:Γ.aT=aB):aE Tryz.prog Γ 10 (XB x) (fun _=>none) 100 100 (XA e):=by
 have hI:∀ hs,aI Tryz.prog (env fD 22) 10 (aF (env fD 22) Tryz.f10 true hs 400):=fun hs=>aM (bP fD 22) (bV fD gY 22) mix Tryz.func10 (by kernel_rfl) true hs 400
 rcases he with rfl | rfl
 .exact ((hI _).call (bCe x) (aA ⟨h,trivial⟩)).words (by rw [hg];rfl) (fun _=>rfl) (fun _ _ h=>h) (fun _=>rfl) rfl rfl
 .exact ((hI _).call (bCd x) (aA ⟨h,trivial⟩)).words (by rw [hg];rfl) (fun _=>rfl) (fun _ _ h=>h) (fun _=>rfl) rfl rfl
def JB (e:Nat) (vs:List SV) (_:bA):Option Canon:=match vs with
 | [.int _ .i64 x,.raw (.pointer none)]=>some { eN:=XB x,T0:=[],vl:=[],e0:=XA e,conds:=[e=1\/e=2,(x.tmod 2 != 0)=mkF e] }
 | _=>none
theorem aNd (e:Nat) (Γ:Env) (hg:Γ.aT=aB):aI Tryz.prog Γ 10 (aL aB 100 (JB e)):=by
 refine aW hg fun vs T c hd hc=>?_
 unfold JB at hd
 split at hd
 case h_2=>cases hd
 cases hd
 exact aCb (hc _ (by simp)) (hc _ (by simp)) Γ hg
def AD (xs ys:List Int):bA:=fun l=>look l [(61,.gL .u8 xs),(62,.gL .u8 ys)]
def xT (xs:List Int):bA:=fun l=>look l [(61,.gL .u8 xs)]
noncomputable def rmM (xs:List Int) (cf:Cf) (K:List Fr) (s:St):Option oY:=gV rM (aY 100 (xT xs)) 100 Tryz.f8.ntmps [3] 400 3000 cf K s
def aIm (n:Nat):List SV:=[.eH 61 n]
def Kb (n m:Nat) (i:Int):List (Nat × SV):=[(0,.eH 61 n),(3,.aJ 100 false 0 m m),(4,.int false .i64 i)]
def Ka (zs:List Int):List (Nat × SB):=[(100,.ints .u8 zs 5)]
noncomputable def rmR:Option oY:=rmM [] (.go (codeOf Tryz.f8)) [] ((zL (aIm 0) 100).hint [])
noncomputable def WM:Code:=Df rmR
noncomputable def rmK:List Fr:=De rmR
theorem bAq (xs zs:List Int) (n m:Nat) (i:Int) :
 (cW 100 Tryz.f8.ntmps (aY 100 (xT xs)) [] (Kb n m i) (Ka zs) 101 [] [] (rmM xs (.go (codeOf Tryz.f8)) [] ((zL (aIm n) 100).hint []))) =
 some (.go (.loop WM),rmK,
  [(0:Int)<=IntKind.i64.wrap ((↑n:Int)+(70:Int)) /\
    IntKind.i64.wrap ((↑n:Int)+(70:Int))<=IntKind.i64.wrap ((↑n:Int)+(70:Int)) /\
     (1:Int)*IntKind.i64.wrap ((↑n:Int)+(70:Int))<=(281474976710656:Int)/\IntKind.i64.wrap ((↑n:Int)+(70:Int))<(9223372036854775808:Int),
  n=n,(0:Nat)=(0:Nat),(IntKind.i64.wrap ((↑n:Int)+(70:Int))).toNat=m,(IntKind.i64.wrap ((↑n:Int)+(70:Int))).toNat=m,(0:Int)=i,
  List.replicate (IntKind.i64.wrap ((↑n:Int)+(70:Int))).toNat (0:Int)=zs/\(5:Nat)=(5:TypeId)]):=by kernel_rfl
theorem bAp (xs zs zs':List Int) (n m:Nat) (i i':Int) :
 (cW 100 Tryz.f8.ntmps (aY 100 (xT xs)) [] (Kb n m i') (Ka zs') 101 [] [] (rmM xs (.go WM) [] ((bM (Kb n m i) (Ka zs) 101 [] []).hint [true,true]))) =
 some (.at .normal,[],
  [(0:Nat)+i.toNat*(1:Nat)<(zs.set ((0:Nat)+i.toNat*(1:Nat)) (IntKind.u8.wrap (IntKind.i64.wrap ((161:Int)+i.tmod (7:Int))))).length,(0:Int)<=i/\i<(↑m:Int),
  i.toNat<xs.length,(0:Int)<=i/\i<(↑n:Int),decide (i<(↑n:Int))=true,(0:Nat)+i.toNat*(1:Nat)<zs.length,(0:Int)<=i/\i<(↑m:Int),decide (i<(↑m:Int))=true,
  n=n,(0:Nat)=(0:Nat),m=m,m=m,IntKind.i64.wrap (i+(1:Int))=i',
  (zs.set ((0:Nat)+i.toNat*(1:Nat)) (IntKind.u8.wrap (IntKind.i64.wrap ((161:Int)+i.tmod (7:Int))))).set ((0:Nat)+i.toNat*(1:Nat)) (xs.getD i.toNat (0:Int))=zs' /\
   (5:TypeId)=(5:TypeId)]):=by kernel_rfl
theorem bAo (xs zs zs':List Int) (n m:Nat) (i i':Int) :
 (cW 100 Tryz.f8.ntmps (aY 100 (xT xs)) [] (Kb n m i') (Ka zs') 101 [] [] (rmM xs (.go WM) [] ((bM (Kb n m i) (Ka zs) 101 [] []).hint [true,false]))) =
 some (.at .normal,[],
  [decide (i<(↑n:Int))=false,(0:Nat)+i.toNat*(1:Nat)<zs.length,(0:Int)<=i/\i<(↑m:Int),decide (i<(↑m:Int))=true,n=n,(0:Nat)=(0:Nat),m=m,m=m,
  IntKind.i64.wrap (i+(1:Int))=i',zs.set ((0:Nat)+i.toNat*(1:Nat)) (IntKind.u8.wrap (IntKind.i64.wrap ((161:Int)+i.tmod (7:Int))))=zs'/\(5:TypeId)=(5:TypeId)]):=by kernel_rfl
theorem bAn (xs zs zs':List Int) (n m:Nat) (i i':Int) :
 (cW 100 Tryz.f8.ntmps (aY 100 (xT xs)) [] (Kb n m i') (Ka zs') 101 [] [] (rmM xs (.go WM) [] ((bM (Kb n m i) (Ka zs) 101 [] []).hint [false]))) =
 some (.at (.exit 0),[],
  [decide (i<(↑m:Int))=false,n=n,(0:Nat)=(0:Nat),m=m,m=m,i=i',zs=zs'/\(5:TypeId)=(5:TypeId)]):=by kernel_rfl
theorem bAm (xs zs:List Int) (n m:Nat) (i:Int) :
 pY rM (xT xs) 100 100 Tryz.f8 [] (rmM xs (.at (.exit 0)) rmK ((bM (Kb n m i) (Ka zs) 101 [] []).hint [])) =
 some { val:=SV.aJ 100 false 0 m m,new:=[SB.ints IntKind.u8 zs 5] }:=by kernel_rfl
noncomputable def saM (xs ys:List Int) (cf:Cf) (K:List Fr) (s:St):Option oY:=gV rM (aY 100 (AD xs ys)) 100 Tryz.f11.ntmps [4] 400 3000 cf K s
def Gn (la lb:Nat):List SV:=[.eH 61 la,.eH 62 lb]
def tL (la lb:Nat) (i:Int):List (Nat × SV):=[(0,.eH 61 la),(1,.eH 62 lb),(5,.int false .i64 i)]
noncomputable def saR:Option oY:=saM [] [] (.go (codeOf Tryz.f11)) [] ((zL (Gn 0 0) 100).hint [false])
noncomputable def aIk:Code:=Df saR
noncomputable def saK:List Fr:=De saR
theorem bAl (xs ys:List Int) (la lb:Nat) (i:Int) :
 (cW 100 Tryz.f11.ntmps (aY 100 (AD xs ys)) [] (tL la lb i) [] 100 [] [] (saM xs ys (.go (codeOf Tryz.f11)) [] ((zL (Gn la lb) 100).hint [false]))) =
 some (.go (.loop aIk),saK,
  [((↑la:Int) != (↑lb:Int))=false,la=la,lb=lb,(0:Int)=i]):=by kernel_rfl
theorem bAk (xs ys:List Int) (la lb:Nat) (i i':Int) :
 (cW 100 Tryz.f11.ntmps (aY 100 (AD xs ys)) [] (tL la lb i') [] 100 [] [] (saM xs ys (.go aIk) [] ((bM (tL la lb i) [] 100 [] []).hint [true,false]))) =
 some (.at .normal,[],
  [(xs.getD i.toNat (0:Int) != ys.getD i.toNat (0:Int))=false,i.toNat<ys.length,(0:Int)<=i/\i<(↑lb:Int),i.toNat<xs.length,(0:Int)<=i/\i<(↑la:Int),
  decide (i<(↑la:Int))=true,la=la,lb=lb,IntKind.i64.wrap (i+(1:Int))=i']):=by kernel_rfl
theorem bAj (xs ys:List Int) (la lb:Nat) (i i':Int) :
 (cW 100 Tryz.f11.ntmps (aY 100 (AD xs ys)) [] (tL la lb i') [] 100 [] [] (saM xs ys (.go aIk) [] ((bM (tL la lb i) [] 100 [] []).hint [false]))) =
 some (.at (.exit 0),[],
  [decide (i<(↑la:Int))=false,la=la,lb=lb,i=i']):=by kernel_rfl
theorem bAi (xs ys:List Int) (la lb:Nat) (i:Int) :
 pY rM (AD xs ys) 100 100 Tryz.f11 [] (saM xs ys (.at (.exit 0)) saK ((bM (tL la lb i) [] 100 [] []).hint [])) =
 some { val:=SV.bool true true }:=by kernel_rfl
noncomputable def sdM (xs ys:List Int) (cf:Cf) (K:List Fr) (s:St):Option oY:=gV rM (aY 100 (AD xs ys)) 100 Tryz.f13.ntmps [2] 400 3000 cf K s
noncomputable def sdR:Option oY:=sdM [] [] (.go (codeOf Tryz.f13)) [] ((zL (Gn 0 0) 100).hint [])
noncomputable def WK:Code:=Df sdR
noncomputable def sdK:List Fr:=De sdR
theorem bAg (xs ys:List Int) (la lb:Nat) (i:Int) :
 (cW 100 Tryz.f13.ntmps (aY 100 (AD xs ys)) [] (tL la lb i) [] 100 [] [] (sdM xs ys (.go (codeOf Tryz.f13)) [] ((zL (Gn la lb) 100).hint []))) =
 some (.go (.loop WK),sdK,
  [la=la,lb=lb,(0:Int)=i]):=by kernel_rfl
theorem bAf (xs ys:List Int) (la lb:Nat) (i i':Int) :
 (cW 100 Tryz.f13.ntmps (aY 100 (AD xs ys)) [] (tL la lb i') [] 100 [] [] (sdM xs ys (.go WK) [] ((bM (tL la lb i) [] 100 [] []).hint [true,true,false,false]))) =
 some (.at .normal,[],
  [decide (i>=(↑lb:Int))=false,(xs.getD i.toNat (0:Int) != ys.getD i.toNat (0:Int))=false,i.toNat<ys.length,(0:Int)<=i/\i<(↑lb:Int),i.toNat<xs.length,
  (0:Int)<=i/\i<(↑la:Int),decide (i<(↑lb:Int))=true,decide (i<(↑la:Int))=true,la=la,lb=lb,IntKind.i64.wrap (i+(1:Int))=i']):=by kernel_rfl
theorem bAe (xs ys:List Int) (la lb:Nat) (i i':Int) :
 (cW 100 Tryz.f13.ntmps (aY 100 (AD xs ys)) [] (tL la lb i') [] 100 [] [] (sdM xs ys (.go WK) [] ((bM (tL la lb i) [] 100 [] []).hint [true,false,true,false]))) =
 some (.at .normal,[],
  [(xs.getD i.toNat (0:Int) != IntKind.u8.wrap (IntKind.i64.wrap ((161:Int)+i.tmod (7:Int))))=false,i.toNat<xs.length,(0:Int)<=i/\i<(↑la:Int),decide (i>=(↑lb:Int))=true,
  decide (i<(↑lb:Int))=false,decide (i<(↑la:Int))=true,la=la,lb=lb,IntKind.i64.wrap (i+(1:Int))=i']):=by kernel_rfl
theorem bAd (xs ys:List Int) (la lb:Nat) (i i':Int) :
 (cW 100 Tryz.f13.ntmps (aY 100 (AD xs ys)) [] (tL la lb i') [] 100 [] [] (sdM xs ys (.go WK) [] ((bM (tL la lb i) [] 100 [] []).hint [false]))) =
 some (.at (.exit 0),[],
  [decide (i<(↑la:Int))=false,la=la,lb=lb,i=i']):=by kernel_rfl
theorem bAc (xs ys:List Int) (la lb:Nat) (i:Int) :
 pY rM (AD xs ys) 100 100 Tryz.f13 [] (sdM xs ys (.at (.exit 0)) sdK ((bM (tL la lb i) [] 100 [] []).hint [])) =
 some { val:=SV.bool true true }:=by kernel_rfl
namespace Q
def mk (i:Nat):Int:=IntKind.u8.wrap (IntKind.i64.wrap (161+(i:Int).tmod 7))
def gG (xs:List Int):List Int:=xs++(List.range 70).map fun j=>mk (xs.length+j)
theorem uX (xs:List Int):(gG xs).length=xs.length+70:=by simp [gG]
theorem LG (xs:List Int) {i:Nat} (h:i<xs.length):(gG xs).getD i 0=xs.getD i 0:=by
 simp [gG,zzG,List.getElem?_append_left h]
theorem LH (xs:List Int) {i:Nat} (h:xs.length<=i) (h2:i<xs.length+70):(gG xs).getD i 0=mk i:=by
 have e:i-xs.length<70:=by omega
 simp [gG,zzG,List.getElem?_append_right h,e]
 congr 1;omega
theorem aNe (i:Nat):0<=mk i/\mk i<256:=by
 unfold mk
 rw [IntKind.wrap_u8]
 omega
def yH (zs:List Int) (n i:Nat):List Int:=zs.take i++List.replicate (n-i) 0
theorem aKv (zs:List Int) (n:Nat):yH zs n 0=List.replicate n 0:=by simp [yH]
theorem NI {zs:List Int} {n:Nat} (h:zs.length=n):yH zs n n=zs:=by simp [yH,<- h]
theorem Qm {zs:List Int} {n i:Nat} (h:zs.length=n) (hi:i<=n):(yH zs n i).length=n:=by
 simp [yH,h];omega
theorem Pb {zs:List Int} {n i:Nat} (h:zs.length=n) (hi:i<n):(yH zs n i).set i (zs.getD i 0)=yH zs n (i+1):=by
 unfold yH
 have hl:(zs.take i).length=i:=by rw [List.length_take];omega
 rw [List.set_append_right _ _ (by omega),hl,Nat.sub_self,show n-i=(n-(i+1))+1 by omega,List.replicate_succ,List.set_cons_zero]
 have e:zs.take (i+1)=zs.take i++[zs.getD i 0]:=by
  rw [List.take_add_one,zzG,List.getElem?_eq_getElem (by omega)];rfl
 rw [e,List.append_assoc];rfl
end Q
theorem aMk (xs:List Int) (hl:xs.length<=1073741824) (Γ:Env) (hg:Γ.aT=aB):aE Tryz.prog Γ 8 [.eH 61 xs.length] (xT xs) 100 100 { val:=.aJ 100 false 0 (xs.length+70) (xs.length+70),new:=[.ints .u8 (Q.gG xs) 5] }:=by
 refine aE.words (Γ:=rM) (vs:=aIm xs.length) ?_ (by rw [hg];rfl) (fun _=>rfl) (fun _ _ h=>h) (fun _=>rfl) rfl rfl
 have aR:=vV
 have aU:=vW
 have hL:=Q.uX xs
 have w70:IntKind.i64.wrap ((xs.length:Int)+70)=((xs.length+70:Nat):Int):=by rw [IntWalk.i64_in _ (by omega)];omega
 refine gI aR aU Tryz.func8 (by kernel_rfl) rfl (zzL (by kernel_rfl)) rfl [] ?_
 intro w0 M V0 Q' hb H
 refine G.cW aR aU mix hb [] (bAq xs (Q.yH (Q.gG xs) (xs.length+70) 0) xs.length (xs.length+70) 0) (aA ?_) ?_
 .rw [w70,zzt]
  exact ⟨by omega,rfl,rfl,rfl,rfl,rfl,⟨(Q.aKv _ _).symm,rfl⟩,trivial⟩
 refine G.loop (fun r s=>∃ i:Nat,i<=xs.length+70/\r=xs.length+70-i/\s=bM (Kb xs.length (xs.length+70) i) (Ka (Q.yH (Q.gG xs) (xs.length+70) i)) 101 [] []) (r0:=xs.length+70) ⟨0,by omega,rfl,rfl⟩ ?_
 rintro r s ⟨i,hi,rfl,rfl⟩
 have UC:=Q.Qm hL hi
 have w1:IntKind.i64.wrap ((i:Int)+1)=((i+1:Nat):Int):=by rw [IntWalk.i64_in _ (by omega)];omega
 by_cases h:i<xs.length+70
 .by_cases h1:i<xs.length
  .refine G.kW aR aU mix hb [true,true] (bAp xs _ (Q.yH (Q.gG xs) (xs.length+70) (i+1)) xs.length (xs.length+70) i ((i+1:Nat):Int)) (aA ?_) (xs.length+70-(i+1)) (by omega) ⟨i+1,by omega,rfl,rfl⟩
   have e1:0+(i:Int).toNat*1=i:=by omega
   rw [e1,zzt]
   refine ⟨by rw [List.length_set,UC];exact h,by omega,h1,by omega,decide_eq_true (by omega),by rw [UC];exact h,by omega,decide_eq_true (by omega),rfl,rfl,rfl,rfl,w1,⟨?_,rfl⟩,trivial⟩
   rw [List.set_set,<- Q.LG xs h1,Q.Pb hL h]
  .refine G.kW aR aU mix hb [true,false] (bAo xs _ (Q.yH (Q.gG xs) (xs.length+70) (i+1)) xs.length (xs.length+70) i ((i+1:Nat):Int)) (aA ?_) (xs.length+70-(i+1)) (by omega) ⟨i+1,by omega,rfl,rfl⟩
   have e1:0+(i:Int).toNat*1=i:=by omega
   rw [e1]
   refine ⟨zzF (by omega),by rw [UC];exact h,by omega,decide_eq_true (by omega),rfl,rfl,rfl,rfl,w1,⟨?_,rfl⟩,trivial⟩
   rw [<- Q.Pb hL h,Q.LH xs (by omega) h]
   rfl
 .have e:i=xs.length+70:=by omega
  subst e
  refine G.cW aR aU mix hb [false] (bAn xs _ (Q.gG xs) xs.length (xs.length+70) _ ((xs.length+70:Nat):Int)) (aA ?_) (G.leave (by simp) ?_)
  .exact ⟨zzF (by omega),rfl,rfl,rfl,rfl,rfl,⟨Q.NI hL,rfl⟩,trivial⟩
  exact G.oQ (cl:=[]) aR aU mix [] H (bAm xs _ xs.length (xs.length+70) _) iQ rfl rfl rfl
theorem aAy (xs:List Int) (hl:xs.length<=1073741824) (Γ:Env) (hg:Γ.aT=aB):aE Tryz.prog Γ 11 (Gn xs.length xs.length) (AD xs xs) 100 100 { val:=.bool true true }:=by
 refine aE.words (Γ:=rM) (vs:=Gn xs.length xs.length) ?_ (by rw [hg];rfl) (fun _=>rfl) (fun _ _ h=>h) (fun _=>rfl) rfl rfl
 have aR:=vV
 have aU:=vW
 refine gI aR aU Tryz.func11 (by kernel_rfl) rfl (zzL (by kernel_rfl)) rfl [] ?_
 intro w0 M V0 Q' hb H
 refine G.cW aR aU mix hb [false] (bAl xs xs xs.length xs.length 0) (aA ⟨by simp,rfl,rfl,rfl,trivial⟩) ?_
 refine G.loop (fun r s=>∃ i:Nat,i<=xs.length/\r=xs.length-i/\s=bM (tL xs.length xs.length i) [] 100 [] []) (r0:=xs.length) ⟨0,by omega,rfl,rfl⟩ ?_
 rintro r s ⟨i,hi,rfl,rfl⟩
 by_cases h:i<xs.length
 .refine G.kW aR aU mix hb [true,false] (bAk xs xs xs.length xs.length i ((i+1:Nat):Int)) (aA ?_) (xs.length-(i+1)) (by omega) ⟨i+1,by omega,rfl,rfl⟩
  rw [zzt]
  exact ⟨by simp,h,by omega,h,by omega,decide_eq_true (by omega),rfl,rfl,by rw [IntWalk.i64_in _ (by omega)];omega,trivial⟩
 .have e:i=xs.length:=by omega
  subst e
  refine G.cW aR aU mix hb [false] (bAj xs xs xs.length xs.length _ _) (aA ⟨zzF (by omega),rfl,rfl,rfl,trivial⟩) (G.leave (by simp) ?_)
  exact G.oQ (cl:=[]) aR aU mix [] H (bAi xs xs xs.length xs.length _) iQ rfl rfl rfl
theorem aAx (ys:List Int) (hl:ys.length<=1073741824) (Γ:Env) (hg:Γ.aT=aB):aE Tryz.prog Γ 13 (Gn (Q.gG ys).length ys.length) (AD (Q.gG ys) ys) 100 100 { val:=.bool true true }:=by
 refine aE.words (Γ:=rM) (vs:=Gn (Q.gG ys).length ys.length) ?_ (by rw [hg];rfl) (fun _=>rfl) (fun _ _ h=>h) (fun _=>rfl) rfl rfl
 have aR:=vV
 have aU:=vW
 have hL:=Q.uX ys
 refine gI aR aU Tryz.func13 (by kernel_rfl) rfl (zzL (by kernel_rfl)) rfl [] ?_
 intro w0 M V0 Q' hb H
 refine G.cW aR aU mix hb [] (bAg (Q.gG ys) ys (Q.gG ys).length ys.length 0) (aA ⟨rfl,rfl,rfl,trivial⟩) ?_
 refine G.loop (fun r s=>∃ i:Nat,i<=(Q.gG ys).length/\r=(Q.gG ys).length-i/\s=bM (tL (Q.gG ys).length ys.length i) [] 100 [] []) (r0:=(Q.gG ys).length) ⟨0,by omega,rfl,rfl⟩ ?_
 rintro r s ⟨i,hi,rfl,rfl⟩
 have w1:IntKind.i64.wrap ((i:Int)+1)=((i+1:Nat):Int):=by rw [IntWalk.i64_in _ (by omega)];omega
 by_cases h:i<(Q.gG ys).length
 .by_cases h1:i<ys.length
  .refine G.kW aR aU mix hb [true,true,false,false] (bAf (Q.gG ys) ys (Q.gG ys).length ys.length i ((i+1:Nat):Int)) (aA ?_) ((Q.gG ys).length-(i+1)) (by omega) ⟨i+1,by omega,rfl,rfl⟩
   rw [zzt,Q.LG ys h1]
   exact ⟨zzF (by omega),by simp,h1,by omega,h,by omega,decide_eq_true (by omega),decide_eq_true (by omega),rfl,rfl,w1,trivial⟩
  .refine G.kW aR aU mix hb [true,false,true,false] (bAe (Q.gG ys) ys (Q.gG ys).length ys.length i ((i+1:Nat):Int)) (aA ?_) ((Q.gG ys).length-(i+1)) (by omega) ⟨i+1,by omega,rfl,rfl⟩
   rw [zzt,Q.LH ys (by omega) (by omega)]
   exact ⟨by unfold Q.mk;simp,h,by omega,decide_eq_true (by omega),zzF (by omega),decide_eq_true (by omega),rfl,rfl,w1,trivial⟩
 .have e:i=(Q.gG ys).length:=by omega
  subst e
  refine G.cW aR aU mix hb [false] (bAd (Q.gG ys) ys (Q.gG ys).length ys.length _ _) (aA ⟨zzF (by omega),rfl,rfl,rfl,trivial⟩) (G.leave (by simp) ?_)
  exact G.oQ (cl:=[]) aR aU mix [] H (bAc (Q.gG ys) ys (Q.gG ys).length ys.length _) iQ rfl rfl rfl
structure Nu (rm:List Int->List Int) (xs:List Int):Prop where
 h:rm xs=Q.gG xs
def IF (rm:List Int->List Int) (vs:List SV) (T:bA):Option Canon:=match vs with
 | [a]=>match cZ T .u8 a with
   | some (oa,xs)=>some { eN:=[.eH 61 xs.length],T0:=[(61,.gL .u8 xs)],vl:=[(61,.arg 0)],e0:={ val:=.aJ 100 false 0 (xs.length+70) (xs.length+70),new:=[.ints .u8 (rm xs) 5] },conds:=Nu rm xs::(xs.length<=1073741824)::oa }
   | none=>none
 | _=>none
theorem aMj (rm:List Int->List Int) (Γ:Env) (hg:Γ.aT=aB):aI Tryz.prog Γ 8 (aL aB 100 (IF rm)):=by
 refine aW hg fun vs T c hd hc=>?_
 unfold IF at hd
 split at hd
 case h_2=>cases hd
 split at hd
 case h_2=>cases hd
 cases hd
 have e:rm _=_:=Nu.h (hc _ zzC)
 rw [e]
 have h:=aMk _ (hc _ (zzO _ zzC)) Γ hg
 exact h
def IB (vs:List SV) (T:bA):Option Canon:=match vs with
 | [a,b]=>match cZ T .u8 a,cZ T .u8 b with
   | some (oa,xs),some (ob,ys)=>some { eN:=Gn xs.length ys.length,T0:=[(61,.gL .u8 xs),(62,.gL .u8 ys)],vl:=[(61,.arg 0),(62,.arg 1)],e0:={ val:=.bool true true },conds:=(xs=ys)::(xs.length<=1073741824)::(oa++ob) }
   | _,_=>none
 | _=>none
theorem aMh (Γ:Env) (hg:Γ.aT=aB):aI Tryz.prog Γ 11 (aL aB 100 IB):=by
 refine aW hg fun vs T c hd hc=>?_
 unfold IB at hd
 split at hd
 case h_2=>cases hd
 split at hd
 case h_2=>cases hd
 cases hd
 have e:=hc _ zzC
 subst e
 exact aAy _ (hc _ (zzO _ zzC)) Γ hg
def IA (rm:List Int->List Int) (vs:List SV) (T:bA):Option Canon:=match vs with
 | [a,b]=>match cZ T .u8 a,cZ T .u8 b with
   | some (oa,xs),some (ob,ys)=>some { eN:=Gn xs.length ys.length,T0:=[(61,.gL .u8 xs),(62,.gL .u8 ys)],vl:=[(61,.arg 0),(62,.arg 1)],e0:={ val:=.bool true true },conds:=Nu rm ys::(xs=rm ys)::(ys.length<=1073741824)::(oa++ob) }
   | _,_=>none
 | _=>none
theorem aMg (rm:List Int->List Int) (Γ:Env) (hg:Γ.aT=aB):aI Tryz.prog Γ 13 (aL aB 100 (IA rm)):=by
 refine aW hg fun vs T c hd hc=>?_
 unfold IA at hd
 split at hd
 case h_2=>cases hd
 split at hd
 case h_2=>cases hd
 cases hd
 have e:=(hc _ (zzO _ zzC)).trans (Nu.h (hc _ zzC))
 subst e
 exact aAx _ (hc _ (zzO _ (zzO _ zzC))) Γ hg
namespace Q
def kK:List Int:=(List.range 32).map fun i:Nat=>(i:Int)
def kP:List Int:=[107,101,101,108,32,97,110,100,32,114,117,100,100,101,114]
def kA:List Int:=[115,104,105,112]
def kC:List Int:=[154,106,225,36,2,137,20,237,66,68,59,87,152,237,98]
def kT:List Int:=[0,98,205,48,40,219,225,210,196,107,155,214,5,237,28,14]
def kB0:List Int:=[72,15,68,63,233,219,184,50,86,10,117,26,79,242,154,247,20,127,153,159,219,118,154,182,97,240,235,115,179,108,231,200,237,36,254,233,72,30,182,94,186,75,77,247,248,11,1,33,224,17,34,23,233,202,21,0,247,75,204,32,117,101,148,119]
def kB1:List Int:=[241,15,132,72,34,232,122,137,98,54,78,51,252,136,16,154,50,157,162,65,241,237,9,5,170,154,51,231,231,233,215,28,16,45,150,25,202,231,243,25,185,24,65,232,84,228,122,26,212,103,39,238,9,119,216,36,255,99,12,160,239,85,52,6]
theorem aWh:B.block kK [0,0,0,0,7,0,0,0,0,0,0,0] 0=kB0:=by kernel_rfl
theorem aWg:B.block kK [0,0,0,0,7,0,0,0,0,0,0,0] 1=kB1:=by kernel_rfl
theorem aRy:M.nonce 7=[0,0,0,0,7,0,0,0,0,0,0,0]:=by kernel_rfl
theorem Io {key nonce:List Int} {c:Int} {xs:List Int} (h:xs.length<=64):cL key nonce c 0 xs.length xs=(List.range xs.length).map fun i=>eZ .u8 (xs.getD i 0) ((B.block key nonce (IntKind.u32.wrap (c+0))).getD i 0):=by
 refine Ib (n:=xs.length) (fP _ _ _ _ _ _) (by simp) fun i hi=>?_
 rw [pN _ _ _ _ _ _ hi,if_pos (by omega),Nat.sub_zero]
 unfold As
 rw [show i/64=0 by omega,show i%64=i by omega]
 simp [zzG,hi]
theorem aHl:cx kK 7 kP=kC:=by
 unfold cx
 rw [Io (by decide),aRy,show IntKind.u32.wrap (1+0)=1 by decide,aWg]
 decide
theorem aCv:M.once kK 7=kB0.take 32:=by
 have h:=Io (key:=kK) (nonce:=[0,0,0,0,7,0,0,0,0,0,0,0]) (c:=0) (xs:=List.replicate 32 0) (by decide)
 unfold M.once
 rw [aRy]
 rw [show IntKind.u32.wrap (0+0)=0 by decide,aWh] at h
 exact h.trans (by decide)
theorem aNs:M.tag (kB0.take 32) (M.AO kA 4 kC 15)=kT:=by kernel_rfl
theorem aHk:tg kK 7 kA kC=kT:=by
 unfold tg
 rw [aCv]
 exact aNs
end Q
theorem aQj:aF (env fD 22) Tryz.f30 true [] 4000 [] (fun _=>none) 100 100=some { val:=.agg (Q.kK.map (SV.int true .u8)) }:=by kernel_rfl
theorem aFp (Γ:Env) (hg:Γ.aT=aB):aE Tryz.prog Γ 30 [] (fun _=>none) 100 100 { val:=.ai .u8 Q.kK }:=
 ((aM (bP fD 22) (bV fD gY 22) mix Tryz.func30 (by kernel_rfl) true [] 4000:aI Tryz.prog (env fD 22) 30 _).call aQj (by simp)).words (by rw [hg];rfl) (fun _=>rfl) (fun _ _ h=>h) (fun _=>rfl) rfl rfl
structure BP (kk:List Int):Prop where
 h:kk=Q.kK
def KM (kk:List Int) (vs:List SV) (_:bA):Option Canon:=match vs with
 | []=>some { eN:=[],T0:=[],vl:=[],e0:={ val:=.ai .u8 kk },conds:=[BP kk] }
 | _=>none
theorem aQi (kk:List Int) (Γ:Env) (hg:Γ.aT=aB):aI Tryz.prog Γ 30 (aL aB 100 (KM kk)):=by
 refine aW hg fun vs T c hd hc=>?_
 unfold KM at hd
 split at hd
 case h_2=>cases hd
 cases hd
 have e:kk=Q.kK:=BP.h (hc _ zzC)
 rw [e]
 exact aFp Γ hg
def WQ (n:Int):Nat:=match Int.toNat n with
 | 25=>2
 | _=>0
noncomputable def aJq (kk:List Int) (sb:iF) (ob:iC):Nat->Option Sum:=dO (dO (dO fD 30 (aL aB 100 (KM kk))) 9 (aL aB 100 (Xc sb WQ))) 12 (aL aB 100 (Xg ob WQ))
def knF:List Bool:=[false,false,false,false,false,false,false]
def knB:List Int:=Q.kP++List.replicate 25 0
def aRz:List UInt8:=[107,101,101,108,32,97,110,100,32,114,117,100,100,101,114]
def knO (e:Nat) (kk C D:List Int) (r:List Prop):List Prop:=
 ((!((Nw (D.take 15)).toList==(⟨aRz.toArray⟩:ByteArray).toList))=false)::(15<=D.length)::(false=false)::cV e::((D.take 40).length<=500000000)::gJ (D.take 40).length 25 2 ::
 (40<=D.length/\40<=40)::(kk=kk)::((7:Int)=7)::(0=0)::(40<=D.length/\40<=40)::((D.take 40).length=(D.take 40).length)::((25:Int)=25)::(D.take 40=D.take 40)::(40<=D.length/\40<=40)::(([]:List Int)=[])::BP kk ::
 yK (fun _ _ _ _ _=>D) true kk 7 C 15::cV e::(kk.length=32)::bI Q.kA::bI (C.take 31)::(4<=500000000)::(31<=40)::(40<=40)::(40<=C.length)::(40<=500000000)::iN true kk 7 Q.kA C 15 ::
 (4<=4/\4<=4)::(kk=kk)::((7:Int)=7)::(4<=4/\4<=4)::(4=4)::(0=0)::(40=40)::(40=40)::((31:Int)=31)::(C=C/\5=5)::(Q.kA=Q.kA)::(4<=4/\4<=4)::BP kk ::
 ((C.getD 31 0 != 0)=false)::(32<=C.length)::((C.getD 30 0 != 14)=false)::(31<=C.length)::((C.getD 0 0 != 154)=false)::(1<=C.length)::(false=false) ::
 Ns (fun _ _ _ _ _=>C) kk 7 Q.kA knB 15::cV e::(kk.length=32)::bI Q.kA::bI (knB.take 15)::(4<=500000000)::(31<=40)::(40<=40)::(40<=40)::(40<=500000000)::(4<=4/\4<=4)::(kk=kk)::((7:Int)=7)::(4<=4/\4<=4)::(4=4)::(0=0)::(40=40)::(40=40)::((15:Int)=15) ::
 (knB=knB/\5=5)::(Q.kA=Q.kA)::(4<=4/\4<=4)::BP kk::(0<=0/\15<=40)::r
theorem aNt (kk C D:List Int):aF (env (aJq kk (fun _ _ _ _ _=>C) (fun _ _ _ _ _=>D)) 22) Tryz.f14 true (knF++knF) 4000 [] (fun l=>look l US) 100 100 =
 some { val:=.bool true true,bK:=knO 1 kk C D (knO 2 kk C D []) }:=by kernel_rfl
def erP (t:List UInt8):SB:=.fS [.raw (.string ⟨t.toArray⟩)]
def erO:List (Nat × SB):=[(40,erP [112,105,110,116,108,101,58,32,97,114,103,117,109,101,110,116]),(42,erP [112,105,110,116,108,101,58,32,110,111,32,114,111,111,109]),(44,erP [112,105,110,116,108,101,58,32,116,111,111,32,115,104,111,114,116]),(48,erP [112,105,110,116,108,101,58,32,110,111,116,32,97,117,116,104,101,110,116,105,99])]
def JG (vs:List SV) (_:bA):Option Canon:=match vs with
 | []=>some { eN:=[],T0:=US,vl:=HI,e0:={ val:=.bool true true },conds:=[] }
 | _=>none
def Rk:List Int:=Q.kC++(Q.kT++List.replicate 9 0)
def TY:List Int:=Q.kP++(Q.kT++List.replicate 9 0)
theorem aWi:bI Q.kP:=by unfold bI Bt Q.kP;decide
theorem aCt:Q.bU Q.kK 7 Q.kA knB 15=Rk:=by
 have h:=Q.uW Q.kK 7 Q.kA Q.kP (List.replicate 16 0) (List.replicate 9 0) (by simp)
 rw [Q.aHl,Q.aHk] at h
 exact h
theorem aCu:Q.eL Q.kK 7 Rk 15=TY:=by
 have h:=Q.Fs Q.kK 7 Q.kC (Q.kT++List.replicate 9 0)
 have e:Q.cx Q.kK 7 Q.kC=Q.kP:=by rw [<- Q.aHl,Q.KL _ _ aWi]
 rw [e] at h
 exact h
theorem aWf:∀ q∈knO 1 Q.kK Rk TY (knO 2 Q.kK Rk TY []),q:=by
 have tx:(!((Nw (TY.take 15)).toList==(⟨aRz.toArray⟩:ByteArray).toList))=false:=by kernel_rfl
 have ls:gJ (TY.take 40).length 25 2:=by unfold gJ;exact ⟨by decide,by decide,by decide⟩
 have hO:yK (fun _ _ _ _ _=>TY) true Q.kK 7 Rk 15:=⟨aCu.symm⟩
 have hS:Ns (fun _ _ _ _ _=>Rk) Q.kK 7 Q.kA knB 15:=⟨aCt.symm⟩
 have hT:iN true Q.kK 7 Q.kA Rk 15:=⟨by
  have e1:Rk.take 15=Q.kC:=by decide
  have e2:(Rk.drop 15).take 16=Q.kT:=by decide
  rw [e1,e2,Q.aHk];exact decide_eq_true rfl⟩
 have h1:cV 1:=.inr (.inl rfl)
 have h2:cV 2:=.inr (.inr rfl)
 have b1:bI Q.kA:=by unfold bI Bt Q.kA;decide
 have b2:bI (Rk.take 31):=by unfold bI Bt Rk;decide
 have b3:bI (knB.take 15):=by unfold bI Bt knB;decide
 have c1:BP Q.kK:=⟨rfl⟩
 have g:∀ e,cV e->∀ r:List Prop,(∀ q∈r,q)->∀ q∈knO e Q.kK Rk TY r,q:=fun e he r hr=>by
  unfold knO
  repeat' (first | exact hr | refine aV ?_ ?_)
  all_goals first | assumption | rfl | decide | exact ⟨rfl,rfl⟩
 exact g 1 h1 _ (g 2 h2 _ iQ)
theorem aEw (kk:List Int) (sb:iF) (ob:iC):∀ f S,aJq kk sb ob f=some S->∀ Γ:Env,Γ.aT=aB->aI Tryz.prog Γ f S:=
 bE (bE (bE gY 30 _ (aQi kk)) 9 _ (LF sb WQ)) 12 _ (LQ ob WQ)
theorem aCw (Γ:Env) (hg:Γ.aT=aB):aE Tryz.prog Γ 14 [] (fun l=>look l US) 100 100 { val:=.bool true true }:=
 ((aM (bP _ 22) (bV _ (aEw Q.kK (fun _ _ _ _ _=>Rk) (fun _ _ _ _ _=>TY)) 22) mix Tryz.func14 (by kernel_rfl) true (knF++knF) 4000:aI Tryz.prog (env (aJq Q.kK (fun _ _ _ _ _=>Rk) (fun _ _ _ _ _=>TY)) 22) 14 _).call (aNt Q.kK Rk TY) aWf).words (by rw [hg];rfl) (fun _=>rfl) (fun _ _ h=>h) (fun _=>rfl) rfl rfl
theorem aNr (Γ:Env) (hg:Γ.aT=aB):aI Tryz.prog Γ 14 (aL aB 100 JG):=by
 refine aW hg fun vs T c hd hc=>?_
 unfold JG at hd
 split at hd
 case h_2=>cases hd
 cases hd
 exact aCw Γ hg
section
variable {w0 w:World} {M:Nat->Prop} {V:aZ} {T:bA} {lab:Nat}
theorem Zg:∀ {us:List Value} {k:IntKind},(∀ x∈us,∃ n,x=Value.int k n)->∃ ms:List Int,us=ms.map (Value.int k)
 | [],_,_=>⟨[],rfl⟩
 | u::us,k,h=>by
   obtain ⟨n,rfl⟩:=h u zzC
   obtain ⟨ms,rfl⟩:=Zg fun x hx=>h x (zzO _ hx)
   exact ⟨n::ms,rfl⟩
theorem aC.grown (h:aC w0 M V T w) (hf:V.fresh lab) (kM:∀ k,lab<=k->T k=none) {l:Nat} {k:IntKind} {xs:List Int} {el:TypeId} (hl:T l=some (.cS k xs el)) (uD:0<xs.length) {x:Value} (hx:den V (.buf l)=some x) :
 ∃ cap zs,xs.length+zs.length=cap/\cap<=maxLen/\∃ V',V.ext lab V'/\den V' (.aJ lab false 0 xs.length cap)=some x/\aC w0 M V' (eG T lab { val:=.aJ lab false 0 xs.length cap,new:=[.ints k (xs++zs) el],wr:=[(l,.gone)] }) w:=by
 obtain ⟨us,pU,u,hσ,bN,hI⟩:=h.ok l _ hl
 cases pU
 have hx':u=x:=by simpa [den,hσ] using hx
 subst hx'
 rcases bN.2 with ⟨_,h0⟩ | ⟨b,cap,cur,rfl,_,hh,hle,rC,mK,cT⟩
 .omega
 have cM:l<lab:=Nat.lt_of_not_le fun q=>by rw [kM l q] at hl;cases hl
 obtain ⟨XY,ty2,p2,vH,kU⟩:=hI b rfl
 rw [hh] at vH
 cases vH
 obtain ⟨ms,Rs⟩:=Zg kU
 have hml:ms.length=cap:=by
  have:=congrArg List.length Rs
  rw [List.length_map,Array.length_toList] at this
  omega
 have mJ:ms.take xs.length=xs:=by
  rw [Rs,Nat.mul_one,<- List.map_take] at cT
  exact (List.map_inj_right (fun a b e=>by injection e)).1 cT
 have aOc:xs++ms.drop xs.length=ms:=by
  have:=List.take_append_drop xs.length ms
  rwa [mJ] at this
 have bQ:=aZ.kG hf lab (zzr _) (by omega) (b,0)
 have e1:(V.put lab (b,0)).β lab=some (b,0):=by simp [aZ.put]
 refine ⟨cap,ms.drop xs.length,by rw [List.length_drop,hml];omega,rC,V.put lab (b,0),bQ,by simp [den,e1],?_⟩
 rw [aOc]
 have Ww:SB.aN V l (.cS k xs el)=some b:=by simp [SB.aN,hσ,Value.ownBlock]
 refine h.step (N:=fun q=>if q=lab then some (.ints k ms el) else if q=l then some .gone else none) bQ.1 (fun q C hk=>?_) (fun q C hk=>?_) (fun q C p hk hp=>?_) (fun q C q' C' p Au hk iA ho hp=>?_) (zzr _) (fun _ _ _=>rfl) rfl rfl rfl
 .simp only [eG,bL.eI,fT,List.cons_append,zzv] at hk
  by_cases k1:l=q
  .subst k1
   rw [aH] at hk
   left
   simp only [if_neg (show ¬ l=lab by omega),if_true]
   simpa using hk
  .rw [aD k1] at hk
   by_cases k3:lab=q
   .subst k3;rw [aH] at hk;left;simpa using hk
   .rw [aD k3] at hk
    right
    simp only [look] at hk
    exact ⟨by rw [if_neg (fun z=>k3 z.symm),if_neg (fun z=>k1 z.symm)],hk⟩
 .by_cases k1:q=lab
  .rw [if_pos k1] at hk
   cases hk
   subst k1
   exact ⟨_,rfl,b,e1,by rw [hh,<- Rs]⟩
  .rw [if_neg k1] at hk
   by_cases k2:q=l
   .rw [if_pos k2] at hk;cases hk;exact ⟨[],rfl,trivial⟩
   .rw [if_neg k2] at hk;cases hk
 .by_cases k1:q=lab
  .rw [if_pos k1] at hk
   cases hk
   subst k1
   simp only [SB.aN,e1,zzm,zzI] at hp
   subst hp
   right;left
   exact ⟨l,_,hl,rfl,Ww,by simp [if_neg (show ¬ l=q by omega)]⟩
  .rw [if_neg k1] at hk
   by_cases k2:q=l
   .rw [if_pos k2] at hk;cases hk;cases hp
   .rw [if_neg k2] at hk;cases hk
 .intro Rr
  by_cases k1:q=lab
  .by_cases k2:q'=lab
   .omega
   .rw [if_neg k2] at iA
    by_cases k3:q'=l
    .rw [if_pos k3] at iA;cases iA;cases Rr
    .rw [if_neg k3] at iA;cases iA
  .rw [if_neg k1] at hk
   by_cases k3:q=l
   .rw [if_pos k3] at hk;cases hk;cases ho
   .rw [if_neg k3] at hk;cases hk
end
noncomputable def MK (F0 N:Nat) (B:bA) (t cap:Nat) (zs:List Int) (s:St):Option St:=match s.g.get t with
 | some (.buf l)=>match s.T B l with
   | some (.cS k xs el)=>s.step F0 N (some t) { val:=.aJ s.nx false 0 xs.length cap,new:=[.ints k (xs++zs) el],wr:=[(l,.gone)] } s.nx (s.nx+8)
   | _=>none
 | _=>none
noncomputable def yR (F0 N:Nat) (B:bA) (t cap:Nat) (zs:List Int) (s:St):St:=match MK F0 N B t cap zs s with
 | some s'=>s'
 | none=>s
section
variable {P:Program} {Γ:Env} {w0:World} {M:Nat->Prop} {B:bA} {N F0:Nat} {V0:aZ}
theorem G.grown {t l:Nat} {k:IntKind} {xs:List Int} {el:TypeId} {cf:Cf} {K:List Fr} {s:St} {Q:Exit->Act->World->Prop} (ht:s.g.get t=some (.buf l)) (hB:s.T B l=some (.cS k xs el)) (uD:0<xs.length)
 (hG:∀ cap zs,xs.length+zs.length=cap->cap<=maxLen->G P Γ w0 M B N F0 V0 cf K (yR F0 N B t cap zs s) Q):G P Γ w0 M B N F0 V0 cf K s Q:=by
 intro V a w hi
 obtain ⟨cap,zs,h1,h2,V',hV,hx,hT⟩:=aC.grown hi.eI hi.top.fresh hi.hi hB uD (hi.tmp t _ ht)
 have hG':=hG cap zs h1 h2
 unfold yR at hG'
 split at hG'
 .rename_i s' hs
  unfold MK at hs
  rw [ht] at hs
  simp only [hB] at hs
  have:=hi.step (x:=a.eval (.tmp t)) hs (zzr _) (zzr _) hV (fun _=>hx) hT
  rw [Act.iV] at this
  exact hG' V' a w this
 .exact hG' V a w hi
end
noncomputable def aJp (rm:List Int->List Int) (sb:iF) (ob:iC) (so oo:Int->Nat):Nat->Option Sum:=dO (dO (dO (dO (dO (dO fD 9 (aL aB 100 (Xc sb so))) 12 (aL aB 100 (Xg ob oo))) 8 (aL aB 100 (IF rm))) 11 (aL aB 100 IB)) 13 (aL aB 100 (IA rm))) 14 (aL aB 100 JG)
def Cg:Int->Nat:=fun _=>0
noncomputable def Rz (rm:List Int->List Int) (sb:iF) (ob:iC) (so oo:Int->Nat):Env:=env (aJp rm sb ob so oo) 22
noncomputable def Cn (rm:List Int->List Int) (sb:iF) (ob:iC) (so oo:Int->Nat) (e:Nat):Env:=env (dO (aJp rm sb ob so oo) 10 (aL aB 100 (JB e))) 22
namespace Q
def TV (n:Nat):List Int:=(List.range 70).map fun j=>mk (n+j)
theorem Km (xs:List Int):gG xs=xs++TV xs.length:=rfl
theorem Fu (n:Nat):(TV n).length=70:=by simp [TV]
theorem Lg (n:Nat):bI (TV n):=by
 intro x hx
 simp only [TV,List.mem_map] at hx
 obtain ⟨j,_,rfl⟩:=hx
 exact aNe _
theorem aBa {xs:List Int} (h:bI xs):bI (gG xs):=iI h (Lg _)
end Q
theorem Zp (rm:List Int->List Int) (sb:iF) (ob:iC) (so oo:Int->Nat):∀ f S,aJp rm sb ob so oo f=some S->∀ Γ:Env,Γ.aT=aB->aI Tryz.prog Γ f S:=
 bE (bE (bE (bE (bE (bE gY 9 _ (LF sb so)) 12 _ (LQ ob oo)) 8 _ (aMj rm)) 11 _ aMh) 13 _ (aMg rm)) 14 _ aNr
theorem Bj (rm:List Int->List Int) (sb:iF) (ob:iC) (so oo:Int->Nat) (e:Nat):cC Tryz.prog (Cn rm sb ob so oo e):=bP _ 22
theorem Bk (rm:List Int->List Int) (sb:iF) (ob:iC) (so oo:Int->Nat) (e:Nat):cK Tryz.prog (Cn rm sb ob so oo e):=bV _ (bE (Zp rm sb ob so oo) 10 _ (aNd e)) 22
theorem Sv (rm:List Int->List Int) (sb:iF) (ob:iC) (so oo:Int->Nat) (e e':Nat):(Cn rm sb ob so oo e).aT=(Cn rm sb ob so oo e').aT:=by kernel_rfl
def Gy (x:Int):Nat:=if (x.tmod 2 != 0)=true then 1 else 2
theorem Lo (x:Int):Gy x=1\/Gy x=2:=by unfold Gy;split <;> simp
theorem Ln (x:Int):(x.tmod 2 != 0)=mkF (Gy x):=by
 unfold Gy
 split
 .rename_i h;rw [h];rfl
 .rename_i h;rw [Bool.not_eq_true] at h;rw [h];rfl
theorem Ey {e:Nat} (h:e=1\/e=2):cV e:=.inr h
def Rg (o:Nat):Int->Nat:=fun _=>o
def atL (ad p:List Int):List (Nat × SB):=[(60,.gL .u8 ad),(61,.gL .u8 p)]++(erO++US)
def jS (ad p:List Int):bA:=fun l=>look l (atL ad p)
def erE:Nat->SV
 | 0=>.raw .nilIface
 | 1=>.rG 428 (.ptr 40 true 0)
 | 2=>.rG 428 (.ptr 42 true 0)
 | 3=>.rG 428 (.ptr 44 true 0)
 | _=>.rG 428 (.ptr 48 true 0)
def nV (k:Int):Nat->SV
 | 0=>.int false .i64 k
 | _=>.int true .i64 0
namespace Q
theorem lJ {W zs:List Int} {m:Nat} (h:m<=W.length):(W++zs).take m=W.take m:=by rw [List.take_append_of_le_length h]
theorem sE {W zs:List Int} {m:Nat} (h:m<=W.length):(W++zs).drop m=W.drop m++zs:=by rw [List.drop_append_of_le_length h]
theorem sA (key:List Int) (N:Int) {W zs:List Int} {m:Nat} (h:m<=W.length):eL key N (W++zs) m=eL key N W m++zs:=by
 unfold eL;rw [lJ h,sE h,List.append_assoc]
theorem El {W zs:List Int} {m:Nat} (h:m<=W.length):gH (W++zs) m=gH W m++zs:=by
 unfold gH;rw [sE h,List.append_assoc]
theorem Pg (key:List Int) (N:Int) (ad:List Int) {W zs:List Int} {n:Nat} (h:n+16<=W.length):bU key N ad (W++zs) n=bU key N ad W n++zs:=by
 unfold bU;rw [lJ (by omega),sE h];simp only [List.append_assoc]
theorem NY (key:List Int) (N:Int) {bs:List Int} (m:Nat) (h:bI bs):bI (eL key N bs m):=iI (Ei _ _ (lN _ h)) (xP _ h)
theorem NG {bs:List Int} (m:Nat) (h:bI bs):bI (gH bs m):=iI (xA _) (xP _ h)
end Q
def Mw (key:List Int) (N:Int) (ad bs:List Int) (m:Nat):Bool:=decide (Q.tg key N ad (bs.take m)=(bs.drop m).take 16)
theorem oE {b:Bool} {key:List Int} {N:Int} {ad W zs:List Int} {m:Nat} (h:m+16<=W.length) (e:Mw key N ad W m=b):iN b key N ad (W++zs) m:=⟨by
 rw [Q.lJ (by omega),Q.sE (by omega),Q.lJ (by rw [List.length_drop];omega)]
 exact e⟩
theorem Ux (key:List Int) (N:Int) (ad:List Int) {W:List Int} {n:Nat} (h:n+16<=W.length):Mw key N ad (Q.bU key N ad W n) n=true:=by
 have hc:(Q.cx key N (W.take n)).length=n:=by rw [Q.iJ,List.length_take];omega
 have e1:(Q.bU key N ad W n).take n=Q.cx key N (W.take n):=by unfold Q.bU;rw [Q.lJ (by omega),List.take_of_length_le (by omega)]
 have e2:(Q.bU key N ad W n).drop n=Q.tg key N ad (Q.cx key N (W.take n))++W.drop (n+16):=by
  unfold Q.bU;rw [Q.sE (by omega),List.drop_of_length_le (by omega),zzv]
 have e3:(Q.tg key N ad (Q.cx key N (W.take n))++W.drop (n+16)).take 16=Q.tg key N ad (Q.cx key N (W.take n)):=by
  rw [Q.lJ (by rw [Q.kY];omega),List.take_of_length_le (by rw [Q.kY];omega)]
 unfold Mw
 rw [e1,e2,e3]
 exact decide_eq_true rfl
section
open Go.ChangeShapes Go.WideShapes
section
variable {H:Type} {enc:TypeId × Value->H} {P:Program} {w:World} {held:Bool}
theorem wf_u8 {n:Int} (h:(Lit.int .u8 n).wf=true):Bt n:=by
 have:=bounds_u8 h
 exact ⟨this.1,by omega⟩
theorem jE {fuel:Nat} {tb t5:TypeId} {cs:List Value} {x:DataW H × List MemPlace} (ht:P.underlying tb=some (.slice t5)) (h5:P.underlying t5=some (.int .u8)) (hc:P.cellsOf t5=1)
 (h:DataW.trod enc P w 0 (fun _=>true) held fuel tb cs=some x):∃ v xs,cs=[v]/\nI w .u8 v xs/\bI xs:=by
 rcases open_ints ht h5 hc h with ⟨rfl,_⟩ | ⟨a,len,cap,zs,rfl,_,hle,_,hz,_,fI,hwf⟩
 .exact ⟨_,[],rfl,.inl ⟨.nil,rfl⟩,fun _ h=>by cases h⟩
 .simp only [if_true] at hz
  refine ⟨_,zs.take len,rfl,?_,fun z hzm=>wf_u8 (hwf z (List.mem_of_mem_take hzm))⟩
  by_cases h0:cap=0
  .subst h0
   have:len=0:=by omega
   subst this
   exact .inl ⟨⟨_,rfl⟩,by simp⟩
  .have Ck:=fI 0 (by omega)
   obtain ⟨b,o,s⟩:=a
   have hs:s=none:=by
    have:=World.cell?_spot Ck
    cases s with
    | none=>rfl
    | some s=>simp [Addr.add] at this
   subst hs
   have hlen:(zs.take len).length=len:=by rw [List.length_take];omega
   refine .inr ⟨b,o,cap,by rw [hlen],?_,by omega,fun j u hj=>?_⟩
   .rw [bH] at Ck
    unfold World.cell? at Ck
    simp only at Ck
    cases hb:w.heap[b]? with
    | none=>rw [hb] at Ck;simp at Ck
    | some y=>exact (Array.getElem?_eq_some_iff.1 hb).1
   .rw [List.map_take,List.getElem?_take] at hj
    split at hj
    .rename_i hjl
     rw [List.getElem?_map] at hj
     obtain ⟨z,hzj,rfl⟩:=Option.map_eq_some_iff.1 hj
     have:=fI j (by omega)
     rw [bH] at this
     rw [this,zzG,hzj]
     rfl
    .cases hj
def intOf:Value->Int
 | .int _ z=>z
 | _=>0
theorem sN {fuel:Nat} {ta t5:TypeId} {n:Nat} {cs:List Value} {x:DataW H × List MemPlace} (ht:P.underlying ta=some (.array n t5)) (h5:P.underlying t5=some (.int .u8)) (hc:P.cellsOf t5=1) (lS:P.cellsOf ta=n)
 (h:DataW.trod enc P w 0 (fun _=>true) held fuel ta cs=some x):∃ xs,xs.length=n/\cs=xs.map (Value.int .u8)/\bI xs:=by
 obtain ⟨xs,m,_,_,hlen,hn,VL⟩:=DataW.trod_array ht h
 rw [lS] at hlen
 have key:∀ i,i<n->∃ z,cs[i]?=some (.int .u8 z)/\Bt z:=by
  intro i hi
  have h1:=VL i hi
  rw [hc,Nat.mul_one,List.getElem?_eq_getElem (by omega)] at h1
  obtain ⟨z,hz,_,hw⟩:=DataW.trod_int h5 h1
  refine ⟨z,?_,wf_u8 hw⟩
  have:=congrArg (·[0]?) hz
  simpa [List.getElem?_take,List.getElem?_drop] using this
 refine ⟨cs.map intOf,by simp [hlen],?_,fun z hz=>?_⟩
 .rw [List.map_map]
  refine List.ext_getElem? fun i=>?_
  rw [List.getElem?_map]
  by_cases hi:i<n
  .obtain ⟨z,hz,_⟩:=key i hi
   rw [hz];rfl
  .rw [List.getElem?_eq_none (by omega)];rfl
 .obtain ⟨v,hv,rfl⟩:=List.mem_map.1 hz
  obtain ⟨i,hi⟩:=List.getElem?_of_mem hv
  have Wu:i<n:=by rw [<- hlen];exact (List.getElem?_eq_some_iff.1 hi).1
  obtain ⟨z,hz,hb⟩:=key i Wu
  rw [hi] at hz
  cases hz
  exact hb
end
end
end Go.Proofs.YticicdfijghigaaGreatDoor.Sx
