/- Plain Lean for slow.Tag: the clamped key, the bytes that are held, a block's step, the last sum. -/
import Derived.ProofKit
import Derived.OpenShut
import Derived.Test.YtnodfocobmghiaaGreatDoorQK
open Go
set_option maxRecDepth 100000
namespace Go.Proofs.YtnodfocobmghiaaGreatDoor.Sx
namespace M
theorem Sk {x:Int} (h:Bt x):bS .u8 x 15=(IntKind.i64.wrap x).tmod 16:=by
 have key:∀ n:Fin 256,bS .u8 ((n.val:Nat):Int) 15=(IntKind.i64.wrap ((n.val:Nat):Int)).tmod 16:=by decide +kernel
 obtain ⟨h0,h1⟩:=h
 have:=key ⟨x.toNat,by omega⟩
 simpa [Int.toNat_of_nonneg h0] using this
theorem Pn {x:Int} (h:Bt x):bS .u8 x 252=IntKind.i64.wrap (IntKind.i64.wrap x-(IntKind.i64.wrap x).tmod 4):=by
 have key:∀ n:Fin 256,bS .u8 ((n.val:Nat):Int) 252=IntKind.i64.wrap (IntKind.i64.wrap ((n.val:Nat):Int)-(IntKind.i64.wrap ((n.val:Nat):Int)).tmod 4):=by decide +kernel
 obtain ⟨h0,h1⟩:=h
 have:=key ⟨x.toNat,by omega⟩
 simpa [Int.toNat_of_nonneg h0] using this
theorem Bo {x:Int} (h:Bt x):0<=bS .u8 x 15/\bS .u8 x 15<=15:=by
 have key:∀ n:Fin 256,0<=bS .u8 ((n.val:Nat):Int) 15/\bS .u8 ((n.val:Nat):Int) 15<=15:=by decide +kernel
 obtain ⟨h0,h1⟩:=h
 have:=key ⟨x.toNat,by omega⟩
 simpa [Int.toNat_of_nonneg h0] using this
theorem wP {x:Int} (h:Bt x):0<=bS .u8 x 252/\bS .u8 x 252<=255:=by
 have key:∀ n:Fin 256,0<=bS .u8 ((n.val:Nat):Int) 252/\bS .u8 ((n.val:Nat):Int) 252<=255:=by decide +kernel
 obtain ⟨h0,h1⟩:=h
 have:=key ⟨x.toNat,by omega⟩
 simpa [Int.toNat_of_nonneg h0] using this
theorem oK {x:Int} (h:Bt x):IntKind.i64.wrap x=x:=by
 obtain ⟨h0,h1⟩:=h
 exact IntWalk.i64_in _ ⟨by omega,by omega⟩
def sN (k:List Int):Int:=V [k.getD 0 0,k.getD 1 0,k.getD 2 0,bS .u8 (k.getD 3 0) 15,bS .u8 (k.getD 4 0) 252,k.getD 5 0,k.getD 6 0,bS .u8 (k.getD 7 0) 15]
def rE (k:List Int):Int:=V [bS .u8 (k.getD 8 0) 252,k.getD 9 0,k.getD 10 0,bS .u8 (k.getD 11 0) 15,bS .u8 (k.getD 12 0) 252,k.getD 13 0,k.getD 14 0,bS .u8 (k.getD 15 0) 15]
def kS (k:List Int):List Int:=[k.getD 0 0,k.getD 1 0,k.getD 2 0,bS .u8 (k.getD 3 0) 15,bS .u8 (k.getD 4 0) 252,k.getD 5 0,k.getD 6 0,bS .u8 (k.getD 7 0) 15,bS .u8 (k.getD 8 0) 252,k.getD 9 0,k.getD 10 0,bS .u8 (k.getD 11 0) 15,bS .u8 (k.getD 12 0) 252,k.getD 13 0,k.getD 14 0,bS .u8 (k.getD 15 0) 15,k.getD 16 0,k.getD 17 0,k.getD 18 0,k.getD 19 0,k.getD 20 0,k.getD 21 0,k.getD 22 0,k.getD 23 0,k.getD 24 0,k.getD 25 0,k.getD 26 0,k.getD 27 0,k.getD 28 0,k.getD 29 0,k.getD 30 0,k.getD 31 0]
def vL (k:List Int):Int:=V [k.getD 16 0,k.getD 17 0,k.getD 18 0,k.getD 19 0,k.getD 20 0,k.getD 21 0,k.getD 22 0,k.getD 23 0]
def wS (k:List Int):Int:=V [k.getD 24 0,k.getD 25 0,k.getD 26 0,k.getD 27 0,k.getD 28 0,k.getD 29 0,k.getD 30 0,k.getD 31 0]
theorem bW.Nk:bW []:=fun _ h=>by cases h
theorem bW.bL {x:Int} {r:List Int} (h:Bt x) (hr:bW r):bW (x::r):=fun y hy=>by
 rcases List.mem_cons.1 hy with rfl | hy
 .exact h
 .exact hr y hy
theorem OI {k:List Int} (h:bW k) (i:Nat):Bt (bS .u8 (k.getD i 0) 15):=by have:=Bo (h.get i);exact ⟨by omega,by omega⟩
theorem Wa {k:List Int} (h:bW k) (i:Nat):Bt (bS .u8 (k.getD i 0) 252):=by have:=wP (h.get i);exact ⟨by omega,by omega⟩
theorem FL {k:List Int} (h:bW k):bW (kS k):=
 bW.bL (h.get 0) (bW.bL (h.get 1) (bW.bL (h.get 2) (bW.bL (OI h 3) (bW.bL (Wa h 4) (bW.bL (h.get 5) (bW.bL (h.get 6) (bW.bL (OI h 7) (bW.bL (Wa h 8) (bW.bL (h.get 9) (bW.bL (h.get 10) (bW.bL (OI h 11) (bW.bL (Wa h 12) (bW.bL (h.get 13) (bW.bL (h.get 14) (bW.bL (OI h 15) (bW.bL (h.get 16) (bW.bL (h.get 17) (bW.bL (h.get 18) (bW.bL (h.get 19) (bW.bL (h.get 20) (bW.bL (h.get 21) (bW.bL (h.get 22) (bW.bL (h.get 23) (bW.bL (h.get 24) (bW.bL (h.get 25) (bW.bL (h.get 26) (bW.bL (h.get 27) (bW.bL (h.get 28) (bW.bL (h.get 29) (bW.bL (h.get 30) (bW.bL (h.get 31) bW.Nk)))))))))))))))))))))))))))))))
theorem Wb {l:List Int} (h:bW l) (hl:l.length=8):U (V l):=by
 obtain ⟨a,b,c,d,e,f,g,k,rfl⟩:∃ a b c d e f g k,l=[a,b,c,d,e,f,g,k]:=by
  match l,hl with
  | [a,b,c,d,e,f,g,k],_=>exact ⟨a,b,c,d,e,f,g,k,rfl⟩
 have q:∀ x∈[a,b,c,d,e,f,g,k],0<=x/\x<256:=h
 have:=q a (by simp);have:=q b (by simp);have:=q c (by simp);have:=q d (by simp);have:=q e (by simp);have:=q f (by simp);have:=q g (by simp);have:=q k (by simp)
 simp only [sE,Ag]
 unfold U
 omega
theorem aTb {k:List Int} (h:bW k):U (sN k)/\U (rE k)/\sN k+18446744073709551616*rE k<21267647932558653966460912964485513216:=by
 have u1:U (sN k):=Wb (bW.bL (h.get 0) (bW.bL (h.get 1) (bW.bL (h.get 2) (bW.bL (OI h 3) (bW.bL (Wa h 4) (bW.bL (h.get 5) (bW.bL (h.get 6) (bW.bL (OI h 7) bW.Nk)))))))) rfl
 have u2:U (rE k):=Wb (bW.bL (Wa h 8) (bW.bL (h.get 9) (bW.bL (h.get 10) (bW.bL (OI h 11) (bW.bL (Wa h 12) (bW.bL (h.get 13) (bW.bL (h.get 14) (bW.bL (OI h 15) bW.Nk)))))))) rfl
 refine ⟨u1,u2,?_⟩
 have b1:rE k<1152921504606846976:=by
  unfold rE
  simp only [sE,Ag]
  have OI:=Bo (h.get 15)
  have:=h.get 9;have:=h.get 10;have:=h.get 13;have:=h.get 14
  have:=Bo (h.get 11);have:=wP (h.get 12);have:=wP (h.get 8)
  unfold Bt at *
  omega
 unfold U at u1
 omega
theorem aTa {k:List Int} (h:bW k):U (vL k)/\U (wS k):=
 ⟨Wb (bW.bL (h.get 16) (bW.bL (h.get 17) (bW.bL (h.get 18) (bW.bL (h.get 19) (bW.bL (h.get 20) (bW.bL (h.get 21) (bW.bL (h.get 22) (bW.bL (h.get 23) bW.Nk)))))))) rfl,Wb (bW.bL (h.get 24) (bW.bL (h.get 25) (bW.bL (h.get 26) (bW.bL (h.get 27) (bW.bL (h.get 28) (bW.bL (h.get 29) (bW.bL (h.get 30) (bW.bL (h.get 31) bW.Nk)))))))) rfl⟩
theorem aLk {k:List Int} (h:bW k):V (cl k)=sN k+18446744073709551616*rE k:=by
 unfold cl
 rw [MI]
 have z:V [0]=0:=by decide
 rw [z,Int.mul_zero,Int.add_zero]
 have e:Ph (lo k)=[k.getD 0 0,k.getD 1 0,k.getD 2 0,bS .u8 (k.getD 3 0) 15,bS .u8 (k.getD 4 0) 252,k.getD 5 0,k.getD 6 0,bS .u8 (k.getD 7 0) 15,bS .u8 (k.getD 8 0) 252,k.getD 9 0,k.getD 10 0,bS .u8 (k.getD 11 0) 15,bS .u8 (k.getD 12 0) 252,k.getD 13 0,k.getD 14 0,bS .u8 (k.getD 15 0) 15]:=by
  rw [Sk (h.get 3),Sk (h.get 7),Sk (h.get 11),Sk (h.get 15),Pn (h.get 4),Pn (h.get 8),Pn (h.get 12)]
  have w0:=oK (h.get 0);have w1:=oK (h.get 1);have w2:=oK (h.get 2)
  have w5:=oK (h.get 5);have w6:=oK (h.get 6);have w9:=oK (h.get 9)
  have w10:=oK (h.get 10);have w13:=oK (h.get 13);have w14:=oK (h.get 14)
  have l:Ph (lo k)=[IntKind.i64.wrap (k.getD 0 0),IntKind.i64.wrap (k.getD 1 0),IntKind.i64.wrap (k.getD 2 0),(IntKind.i64.wrap (k.getD 3 0)).tmod 16,IntKind.i64.wrap (IntKind.i64.wrap (k.getD 4 0)-(IntKind.i64.wrap (k.getD 4 0)).tmod 4),IntKind.i64.wrap (k.getD 5 0),IntKind.i64.wrap (k.getD 6 0),(IntKind.i64.wrap (k.getD 7 0)).tmod 16,IntKind.i64.wrap (IntKind.i64.wrap (k.getD 8 0)-(IntKind.i64.wrap (k.getD 8 0)).tmod 4),IntKind.i64.wrap (k.getD 9 0),IntKind.i64.wrap (k.getD 10 0),(IntKind.i64.wrap (k.getD 11 0)).tmod 16,IntKind.i64.wrap (IntKind.i64.wrap (k.getD 12 0)-(IntKind.i64.wrap (k.getD 12 0)).tmod 4),IntKind.i64.wrap (k.getD 13 0),IntKind.i64.wrap (k.getD 14 0),(IntKind.i64.wrap (k.getD 15 0)).tmod 16]:=rfl
  rw [l,w0,w1,w2,w5,w6,w9,w10,w13,w14]
 rw [e,aLl]
 rfl
theorem aWg (k:List Int):V (hi k)=vL k+18446744073709551616*wS k:=by
 have e:hi k=[k.getD 16 0,k.getD 17 0,k.getD 18 0,k.getD 19 0,k.getD 20 0,k.getD 21 0,k.getD 22 0,k.getD 23 0,k.getD 24 0,k.getD 25 0,k.getD 26 0,k.getD 27 0,k.getD 28 0,k.getD 29 0,k.getD 30 0,k.getD 31 0]:=rfl
 rw [e,aLl]
 rfl
theorem aGq {k:List Int} (h:bW k):bW (hi k):=by
 intro x hx
 simp only [hi,List.mem_map] at hx
 obtain ⟨j,_,rfl⟩:=hx
 exact h.get _
def held (D:List Int) (t:Nat):List Int:=(List.range (t%16)).map fun j=>D.getD (16*(t/16)+j) 0
theorem Me (D:List Int) (t:Nat):(held D t).length=t%16:=by simp [held]
theorem Xd (D:List Int) {t:Nat} (h:t%16<15):held D t++[D.getD t 0]=held D (t+1):=by
 unfold held
 have e1:(t+1)%16=t%16+1:=by omega
 have e2:(t+1)/16=t/16:=by omega
 have e3:16*(t/16)+t%16=t:=by omega
 rw [e1,e2,List.range_succ,List.map_append,List.map_singleton,e3]
theorem VY (D:List Int) {t:Nat} (h:t%16=15):held D t=[D.getD (16*(t/16)) 0,D.getD (16*(t/16)+1) 0,D.getD (16*(t/16)+2) 0,D.getD (16*(t/16)+3) 0,D.getD (16*(t/16)+4) 0,D.getD (16*(t/16)+5) 0,D.getD (16*(t/16)+6) 0,D.getD (16*(t/16)+7) 0,D.getD (16*(t/16)+8) 0,D.getD (16*(t/16)+9) 0,D.getD (16*(t/16)+10) 0,D.getD (16*(t/16)+11) 0,D.getD (16*(t/16)+12) 0,D.getD (16*(t/16)+13) 0,D.getD (16*(t/16)+14) 0]:=by
 unfold held;rw [h];rfl
theorem FO (D:List Int) {t:Nat} (h:t%16=0):held D t=[]:=by unfold held;rw [h];rfl
theorem GC (D:List Int) {k:Nat} (h:16*k+16<=1073741824):aT D ((16*k:Nat):Int) 16=[D.getD (16*k) 0,D.getD (16*k+1) 0,D.getD (16*k+2) 0,D.getD (16*k+3) 0,D.getD (16*k+4) 0,D.getD (16*k+5) 0,D.getD (16*k+6) 0,D.getD (16*k+7) 0,D.getD (16*k+8) 0,D.getD (16*k+9) 0,D.getD (16*k+10) 0,D.getD (16*k+11) 0,D.getD (16*k+12) 0,D.getD (16*k+13) 0,D.getD (16*k+14) 0,D.getD (16*k+15) 0,1]:=by
 have e:aT D ((16*k:Nat):Int) 16=((List.range 16).map fun j:Nat=>D.getD (16*k+j) 0)++[1]:=by
  unfold aT
  congr 1
  refine List.map_congr_left fun j hj=>?_
  have hj:j<16:=by simpa using hj
  rw [IntWalk.i64_in _ ⟨by omega,by omega⟩]
  congr 1
 rw [e];rfl
theorem Lu (r:Int) {D:List Int} {k:Nat} (h:16*k+16<=D.length):acc r D (k+1)=((acc r D k+V (aT D ((16*k:Nat):Int) 16))*r)%p:=by
 show ((acc r D k+V (aT D (16*(k:Int)) (min 16 (D.length-16*k))))*r)%p=_
 rw [show min 16 (D.length-16*k)=16 from by omega,show (16*(k:Int))=((16*k:Nat):Int) from by omega]
theorem It {R:Int} (h0:0<=R) (h:R<aX):n3 (w0 R) (w1 R) (w2 R)=R:=by
 unfold n3 w0 w1 w2;unfold aX at h;omega
theorem ON (R:Int):U (w0 R)/\U (w1 R)/\U (w2 R):=by unfold U w0 w1 w2;omega
theorem UC:aX=p:=rfl
theorem Gi (x:Int):0<=x%aX/\x%aX<aX:=⟨Int.emod_nonneg _ (by decide),Int.emod_lt_of_pos _ (by decide)⟩
theorem step_eq {R Y S y0 y1:Int} (hS:S=(R+Y)%aX):(n3 (w0 S) (w1 S) (w2 S)*(y0+18446744073709551616*y1))%aX=((R+Y)*(y0+18446744073709551616*y1))%p:=by
 obtain ⟨h0,h1⟩:=Gi (R+Y)
 rw [<- hS] at h0 h1
 rw [It h0 h1,hS,UC,Int.mul_emod,Int.emod_emod_of_dvd _ (Int.dvd_refl p),<- Int.mul_emod]
def cat (d:Nat->List Int):List Int:=d 1++(d 2++(d 3++(d 4++d 5)))
def off (d:Nat->List Int):Nat->Nat
 | 0=>0
 | j+1=>off d j+(d (j+1)).length
theorem aAh (d:Nat->List Int):off d 5=(cat d).length:=by simp [off,cat];omega
theorem YF (d:Nat->List Int) {J i:Nat} (hJ:J<5) (hi:i<(d (J+1)).length):(cat d).getD (off d J+i) 0=(d (J+1)).getD i 0:=by
 have L:∀ (a b:List Int) (n:Nat),n<a.length->(a++b).getD n 0=a.getD n 0:=fun a b n h=>by simp [gU,List.getElem?_append_left h]
 have R:∀ (a b:List Int) (n:Nat),(a++b).getD (a.length+n) 0=b.getD n 0:=fun a b n=>by simp [gU,List.getElem?_append_right]
 unfold cat
 match J,hJ with
 | 0,_=>rw [show off d 0+i=i from by simp [off],L _ _ _ hi]
 | 1,_=>rw [show off d 1+i=(d 1).length+i from by simp [off],R,L _ _ _ hi]
 | 2,_=>rw [show off d 2+i=(d 1).length+((d 2).length+i) from by simp [off];omega,R,R,L _ _ _ hi]
 | 3,_=>rw [show off d 3+i=(d 1).length+((d 2).length+((d 3).length+i)) from by simp [off];omega,R,R,R,L _ _ _ hi]
 | 4,_=>rw [show off d 4+i=(d 1).length+((d 2).length+((d 3).length+((d 4).length+i))) from by simp [off];omega,R,R,R,R]
theorem EZ (d:Nat->List Int) {J:Nat} (hJ:J<5):off d J+(d (J+1)).length<=(cat d).length:=by
 rw [<- aAh]
 match J,hJ with
 | 0,_=>simp only [off];omega
 | 1,_=>simp only [off];omega
 | 2,_=>simp only [off];omega
 | 3,_=>simp only [off];omega
 | 4,_=>simp only [off];omega
theorem aFo (N:Int) {j:Nat} (h:j<16):nb (w0 N+18446744073709551616*w1 N) j=nb N j:=by
 have e:w0 N+18446744073709551616*w1 N=N%340282366920938463463374607431768211456:=by unfold w0 w1;omega
 rw [e]
 unfold nb
 have hk:∀ k:Nat,k<16->(256:Int)^16=256^k*(256*256^(15-k)):=fun k hk=>by
  have:(256:Int)^16=256^(k+(1+(15-k))):=by congr 1;omega
  rw [this,Int.pow_add,Int.pow_add];rfl
 have hP:(0:Int)<256^j:=Int.pow_pos (by decide)
 have e1:(340282366920938463463374607431768211456:Int)=256^j*(256*256^(15-j)):=by
  rw [<- hk j h];decide
 rw [e1]
 generalize (256:Int)^j=P at *
 generalize (256:Int)^(15-j)=Q
 have e2:N=N%(P*(256*Q))+P*(256*Q)*(N/(P*(256*Q))):=(Int.emod_add_mul_ediv N _).symm
 have e3:N/P=N%(P*(256*Q))/P+256*Q*(N/(P*(256*Q))):=by
  conv=>lhs;rw [e2,Int.mul_assoc,Int.add_mul_ediv_left _ _ (by omega)]
 rw [e3,Int.mul_assoc,Int.add_mul_emod_self_left]
theorem EL {key D:List Int} (hk:bW key) (hD:D.length%16=0) :
 tag key D=(List.range 16).map (nb (w0 (acc (V (cl key)) D (D.length/16)+(vL key+18446744073709551616*wS key))+18446744073709551616*w1 (acc (V (cl key)) D (D.length/16)+(vL key+18446744073709551616*wS key)))):=by
 unfold tag
 rw [RB (aGq hk),show (D.length+15)/16=D.length/16 from by omega,<- aWg key]
 have e:vs (fun j=>(hi key).getD j 0) 16=V (hi key):=aLj (hi key) 16 (by simp [hi])
 rw [e]
 refine List.map_congr_left fun j hj=>?_
 have hj:j<16:=by simpa using hj
 rw [aFo _ hj]
end M
theorem G.Ii {P:Program} {Γ Γ':Env} (hg:Γ'.aR=Γ.aR) {w0:World} {M:Nat->Prop} {B:bB} {N F0:Nat} {V0:bA} {cf:Cf} {K:List Fr} {s:St} {Q:Exit->Act->World->Prop} (h:G P Γ' w0 M B N F0 V0 cf K s Q):G P Γ w0 M B N F0 V0 cf K s Q:=
 fun V a w hi=>h V a w ⟨hi.tmp,hi.keys,hi.size,hi.defers,hi.fB,fun n l e=>hi.aR n l (hg ▸ e),hi.top,hi.le,hi.low,hi.ch,hi.nx,hi.hi⟩
theorem pF.Ii {Γ Γ':Env} (hg:Γ'.aR=Γ.aR) {B:bB} {F0:Nat} {V0:bA} (h:pF Γ B F0 V0):pF Γ' B F0 V0:=⟨h.top,fun n l e=>h.aR n l (hg ▸ e),h.cut,h.cells⟩
def C5 (c:Nat):Prop:=c=0\/c=6\/c=7\/c=8\/c=9
theorem rR (gW fK mJ:Nat):cA Tryz.prog (ΓT gW fK mJ):=bN _ 22
theorem rS (gW fK mJ:Nat):cH Tryz.prog (ΓT gW fK mJ):=bT _ (aHs gW fK mJ) 22
theorem nM (a b c a' b' c':Nat):(ΓT a b c).aR=(ΓT a' b' c').aR:=by kernel_rfl
theorem aEx {c:Nat} (hc:C5 c):SgA c:=by
 rcases hc with rfl | rfl | rfl | rfl | rfl
 .exact aMw
 .exact aMv
 .exact aMu
 .exact aMt
 .exact aMs
theorem aEu {c:Nat} (hc:C5 c):SgX c:=by
 rcases hc with rfl | rfl | rfl | rfl | rfl
 .exact aMq
 .exact aMp
 .exact aMo
 .exact aMn
 .exact aMm
theorem aEw {c J:Nat} (hc:C5 c) (hJ:J<4):Co c J:=by
 obtain rfl | rfl | rfl | rfl:J=0\/J=1\/J=2\/J=3:=by omega
 .rcases hc with rfl | rfl | rfl | rfl | rfl
  .exact aEp
  .exact aEl
  .exact aEh
  .exact aEd
  .exact aDz
 .rcases hc with rfl | rfl | rfl | rfl | rfl
  .exact aEo
  .exact aEk
  .exact aEg
  .exact aEc
  .exact aDy
 .rcases hc with rfl | rfl | rfl | rfl | rfl
  .exact aEn
  .exact aEj
  .exact aEf
  .exact aEb
  .exact aDx
 .rcases hc with rfl | rfl | rfl | rfl | rfl
  .exact aEm
  .exact aEi
  .exact aEe
  .exact aEa
  .exact aDw
theorem aEv {c gW fK:Nat} (hc:C5 c) (Cu:gW=7\/(gW=8/\c≠0)) (zO:C5 fK):mK c gW fK:=by
 rcases hc with rfl | rfl | rfl | rfl | rfl
 .rcases Cu with rfl | ⟨rfl,dK⟩
  .rcases zO with rfl | rfl | rfl | rfl | rfl
   .exact TG
   .exact TF
   .exact TE
   .exact TD
   .exact TB
  .exact (dK rfl).elim
 .rcases Cu with rfl | ⟨rfl,dK⟩
  .rcases zO with rfl | rfl | rfl | rfl | rfl
   .exact SZ
   .exact SY
   .exact SX
   .exact SW
   .exact SU
  .rcases zO with rfl | rfl | rfl | rfl | rfl
   .exact SS
   .exact SR
   .exact SQ
   .exact SP
   .exact SO
 .rcases Cu with rfl | ⟨rfl,dK⟩
  .rcases zO with rfl | rfl | rfl | rfl | rfl
   .exact SN
   .exact SM
   .exact SL
   .exact SK
   .exact SJ
  .rcases zO with rfl | rfl | rfl | rfl | rfl
   .exact SI
   .exact SH
   .exact SG
   .exact SF
   .exact SE
 .rcases Cu with rfl | ⟨rfl,dK⟩
  .rcases zO with rfl | rfl | rfl | rfl | rfl
   .exact SD
   .exact SC
   .exact SA
   .exact RZ
   .exact RY
  .rcases zO with rfl | rfl | rfl | rfl | rfl
   .exact RX
   .exact RW
   .exact RV
   .exact RU
   .exact RT
 .rcases Cu with rfl | ⟨rfl,dK⟩
  .rcases zO with rfl | rfl | rfl | rfl | rfl
   .exact RS
   .exact RR
   .exact RQ
   .exact RP
   .exact RO
  .rcases zO with rfl | rfl | rfl | rfl | rfl
   .exact RM
   .exact RL
   .exact RK
   .exact RJ
   .exact RI
theorem GV {c m n:Nat} {ks held pA xs:List Int} {y0 y1 R j i':Int} {i:Nat} (hh:held.length<15) (hi:i<n) (hn:n=xs.length) (hl:n<=1073741824) (h':held++[xs.getD i 0]=pA) (fQ:i'=((i+1:Nat):Int)) :
 ∀ q∈BR c m n ks held pA xs y0 y1 R j (i:Int) i',q:=by
 have e1:IntKind.i64.wrap ((i:Int)+1)=i':=by rw [fQ,IntWalk.i64_in _ ⟨by omega,by omega⟩];omega
 have e2:((((held++[xs.getD i 0]).length:Int)==16)=false):=by
  rw [List.length_append,List.length_singleton]
  exact beq_eq_false_iff_ne.2 (by omega)
 have e3:(held.length+[xs.getD i 0].length)*1<=140737488355328:=by simp only [List.length_singleton];omega
 have e4:i<xs.length:=by omega
 have e5:(0:Int)<=(i:Int)/\(i:Int)<(n:Int):=by omega
 have e6:decide ((i:Int)<(n:Int))=true:=decide_eq_true e5.2
 refine aA ?_
 unfold BR
 rw [sR]
 cases c with
 | zero=>exact ⟨e2,e3,e4,e5,e6,rfl,rfl,rfl,e1,⟨rfl,rfl⟩,rfl,rfl,rfl,rfl,h',rfl,trivial⟩
 | succ c=>exact ⟨e2,e3,e4,e5,e6,rfl,rfl,rfl,e1,⟨rfl,rfl⟩,rfl,rfl,rfl,rfl,rfl,rfl,rfl,h',rfl,rfl,trivial⟩
theorem GR {c m n:Nat} {ks held xs:List Int} {y0 y1 R j i J:Int} (hi:i=(n:Int)) (hj:j=J):∀ q∈BO c m n ks held xs y0 y1 R j i J,q:=by
 have e1:decide (i<(n:Int))=false:=mZ (by omega)
 refine aA ?_
 unfold BO
 cases c with
 | zero=>exact ⟨e1,hj,rfl,rfl,rfl,⟨rfl,rfl⟩,rfl,rfl,rfl,rfl,rfl,rfl,trivial⟩
 | succ c=>exact ⟨e1,hj,rfl,rfl,rfl,⟨rfl,rfl⟩,rfl,rfl,rfl,rfl,rfl,rfl,rfl,rfl,rfl,rfl,trivial⟩
theorem GU {c m n:Nat} {ks held xs:List Int} {y0 y1 R j:Int}:∀ q∈BQ c m n ks held xs y0 y1 R j,q:=by
 refine aA ?_
 unfold BQ
 cases c with
 | zero=>exact ⟨rfl,rfl,rfl,rfl,⟨rfl,rfl⟩,rfl,rfl,rfl,rfl,rfl,rfl,trivial⟩
 | succ c=>exact ⟨rfl,rfl,rfl,rfl,⟨rfl,rfl⟩,rfl,rfl,rfl,rfl,rfl,rfl,rfl,rfl,rfl,rfl,trivial⟩
open M in
theorem GS {c gW fK m n:Nat} {ks xs:List Int} {y0 y1 R R' b0 b1 b2 b3 b4 b5 b6 b7 b8 b9 cV cU cT cY cX x j i' S:Int} {i:Nat} (hS:0<=S/\S<aX) (hm:m=nl [y0,y1]) (zO:fK=if ln S=0\/m=0 then 0 else ln S+m+4)
 (eW:U y0) (gK:U y1) (hy:y0+18446744073709551616*y1<21267647932558653966460912964485513216) (Cu:gW=7/\(c≠0->ln R=0)\/gW=8/\ln R≠0) (hR:0<=R/\R<aX)
 (hb:bW [b0,b1,b2,b3,b4,b5,b6,b7,b8,b9,cV,cU,cT,cY,cX,x,1]) (hi:i<n) (hn:n=xs.length) (hl:n<=1073741824) (fQ:i'=((i+1:Nat):Int)) (hR':R'=Us S y0 y1) :
 ∀ q∈BP c gW fK m n ks xs y0 y1 R R' b0 b1 b2 b3 b4 b5 b6 b7 b8 b9 cV cU cT cY cX x j (i:Int) i' S,q:=by
 have e1:IntKind.i64.wrap ((i:Int)+1)=i':=by rw [fQ,IntWalk.i64_in _ ⟨by omega,by omega⟩];omega
 have e4:i<xs.length:=by omega
 have e5:(0:Int)<=(i:Int)/\(i:Int)<(n:Int):=by omega
 have e6:decide ((i:Int)<(n:Int))=true:=decide_eq_true e5.2
 have u:=ON S
 have v:=ON R
 have s1:n3 (w0 S) (w1 S) (w2 S)<aX:=by rw [It hS.1 hS.2];exact hS.2
 have r1:n3 (w0 R) (w1 R) (w2 R)<aX:=by rw [It hR.1 hR.2];exact hR.2
 have v0:U (V [b0,b1,b2,b3,b4,b5,b6,b7]):=Wb (bW.bL (hb b0 (by simp)) (bW.bL (hb b1 (by simp)) (bW.bL (hb b2 (by simp)) (bW.bL (hb b3 (by simp)) (bW.bL (hb b4 (by simp)) (bW.bL (hb b5 (by simp)) (bW.bL (hb b6 (by simp)) (bW.bL (hb b7 (by simp)) bW.Nk)))))))) rfl
 have v1:U (V [b8,b9,cV,cU,cT,cY,cX,x]):=Wb (bW.bL (hb b8 (by simp)) (bW.bL (hb b9 (by simp)) (bW.bL (hb cV (by simp)) (bW.bL (hb cU (by simp)) (bW.bL (hb cT (by simp)) (bW.bL (hb cY (by simp)) (bW.bL (hb cX (by simp)) (bW.bL (hb x (by simp)) bW.Nk)))))))) rfl
 subst hR'
 unfold BP
 rw [sR]
 intro q hq
 rcases List.mem_append.1 hq with hq | hq
 .exact aA (l:=[ln S=nl [w0 S,w1 S,w2 S],m=nl [y0,y1],fK=(if ln S=0\/m=0 then 0 else ln S+m+4),U (w0 S),U (w1 S),U (w2 S),n3 (w0 S) (w1 S) (w2 S)<aX,U y0,U y1,y0+18446744073709551616*y1<21267647932558653966460912964485513216,0=0,ln S=ln S,gW=gW,0=0,m=m,6=6,w0 S::w1 S::w2 S::List.replicate (gW-3) 0=w0 S::w1 S::w2 S::List.replicate (gW-3) 0,[y0,y1,0,0,0,0]=[y0,y1,0,0,0,0]]) ⟨rfl,hm,zO,u.1,u.2.1,u.2.2,s1,eW,gK,hy,rfl,rfl,rfl,rfl,rfl,rfl,rfl,rfl,trivial⟩ q hq
 .rcases List.mem_append.1 hq with hq | hq
  .cases c with
   | zero=>cases hq
   | succ c=>
     rcases Cu with ⟨rfl,h0⟩ | ⟨rfl,h0⟩
     .exact aA (l:=[ln R=nl [w0 R,w1 R,w2 R],ln R=0]) ⟨rfl,h0 (by omega),trivial⟩ q hq
     .exact aA (l:=[ln R=nl [w0 R,w1 R,w2 R],ln R≠0,U (w0 R),U (w1 R),U (w2 R),n3 (w0 R) (w1 R) (w2 R)<aX]) ⟨rfl,h0,v.1,v.2.1,v.2.2,r1,trivial⟩ q hq
  .rcases List.mem_append.1 hq with hq | hq
   .exact aA (l:=[U (V [b0,b1,b2,b3,b4,b5,b6,b7]),U (V [b8,b9,cV,cU,cT,cY,cX,x]),(1:Int)=1]) ⟨v0,v1,rfl,trivial⟩ q hq
   .rcases List.mem_append.1 hq with hq | hq
    .cases c with
     | zero=>cases hq
     | succ c=>exact aA (l:=[0=0,ln R=ln R,c+1=c+1,w0 R::w1 R::w2 R::List.replicate (c+1-3) 0=w0 R::w1 R::w2 R::List.replicate (c+1-3) 0]) ⟨rfl,rfl,rfl,rfl,trivial⟩ q hq
    .rcases List.mem_append.1 hq with hq | hq
     .refine aA ?_ q hq
      exact ⟨rfl,hb,rfl,rfl,rfl,e4,e5,e6,rfl,rfl,rfl,e1,⟨rfl,rfl⟩,rfl,rfl,rfl,rfl,trivial⟩
     .cases fK with
      | zero=>exact aA (l:=[([]:List Int)=[],xs=xs]) ⟨rfl,rfl,trivial⟩ q hq
      | succ fK=>
        refine aA ?_ q hq
        exact ⟨rfl,rfl,rfl,rfl,rfl,rfl,trivial⟩
namespace M
def rm (S:Int) (m:Nat):Nat:=if ln S=0\/m=0 then 0 else ln S+m+4
theorem aAa (S y0 y1:Int):C5 (rm S (nl [y0,y1])):=by
 unfold rm C5
 split
 .exact Or.inl rfl
 .rename_i h
  have h3:ln S<=3:=by unfold ln;rcases nl3 (w0 S) (w1 S) (w2 S) with h | h | h | h <;> omega
  have h2:nl [y0,y1]<=2:=by rcases NR y0 y1 with h | h | h <;> omega
  omega
theorem ln0 {S:Int} (h0:0<=S) (h1:S<aX) (h:ln S=0):S=0:=by
 have e:=It h0 h1
 unfold ln at h
 rcases nl3 (w0 S) (w1 S) (w2 S) with ⟨_,a,b,c⟩ | h' | h' | h'
 .rw [<- e,a,b,c];rfl
 all_goals omega
theorem TO {S y0 y1:Int} (h0:0<=S) (h1:S<aX) (h:rm S (nl [y0,y1])=0):Us S y0 y1=0:=by
 unfold rm at h
 split at h
 .rename_i h2
  unfold Us
  rw [It h0 h1]
  rcases h2 with h2 | h2
  .rw [ln0 h0 h1 h2];simp
  .rcases NR y0 y1 with ⟨_,rfl,rfl⟩ | h' | h'
   .simp
   all_goals omega
 .omega
end M
def MN (c:Nat) (R:Int):Prop:=C5 c/\(c=0->R=0)/\0<=R/\R<M.aX
theorem GQ {c:Nat} {R Y:Int} (h:MN c R):BN c R Y=(R+Y)%M.aX:=by
 obtain ⟨hc,h0,h1,h2⟩:=h
 cases c with
 | zero=>rw [h0 rfl];rfl
 | succ c=>show (M.n3 (M.w0 R) (M.w1 R) (M.w2 R)+Y)%M.aX=_;rw [M.It h1 h2]
noncomputable def ML (key:List Int) (d:Nat->List Int) (j:SV) (J:Nat) (i:Int) (c:Nat) (R:Int) (t:Nat):St:=zF j (d (J+1)).length i (M.kS key) (M.sN key) (M.rE key) (M.nl [M.sN key,M.rE key]) c R (M.held (M.cat d) t) (d (J+1))
def eG (key:List Int) (d:Nat->List Int) (t:Nat):Int:=M.acc (M.sN key+18446744073709551616*M.rE key) (M.cat d) (t/16)
set_option maxHeartbeats 4000000 in
theorem Ks {mJ:Nat} {key:List Int} {d:Nat->List Int} (hk:bW key) (hd:bW (M.cat d)) (hl:(M.cat d).length<=1073741824) {J:Nat} (hJ:J<5) {w0:World} {Mx:Nat->Prop} {V0:bA} (hb:pF (ΓT 7 0 mJ) (bI 100 (xI d)) 100 V0) {K:List Fr} {Q:Exit->Act->World->Prop}
 (hx:∀ c,MN c (eG key d (M.off d (J+1)))->G Tryz.prog (ΓT 7 0 mJ) w0 Mx (bI 100 (xI d)) Tryz.f38.ntmps 100 V0 (.at (.exit 5)) K (ML key d (.int true .i64 (J:Nat)) J (d (J+1)).length c (eG key d (M.off d (J+1))) (M.off d (J+1))) Q)
 {c:Nat} (hc:MN c (eG key d (M.off d J))):G Tryz.prog (ΓT 7 0 mJ) w0 Mx (bI 100 (xI d)) Tryz.f38.ntmps 100 V0 (.go (.loop oI)) K (ML key d (.int false .i64 (J:Nat)) J 0 c (eG key d (M.off d J)) (M.off d J)) Q:=by
 obtain ⟨u0,u1,u2⟩:=M.aTb hk
 have tA:=M.EZ d hJ
 have Cm:pF (ΓT 7 0 0) (bI 100 (xI d)) 100 V0:=hb.Ii (nM _ _ _ _ _ _)
 refine G.loop (fun r s=>∃ i c:Nat,i<=(d (J+1)).length/\r=(d (J+1)).length-i/\MN c (eG key d (M.off d J+i))/\s=ML key d (.int false .i64 (J:Nat)) J (i:Nat) c (eG key d (M.off d J+i)) (M.off d J+i)) (r0:=(d (J+1)).length) ⟨0,c,by omega,rfl,hc,rfl⟩ ?_
 rintro r s ⟨i,c,hi,rfl,hR,rfl⟩
 by_cases cL:i<(d (J+1)).length
 .have rD:=M.YF d hJ cL
  by_cases h15:(M.off d J+i)%16=15
  ·
   have yA:(M.off d J+i+1)/16=(M.off d J+i)/16+1:=by omega
   have sQ:16*((M.off d J+i)/16)+16<=(M.cat d).length:=by omega
   have CZ:(M.cat d).getD (16*((M.off d J+i)/16)+15) 0=(d (J+1)).getD i 0:=by rw [<- rD];congr 1;omega
   have fD:=M.GC (M.cat d) (k:=(M.off d J+i)/16) (by omega)
   have Zu:=M.YK hd ((16*((M.off d J+i)/16):Nat):Int) 16
   rw [fD,CZ] at Zu
   have aUb:=M.Lu (M.sN key+18446744073709551616*M.rE key) sQ
   obtain ⟨hC,hR0,hR1,hR2⟩:=hR
   have hR:MN c (eG key d (M.off d J+i)):=⟨hC,hR0,hR1,hR2⟩
   generalize hRR:eG key d (M.off d J+i)=R at *
   have hS:=GQ (Y:=M.V (M.aT (M.cat d) ((16*((M.off d J+i)/16):Nat):Int) 16)) hR
   generalize hSS:BN c R (M.V (M.aT (M.cat d) ((16*((M.off d J+i)/16):Nat):Int) 16))=S at *
   have hSb:0<=S/\S<M.aX:=by rw [hS];exact M.Gi _
   have hQ:eG key d (M.off d J+(i+1))=Us S (M.sN key) (M.rE key):=by
    show M.acc _ (M.cat d) ((M.off d J+(i+1))/16)=_
    rw [<- Nat.add_assoc,yA,aUb]
    unfold Us
    rw [M.step_eq hS,<- hRR]
    rfl
   obtain ⟨gW,Cu,aOw⟩:∃ gW,(gW=7\/(gW=8/\c≠0))/\(gW=7/\(c≠0->M.ln R=0)\/gW=8/\M.ln R≠0):=by
    by_cases h:M.ln R=0
    .exact ⟨7,Or.inl rfl,Or.inl ⟨rfl,fun _=>h⟩⟩
    .by_cases yT:c=0
     .exact ⟨7,Or.inl rfl,Or.inl ⟨rfl,fun dK=>(dK yT).elim⟩⟩
     .exact ⟨8,Or.inr ⟨rfl,yT⟩,Or.inr ⟨rfl,h⟩⟩
   have eA:=aEv hC Cu (M.aAa S (M.sN key) (M.rE key))
   have aOm:M.rm S (M.nl [M.sN key,M.rE key])=0->Us S (M.sN key) (M.rE key)=0:=M.TO hSb.1 hSb.2
   have aOl:=M.aAa S (M.sN key) (M.rE key)
   have aOk:M.rm S (M.nl [M.sN key,M.rE key])=if M.ln S=0\/M.nl [M.sN key,M.rE key]=0 then 0 else M.ln S+M.nl [M.sN key,M.rE key]+4:=rfl
   generalize M.rm S (M.nl [M.sN key,M.rE key])=fK at *
   refine G.op 9 0 ?_
   unfold ML
   rw [M.VY _ h15]
   have hr:=eA (M.kS key) d (M.sN key) (M.rE key) (M.nl [M.sN key,M.rE key]) R (Us S (M.sN key) (M.rE key)) ((M.cat d).getD (16*((M.off d J+i)/16)) 0) ((M.cat d).getD (16*((M.off d J+i)/16)+1) 0) ((M.cat d).getD (16*((M.off d J+i)/16)+2) 0) ((M.cat d).getD (16*((M.off d J+i)/16)+3) 0) ((M.cat d).getD (16*((M.off d J+i)/16)+4) 0) ((M.cat d).getD (16*((M.off d J+i)/16)+5) 0) ((M.cat d).getD (16*((M.off d J+i)/16)+6) 0) ((M.cat d).getD (16*((M.off d J+i)/16)+7) 0) ((M.cat d).getD (16*((M.off d J+i)/16)+8) 0) ((M.cat d).getD (16*((M.off d J+i)/16)+9) 0) ((M.cat d).getD (16*((M.off d J+i)/16)+10) 0) ((M.cat d).getD (16*((M.off d J+i)/16)+11) 0) ((M.cat d).getD (16*((M.off d J+i)/16)+12) 0) ((M.cat d).getD (16*((M.off d J+i)/16)+13) 0) ((M.cat d).getD (16*((M.off d J+i)/16)+14) 0) (d (J+1)) (J:Nat) (d (J+1)).length (i:Nat) ((i+1:Nat):Int)
   refine G.Ii (Γ':=ΓT gW fK 0) (nM _ _ _ _ _ _) ?_
   refine G.gX (rR _ _ _) (rS _ _ _) mix (hb.Ii (nM _ _ _ _ _ _)) [true] hr ?_ (G.Ii (Γ':=ΓT 7 0 mJ) (nM _ _ _ _ _ _) (G.again fun V _ _ fQ=>⟨(d (J+1)).length-(i+1),by omega,_,⟨i+1,fK,by omega,rfl,?_,?_⟩,V,fQ⟩))
   .rw [sR,<- M.aWh,<- CZ,<- fD,hSS]
    rw [<- CZ] at Zu
    exact GS hSb rfl aOk u0 u1 u2 aOw ⟨hR1,hR2⟩ Zu cL rfl (by omega) rfl rfl
   .rw [hQ]
    exact ⟨aOl,aOm,by unfold Us;exact (M.Gi _).1,by unfold Us;exact (M.Gi _).2⟩
   .rw [hQ]
    show _=zF _ _ _ _ _ _ _ _ _ (M.held (M.cat d) (M.off d J+(i+1))) _
    rw [M.FO _ (by omega)]
    rfl
  ·
   have yA:(M.off d J+(i+1))/16=(M.off d J+i)/16:=by omega
   have hQ:eG key d (M.off d J+(i+1))=eG key d (M.off d J+i):=by unfold eG;rw [yA]
   have hh:M.held (M.cat d) (M.off d J+i)++[(d (J+1)).getD i 0]=M.held (M.cat d) (M.off d J+(i+1)):=by rw [<- rD];exact M.Xd _ (by omega)
   refine G.Ii (Γ':=ΓT 7 0 0) (nM _ _ _ _ _ _) ?_
   refine G.gX (rR _ _ _) (rS _ _ _) mix Cm [true,false] (aEx hR.1 (M.kS key) d (M.sN key) (M.rE key) (M.nl [M.sN key,M.rE key]) _ _ (M.held (M.cat d) (M.off d J+(i+1))) (d (J+1)) (J:Nat) (d (J+1)).length (i:Nat) ((i+1:Nat):Int)) ?_ (G.Ii (Γ':=ΓT 7 0 mJ) (nM _ _ _ _ _ _) (G.again fun V _ _ fQ=>⟨(d (J+1)).length-(i+1),by omega,_,⟨i+1,c,by omega,rfl,?_,?_⟩,V,fQ⟩))
   .exact GV (by rw [M.Me];omega) cL rfl (by omega) hh rfl
   .rw [hQ];exact hR
   .rw [hQ];rfl
 .obtain rfl:i=(d (J+1)).length:=by omega
  refine G.Ii (Γ':=ΓT 7 0 0) (nM _ _ _ _ _ _) ?_
  refine G.gX (rR _ _ _) (rS _ _ _) mix Cm [false] (aEu hR.1 (M.kS key) d (M.sN key) (M.rE key) (M.nl [M.sN key,M.rE key]) _ _ (d (J+1)) (J:Nat) (d (J+1)).length ((d (J+1)).length:Nat) (J:Nat)) (GR rfl rfl) (G.Ii (Γ':=ΓT 7 0 mJ) (nM _ _ _ _ _ _) (G.leave (fun h=>by cases h) ?_))
  exact hx c hR
theorem aEt (d:Nat->List Int) (y0 y1:Int) (m:Nat) (R:Int) (k:Nat->Int) (xs:List Int) (n:Nat) (i:Int) :
 Jf (ΓT 7 0 0) (xI d) 100 100 Tryz.f38 (Zj 7 0 0 d (.at (.exit 5)) (vR 4) ((zF (.int true .i64 4) n i [k 0,k 1,k 2,k 3,k 4,k 5,k 6,k 7,k 8,k 9,k 10,k 11,k 12,k 13,k 14,k 15,k 16,k 17,k 18,k 19,k 20,k 21,k 22,k 23,k 24,k 25,k 26,k 27,k 28,k 29,k 30,k 31] y0 y1 m 0 R [] xs).hint [false])) =
 sh (0:Int) fun z0=>
 sh (0:Nat) fun z1=>
 some {bO:=[z1=M.nl [M.V [k 16,k 17,k 18,k 19,k 20,k 21,k 22,k 23],M.V [k 24,k 25,k 26,k 27,k 28,k 29,k 30,k 31]],z1=z1,M.nl [M.V [k 16,k 17,k 18,k 19,k 20,k 21,k 22,k 23],M.V [k 24,k 25,k 26,k 27,k 28,k 29,k 30,k 31]]=z1,(6:Nat)=(6:Nat),[M.V [k 16,k 17,k 18,k 19,k 20,k 21,k 22,k 23],M.V [k 24,k 25,k 26,k 27,k 28,k 29,k 30,k 31],z0,z0,z0,z0]=[M.V [k 16,k 17,k 18,k 19,k 20,k 21,k 22,k 23],M.V [k 24,k 25,k 26,k 27,k 28,k 29,k 30,k 31],z0,z0,z0,z0],bW [k 0,k 1,k 2,k 3,k 4,k 5,k 6,k 7,k 8,k 9,k 10,k 11,k 12,k 13,k 14,k 15,k 16,k 17,k 18,k 19,k 20,k 21,k 22,k 23,k 24,k 25,k 26,k 27,k 28,k 29,k 30,k 31],[k 0,k 1,k 2,k 3,k 4,k 5,k 6,k 7,k 8,k 9,k 10,k 11,k 12,k 13,k 14,k 15,k 16,k 17,k 18,k 19,k 20,k 21,k 22,k 23,k 24,k 25,k 26,k 27,k 28,k 29,k 30,k 31]=[k 0,k 1,k 2,k 3,k 4,k 5,k 6,k 7,k 8,k 9,k 10,k 11,k 12,k 13,k 14,k 15,k 16,k 17,k 18,k 19,k 20,k 21,k 22,k 23,k 24,k 25,k 26,k 27,k 28,k 29,k 30,k 31],false=false],val:=SV.agg [SV.int false IntKind.u8 z0,SV.int false IntKind.u8 z0,SV.int false IntKind.u8 z0,SV.int false IntKind.u8 z0,SV.int false IntKind.u8 z0,SV.int false IntKind.u8 z0,SV.int false IntKind.u8 z0,SV.int false IntKind.u8 z0,SV.int false IntKind.u8 z0,SV.int false IntKind.u8 z0,SV.int false IntKind.u8 z0,SV.int false IntKind.u8 z0,SV.int false IntKind.u8 z0,SV.int false IntKind.u8 z0,SV.int false IntKind.u8 z0,SV.int false IntKind.u8 z0]}:=by kernel_rfl
theorem aEs (d:Nat->List Int) (y0 y1:Int) (m:Nat) (R:Int) (k:Nat->Int) (xs:List Int) (n:Nat) (i:Int) :
 Jf (ΓT 7 0 1) (xI d) 100 100 Tryz.f38 (Zj 7 0 1 d (.at (.exit 5)) (vR 4) ((zF (.int true .i64 4) n i [k 0,k 1,k 2,k 3,k 4,k 5,k 6,k 7,k 8,k 9,k 10,k 11,k 12,k 13,k 14,k 15,k 16,k 17,k 18,k 19,k 20,k 21,k 22,k 23,k 24,k 25,k 26,k 27,k 28,k 29,k 30,k 31] y0 y1 m 0 R [] xs).hint [false])) =
 sh (M.V [k 16,k 17,k 18,k 19,k 20,k 21,k 22,k 23]) fun z0=>
 sh (0:Int) fun z1=>
 sh (1:Nat) fun z2=>
 sh (0:Nat) fun z3=>
 some {bO:=[M.U z0,z3=z3,z2=z2,z2=z2,[M.V [k 16,k 17,k 18,k 19,k 20,k 21,k 22,k 23]]=[M.V [k 16,k 17,k 18,k 19,k 20,k 21,k 22,k 23]],z2=M.nl [M.V [k 16,k 17,k 18,k 19,k 20,k 21,k 22,k 23],M.V [k 24,k 25,k 26,k 27,k 28,k 29,k 30,k 31]],z3=z3,M.nl [M.V [k 16,k 17,k 18,k 19,k 20,k 21,k 22,k 23],M.V [k 24,k 25,k 26,k 27,k 28,k 29,k 30,k 31]]=z2,(6:Nat)=(6:Nat),[M.V [k 16,k 17,k 18,k 19,k 20,k 21,k 22,k 23],M.V [k 24,k 25,k 26,k 27,k 28,k 29,k 30,k 31],z1,z1,z1,z1]=[M.V [k 16,k 17,k 18,k 19,k 20,k 21,k 22,k 23],M.V [k 24,k 25,k 26,k 27,k 28,k 29,k 30,k 31],z1,z1,z1,z1],bW [k 0,k 1,k 2,k 3,k 4,k 5,k 6,k 7,k 8,k 9,k 10,k 11,k 12,k 13,k 14,k 15,k 16,k 17,k 18,k 19,k 20,k 21,k 22,k 23,k 24,k 25,k 26,k 27,k 28,k 29,k 30,k 31],[k 0,k 1,k 2,k 3,k 4,k 5,k 6,k 7,k 8,k 9,k 10,k 11,k 12,k 13,k 14,k 15,k 16,k 17,k 18,k 19,k 20,k 21,k 22,k 23,k 24,k 25,k 26,k 27,k 28,k 29,k 30,k 31]=[k 0,k 1,k 2,k 3,k 4,k 5,k 6,k 7,k 8,k 9,k 10,k 11,k 12,k 13,k 14,k 15,k 16,k 17,k 18,k 19,k 20,k 21,k 22,k 23,k 24,k 25,k 26,k 27,k 28,k 29,k 30,k 31],false=false],val:=SV.agg [SV.int false IntKind.u8 (M.nb z0 z3),SV.int false IntKind.u8 (M.nb z0 z2),SV.int false IntKind.u8 (M.nb z0 (2:Nat)),SV.int false IntKind.u8 (M.nb z0 (3:Nat)),SV.int false IntKind.u8 (M.nb z0 (4:Nat)),SV.int false IntKind.u8 (M.nb z0 (5:Nat)),SV.int false IntKind.u8 (M.nb z0 (6:Nat)),SV.int false IntKind.u8 (M.nb z0 (7:Nat)),SV.int false IntKind.u8 (M.nb z0 (8:Nat)),SV.int false IntKind.u8 (M.nb z0 (9:Nat)),SV.int false IntKind.u8 (M.nb z0 (10:Nat)),SV.int false IntKind.u8 (M.nb z0 (11:Nat)),SV.int false IntKind.u8 (M.nb z0 (12:Nat)),SV.int false IntKind.u8 (M.nb z0 (13:Nat)),SV.int false IntKind.u8 (M.nb z0 (14:Nat)),SV.int false IntKind.u8 (M.nb z0 (15:Nat))]}:=by kernel_rfl
theorem aEr (d:Nat->List Int) (y0 y1:Int) (m:Nat) (R:Int) (k:Nat->Int) (xs:List Int) (n:Nat) (i:Int) :
 Jf (ΓT 7 0 2) (xI d) 100 100 Tryz.f38 (Zj 7 0 2 d (.at (.exit 5)) (vR 4) ((zF (.int true .i64 4) n i [k 0,k 1,k 2,k 3,k 4,k 5,k 6,k 7,k 8,k 9,k 10,k 11,k 12,k 13,k 14,k 15,k 16,k 17,k 18,k 19,k 20,k 21,k 22,k 23,k 24,k 25,k 26,k 27,k 28,k 29,k 30,k 31] y0 y1 m 0 R [] xs).hint [false])) =
 sh (M.V [k 16,k 17,k 18,k 19,k 20,k 21,k 22,k 23]+(18446744073709551616:Int)*M.V [k 24,k 25,k 26,k 27,k 28,k 29,k 30,k 31]) fun z0=>
 sh (0:Int) fun z1=>
 sh (6:Nat) fun z2=>
 sh (2:Nat) fun z3=>
 sh (0:Nat) fun z4=>
 some {bO:=[z2=z2\/z2=(7:Nat)\/z2=(8:Nat)\/z2=(9:Nat),M.U (M.V [k 16,k 17,k 18,k 19,k 20,k 21,k 22,k 23]),M.U (M.V [k 24,k 25,k 26,k 27,k 28,k 29,k 30,k 31]),z1<=z1/\z1<(8:Int),z3=M.nl [M.V [k 16,k 17,k 18,k 19,k 20,k 21,k 22,k 23],M.V [k 24,k 25,k 26,k 27,k 28,k 29,k 30,k 31],z1],z4=z4,z3=z3,z2=z2,[M.V [k 16,k 17,k 18,k 19,k 20,k 21,k 22,k 23],M.V [k 24,k 25,k 26,k 27,k 28,k 29,k 30,k 31],z1,z1,z1,z1]=[M.V [k 16,k 17,k 18,k 19,k 20,k 21,k 22,k 23],M.V [k 24,k 25,k 26,k 27,k 28,k 29,k 30,k 31],z1,z1,z1,z1],z3=M.nl [M.V [k 16,k 17,k 18,k 19,k 20,k 21,k 22,k 23],M.V [k 24,k 25,k 26,k 27,k 28,k 29,k 30,k 31]],z4=z4,M.nl [M.V [k 16,k 17,k 18,k 19,k 20,k 21,k 22,k 23],M.V [k 24,k 25,k 26,k 27,k 28,k 29,k 30,k 31]]=z3,z2=z2,[M.V [k 16,k 17,k 18,k 19,k 20,k 21,k 22,k 23],M.V [k 24,k 25,k 26,k 27,k 28,k 29,k 30,k 31],z1,z1,z1,z1]=[M.V [k 16,k 17,k 18,k 19,k 20,k 21,k 22,k 23],M.V [k 24,k 25,k 26,k 27,k 28,k 29,k 30,k 31],z1,z1,z1,z1],bW [k 0,k 1,k 2,k 3,k 4,k 5,k 6,k 7,k 8,k 9,k 10,k 11,k 12,k 13,k 14,k 15,k 16,k 17,k 18,k 19,k 20,k 21,k 22,k 23,k 24,k 25,k 26,k 27,k 28,k 29,k 30,k 31],[k 0,k 1,k 2,k 3,k 4,k 5,k 6,k 7,k 8,k 9,k 10,k 11,k 12,k 13,k 14,k 15,k 16,k 17,k 18,k 19,k 20,k 21,k 22,k 23,k 24,k 25,k 26,k 27,k 28,k 29,k 30,k 31]=[k 0,k 1,k 2,k 3,k 4,k 5,k 6,k 7,k 8,k 9,k 10,k 11,k 12,k 13,k 14,k 15,k 16,k 17,k 18,k 19,k 20,k 21,k 22,k 23,k 24,k 25,k 26,k 27,k 28,k 29,k 30,k 31],false=false],val:=SV.agg [SV.int false IntKind.u8 (M.nb z0 z4),SV.int false IntKind.u8 (M.nb z0 (1:Nat)),SV.int false IntKind.u8 (M.nb z0 z3),SV.int false IntKind.u8 (M.nb z0 (3:Nat)),SV.int false IntKind.u8 (M.nb z0 (4:Nat)),SV.int false IntKind.u8 (M.nb z0 (5:Nat)),SV.int false IntKind.u8 (M.nb z0 z2),SV.int false IntKind.u8 (M.nb z0 (7:Nat)),SV.int false IntKind.u8 (M.nb z0 (8:Nat)),SV.int false IntKind.u8 (M.nb z0 (9:Nat)),SV.int false IntKind.u8 (M.nb z0 (10:Nat)),SV.int false IntKind.u8 (M.nb z0 (11:Nat)),SV.int false IntKind.u8 (M.nb z0 (12:Nat)),SV.int false IntKind.u8 (M.nb z0 (13:Nat)),SV.int false IntKind.u8 (M.nb z0 (14:Nat)),SV.int false IntKind.u8 (M.nb z0 (15:Nat))]}:=by kernel_rfl
theorem aQw {c:Nat} (hc:c=6\/c=7\/c=8\/c=9) (mJ:Nat) (d:Nat->List Int) (y0 y1:Int) (m:Nat) (R:Int) (k:Nat->Int) (xs:List Int) (n:Nat) (i:Int) :
 Jf (ΓT 7 0 mJ) (xI d) 100 100 Tryz.f38 (Zj 7 0 mJ d (.at (.exit 5)) (vR 4) ((zF (.int true .i64 4) n i [k 0,k 1,k 2,k 3,k 4,k 5,k 6,k 7,k 8,k 9,k 10,k 11,k 12,k 13,k 14,k 15,k 16,k 17,k 18,k 19,k 20,k 21,k 22,k 23,k 24,k 25,k 26,k 27,k 28,k 29,k 30,k 31] y0 y1 m c R [] xs).hint [false])) =
 sh (18446744073709551616:Int) fun z4=>
 sh (M.n3 (M.w0 R) (M.w1 R) (M.w2 R)+(M.V [k 16,k 17,k 18,k 19,k 20,k 21,k 22,k 23]+z4*M.V [k 24,k 25,k 26,k 27,k 28,k 29,k 30,k 31])) fun z0=>
 sh (M.w0 z0+z4*M.w1 z0) fun z1=>
 sh (0:Int) fun z2=>
 sh (0:Nat) fun z3=>
 some {bO:=[c=6\/c=7\/c=8\/c=9,M.U (M.w0 z0),M.U (M.w1 z0),z2<=M.w2 z0/\M.w2 z0<(8:Int),M.ln z0=M.nl [M.w0 z0,M.w1 z0,M.w2 z0],z3=z3,M.ln z0=M.ln z0,c=c,[M.w0 z0,M.w1 z0,M.w2 z0]++List.replicate (c-3) z2=[M.w0 z0,M.w1 z0,M.w2 z0]++List.replicate (c-3) z2,c=6\/c=7\/c=8\/c=9,M.U (M.w0 R),M.U (M.w1 R),z2<=M.w2 R/\M.w2 R<(4:Int),M.U (M.V [k 16,k 17,k 18,k 19,k 20,k 21,k 22,k 23]),M.U (M.V [k 24,k 25,k 26,k 27,k 28,k 29,k 30,k 31]),M.ln R=M.nl [M.w0 R,M.w1 R,M.w2 R],M.nl [M.V [k 16,k 17,k 18,k 19,k 20,k 21,k 22,k 23],M.V [k 24,k 25,k 26,k 27,k 28,k 29,k 30,k 31]]=M.nl [M.V [k 16,k 17,k 18,k 19,k 20,k 21,k 22,k 23],M.V [k 24,k 25,k 26,k 27,k 28,k 29,k 30,k 31]],z3=z3,M.ln R=M.ln R,c=c,z3=z3,M.nl [M.V [k 16,k 17,k 18,k 19,k 20,k 21,k 22,k 23],M.V [k 24,k 25,k 26,k 27,k 28,k 29,k 30,k 31]]=M.nl [M.V [k 16,k 17,k 18,k 19,k 20,k 21,k 22,k 23],M.V [k 24,k 25,k 26,k 27,k 28,k 29,k 30,k 31]],(6:Nat)=(6:Nat),[M.w0 R,M.w1 R,M.w2 R]++List.replicate (c-3) z2=[M.w0 R,M.w1 R,M.w2 R]++List.replicate (c-3) z2,[M.V [k 16,k 17,k 18,k 19,k 20,k 21,k 22,k 23],M.V [k 24,k 25,k 26,k 27,k 28,k 29,k 30,k 31],z2,z2,z2,z2]=[M.V [k 16,k 17,k 18,k 19,k 20,k 21,k 22,k 23],M.V [k 24,k 25,k 26,k 27,k 28,k 29,k 30,k 31],z2,z2,z2,z2],bW [k 0,k 1,k 2,k 3,k 4,k 5,k 6,k 7,k 8,k 9,k 10,k 11,k 12,k 13,k 14,k 15,k 16,k 17,k 18,k 19,k 20,k 21,k 22,k 23,k 24,k 25,k 26,k 27,k 28,k 29,k 30,k 31],[k 0,k 1,k 2,k 3,k 4,k 5,k 6,k 7,k 8,k 9,k 10,k 11,k 12,k 13,k 14,k 15,k 16,k 17,k 18,k 19,k 20,k 21,k 22,k 23,k 24,k 25,k 26,k 27,k 28,k 29,k 30,k 31]=[k 0,k 1,k 2,k 3,k 4,k 5,k 6,k 7,k 8,k 9,k 10,k 11,k 12,k 13,k 14,k 15,k 16,k 17,k 18,k 19,k 20,k 21,k 22,k 23,k 24,k 25,k 26,k 27,k 28,k 29,k 30,k 31],false=false],val:=SV.agg [SV.int false IntKind.u8 (M.nb z1 z3),SV.int false IntKind.u8 (M.nb z1 (1:Nat)),SV.int false IntKind.u8 (M.nb z1 (2:Nat)),SV.int false IntKind.u8 (M.nb z1 (3:Nat)),SV.int false IntKind.u8 (M.nb z1 (4:Nat)),SV.int false IntKind.u8 (M.nb z1 (5:Nat)),SV.int false IntKind.u8 (M.nb z1 (6:Nat)),SV.int false IntKind.u8 (M.nb z1 (7:Nat)),SV.int false IntKind.u8 (M.nb z1 (8:Nat)),SV.int false IntKind.u8 (M.nb z1 (9:Nat)),SV.int false IntKind.u8 (M.nb z1 (10:Nat)),SV.int false IntKind.u8 (M.nb z1 (11:Nat)),SV.int false IntKind.u8 (M.nb z1 (12:Nat)),SV.int false IntKind.u8 (M.nb z1 (13:Nat)),SV.int false IntKind.u8 (M.nb z1 (14:Nat)),SV.int false IntKind.u8 (M.nb z1 (15:Nat))]}:=by rcases hc with rfl | rfl | rfl | rfl <;> kernel_rfl
def sgE (key:List Int) (d:Nat->List Int):bK:={ val:=.agg ((M.tag key (M.cat d)).map (.int false .u8)) }
def Fo (key:List Int) (d:Nat->List Int):Int:=eG key d (M.cat d).length+(M.vL key+18446744073709551616*M.wS key)
theorem aDv {key:List Int} {d:Nat->List Int} (hk:bW key) (sQ:(M.cat d).length%16=0) {W:Int} (hW:M.w0 (Fo key d)+18446744073709551616*M.w1 (Fo key d)=W) :
 (SV.agg [SV.int false .u8 (M.nb W 0),SV.int false .u8 (M.nb W 1),SV.int false .u8 (M.nb W 2),SV.int false .u8 (M.nb W 3),SV.int false .u8 (M.nb W 4),SV.int false .u8 (M.nb W 5),SV.int false .u8 (M.nb W 6),SV.int false .u8 (M.nb W 7),SV.int false .u8 (M.nb W 8),SV.int false .u8 (M.nb W 9),SV.int false .u8 (M.nb W 10),SV.int false .u8 (M.nb W 11),SV.int false .u8 (M.nb W 12),SV.int false .u8 (M.nb W 13),SV.int false .u8 (M.nb W 14),SV.int false .u8 (M.nb W 15)])=(sgE key d).val:=by
 unfold sgE
 rw [M.EL hk sQ,M.aLk hk]
 show _=SV.agg (((List.range 16).map (M.nb (M.w0 (Fo key d)+18446744073709551616*M.w1 (Fo key d)))).map (SV.int false .u8))
 rw [hW];rfl
open M in
theorem aMr {c:Nat} (_:c=6\/c=7\/c=8\/c=9) {R Z0 Z1:Int} (hR:0<=R/\R<aX) (h0:U Z0) (h1:U Z1) :
 U (w0 (n3 (w0 R) (w1 R) (w2 R)+(Z0+18446744073709551616*Z1)))/\U (w1 (n3 (w0 R) (w1 R) (w2 R)+(Z0+18446744073709551616*Z1)))/\(0<=w2 (n3 (w0 R) (w1 R) (w2 R)+(Z0+18446744073709551616*Z1))/\w2 (n3 (w0 R) (w1 R) (w2 R)+(Z0+18446744073709551616*Z1))<8)/\(0<=w2 R/\w2 R<4):=by
 obtain ⟨a,b,c'⟩:=ON (n3 (w0 R) (w1 R) (w2 R)+(Z0+18446744073709551616*Z1))
 refine ⟨a,b,?_,?_⟩
 .rw [It hR.1 hR.2]
  unfold U at h0 h1;unfold aX at hR;unfold w2;omega
 .unfold aX at hR;unfold w2;omega
set_option maxHeartbeats 4000000 in
theorem aEq {key:List Int} {d:Nat->List Int} (hk:bW key) (sQ:(M.cat d).length%16=0) {w0:World} {Mx:Nat->Prop} {V0:bA} {Q:Exit->Act->World->Prop}
 (H:∀ x s e',Je (ΓT 7 0 (M.nl [M.vL key,M.wS key])) (xI d) 100 100 Tryz.f38 x s=some e'->(∀ q∈e'.bO,q)->e'.val=(sgE key d).val->e'.new=(sgE key d).new->e'.wr=(sgE key d).wr->G Tryz.prog (ΓT 7 0 (M.nl [M.vL key,M.wS key])) w0 Mx (bI 100 (xI d)) Tryz.f38.ntmps 100 V0 (.at x) [] s Q)
 {c:Nat} (hR:MN c (eG key d (M.cat d).length)) :
 G Tryz.prog (ΓT 7 0 (M.nl [M.vL key,M.wS key])) w0 Mx (bI 100 (xI d)) Tryz.f38.ntmps 100 V0 (.at (.exit 5)) (vR 4) (ML key d (.int true .i64 (4:Nat)) 4 (d 5).length c (eG key d (M.cat d).length) (M.cat d).length) Q:=by
 have hz:=M.aTa hk
 obtain ⟨z0,z1⟩:=hz
 have hB:bW (M.kS key):=M.FL hk
 have aV:=rR 7 0 (M.nl [M.vL key,M.wS key])
 have aY:=rS 7 0 (M.nl [M.vL key,M.wS key])
 obtain ⟨hC,hR0,hR1,hR2⟩:=hR
 have sZ:=fun W h=>aDv (W:=W) hk sQ h
 have hN:Fo key d=eG key d (M.cat d).length+(M.vL key+18446744073709551616*M.wS key):=rfl
 unfold ML
 rw [M.FO _ sQ]
 have big:∀ c,(c=6\/c=7\/c=8\/c=9)->M.w0 (Fo key d)+18446744073709551616*M.w1 (Fo key d)=M.w0 (M.n3 (M.w0 (eG key d (M.cat d).length)) (M.w1 (eG key d (M.cat d).length)) (M.w2 (eG key d (M.cat d).length))+(M.vL key+18446744073709551616*M.wS key))+18446744073709551616*M.w1 (M.n3 (M.w0 (eG key d (M.cat d).length)) (M.w1 (eG key d (M.cat d).length)) (M.w2 (eG key d (M.cat d).length))+(M.vL key+18446744073709551616*M.wS key)):=by
  intro c hc
  rw [hN,M.It hR1 hR2]
 have ob:∀ c,(c=6\/c=7\/c=8\/c=9)->_:=fun c hc=>aMr (c:=c) hc ⟨hR1,hR2⟩ z0 z1
 rcases hC with rfl | hC
 .have MR:=hR0 rfl
  rw [MR,Int.zero_add] at hN
  rw [MR]
  have e0:M.w0 (Fo key d)=M.vL key:=by rw [hN];unfold M.U at z0 z1;unfold M.w0;omega
  have e1:M.w1 (Fo key d)=M.wS key:=by rw [hN];unfold M.U at z0 z1;unfold M.w1;omega
  have en:M.nl [M.vL key,M.wS key,0]=M.nl [M.vL key,M.wS key]:=M.fT [M.vL key,M.wS key]
  rw [e0,e1] at sZ
  generalize Fs:M.nl [M.vL key,M.wS key]=mJ at *
  rcases M.NR (M.vL key) (M.wS key) with ⟨h,y0,y1⟩ | ⟨h,y0,y1⟩ | ⟨h,y0⟩
  .rw [Fs] at h;subst h
   refine G.tB (cl:=[]) aV aY mix [false] H (aEt d _ _ _ _ (fun j=>(M.kS key).getD j 0) _ _ _) (aA ?_) (sZ 0 (by rw [y0,y1];rfl)) rfl rfl
   exact ⟨Fs.symm,rfl,Fs,rfl,rfl,hB,rfl,rfl,trivial⟩
  .rw [Fs] at h;subst h
   refine G.tB (cl:=[]) aV aY mix [false] H (aEs d _ _ _ _ (fun j=>(M.kS key).getD j 0) _ _ _) (aA ?_) (sZ (M.vL key) (by rw [y1];omega)) rfl rfl
   exact ⟨z0,rfl,rfl,rfl,rfl,Fs.symm,rfl,Fs,rfl,rfl,hB,rfl,rfl,trivial⟩
  .rw [Fs] at h;subst h
   refine G.tB (cl:=[]) aV aY mix [false] H (aEr d _ _ _ _ (fun j=>(M.kS key).getD j 0) _ _ _) (aA ?_) (sZ _ rfl) rfl rfl
   exact ⟨.inl rfl,z0,z1,⟨by decide,by decide⟩,en.symm,rfl,rfl,rfl,rfl,Fs.symm,rfl,Fs,rfl,rfl,hB,rfl,rfl,trivial⟩
 obtain ⟨o1,o2,o3,o4⟩:=ob c hC
 have u:=M.ON (eG key d (M.cat d).length)
 refine G.tB (cl:=[]) aV aY mix [false] H (aQw hC (M.nl [M.vL key,M.wS key]) d _ _ _ _ (fun j=>(M.kS key).getD j 0) _ _ _) (aA ?_) (sZ _ (big c hC)) rfl rfl
 exact ⟨hC,o1,o2,o3,rfl,rfl,rfl,rfl,rfl,hC,u.1,u.2.1,o4,z0,z1,rfl,rfl,rfl,rfl,rfl,rfl,rfl,rfl,rfl,rfl,hB,rfl,rfl,trivial⟩
set_option maxHeartbeats 4000000 in
theorem TH {key:List Int} {d:Nat->List Int} (hk:bW key) (hd:bW (M.cat d)) (hl:(M.cat d).length<=1073741824) (sQ:(M.cat d).length%16=0) :
 aE Tryz.prog (ΓT 7 0 (M.nl [M.vL key,M.wS key])) 38 (AD key) (xI d) 100 100 (sgE key d):=by
 refine iH (rR _ _ _) (rS _ _ _) Tryz.func38 (by kernel_rfl) rfl (kO (by kernel_rfl)) rfl [] ?_
 intro w0 Mx V0 Q hb H
 have PS:=fun c hR=>aEq hk sQ H (c:=c) hR
 have hB:bW (M.kS key):=M.FL hk
 generalize M.nl [M.vL key,M.wS key]=mJ at *
 have Cm:pF (ΓT 7 0 0) (bI 100 (xI d)) 100 V0:=hb.Ii (nM _ _ _ _ _ _)
 have h5:=M.aAh d
 have next:∀ J,J<4->(∀ c,MN c (eG key d (M.off d (J+1)))->G Tryz.prog (ΓT 7 0 mJ) w0 Mx (bI 100 (xI d)) Tryz.f38.ntmps 100 V0 (.go (.loop oI)) (vR (J+1)) (ML key d (.int false .i64 ((J+1:Nat):Int)) (J+1) 0 c (eG key d (M.off d (J+1))) (M.off d (J+1))) Q) ->
  ∀ c,MN c (eG key d (M.off d J))->G Tryz.prog (ΓT 7 0 mJ) w0 Mx (bI 100 (xI d)) Tryz.f38.ntmps 100 V0 (.go (.loop oI)) (vR J) (ML key d (.int false .i64 (J:Nat)) J 0 c (eG key d (M.off d J)) (M.off d J)) Q:=by
  intro J hJ hG c hR
  refine Ks hk hd hl (by omega) hb (fun c hR=>?_) hR
  refine G.Ii (Γ':=ΓT 7 0 0) (nM _ _ _ _ _ _) ?_
  exact G.gX (rR _ _ _) (rS _ _ _) mix Cm [] (aEw hR.1 hJ (M.kS key) d (M.sN key) (M.rE key) (M.nl [M.sN key,M.rE key]) _ _ (d (J+1)) (d (J+1)).length ((d (J+1)).length:Nat)) GU (G.Ii (Γ':=ΓT 7 0 mJ) (nM _ _ _ _ _ _) (hG c hR))
 have last:∀ c,MN c (eG key d (M.off d 4))->G Tryz.prog (ΓT 7 0 mJ) w0 Mx (bI 100 (xI d)) Tryz.f38.ntmps 100 V0 (.go (.loop oI)) (vR 4) (ML key d (.int false .i64 ((4:Nat):Int)) 4 0 c (eG key d (M.off d 4)) (M.off d 4)) Q:=by
  intro c hR
  refine Ks hk hd hl (by omega) hb (fun c hR=>?_) hR
  have hR':MN c (eG key d (M.off d 5)):=hR
  show G Tryz.prog (ΓT 7 0 mJ) w0 Mx (bI 100 (xI d)) Tryz.f38.ntmps 100 V0 (.at (.exit 5)) (vR 4) (ML key d (.int true .i64 (4:Nat)) 4 (d 5).length c (eG key d (M.off d 5)) (M.off d 5)) Q
  rw [h5] at hR' |-
  exact PS c hR'
 have all:=next 0 (by decide) (next 1 (by decide) (next 2 (by decide) (next 3 (by decide) last)))
 have ha0:eG key d (M.off d 0)=0:=by simp [eG,M.off,M.acc]
 refine G.Ii (Γ':=ΓT 7 0 0) (nM _ _ _ _ _ _) ?_
 refine G.gX (rR _ _ _) (rS _ _ _) mix Cm [] (aQx key (M.kS key) d (M.sN key) (M.rE key) (M.nl [M.sN key,M.rE key])) (aA ?_) (G.Ii (Γ':=ΓT 7 0 mJ) (nM _ _ _ _ _ _) ?_)
 .exact ⟨hB,rfl,rfl,rfl,rfl,rfl,⟨rfl,rfl⟩,rfl,rfl,rfl,rfl,rfl,rfl,trivial⟩
 .have:=all 0 ⟨.inl rfl,fun _=>ha0,by rw [ha0];decide,by rw [ha0];decide⟩
  rw [ha0] at this
  exact this
def yW (x1 x2 x3 x4 x5:List Int):Nat->List Int
 | 1=>x1
 | 2=>x2
 | 3=>x3
 | 4=>x4
 | _=>x5
def roL:SB->Option (List SV)
 | .own cs _=>some cs
 | .fO cs=>some cs
 | _=>none
def BS (vs:List SV) (T:bB):Option Canon:=match vs with
 | [ks,.aH L _ 0 5 5]=>match cJ ks,(T L).bind roL with
   | some (.u8,k),some [p1,p2,p3,p4,p5]=>match dU T .u8 p1,dU T .u8 p2,dU T .u8 p3,dU T .u8 p4,dU T .u8 p5 with
     | some (o1,x1),some (o2,x2),some (o3,x3),some (o4,x4),some (o5,x5)=>some { eR:=[.ai .u8 k,.aH 62 true 0 5 5],T0:=sgB (yW x1 x2 x3 x4 x5),vl:=[(62,.lab L 0),(71,.cell L 0),(72,.cell L 1),(73,.cell L 2),(74,.cell L 3),(75,.cell L 4)],e0:={ val:=.ai .u8 (M.tag k (x1++(x2++(x3++(x4++x5))))) },conds:=(k.length=32)::bW k::bW (x1++(x2++(x3++(x4++x5))))::((x1++(x2++(x3++(x4++x5)))).length<=1073741824)::((x1++(x2++(x3++(x4++x5)))).length%16=0)::(o1++(o2++(o3++(o4++o5)))) }
     | _,_,_,_,_=>none
   | _,_=>none
 | _=>none
theorem aDf (a b c:Nat):(ΓT a b c).aR=aB:=by kernel_rfl
theorem aDu (Γ:Env) (hg:Γ.aR=aB):aG Tryz.prog Γ 38 (aL aB 100 BS):=by
 refine aW hg fun vs T c hd hc=>?_
 unfold BS at hd
 split at hd
 case h_2=>cases hd
 split at hd
 case h_2=>cases hd
 split at hd
 case h_2=>cases hd
 cases hd
 rename_i k _ _ _ _ _ _ _ _ _ _ _ _ o1 x1 o2 x2 o3 x3 o4 x4 o5 x5 _ _ _ _ _
 have h32:k.length=32:=hc _ dB
 have h:aE Tryz.prog _ 38 (AD k) (xI (yW x1 x2 x3 x4 x5)) 100 100 (sgE k (yW x1 x2 x3 x4 x5)):=TH (hc _ (by simp)) (hc _ (by simp [M.cat,yW])) (hc _ (by simp [M.cat,yW])) (hc _ (by simp [M.cat,yW]))
 refine h.words (hg.trans (aDf _ _ _).symm) (fun V=>?_) (fun _ _ h=>h) (fun V=>?_) rfl rfl
 .simp only [AD,aI,bE V h32]
 .show den V (.agg ((M.tag k (M.cat (yW x1 x2 x3 x4 x5))).map (.int false .u8)))=_
  simp only [den,wM]
  rfl
namespace P
theorem aAl {x r q:Int}:(x*(r-p*q))%p=(x*r)%p:=by
 rw [Int.mul_sub,show x*(p*q)=p*(x*q) by rw [Int.mul_left_comm],Rp]
theorem Es {r q:Int} (d:List Int):∀ j,ZD (r-p*q) d j=ZD r d j
 | 0=>rfl
 | j+1=>by simp only [ZD];rw [Es d j,aAl]
theorem Qg {r q:Int} (d:List Int):Nn (r-p*q) d=Nn r d:=by
 unfold Nn
 rw [Es,aAl]
theorem Yr {k:List Int} (hk:∀ i,rH (k.getD i 0)):∀ i,rH ((dH k).getD i 0):=qT fun x hx=>by
 unfold dH at hx
 rcases List.mem_append.1 hx with h | h
 .obtain ⟨i,_,rfl⟩:=List.mem_map.1 h
  have Up:∀ a b:Int,rH (bS .u8 a b):=fun a b=>by
   have e:bS .u8 a b=((BitVec.ofInt 8 a &&& BitVec.ofInt 8 b).toNat:Int)%256:=rfl
   unfold rH
   rw [e];omega
  unfold Gp
  split
  .exact Up _ _
  .split
   .exact hk _
   .exact Up _ _
  .exact hk _
 .simp only [List.mem_singleton] at h
  subst h
  exact ⟨by decide,by decide⟩
def Vl (key data:List Int):Int:=(Nn (Nb (dH (key.take 16))) data+V2 (key.drop 16))%340282366920938463463374607431768211456
theorem aFz {key data:List Int} (hk:key.length=32) (hkb:∀ x∈key,rH x) (hd:∀ x∈data,rH x) :
 tag (Cv (put ⟨num (dH (key.take 16)),List.replicate 5 0,key.drop 16,mL,0⟩ data)) (put ⟨num (dH (key.take 16)),List.replicate 5 0,key.drop 16,mL,0⟩ data).mask =
  (List.range 8).map (byteOf (Vl key data%18446744073709551616))++(List.range 8).map (byteOf (Vl key data/18446744073709551616)):=by
 have hb:=Ge (Yr (k:=key.take 16) (qT fun x hx=>hkb x (List.mem_of_mem_take hx)))
 obtain ⟨hO,q,hq⟩:=hb
 obtain ⟨h1,h2,h3⟩:=aGx (mask:=key.drop 16) hO (by rw [List.length_drop];omega) hd
 obtain ⟨t1,t2⟩:=Wf h1 (s:=key.drop 16) (qT fun x hx=>hkb x (List.mem_of_mem_drop hx))
 rw [h2,hq,Qg] at t1 t2
 rw [h3]
 unfold tag aBf
 rw [t1,t2]
 rfl
end P
namespace P
theorem YG {T:Int} (h:0<=T):(List.range 8).map (byteOf (T%18446744073709551616))++(List.range 8).map (byteOf (T/18446744073709551616))=(List.range 16).map fun i=>T/((256^i:Nat):Int)%256:=by
 have lo:∀ i,i<8->byteOf (T%18446744073709551616) i=T/((256^i:Nat):Int)%256:=by
  intro i hi
  rw [qY (by omega) hi]
  match i,hi with
  | 0,_=>show T%18446744073709551616/1%256=T/1%256;omega
  | 1,_=>show T%18446744073709551616/256%256=T/256%256;omega
  | 2,_=>show T%18446744073709551616/65536%256=T/65536%256;omega
  | 3,_=>show T%18446744073709551616/16777216%256=T/16777216%256;omega
  | 4,_=>show T%18446744073709551616/4294967296%256=T/4294967296%256;omega
  | 5,_=>show T%18446744073709551616/1099511627776%256=T/1099511627776%256;omega
  | 6,_=>show T%18446744073709551616/281474976710656%256=T/281474976710656%256;omega
  | 7,_=>show T%18446744073709551616/72057594037927936%256=T/72057594037927936%256;omega
 have fQ:∀ i,i<8->byteOf (T/18446744073709551616) i=T/((256^(8+i):Nat):Int)%256:=by
  intro i hi
  rw [qY (by omega) hi]
  have e:((256^(8+i):Nat):Int)=18446744073709551616*((256^i:Nat):Int):=by rw [Nat.pow_add,Int.natCast_mul];rfl
  rw [e,Int.ediv_ediv_of_nonneg (by decide)]
 have split:(List.range 16).map (fun i=>T/((256^i:Nat):Int)%256)=(List.range 8).map (fun i=>T/((256^i:Nat):Int)%256)++(List.range 8).map (fun i=>T/((256^(8+i):Nat):Int)%256):=by
  rw [show (16:Nat)=8+8 from rfl,List.range_add,List.map_append,List.map_map]
  rfl
 rw [split]
 congr 1
 .exact List.map_congr_left fun i h=>lo i (by simpa using h)
 .exact List.map_congr_left fun i h=>fQ i (by simpa using h)
end P
namespace P
theorem wC (l r:List Int) {i:Nat} (h:i<l.length):(l++r).getD i 0=l.getD i 0:=by simp [gU,List.getElem?_append_left h]
theorem fG {d:List Int} {k i:Nat} (h:k+16<=d.length) (hi:i<16):((d.drop k).take 16++[1]).getD i 0=d.getD (k+i) 0:=by
 rw [wC _ _ (by rw [List.length_take,List.length_drop];omega)]
 simp [gU,List.getElem?_take,hi,List.getElem?_drop]
theorem YI {d:List Int} {k:Nat} (h:k+16<=d.length):((d.drop k).take 16++[1]).getD 16 0=1:=by
 have e:((d.drop k).take 16).length=16:=by rw [List.length_take,List.length_drop];omega
 rw [gU,List.getElem?_append_right (by omega),e];rfl
theorem YP {d:List Int} {k:Nat} (h:16*k+16<=d.length) (hl:d.length<=1073741824):Nb ((d.drop (16*k)).take 16++[1])=M.V (M.aT d ((16*k:Nat):Int) 16):=by
 rw [M.GC d (by omega)]
 unfold Nb
 rw [fG h (i:=0) (by decide),fG h (i:=1) (by decide),fG h (i:=2) (by decide),fG h (i:=3) (by decide),fG h (i:=4) (by decide),fG h (i:=5) (by decide),fG h (i:=6) (by decide),fG h (i:=7) (by decide),fG h (i:=8) (by decide),fG h (i:=9) (by decide),fG h (i:=10) (by decide),fG h (i:=11) (by decide),fG h (i:=12) (by decide),fG h (i:=13) (by decide),fG h (i:=14) (by decide),fG h (i:=15) (by decide),YI h]
 simp only [M.sE,M.Ag,Nat.add_zero]
 omega
theorem Tx (r:Int) {d:List Int} (hl:d.length<=1073741824):∀ j,16*j<=d.length->ZD r d j=M.acc r d j
 | 0,_=>rfl
 | j+1,h=>by
   rw [M.Lu r (by omega),<- Tx r hl j (by omega),<- YP (by omega) hl]
   rfl
theorem cW (k:List Int) {i:Nat} (h:i<16):(k.take 16).getD i 0=k.getD i 0:=by simp [gU,List.getElem?_take,h]
theorem Ys (k:List Int):dH k=[k.getD 0 0,k.getD 1 0,k.getD 2 0,bS .u8 (k.getD 3 0) 15,bS .u8 (k.getD 4 0) 252,k.getD 5 0,k.getD 6 0,bS .u8 (k.getD 7 0) 15,bS .u8 (k.getD 8 0) 252,k.getD 9 0,k.getD 10 0,bS .u8 (k.getD 11 0) 15,bS .u8 (k.getD 12 0) 252,k.getD 13 0,k.getD 14 0,bS .u8 (k.getD 15 0) 15,0]:=rfl
theorem Yv (k:List Int):Nb (dH (k.take 16))=M.sN k+18446744073709551616*M.rE k:=by
 rw [Ys,cW k (i:=0) (by decide),cW k (i:=1) (by decide),cW k (i:=2) (by decide),cW k (i:=3) (by decide),cW k (i:=4) (by decide),cW k (i:=5) (by decide),cW k (i:=6) (by decide),cW k (i:=7) (by decide),cW k (i:=8) (by decide),cW k (i:=9) (by decide),cW k (i:=10) (by decide),cW k (i:=11) (by decide),cW k (i:=12) (by decide),cW k (i:=13) (by decide),cW k (i:=14) (by decide),cW k (i:=15) (by decide)]
 unfold Nb M.sN M.rE
 simp only [M.sE,M.Ag,List.getD_cons_zero,List.getD_cons_succ]
 omega
theorem mC (k:List Int) (i:Nat):(k.drop 16).getD i 0=k.getD (16+i) 0:=by simp [gU,List.getElem?_drop]
theorem aPy (k:List Int):V2 (k.drop 16)=M.vL k+18446744073709551616*M.wS k:=by
 have e:∀ a,S (k.drop 16) a 8=k.getD (16+(a+0)) 0+256*k.getD (16+(a+1)) 0+65536*k.getD (16+(a+2)) 0+16777216*k.getD (16+(a+3)) 0+4294967296*k.getD (16+(a+4)) 0+1099511627776*k.getD (16+(a+5)) 0+281474976710656*k.getD (16+(a+6)) 0+72057594037927936*k.getD (16+(a+7)) 0:=by
  intro a
  simp only [S,mC]
  rw [show ((256^0:Nat):Int)=1 from rfl,show ((256^1:Nat):Int)=256 from rfl,show ((256^2:Nat):Int)=65536 from rfl,show ((256^3:Nat):Int)=16777216 from rfl,show ((256^4:Nat):Int)=4294967296 from rfl,show ((256^5:Nat):Int)=1099511627776 from rfl,show ((256^6:Nat):Int)=281474976710656 from rfl,show ((256^7:Nat):Int)=72057594037927936 from rfl]
  omega
 unfold V2
 rw [e 0,e 8]
 unfold M.vL M.wS
 simp only [M.sE,M.Ag,Nat.reduceAdd]
 omega
theorem UR {key D:List Int} (hk:bW key) (hl:D.length<=1073741824) (sQ:D.length%16=0) :
 Vl key D=M.w0 (M.acc (M.V (M.cl key)) D (D.length/16)+(M.vL key+18446744073709551616*M.wS key))+18446744073709551616*M.w1 (M.acc (M.V (M.cl key)) D (D.length/16)+(M.vL key+18446744073709551616*M.wS key)):=by
 unfold Vl Nn
 rw [if_pos sQ,Yv,<- M.aLk hk,aPy,Tx _ hl _ (by omega)]
 unfold M.w0 M.w1
 omega
theorem UQ {key D:List Int} (hk:key.length=32) (hb:bW key) (hd:bW D) (hl:D.length<=1073741824) (sQ:D.length%16=0) :
 tag (Cv (put ⟨num (dH (key.take 16)),List.replicate 5 0,key.drop 16,mL,0⟩ D)) (put ⟨num (dH (key.take 16)),List.replicate 5 0,key.drop 16,mL,0⟩ D).mask=M.tag key D:=by
 have h0:0<=Vl key D:=by unfold Vl;omega
 rw [aFz hk hb hd,YG h0,M.EL hb sQ,UR hb hl sQ]
 refine List.map_congr_left fun i _=>?_
 unfold M.nb
 rw [Int.natCast_pow]
 rfl
end P
noncomputable def QA (cp:List Int->List Int):Nat->Option Sum:=dM (dM (dM (dM fR 80 (aL aB 100 rZ)) 129 (aL aB 100 (Sf cp))) 87 (aL aB 100 CO)) 88 (aL aB 100 Ny)
theorem XF (cp:List Int->List Int):∀ f S,QA cp f=some S->∀ Γ:Env,Γ.aR=aB->aG Tryz.prog Γ f S:=bF (bF (bF (bF gH 80 _ As) 129 _ (FX cp)) 87 _ aFr) 88 _ QX
def of0 (cp:List Int->List Int) (key:List Int):P.MS:=⟨c5 (cp (dA 16 key)),c5 (List.replicate 5 0),Rg fun j=>key.getD (16+j) 0,Rg fun _=>0,(0:Int).toNat⟩
def Rh (cp:List Int->List Int) (key:List Int) (d:Nat->List Int):Nat->P.MS
 | 0=>of0 cp key
 | j+1=>P.nf (P.put (Rh cp key d j) (d (j+1)))
def ofQ (cp:List Int->List Int) (key:List Int) (d:Nat->List Int):Nat->List Prop
 | 0=>qM (cp (dA 16 key)) (List.replicate 5 0) (fun j=>key.getD (16+j) 0) (fun _=>0) 0 (of0 cp key)
 | j+1=>qMS (P.put (Rh cp key d j) (d (j+1))) (Rh cp key d (j+1))
def ofO (cp:List Int->List Int) (key:List Int) (d:Nat->List Int) (r:List Prop):Nat->List Prop
 | 0=>r
 | j+1=>(Rh cp key d j).WF::((d (j+1)).length<=1000000000000)::((d (j+1)).length=(d (j+1)).length)::((d (j+1)).length=(d (j+1)).length)::(ofQ cp key d j++(d (j+1)=d (j+1))::ofO cp key d r j)
theorem aRy (cp:List Int->List Int) (key:List Int) (d:Nat->List Int):aK (env (QA cp) 4) Tryz.f48 true [] 1500 [.raw (.pointer none),.agg (cK .u8 32 key),.aH 62 true 0 5 5] (xI d) 100 100 =
 some { bO:=(Rh cp key d 5).WF::(ofQ cp key d 5++ofO cp key d [(dA 16 key).length=16,cp (dA 16 key)=P.num (P.dH (dA 16 key)),dA 16 key=dA 16 key] 5),val:=.agg (cK .u8 16 (P.Dk (Rh cp key d 5))) }:=by kernel_rfl
namespace P
def new (key:List Int):MS:=⟨num (dH (key.take 16)),List.replicate 5 0,key.drop 16,mL,0⟩
theorem aFn {key:List Int} (h:key.length=32):(new key).WF:=⟨rfl,rfl,by simp only [new,List.length_drop];omega,rfl,(by decide:0<16),rfl⟩
theorem oY {key:List Int} (h:key.length=32):dA 16 key=key.take 16:=by
 unfold dA
 apply List.ext_getElem
 .simp;omega
 .intro i h1 h2
  have hi:i<16:=by simpa using h1
  simp [gU,show i<key.length by omega]
end P
theorem Og {key:List Int} (h:key.length=32):of0 (fun b=>P.num (P.dH b)) key=P.new key:=by
 unfold of0 P.new
 have e1:(Rg fun j=>key.getD (16+j) 0)=key.drop 16:=by
  have:(key.drop 16).length=16:=by rw [List.length_drop];omega
  rw [<- yG this]
  unfold Rg
  refine List.map_congr_left fun j _=>?_
  rw [P.mC]
 have e5:c5 (P.num (P.dH (key.take 16)))=P.num (P.dH (key.take 16)):=iN (P.mI _)
 rw [P.oY h,e1]
 show P.MS.mk (c5 (P.num (P.dH (key.take 16)))) _ _ _ _=_
 rw [e5]
 rfl
theorem Gd {key:List Int} (h:key.length=32) (d:Nat->List Int):∀ j,(Rh (fun b=>P.num (P.dH b)) key d j).WF
 | 0=>by
   rw [Rh,Og h];exact P.aFn h
 | j+1=>by
   have hw:=P.Gc (Gd h d j) (d (j+1))
   rw [Rh,P.Jy hw];exact hw
theorem qR {key:List Int} (h:key.length=32) (d:Nat->List Int) (j:Nat):Rh (fun b=>P.num (P.dH b)) key d (j+1)=P.put (Rh (fun b=>P.num (P.dH b)) key d j) (d (j+1)):=P.Jy (P.Gc (Gd h d j) (d (j+1)))
theorem aNg {key:List Int} (h:key.length=32) (d:Nat->List Int):Rh (fun b=>P.num (P.dH b)) key d 5=P.put (P.new key) (M.cat d):=by
 unfold M.cat
 rw [P.kW,P.kW,P.kW,P.kW,qR h,qR h,qR h,qR h,qR h,Rh,Og h]
theorem FB {key:List Int} (h:key.length=32) (d:Nat->List Int):∀ j,∀ q∈ofQ (fun b=>P.num (P.dH b)) key d j,q
 | 0=>by
   rw [ofQ,Og h]
   refine Dp (by rw [P.oY h];rfl) rfl (fun j _=>?_) (fun j _=>(P.Sq j).symm) rfl
   simp only [P.new,P.mC]
 | j+1=>by
   rw [ofQ,qR h]
   exact An rfl
theorem FC {key:List Int} (h:key.length=32) (d:Nat->List Int) {r:List Prop} (hr:∀ q∈r,q):∀ j,(∀ i,i<j->(d (i+1)).length<=1000000000000)->∀ q∈ofO (fun b=>P.num (P.dH b)) key d r j,q
 | 0,_=>hr
 | j+1,hd=>aM (Gd h d j) (aM (hd j (by omega)) (aM rfl (aM rfl (pS (FB h d j) (aM rfl (FC h d hr j fun i hi=>hd i (by omega)))))))
theorem M.mX (key data:List Int):(M.tag key data).length=16:=by simp [M.tag,M.Vg]
theorem UH {key:List Int} {d:Nat->List Int} (hk:key.length=32) (hb:bW key) (hd:bW (M.cat d)) (hl:(M.cat d).length<=1073741824) (sQ:(M.cat d).length%16=0) (Γ:Env) (hg:Γ.aR=aB) :
 aE Tryz.prog Γ 48 [.raw (.pointer none),.ai .u8 key,.aH 62 true 0 5 5] (xI d) 100 100 { val:=.ai .u8 (M.tag key (M.cat d)) }:=by
 have hs:aG Tryz.prog (env (QA fun b=>P.num (P.dH b)) 4) 48 (aK (env (QA fun b=>P.num (P.dH b)) 4) Tryz.f48 true [] 1500):=aN (bN _ 4) (bT _ (XF _) 4) mix Tryz.func48 (by kernel_rfl) true [] 1500
 have hlen:∀ i,i<5->(d (i+1)).length<=1000000000000:=fun i hi=>by
  have:=M.EZ d hi
  omega
 have h:=hs.call (aRy (fun b=>P.num (P.dH b)) key d) (aM (Gd hk d 5) (pS (FB hk d 5) (FC hk d (aM (by rw [P.oY hk,List.length_take];omega) (aM rfl (aM rfl gD))) 5 hlen)))
 have ht:P.Dk (Rh (fun b=>P.num (P.dH b)) key d 5)=M.tag key (M.cat d):=by
  rw [aNg hk]
  exact P.UQ hk hb hd hl sQ
 rw [ht] at h
 refine h.words (by rw [hg];rfl) (fun V=>?_) (fun _ _ h=>h) (fun V=>bE V (M.mX _ _)) rfl rfl
 simp only [aI,bE V hk]
def Rv (mc:List Int->List Int->List Int) (vs:List SV) (T:bB):Option Canon:=match vs with
 | [.raw (.pointer none),ks,.aH L _ 0 5 5]=>match cJ ks,(T L).bind roL with
   | some (.u8,k),some [p1,p2,p3,p4,p5]=>match dU T .u8 p1,dU T .u8 p2,dU T .u8 p3,dU T .u8 p4,dU T .u8 p5 with
     | some (o1,x1),some (o2,x2),some (o3,x3),some (o4,x4),some (o5,x5)=>some { eR:=[.raw (.pointer none),.ai .u8 k,.aH 62 true 0 5 5],T0:=sgB (yW x1 x2 x3 x4 x5),vl:=[(62,.lab L 0),(71,.cell L 0),(72,.cell L 1),(73,.cell L 2),(74,.cell L 3),(75,.cell L 4)],e0:={ val:=.ai .u8 (mc k (x1++(x2++(x3++(x4++x5))))) },conds:=(mc k (x1++(x2++(x3++(x4++x5))))=M.tag k (x1++(x2++(x3++(x4++x5)))))::(k.length=32)::bW k::bW (x1++(x2++(x3++(x4++x5))))::((x1++(x2++(x3++(x4++x5)))).length<=1073741824)::((x1++(x2++(x3++(x4++x5)))).length%16=0)::(o1++(o2++(o3++(o4++o5)))) }
     | _,_,_,_,_=>none
   | _,_=>none
 | _=>none
theorem FA (mc:List Int->List Int->List Int) (Γ:Env) (hg:Γ.aR=aB):aG Tryz.prog Γ 48 (aL aB 100 (Rv mc)):=by
 refine aW hg fun vs T c hd hc=>?_
 unfold Rv at hd
 split at hd
 case h_2=>cases hd
 split at hd
 case h_2=>cases hd
 split at hd
 case h_2=>cases hd
 cases hd
 rename_i k _ _ _ _ _ _ _ _ _ _ _ _ o1 x1 o2 x2 o3 x3 o4 x4 o5 x5 _ _ _ _ _
 have e:=hc _ dB
 have h:=UH (d:=yW x1 x2 x3 x4 x5) (hc _ (eM _ dB)) (hc _ (eM _ (eM _ dB))) (hc _ (eM _ (eM _ (eM _ dB)))) (hc _ (eM _ (eM _ (eM _ (eM _ dB))))) (hc _ (eM _ (eM _ (eM _ (eM _ (eM _ dB)))))) Γ hg
 have e':mc k (M.cat (yW x1 x2 x3 x4 x5))=M.tag k (M.cat (yW x1 x2 x3 x4 x5)):=e
 rw [<- e'] at h
 exact h
noncomputable def Nc (si:List Int->List Int->Int->List Int) (x4 tn:Nat->List Int->List Int->List Int) (on:List Int->List Int):Env:=env (aLb si x4 tn on) 4
theorem QL (si:List Int->List Int->Int->List Int) (x4 tn:Nat->List Int->List Int->List Int) (on:List Int->List Int):cA Tryz.prog (Nc si x4 tn on):=bN _ 4
theorem QM (si:List Int->List Int->Int->List Int) (x4 tn:Nat->List Int->List Int->List Int) (on:List Int->List Int):cH Tryz.prog (Nc si x4 tn on):=bT _ (XG si x4 tn on) 4
def PH (key aC:List Int) (c:Int) (off len cap:Nat):List SV:=[.raw (.pointer none),.ai .u8 key,.int false .u32 c,.ai .u8 aC,.aH 60 false off len cap]
noncomputable def MO (si:List Int->List Int->Int->List Int) (x4 tn:Nat->List Int->List Int->List Int) (on:List Int->List Int) (xs:List Int) (t:TypeId) (cf:Cf) (K:List Fr) (s:St):Option qL:=hH (Nc si x4 tn on) (bI 100 (sS xs t)) 100 Tryz.f46.ntmps [3,9] 400 3000 cf K s
def pL (off len cap:Nat) (a:Int):List (Nat × SV):=[(0,.raw (.pointer none)),(4,.aH 60 false off len cap),(10,.ptr 100 true 0),(11,.int false .i64 a)]
def pK (xs s:List Int) (t:TypeId):List (Nat × SB):=[(60,.ints .u8 xs t),(100,.ints .u32 s 121)]
namespace Q
def oA (off cap:Nat) (a:Int):Nat:=if (cap:Int)=a then off else off+a.toNat*1
def pd (off len cap:Nat) (a:Int) (xs:List Int):List Int:=(xs.drop (oA off cap a)).take ((len:Int).toNat-a.toNat)
def qd (p:List Int):List Int:=p.take (p.length.min 64)
def ld (q:List Int):List Int:=(List.replicate 64 0).take 0++q++(List.replicate 64 0).drop (0+q.length)
def go (len:Nat) (a k:Int):Prop:=decide (IntKind.i64.wrap ((len:Int)-a)>=k)=true
def no (len:Nat) (a k:Int):Prop:=decide (IntKind.i64.wrap ((len:Int)-a)>=k)=false
def sa (len:Nat) (a k:Int):Prop:=decide (IntKind.i64.wrap ((len:Int)-a)>=k)=decide (IntKind.i64.wrap ((len:Int)-a)>=k)
def sl (len cap:Nat) (a:Int):Prop:=(0:Int)<=(cap:Int)/\(cap:Int)<=(cap:Int)/\(0:Int)<=(len:Int)/\(len:Int)<=(cap:Int)/\(0:Int)<=a/\a<=(len:Int)
end Q
noncomputable def mxR:Option qL:=MO (fun _ _ _=>[]) (fun _ _ _=>[]) (fun _ _ _=>[]) (fun _=>[]) [] 0 (.go (codeOf Tryz.f46)) [] ((Df (PH [] [] 0 0 0 0) 100).hint [])
noncomputable def aBv:Code:=Jh mxR
noncomputable def mxK:List Fr:=Jg mxR
noncomputable def aKe:Option qL:=MO (fun _ _ _=>[]) (fun _ _ _=>[]) (fun _ _ _=>[]) (fun _=>[]) [] 0 (.at (.exit 0)) mxK ((cE (pL 0 0 0 0) (pK [] [] 0) 101 [60] []).hint [])
noncomputable def aBw:Code:=Jh aKe
noncomputable def PI:List Fr:=Jg aKe
theorem aSk (si:List Int->List Int->Int->List Int) (x4 tn:Nat->List Int->List Int->List Int) (on:List Int->List Int) (key aC xs iF s':List Int) (c:Int) (t:TypeId) (off len cap:Nat) (a':Int):gX 100 Tryz.f46.ntmps (bI 100 (sS xs t)) [] (pL off len cap a') (pK iF s' t) 101 [60] [] (MO si x4 tn on xs t (.go (codeOf Tryz.f46)) [] ((Df (PH key aC c off len cap) 100).hint [])) =
 some (.go (.loop aBv),mxK,[(si key aC c).length=16,si key aC c=B.init key aC c,key.length=32,aC.length=12,key=key,c=c,aC=aC,aC.length=12,key.length=32,off=off,len=len,cap=cap,0=a',xs=iF/\t=t,si key aC c=s'/\(121:Nat)=(121:TypeId)]):=by kernel_rfl
theorem aSj (si:List Int->List Int->Int->List Int) (x4 tn:Nat->List Int->List Int->List Int) (on:List Int->List Int) (gJ xs iF s s':List Int) (t:TypeId) (off len cap:Nat) (a a':Int):gX 100 Tryz.f46.ntmps (bI 100 (sS gJ t)) [] (pL off len cap a') (pK iF s' t) 101 [60] [] (MO si x4 tn on gJ t (.go aBv) [] ((cE (pL off len cap a) (pK xs s t) 101 [60] []).hint [true])) =
 some (.at .normal,[],[12<s.length,13<=s.length,x4 (Q.oA off cap a) s xs=Q.x4 (Q.oA off cap a) s xs,s.length=16,Q.oA off cap a+256<=xs.length,s=s,Q.oA off cap a=0+Q.oA off cap a,xs=xs/\t=t,s.length=16,256<=(len:Int).toNat-a.toNat,Q.sl len cap a,Q.go len a 256,Q.sa len a 256,
  off=off,len=len,cap=cap,IntKind.i64.wrap (a+256)=a',x4 (Q.oA off cap a) s xs=iF/\t=t,s.set 12 (IntKind.u32.wrap (s.getD 12 0+4))=s'/\(121:Nat)=(121:TypeId)]):=by kernel_rfl
theorem aSi (si:List Int->List Int->Int->List Int) (x4 tn:Nat->List Int->List Int->List Int) (on:List Int->List Int) (gJ xs iF s s':List Int) (t:TypeId) (off len cap:Nat) (a a':Int):gX 100 Tryz.f46.ntmps (bI 100 (sS gJ t)) [] (pL off len cap a') (pK iF s' t) 101 [60] [] (MO si x4 tn on gJ t (.go aBv) [] ((cE (pL off len cap a) (pK xs s t) 101 [60] []).hint [false])) =
 some (.at (.exit 0),[],[Q.no len a 256,Q.sa len a 256,off=off,len=len,cap=cap,a=a',xs=iF/\t=t,s=s'/\(121:Nat)=(121:TypeId)]):=by kernel_rfl
theorem aSh (si:List Int->List Int->Int->List Int) (x4 tn:Nat->List Int->List Int->List Int) (on:List Int->List Int) (gJ xs iF s s':List Int) (t:TypeId) (off len cap:Nat) (a a':Int):gX 100 Tryz.f46.ntmps (bI 100 (sS gJ t)) [] (pL off len cap a') (pK iF s' t) 101 [60] [] (MO si x4 tn on gJ t (.at (.exit 0)) mxK ((cE (pL off len cap a) (pK xs s t) 101 [60] []).hint [])) =
 some (.go (.loop aBw),PI,[off=off,len=len,cap=cap,a=a',xs=iF/\t=t,s=s'/\(121:Nat)=(121:TypeId)]):=by kernel_rfl
theorem aSg (si:List Int->List Int->Int->List Int) (x4 tn:Nat->List Int->List Int->List Int) (on:List Int->List Int) (gJ xs iF s s':List Int) (t:TypeId) (off len cap:Nat) (a a':Int):gX 100 Tryz.f46.ntmps (bI 100 (sS gJ t)) [] (pL off len cap a') (pK iF s' t) 101 [60] [] (MO si x4 tn on gJ t (.go aBw) [] ((cE (pL off len cap a) (pK xs s t) 101 [60] []).hint [true])) =
 some (.at .normal,[],[12<s.length,13<=s.length,tn (Q.oA off cap a) (on s) xs=Q.tn (Q.oA off cap a) (on s) xs,(on s).length=64,Q.oA off cap a+64<=xs.length,Q.oA off cap a=0+Q.oA off cap a,on s=on s,xs=xs/\t=t,on s=Q.one s,s.length=16,s=s,s.length=16,64<=(len:Int).toNat-a.toNat,Q.sl len cap a,Q.go len a 64,Q.sa len a 64,
  off=off,len=len,cap=cap,IntKind.i64.wrap (a+64)=a',tn (Q.oA off cap a) (on s) xs=iF/\t=t,s.set 12 (IntKind.u32.wrap (s.getD 12 0+1))=s'/\(121:Nat)=(121:TypeId)]):=by kernel_rfl
theorem aSf (si:List Int->List Int->Int->List Int) (x4 tn:Nat->List Int->List Int->List Int) (on:List Int->List Int) (gJ xs iF s s':List Int) (t:TypeId) (off len cap:Nat) (a a':Int):gX 100 Tryz.f46.ntmps (bI 100 (sS gJ t)) [] (pL off len cap a') (pK iF s' t) 101 [60] [] (MO si x4 tn on gJ t (.go aBw) [] ((cE (pL off len cap a) (pK xs s t) 101 [60] []).hint [false])) =
 some (.at (.exit 2),[],[Q.no len a 64,Q.sa len a 64,off=off,len=len,cap=cap,a=a',xs=iF/\t=t,s=s'/\(121:Nat)=(121:TypeId)]):=by kernel_rfl
theorem aSe (si:List Int->List Int->Int->List Int) (x4 tn:Nat->List Int->List Int->List Int) (on:List Int->List Int) (gJ xs s:List Int) (t:TypeId) (off len cap:Nat) (a:Int):xU (Nc si x4 tn on) (sS gJ t) 100 100 Tryz.f46 [] (MO si x4 tn on gJ t (.at (.exit 2)) PI ((cE (pL off len cap a) (pK xs s t) 101 [60] []).hint [false])) =
 some { bO:=[decide (IntKind.i64.wrap ((len:Int)-a)>0)=false,decide (IntKind.i64.wrap ((len:Int)-a)>0)=decide (IntKind.i64.wrap ((len:Int)-a)>0)],val:=.eH [],wr:=[(60,.ints .u8 xs t)] }:=by kernel_rfl
def Q.lt (tn:Nat->List Int->List Int->List Int) (b p:List Int):List Int:=((tn 0 b (ld (qd p))).drop 0).take 64
def Q.mv (o m:Nat) (xs y:List Int):List Int:=xs.take o++y.take (Nat.min y.length m)++xs.drop (o+Nat.min y.length m)
theorem aSd (si:List Int->List Int->Int->List Int) (x4 tn:Nat->List Int->List Int->List Int) (on:List Int->List Int) (gJ xs s:List Int) (t:TypeId) (off len cap:Nat) (a:Int):xU (Nc si x4 tn on) (sS gJ t) 100 100 Tryz.f46 [] (MO si x4 tn on gJ t (.at (.exit 2)) PI ((cE (pL off len cap a) (pK xs s t) 101 [60] []).hint [true])) =
 some { bO:=[Q.oA off cap a+Nat.min (Q.lt tn (on s) (Q.pd off len cap a xs)).length ((len:Int).toNat-a.toNat)<=xs.length,64<=(tn 0 (on s) (Q.ld (Q.qd (Q.pd off len cap a xs)))).length,tn 0 (on s) (Q.ld (Q.qd (Q.pd off len cap a xs)))=Q.tn 0 (on s) (Q.ld (Q.qd (Q.pd off len cap a xs))),(on s).length=64,0+64<=(Q.ld (Q.qd (Q.pd off len cap a xs))).length,0=0,on s=on s,Q.ld (Q.qd (Q.pd off len cap a xs))=Q.ld (Q.qd (Q.pd off len cap a xs))/\(105:Nat)=(105:TypeId),on s=Q.one s,s.length=16,s=s,s.length=16,(0:Nat)<=0/\0+(Q.qd (Q.pd off len cap a xs)).length<=64,Q.oA off cap a+((len:Int).toNat-a.toNat)<=xs.length,Q.sl len cap a,decide (IntKind.i64.wrap ((len:Int)-a)>0)=true,decide (IntKind.i64.wrap ((len:Int)-a)>0)=decide (IntKind.i64.wrap ((len:Int)-a)>0)],val:=.eH [],wr:=[(60,.ints .u8 (Q.mv (Q.oA off cap a) ((len:Int).toNat-a.toNat) xs (Q.lt tn (on s) (Q.pd off len cap a xs))) t)] }:=by kernel_rfl
namespace Q
theorem QP (a b:Int):IntKind.u32.wrap (IntKind.u32.wrap a+b)=IntKind.u32.wrap (a+b):=by simp only [IntKind.wrap_u32];omega
def S (key aC:List Int) (c:Int) (j:Nat):List Int:=B.init key aC (IntKind.u32.wrap (c+(j:Int)))
theorem iC (key aC:List Int) (c:Int) (j:Nat):(S key aC c j).length=16:=rfl
theorem aWi (key aC:List Int) (c:Int) (j:Nat):(S key aC c j).getD 12 0=IntKind.u32.wrap (c+(j:Int)):=rfl
theorem aPz (key aC:List Int) (c d:Int) (j:Nat):(S key aC c j).set 12 d=B.init key aC d:=rfl
theorem Pp (key aC:List Int) (c:Int) (j k:Nat):(S key aC c j).set 12 (IntKind.u32.wrap ((S key aC c j).getD 12 0+(k:Int)))=S key aC c (j+k):=by
 rw [aWi,aPz,QP]
 unfold S
 congr 2
 omega
theorem S_0 (key aC:List Int) {c:Int} (hc:0<=c/\c<=4294967295):S key aC c 0=B.init key aC c:=by
 unfold S
 rw [show c+((0:Nat):Int)=c by omega,IntWalk.u32_in c hc]
theorem aNf (key aC:List Int) (c:Int) (j:Nat):one (S key aC c j)=B.block key aC (IntKind.u32.wrap (c+(j:Int))):=rfl
theorem Bv (s:List Int):(one s).length=64:=by simp [one,B.out]
theorem Oe (key aC:List Int) (c:Int) (j:Nat) {m:Nat} (hm:m<64):(one (S key aC c j)).getD m 0=Iu key aC c (64*j+m):=by
 rw [aNf]
 unfold Iu
 rw [show (64*j+m)/64=j by omega,show (64*j+m)%64=m by omega]
theorem WT (key aC:List Int) (c:Int) (j:Nat) {m:Nat} (_:m<256):iM (S key aC c j) m=Iu key aC c (64*j+m):=by
 have e:st4 (S key aC c j) (m/64)=S key aC c (j+m/64):=Pp key aC c j (m/64)
 unfold iM
 rw [e]
 show (one (S key aC c (j+m/64))).getD (m%64) 0=_
 rw [Oe _ _ _ _ (by omega)]
 congr 1
 omega
theorem pX (off n:Nat) (f:Nat->Int) (xs:List Int) {m:Nat} (h:m<xs.length):(rA off n f xs).getD m 0=if off<=m/\m<off+n then hY .u8 (xs.getD m 0) (f (m-off)) else xs.getD m 0:=by
 simp [rA,gU,h]
theorem Ry {n:Nat} {a b:List Int} (ha:a.length=n) (hb:b.length=n) (h:∀ i,i<n->a.getD i 0=b.getD i 0):a=b:=by
 apply List.ext_getElem (by omega)
 intro i h1 h2
 have:=h i (by omega)
 rw [gU,gU,List.getElem?_eq_getElem h1,List.getElem?_eq_getElem h2] at this
 simpa using this
theorem wE {off n k:Nat} {f g:Nat->Int} {xs:List Int} (h:∀ m,m<k->g m=f (n+m)):rA (off+n) k g (rA off n f xs)=rA off (n+k) f xs:=by
 refine Ry (n:=xs.length) (by rw [gB,gB]) (by rw [gB]) fun i hi=>?_
 rw [pX _ _ _ _ (by rw [gB];exact hi),pX _ _ _ _ hi,pX _ _ _ _ hi]
 by_cases h1:off<=i/\i<off+n
 .rw [if_neg (by omega),if_pos h1,if_pos (by omega)]
 .rw [if_neg h1]
  by_cases h2:off+n<=i/\i<off+n+k
  .rw [if_pos h2,if_pos (by omega),h _ (by omega)]
   congr 2;omega
  .rw [if_neg h2,if_neg (by omega)]
theorem aLv {key aC:List Int} {c:Int} {off j:Nat} {xs:List Int}:x4 (off+64*j) (S key aC c j) (cF key aC c off (64*j) xs)=cF key aC c off (64*(j+4)) xs:=by
 rw [tK,tK,show 64*(j+4)=64*j+256 by omega]
 exact wE fun m hm=>WT key aC c j hm
theorem aLw {key aC:List Int} {c:Int} {off j:Nat} {xs:List Int}:tn (off+64*j) (one (S key aC c j)) (cF key aC c off (64*j) xs)=cF key aC c off (64*(j+1)) xs:=by
 rw [tK,tK,show 64*(j+1)=64*j+64 by omega]
 exact wE fun m hm=>Oe key aC c j hm
theorem CH (off:Nat) {cap a:Nat} (h:a<cap):oA off cap (a:Int)=off+a:=by
 unfold oA
 rw [if_neg (by omega)];omega
theorem wC (l r:List Int) {i:Nat} (h:i<l.length):(l++r).getD i 0=l.getD i 0:=by simp [gU,List.getElem?_append_left h]
theorem Pm (l r:List Int) {i:Nat} (h:l.length<=i):(l++r).getD i 0=r.getD (i-l.length) 0:=by simp [gU,List.getElem?_append_right h]
theorem mC (l:List Int) (k i:Nat):(l.drop k).getD i 0=l.getD (k+i) 0:=by simp [gU,List.getElem?_drop]
theorem cW (l:List Int) {k i:Nat} (h:i<k):(l.take k).getD i 0=l.getD i 0:=by simp [gU,h]
theorem aNo {o r:Nat} {b xs:List Int} (hr:r<=64) (hx:o+r<=xs.length):mv o r xs (lt tn b ((xs.drop o).take r))=rA o r (b.getD · 0) xs:=by
 have hp:((xs.drop o).take r).length=r:=by rw [List.length_take,List.length_drop];omega
 have hq:qd ((xs.drop o).take r)=(xs.drop o).take r:=by
  unfold qd
  rw [hp]
  exact List.take_of_length_le (by rw [hp];exact Nat.le_min.2 ⟨dE _,hr⟩)
 have hl:(ld ((xs.drop o).take r)).length=64:=by
  unfold ld
  rw [List.take_zero,oB,List.length_append,List.length_drop,hp,List.length_replicate];omega
 have ht:(lt tn b ((xs.drop o).take r)).length=64:=by
  unfold lt
  rw [hq,List.drop_zero,List.length_take]
  unfold tn
  rw [gB,hl];rfl
 unfold mv
 rw [ht,show Nat.min 64 r=r from Nat.min_eq_right hr]
 have h1:(xs.take o).length=o:=by rw [List.length_take];omega
 have h2:((lt tn b ((xs.drop o).take r)).take r).length=r:=by rw [List.length_take,ht];omega
 refine Ry (n:=xs.length) (by simp only [List.length_append,h1,h2,List.length_drop];omega) (gB _ _ _ _) fun i hi=>?_
 rw [pX _ _ _ _ hi]
 by_cases hA:i<o
 .rw [if_neg (by omega),List.append_assoc,wC _ _ (by omega),cW _ hA]
 .by_cases hB:i<o+r
  .rw [if_pos (by omega),wC _ _ (by rw [List.length_append];omega),Pm _ _ (by omega),h1,cW _ (by omega)]
   unfold lt
   rw [hq,List.drop_zero,cW _ (by omega)]
   unfold tn
   rw [pX _ _ _ _ (by rw [hl];omega),if_pos (by omega),Nat.sub_zero]
   congr 1
   unfold ld
   rw [List.take_zero,oB,wC _ _ (by rw [hp];omega),cW _ (by omega),mC]
   congr 1;omega
  .rw [if_neg (by omega),Pm _ _ (by rw [List.length_append];omega),List.length_append,h1,h2,mC]
   congr 1;omega
end Q
theorem UM {key aC xs:List Int} {c:Int} {t:TypeId} {off len cap:Nat} (hk:key.length=32) (hn:aC.length=12) (hx:off+len<=xs.length) (hlc:len<=cap) (hl:len<=4611686018427387904) (hc:0<=c/\c<=4294967295) :
 aE Tryz.prog (Nc B.init Q.x4 Q.tn Q.one) 46 (PH key aC c off len cap) (sS xs t) 100 100 { val:=.eH [],wr:=[(60,.ints .u8 (cF key aC c off len xs) t)] }:=by
 have aV:=QL B.init Q.x4 Q.tn Q.one
 have aY:=QM B.init Q.x4 Q.tn Q.one
 refine iH aV aY Tryz.func46 (by kernel_rfl) rfl (kO (by kernel_rfl)) rfl [] ?_
 intro w0 M V0 Q' fA H
 have wi:∀ a:Nat,a<=len->IntKind.i64.wrap ((len:Int)-(a:Int))=((len-a:Nat):Int):=fun a ha=>by rw [IntWalk.i64_in _ (by omega)];omega
 have Fe:∀ n,(cF key aC c off n xs).length=xs.length:=fun n=>fN _ _ _ _ _ _
 refine G.gX aV aY mix fA [] (aSk B.init Q.x4 Q.tn Q.one key aC xs xs (Q.S key aC c 0) c t off len cap 0) (aA ?_) ?_
 .exact ⟨rfl,rfl,hk,hn,rfl,rfl,rfl,hn,hk,rfl,rfl,rfl,rfl,⟨rfl,rfl⟩,⟨(Q.S_0 key aC hc).symm,rfl⟩,trivial⟩
 refine G.loop (fun r s=>∃ i:Nat,256*i<=len/\r=len-256*i/\s=cE (pL off len cap ((256*i:Nat):Int)) (pK (cF key aC c off (64*(4*i)) xs) (Q.S key aC c (4*i)) t) 101 [60] []) (r0:=len) ⟨0,by omega,by omega,by rw [show 64*(4*0)=0 by omega,Bp];rfl⟩ ?_
 rintro r s ⟨i,hi,rfl,rfl⟩
 by_cases h:256<=len-256*i
 .have eo:Q.oA off cap ((256*i:Nat):Int)=off+64*(4*i):=by rw [Q.CH off (by omega)];omega
  refine G.pU aV aY mix fA [true] (aSj B.init Q.x4 Q.tn Q.one xs _ (cF key aC c off (64*(4*(i+1))) xs) (Q.S key aC c (4*i)) (Q.S key aC c (4*(i+1))) t off len cap ((256*i:Nat):Int) ((256*(i+1):Nat):Int)) (aA ?_) (len-256*(i+1)) (by omega) ⟨i+1,by omega,rfl,rfl⟩
  rw [eo]
  refine ⟨by rw [Q.iC];decide,by rw [Q.iC];decide,rfl,Q.iC _ _ _ _,by rw [Fe];omega,rfl,by omega,⟨rfl,rfl⟩,Q.iC _ _ _ _,by omega,by unfold Q.sl;omega,?_,rfl,rfl,rfl,rfl,?_,⟨?_,rfl⟩,⟨?_,rfl⟩,trivial⟩
  .unfold Q.go
   rw [wi _ hi];exact decide_eq_true (by omega)
  .rw [IntWalk.i64_in _ (by omega)];omega
  .rw [Q.aLv];rfl
  .exact Q.Pp key aC c (4*i) 4
 have Iv:∀ i,64*i<=len->¬ 64<=len-64*i->G Tryz.prog (Nc B.init Q.x4 Q.tn Q.one) w0 M (bI 100 (sS xs t)) Tryz.f46.ntmps 100 V0 (.at (.exit 2)) PI (cE (pL off len cap ((64*i:Nat):Int)) (pK (cF key aC c off (64*i) xs) (Q.S key aC c i) t) 101 [60] []) Q':=by
  intro i hi h
  by_cases hz:0<len-64*i
  .have eo:Q.oA off cap ((64*i:Nat):Int)=off+64*i:=Q.CH off (by omega)
   have e1:(len:Int).toNat-((64*i:Nat):Int).toNat=len-64*i:=by omega
   have hpd:Q.pd off len cap ((64*i:Nat):Int) (cF key aC c off (64*i) xs)=((cF key aC c off (64*i) xs).drop (off+64*i)).take (len-64*i):=by unfold Q.pd;rw [eo,e1]
   have Zp:(((cF key aC c off (64*i) xs).drop (off+64*i)).take (len-64*i)).length=len-64*i:=by rw [List.length_take,List.length_drop,Fe];omega
   have hql:(Q.qd (((cF key aC c off (64*i) xs).drop (off+64*i)).take (len-64*i))).length<=64:=by unfold Q.qd;rw [List.length_take];exact Nat.le_trans (Nat.min_le_left _ _) (Nat.min_le_right _ _)
   have hld:∀ q:List Int,q.length<=64->(Q.ld q).length=64:=fun q hq=>by
    unfold Q.ld
    rw [List.take_zero,oB,List.length_append,List.length_drop,List.length_replicate];omega
   have hB:=Q.Bv (Q.S key aC c i)
   refine G.tB (cl:=[]) aV aY mix [true] H (aSd B.init Q.x4 Q.tn Q.one xs _ (Q.S key aC c i) t off len cap ((64*i:Nat):Int)) (aA ?_) rfl rfl ?_
   .rw [eo,e1,hpd]
    refine ⟨?_,by rw [Q.tn,Q.gB,hld _ hql];decide,rfl,hB,by rw [hld _ hql];decide,rfl,rfl,⟨rfl,rfl⟩,rfl,Q.iC _ _ _ _,rfl,Q.iC _ _ _ _,⟨dE _,by omega⟩,by rw [Fe];omega,by unfold Q.sl;omega,?_,rfl,trivial⟩
    .rw [Fe]
     have:=Nat.min_le_right (Q.lt Q.tn (Q.one (Q.S key aC c i)) (((cF key aC c off (64*i) xs).drop (off+64*i)).take (len-64*i))).length (len-64*i)
     exact Nat.le_trans (Nat.add_le_add_left this _) (by omega)
    .rw [wi _ hi];exact decide_eq_true (by omega)
   .show [(60,SB.ints .u8 _ t)]=[(60,SB.ints .u8 _ t)]
    rw [eo,e1,hpd,Q.aNo (by omega) (by rw [Fe];omega),Q.tK,Q.wE fun m hm=>Q.Oe key aC c i (by omega),show 64*i+(len-64*i)=len by omega]
    rfl
  .refine G.tB (cl:=[]) aV aY mix [false] H (aSe B.init Q.x4 Q.tn Q.one xs _ (Q.S key aC c i) t off len cap ((64*i:Nat):Int)) (aA ⟨?_,rfl,trivial⟩) rfl rfl ?_
   .rw [wi _ hi];exact mZ (by omega)
   .rw [show 64*i=len by omega]
 refine G.gX aV aY mix fA [false] (aSi B.init Q.x4 Q.tn Q.one xs _ (cF key aC c off (64*(4*i)) xs) (Q.S key aC c (4*i)) (Q.S key aC c (4*i)) t off len cap ((256*i:Nat):Int) ((64*(4*i):Nat):Int)) (aA ?_) (G.leave (by simp) ?_)
 .refine ⟨?_,rfl,rfl,rfl,rfl,by omega,⟨rfl,rfl⟩,⟨rfl,rfl⟩,trivial⟩
  unfold Q.no
  rw [wi _ hi];exact mZ (by omega)
 have hi4:64*(4*i)<=len:=by omega
 clear h hi
 generalize 4*i=j0 at hi4
 refine G.gX aV aY mix fA [] (aSh B.init Q.x4 Q.tn Q.one xs _ (cF key aC c off (64*j0) xs) (Q.S key aC c j0) (Q.S key aC c j0) t off len cap ((64*j0:Nat):Int) ((64*j0:Nat):Int)) (aA ?_) ?_
 .exact ⟨rfl,rfl,rfl,rfl,⟨rfl,rfl⟩,⟨rfl,rfl⟩,trivial⟩
 refine G.loop (fun r s=>∃ j:Nat,64*j<=len/\r=len-64*j/\s=cE (pL off len cap ((64*j:Nat):Int)) (pK (cF key aC c off (64*j) xs) (Q.S key aC c j) t) 101 [60] []) (r0:=len-64*j0) ⟨j0,hi4,rfl,rfl⟩ ?_
 clear hi4
 rintro r s ⟨j,hj,rfl,rfl⟩
 by_cases h:64<=len-64*j
 .have eo:Q.oA off cap ((64*j:Nat):Int)=off+64*j:=Q.CH off (by omega)
  refine G.pU aV aY mix fA [true] (aSg B.init Q.x4 Q.tn Q.one xs _ (cF key aC c off (64*(j+1)) xs) (Q.S key aC c j) (Q.S key aC c (j+1)) t off len cap ((64*j:Nat):Int) ((64*(j+1):Nat):Int)) (aA ?_) (len-64*(j+1)) (by omega) ⟨j+1,by omega,rfl,rfl⟩
  rw [eo]
  refine ⟨by rw [Q.iC];decide,by rw [Q.iC];decide,rfl,Q.Bv _,by rw [Fe];omega,by omega,rfl,⟨rfl,rfl⟩,rfl,Q.iC _ _ _ _,rfl,Q.iC _ _ _ _,by omega,by unfold Q.sl;omega,?_,rfl,rfl,rfl,rfl,?_,⟨Q.aLw,rfl⟩,⟨Q.Pp key aC c j 1,rfl⟩,trivial⟩
  .unfold Q.go
   rw [wi _ hj];exact decide_eq_true (by omega)
  .rw [IntWalk.i64_in _ (by omega)];omega
 .refine G.gX aV aY mix fA [false] (aSf B.init Q.x4 Q.tn Q.one xs _ (cF key aC c off (64*j) xs) (Q.S key aC c j) (Q.S key aC c j) t off len cap ((64*j:Nat):Int) ((64*j:Nat):Int)) (aA ?_) (G.leave (by simp) (Iv j hj h))
  refine ⟨?_,rfl,rfl,rfl,rfl,rfl,⟨rfl,rfl⟩,⟨rfl,rfl⟩,trivial⟩
  unfold Q.no
  rw [wi _ hj];exact mZ (by omega)
def CN (vs:List SV) (T:bB):Option Canon:=match vs with
 | [.raw (.pointer none),ks,.int _ .u32 c,ns,.aH l _ off len cap]=>match cJ ks,cJ ns with
   | some (.u8,k),some (.u8,n)=>match T l with
     | some B=>match Dy B with
       | some (.u8,xs,ty)=>some { eR:=PH k n c off len cap,T0:=[(60,.ints .u8 xs ty)],vl:=[(60,.lab l 0)],e0:={ val:=.eH [],wr:=[(60,.ints .u8 (cF k n c off len xs) ty)] },conds:=[k.length=32,n.length=12,off+len<=xs.length,len<=cap,len<=4611686018427387904,0<=c/\c<=4294967295] }
       | _=>none
     | none=>none
   | _,_=>none
 | _=>none
theorem aFq (Γ:Env) (hg:Γ.aR=aB):aG Tryz.prog Γ 46 (aL aB 100 CN):=by
 refine aW hg fun vs T c hd hc=>?_
 unfold CN at hd
 split at hd
 case h_2=>cases hd
 split at hd
 case h_2=>cases hd
 split at hd
 case h_2=>cases hd
 split at hd
 case h_2=>cases hd
 cases hd
 exact (UM (hc _ (by simp)) (hc _ (by simp)) (hc _ (by simp)) (hc _ (by simp)) (hc _ (by simp)) (hc _ (by simp))).words (by rw [hg];rfl) (fun _=>rfl) (fun _ _ h=>h) (fun _=>rfl) rfl rfl
namespace P
def orT (a b:List Int):Nat->Int
 | 0=>0
 | j+1=>jU .u8 (orT a b j) (hY .u8 (a.getD j 0) (b.getD j 0))
def BJ (x:Int):Int:=bU .u64 (jU .u64 x (W (0-x))) 63
def Zw (a b:List Int):Int:=hY .u64 1 (BJ (W (orT a b 16)))
theorem bv8 (a:Nat) (h:a<256):(BitVec.ofInt 8 (a:Int)).toNat=a:=by
 rw [BitVec.ofInt_natCast,BitVec.toNat_ofNat];exact Nat.mod_eq_of_lt h
theorem or8 {a b:Nat} (ha:a<256) (hb:b<256):jU .u8 (a:Int) (b:Int)=((a ||| b:Nat):Int)/\a ||| b<256:=by
 have hl:a ||| b<2^8:=Nat.or_lt_two_pow (by omega) (by omega)
 refine ⟨?_,by omega⟩
 show (((BitVec.ofInt 8 (a:Int) ||| BitVec.ofInt 8 (b:Int)).toNat:Nat):Int)%256=_
 rw [BitVec.toNat_or,bv8 a ha,bv8 b hb]
 omega
theorem aQf {a b:Nat} (ha:a<256) (hb:b<256):hY .u8 (a:Int) (b:Int)=((a ^^^ b:Nat):Int)/\a ^^^ b<256:=by
 have hl:a ^^^ b<2^8:=Nat.xor_lt_two_pow (by omega) (by omega)
 refine ⟨?_,by omega⟩
 show (((BitVec.ofInt 8 (a:Int) ^^^ BitVec.ofInt 8 (b:Int)).toNat:Nat):Int)%256=_
 rw [BitVec.toNat_xor,bv8 a ha,bv8 b hb]
 omega
theorem aLp {x y:Nat}:x ^^^ y=0<->x=y:=by
 constructor
 .intro h
  have:x ^^^ y ^^^ y=0 ^^^ y:=by rw [h]
  rwa [Nat.xor_assoc,Nat.xor_self,Nat.xor_zero,Nat.zero_xor] at this
 .rintro rfl
  exact Nat.xor_self x
theorem EW {a b:List Int} (ha:bW a) (hb:bW b):∀ j,∃ n:Nat,orT a b j=(n:Int)/\n<256/\(n=0<->∀ i,i<j->a.getD i 0=b.getD i 0)
 | 0=>⟨0,rfl,by decide,⟨fun _ i hi=>absurd hi (Nat.not_lt_zero i),fun _=>rfl⟩⟩
 | j+1=>by
   obtain ⟨n,e,hn,hz⟩:=EW ha hb j
   obtain ⟨x,ex,hx⟩:=(ha.get j).nat
   obtain ⟨y,ey,hy⟩:=(hb.get j).nat
   obtain ⟨x1,x2⟩:=aQf hx hy
   obtain ⟨o1,o2⟩:=or8 hn x2
   refine ⟨n ||| (x ^^^ y),by rw [orT,e,ex,ey,x1,o1],o2,?_⟩
   rw [Nat.or_eq_zero_iff,hz,aLp]
   constructor
   .rintro ⟨h1,h2⟩ i hi
    by_cases hij:i<j
    .exact h1 i hij
    .have:i=j:=by omega
     subst this
     rw [ex,ey,h2]
   .intro h
    refine ⟨fun i hi=>h i (by omega),?_⟩
    have:=h j (by omega)
    rw [ex,ey] at this
    omega
theorem aMe {n:Nat} (h:n<256):hY .u64 1 (BJ (W (n:Int)))=if n=0 then 1 else 0:=by
 have key:∀ n:Fin 256,hY .u64 1 (BJ (W ((n.val:Nat):Int)))=if n.val=0 then 1 else 0:=by decide +kernel
 exact key ⟨n,h⟩
theorem aHw {a b:List Int} (ha:bW a) (hb:bW b) (la:a.length=16) (lb:b.length=16):Zw a b=if a=b then 1 else 0:=by
 obtain ⟨n,e,hn,hz⟩:=EW ha hb 16
 unfold Zw
 rw [e,aMe hn]
 by_cases h:a=b
 .rw [if_pos h,if_pos (hz.2 fun i _=>by rw [h])]
 .rw [if_neg h,if_neg fun q=>h (Q.Ry la lb (hz.1 q))]
end P
theorem aPh (a b:List Int):aK (env fR 4) Tryz.f89 true [] 1500 [.agg (cK .u8 16 a),.agg (cK .u8 16 b)] Ca 100 100=some { val:=.int false .u64 (P.Zw a b) }:=by kernel_rfl
theorem LK {a b:List Int} (la:a.length=16) (lb:b.length=16) (Γ:Env) (hg:Γ.aR=aB):aE Tryz.prog Γ 89 [.ai .u8 a,.ai .u8 b] Ca 100 100 { val:=.int false .u64 (P.Zw a b) }:=by
 have hs:aG Tryz.prog (env fR 4) 89 (aK (env fR 4) Tryz.f89 true [] 1500):=aN (bN fR 4) (mB 4) mix Tryz.func89 (by kernel_rfl) true [] 1500
 refine (hs.call (aPh a b) gD).words (by rw [hg];rfl) (fun V=>?_) (fun _ _ h=>h) (fun V=>rfl) rfl rfl
 simp only [aI,bE V la,bE V lb]
def DI (et:List Int->List Int->Int) (vs:List SV) (_:bB):Option Canon:=match vs with
 | [v,u]=>match cJ v,cJ u with
   | some (.u8,a),some (.u8,b)=>some { eR:=[.ai .u8 a,.ai .u8 b],T0:=[],vl:=[],e0:={ val:=.int false .u64 (et a b) },conds:=[et a b=P.Zw a b,a.length=16,b.length=16] }
   | _,_=>none
 | _=>none
theorem aHu (et:List Int->List Int->Int) (Γ:Env) (hg:Γ.aR=aB):aG Tryz.prog Γ 89 (aL aB 100 (DI et)):=by
 refine aW hg fun vs T c hd hc=>?_
 unfold DI at hd
 split at hd
 case h_2=>cases hd
 split at hd
 case h_2=>cases hd
 cases hd
 have e:=hc _ dB
 have h:=LK (hc _ (eM _ dB)) (hc _ (eM _ (eM _ dB))) Γ hg
 rw [<- e] at h
 exact h
noncomputable def QD (mc:List Int->List Int->List Int) (et:List Int->List Int->Int):Nat->Option Sum:=dM (dM (dM fR 80 (aL aB 100 rZ)) 48 (aL aB 100 (Rv mc))) 89 (aL aB 100 (DI et))
theorem XM (mc:List Int->List Int->List Int) (et:List Int->List Int->Int):∀ f S,QD mc et f=some S->∀ Γ:Env,Γ.aR=aB->aG Tryz.prog Γ f S:=bF (bF (bF gH 80 _ As) 48 _ (FA mc)) 89 _ (aHu et)
def ckO (mc:List Int->List Int->List Int) (et:List Int->List Int->Int) (key t D:List Int) (d:Nat->List Int):List Prop:=
 let T:=mc key D
 [(et T t==1)=(et T t==1),et T t=P.Zw T t,T.length=16,t.length=16,T=T,t=t,t.length=16,T=M.tag key D,key.length=32,bW key,bW D,D.length<=1073741824,D.length%16=0,key=key,
  (d 1).length=(d 1).length,(d 1).length=(d 1).length,(d 2).length=(d 2).length,(d 2).length=(d 2).length,(d 3).length=(d 3).length,(d 3).length=(d 3).length,(d 4).length=(d 4).length,(d 4).length=(d 4).length,(d 5).length=(d 5).length,(d 5).length=(d 5).length,
  d 1=d 1,d 2=d 2,d 3=d 3,d 4=d 4,d 5=d 5,key.length=32]
theorem aVt (mc:List Int->List Int->List Int) (et:List Int->List Int->Int) (key t:List Int) (d:Nat->List Int):aK (env (QD mc et) 4) Tryz.f50 true [] 1500 [.raw (.pointer none),.ai .u8 key,.ai .u8 t,.aH 62 true 0 5 5] (xI d) 100 100 =
 some { val:=.bool false (et (mc key (M.cat d)) t==1),bO:=ckO mc et key t (M.cat d) d }:=by kernel_rfl
theorem YE {key t:List Int} {d:Nat->List Int} (hk:key.length=32) (hb:bW key) (ht:t.length=16) (htb:bW t) (hd:bW (M.cat d)) (hl:(M.cat d).length<=1073741824) (sQ:(M.cat d).length%16=0) (Γ:Env) (hg:Γ.aR=aB) :
 aE Tryz.prog Γ 50 [.raw (.pointer none),.ai .u8 key,.ai .u8 t,.aH 62 true 0 5 5] (xI d) 100 100 { val:=.bool false (decide (M.tag key (M.cat d)=t)) }:=by
 have hs:aG Tryz.prog (env (QD M.tag P.Zw) 4) 50 (aK (env (QD M.tag P.Zw) 4) Tryz.f50 true [] 1500):=aN (bN _ 4) (bT _ (XM _ _) 4) mix Tryz.func50 (by kernel_rfl) true [] 1500
 have hT:=M.mX key (M.cat d)
 have hTB:bW (M.tag key (M.cat d)):=fun x hx=>by
  simp only [M.tag,M.Vg,List.mem_map] at hx
  obtain ⟨m,_,rfl⟩:=hx
  rw [IntKind.wrap_u8]
  exact ⟨Int.emod_nonneg _ (by decide),Int.emod_lt_of_pos _ (by decide)⟩
 have h:=hs.call (aVt M.tag P.Zw key t d) (aA (show _/\_/\_/\_/\_/\_/\_/\_/\_/\_/\_/\_/\_/\_/\_/\_/\_/\_/\_/\_/\_/\_/\_/\_/\_/\_/\_/\_/\_/\_/\True from
  ⟨rfl,rfl,hT,ht,rfl,rfl,ht,rfl,hk,hb,hd,hl,sQ,rfl,rfl,rfl,rfl,rfl,rfl,rfl,rfl,rfl,rfl,rfl,rfl,rfl,rfl,rfl,rfl,hk,trivial⟩))
 refine h.words (by rw [hg];rfl) (fun V=>rfl) (fun _ _ h=>h) (fun V=>?_) rfl rfl
 have e:(P.Zw (M.tag key (M.cat d)) t==1)=decide (M.tag key (M.cat d)=t):=by
  rw [P.aHw hTB htb hT ht]
  by_cases q:M.tag key (M.cat d)=t
  .rw [if_pos q,decide_eq_true q];rfl
  .rw [if_neg q,mZ q];rfl
 show den V (.bool false (P.Zw (M.tag key (M.cat d)) t==1))=_
 rw [e]
def DY (vs:List SV) (T:bB):Option Canon:=match vs with
 | [.raw (.pointer none),ks,ts,.aH L _ 0 5 5]=>match cJ ks,cJ ts,(T L).bind roL with
   | some (.u8,k),some (.u8,t),some [p1,p2,p3,p4,p5]=>match dU T .u8 p1,dU T .u8 p2,dU T .u8 p3,dU T .u8 p4,dU T .u8 p5 with
     | some (o1,x1),some (o2,x2),some (o3,x3),some (o4,x4),some (o5,x5)=>some { eR:=[.raw (.pointer none),.ai .u8 k,.ai .u8 t,.aH 62 true 0 5 5],T0:=sgB (yW x1 x2 x3 x4 x5),vl:=[(62,.lab L 0),(71,.cell L 0),(72,.cell L 1),(73,.cell L 2),(74,.cell L 3),(75,.cell L 4)],e0:={ val:=.bool false (decide (M.tag k (x1++(x2++(x3++(x4++x5))))=t)) },conds:=(k.length=32)::bW k::(t.length=16)::bW t::bW (x1++(x2++(x3++(x4++x5))))::((x1++(x2++(x3++(x4++x5)))).length<=1073741824)::((x1++(x2++(x3++(x4++x5)))).length%16=0)::(o1++(o2++(o3++(o4++o5)))) }
     | _,_,_,_,_=>none
   | _,_,_=>none
 | _=>none
theorem aIw (Γ:Env) (hg:Γ.aR=aB):aG Tryz.prog Γ 50 (aL aB 100 DY):=by
 refine aW hg fun vs T c hd hc=>?_
 unfold DY at hd
 split at hd
 case h_2=>cases hd
 split at hd
 case h_2=>cases hd
 split at hd
 case h_2=>cases hd
 cases hd
 rename_i o1 x1 o2 x2 o3 x3 o4 x4 o5 x5 _ _ _ _ _
 exact YE (d:=yW x1 x2 x3 x4 x5) (hc _ dB) (hc _ (eM _ dB)) (hc _ (eM _ (eM _ dB))) (hc _ (eM _ (eM _ (eM _ dB)))) (hc _ (eM _ (eM _ (eM _ (eM _ dB))))) (hc _ (eM _ (eM _ (eM _ (eM _ (eM _ dB)))))) (hc _ (eM _ (eM _ (eM _ (eM _ (eM _ (eM _ dB))))))) Γ hg
namespace M
def aC (N:Int):List Int:=[0,0,0,0,IntKind.u8.wrap (bU IntKind.u64 N 0),IntKind.u8.wrap (bU IntKind.u64 N 8),IntKind.u8.wrap (bU IntKind.u64 N 16),IntKind.u8.wrap (bU IntKind.u64 N 24),IntKind.u8.wrap (bU IntKind.u64 N 32),IntKind.u8.wrap (bU IntKind.u64 N 40),IntKind.u8.wrap (bU IntKind.u64 N 48),IntKind.u8.wrap (bU IntKind.u64 N 56)]
def once (key:List Int) (N:Int):List Int:=cF key (aC N) 0 0 32 (List.replicate 32 0)
def le (N:Int) (j:Nat):Int:=IntKind.u8.wrap (bU IntKind.u64 N ((8*j:Nat):Int))
def zJ (n:Int):Int:=(IntKind.i64.wrap (16-n.tmod 16)).tmod 16
def pD (n:Int):Nat:=(zJ n).toNat
def Dw (a n:Int):List Int:=[le (IntKind.u64.wrap a) 0,le (IntKind.u64.wrap a) 1,le (IntKind.u64.wrap a) 2,le (IntKind.u64.wrap a) 3,le (IntKind.u64.wrap a) 4,le (IntKind.u64.wrap a) 5,le (IntKind.u64.wrap a) 6,le (IntKind.u64.wrap a) 7,le (IntKind.u64.wrap n) 0,le (IntKind.u64.wrap n) 1,le (IntKind.u64.wrap n) 2,le (IntKind.u64.wrap n) 3,le (IntKind.u64.wrap n) 4,le (IntKind.u64.wrap n) 5,le (IntKind.u64.wrap n) 6,le (IntKind.u64.wrap n) 7]
def PC (n:Int):List Int:=List.take (pD n) (List.drop 0 (List.replicate (pD n) 0))
def NH (ad:List Int) (la:Nat) (c:List Int) (n:Nat):List Int:=ad++(PC la++(c++(PC n++List.take 16 (List.drop 0 (Dw la n)))))
theorem mY (key:List Int) (N:Int):(once key N).length=32:=by unfold once;rw [fN];rfl
end M
theorem aSb (N:Int):aK (env fR 22) Tryz.f29 true [] 400 [.int false .u64 N] (fun l=>look l []) 100 100=some { val:=.agg [.int true .u8 0,.int true .u8 0,.int true .u8 0,.int true .u8 0,.int false .u8 (IntKind.u8.wrap (bU IntKind.u64 N 0)),.int false .u8 (IntKind.u8.wrap (bU IntKind.u64 N 8)),.int false .u8 (IntKind.u8.wrap (bU IntKind.u64 N 16)),.int false .u8 (IntKind.u8.wrap (bU IntKind.u64 N 24)),.int false .u8 (IntKind.u8.wrap (bU IntKind.u64 N 32)),.int false .u8 (IntKind.u8.wrap (bU IntKind.u64 N 40)),.int false .u8 (IntKind.u8.wrap (bU IntKind.u64 N 48)),.int false .u8 (IntKind.u8.wrap (bU IntKind.u64 N 56))] }:=by kernel_rfl
theorem Hf:∀ f S,fR f=some S->∀ Γ:Env,Γ.aR=aB->aG Tryz.prog Γ f S:=fun f S h Γ _=>sC f S h Γ
theorem UI (N:Int):aE Tryz.prog (env fR 22) 29 [.int false .u64 N] (fun l=>look l []) 100 100 { val:=.ai .u8 (M.aC N) }:=
 ((aN (bN fR 22) (bT fR Hf 22) mix Tryz.func29 (by kernel_rfl) true [] 400:aG Tryz.prog (env fR 22) 29 _).call (aSb N) (by simp)).re rfl (fun _=>rfl) trivial trivial
def CM (vs:List SV) (_:bB):Option Canon:=match vs with
 | [.int _ .u64 N]=>some { eR:=[.int false .u64 N],T0:=[],vl:=[],e0:={ val:=.ai .u8 (M.aC N) } }
 | _=>none
theorem aNl (Γ:Env) (hg:Γ.aR=aB):aG Tryz.prog Γ 29 (aL aB 100 CM):=by
 refine aW hg fun vs T c hd hc=>?_
 unfold CM at hd
 split at hd
 case h_2=>cases hd
 cases hd
 exact (UI _).words (by rw [hg];rfl) (fun _=>rfl) (fun _ _ h=>h) (fun _=>rfl) rfl rfl
theorem aSu (N:Int):aK (env fR 22) Tryz.f54 true [] 400 [.int false .u64 N] (fun l=>look l []) 100 100=some { val:=.aH 100 true 0 8 8,new:=[.own [.int false .u8 (M.le N 0),.int false .u8 (M.le N 1),.int false .u8 (M.le N 2),.int false .u8 (M.le N 3),.int false .u8 (M.le N 4),.int false .u8 (M.le N 5),.int false .u8 (M.le N 6),.int false .u8 (M.le N 7)] 5] }:=by kernel_rfl
theorem UT (N:Int):aE Tryz.prog (env fR 22) 54 [.int false .u64 N] (fun l=>look l []) 100 100 { val:=.aH 100 true 0 8 8,new:=[.own [.int false .u8 (M.le N 0),.int false .u8 (M.le N 1),.int false .u8 (M.le N 2),.int false .u8 (M.le N 3),.int false .u8 (M.le N 4),.int false .u8 (M.le N 5),.int false .u8 (M.le N 6),.int false .u8 (M.le N 7)] 5] }:=
 (aN (bN fR 22) (bT fR Hf 22) mix Tryz.func54 (by kernel_rfl) true [] 400:aG Tryz.prog (env fR 22) 54 _).call (aSu N) (by simp)
def CR (vs:List SV) (_:bB):Option Canon:=match vs with
 | [.int _ .u64 N]=>some { eR:=[.int false .u64 N],T0:=[],vl:=[],e0:={ val:=.aH 100 true 0 8 8,new:=[.own [.int false .u8 (M.le N 0),.int false .u8 (M.le N 1),.int false .u8 (M.le N 2),.int false .u8 (M.le N 3),.int false .u8 (M.le N 4),.int false .u8 (M.le N 5),.int false .u8 (M.le N 6),.int false .u8 (M.le N 7)] 5] } }
 | _=>none
theorem aNw (Γ:Env) (hg:Γ.aR=aB):aG Tryz.prog Γ 54 (aL aB 100 CR):=by
 refine aW hg fun vs T c hd hc=>?_
 unfold CR at hd
 split at hd
 case h_2=>cases hd
 cases hd
 exact (UT _).words (by rw [hg];rfl) (fun _=>rfl) (fun _ _ h=>h) (fun _=>rfl) rfl rfl
theorem aUw (n:Int):aK (env fR 22) Tryz.f55 true [] 400 [.int false .i64 n] (fun l=>look l []) 100 100=some { bO:=[0<=M.zJ n/\M.zJ n<=M.zJ n/\1*M.zJ n<=281474976710656/\M.zJ n<9223372036854775808],val:=.aH 100 false 0 (M.pD n) (M.pD n),new:=[.ints .u8 (List.replicate (M.pD n) 0) 5] }:=by kernel_rfl
theorem M.Tj (n:Int) (h:0<=n/\n<=1073741824):M.zJ n=(16-n%16)%16/\0<=M.zJ n/\M.zJ n<16:=by
 have e:M.zJ n=(16-n%16)%16:=by
  unfold M.zJ
  rw [Int.tmod_eq_emod_of_nonneg h.1,IntWalk.i64_in _ ⟨by omega,by omega⟩,Int.tmod_eq_emod_of_nonneg (by omega)]
 rw [e];omega
theorem WX {n:Int} (h:0<=n/\n<=1073741824):aE Tryz.prog (env fR 22) 55 [.int false .i64 n] (fun l=>look l []) 100 100 { val:=.aH 100 false 0 (M.pD n) (M.pD n),new:=[.ints .u8 (List.replicate (M.pD n) 0) 5] }:=
 ((aN (bN fR 22) (bT fR Hf 22) mix Tryz.func55 (by kernel_rfl) true [] 400:aG Tryz.prog (env fR 22) 55 _).call (aUw n) (aA ⟨by have:=M.Tj n h;omega,trivial⟩)).re rfl (fun _=>rfl) ⟨rfl,trivial⟩ trivial
def DF (vs:List SV) (_:bB):Option Canon:=match vs with
 | [.int _ .i64 n]=>some { eR:=[.int false .i64 n],T0:=[],vl:=[],e0:={ val:=.aH 100 false 0 (M.pD n) (M.pD n),new:=[.ints .u8 (List.replicate (M.pD n) 0) 5] },conds:=[0<=n/\n<=1073741824] }
 | _=>none
theorem aPc (Γ:Env) (hg:Γ.aR=aB):aG Tryz.prog Γ 55 (aL aB 100 DF):=by
 refine aW hg fun vs T c hd hc=>?_
 unfold DF at hd
 split at hd
 case h_2=>cases hd
 cases hd
 exact (WX (hc _ (by simp))).words (by rw [hg];rfl) (fun _=>rfl) (fun _ _ h=>h) (fun _=>rfl) rfl rfl
theorem Um (x:Int):Bt (IntKind.u8.wrap x):=by
 rw [IntKind.wrap_u8]
 exact ⟨Int.emod_nonneg _ (by decide),Int.emod_lt_of_pos _ (by decide)⟩
theorem GA (x y:Int):Bt (hY .u8 x y):=Um _
namespace Q
def cx (key:List Int) (N:Int) (xs:List Int):List Int:=cF key (M.aC N) 1 0 xs.length xs
def tg (key:List Int) (N:Int) (ad c:List Int):List Int:=M.tag (M.once key N) (M.NH ad ad.length c c.length)
def dL (key:List Int) (N:Int) (ad bs:List Int) (n:Nat):List Int:=cx key N (bs.take n)++(tg key N ad (cx key N (bs.take n))++bs.drop (n+16))
def tE (key:List Int) (N:Int) (bs:List Int) (m:Nat):List Int:=cx key N (bs.take m)++bs.drop m
theorem Ez (key:List Int) (N:Int) (xs:List Int):(cx key N xs).length=xs.length:=fN _ _ _ _ _ _
theorem Ef (key:List Int) (N:Int) (ad c:List Int):(tg key N ad c).length=16:=by simp [tg,M.tag,M.Vg]
theorem We {key aC:List Int} {c:Int} {n:Nat} {xs:List Int} (h:n<=xs.length):cF key aC c 0 n xs=cF key aC c 0 n (xs.take n)++xs.drop n:=by
 have hl:(cF key aC c 0 n (xs.take n)).length=n:=by rw [fN,List.length_take];omega
 refine Ry (n:=xs.length) (fN _ _ _ _ _ _) (by rw [List.length_append,hl,List.length_drop];omega) fun i hi=>?_
 rw [wD _ _ _ _ _ _ hi]
 by_cases h1:i<n
 .rw [if_pos (by omega),wC _ _ (by omega),wD _ _ _ _ _ _ (by rw [List.length_take];omega),if_pos (by omega),cW _ h1]
 .rw [if_neg (by omega),Pm _ _ (by omega),hl,mC]
  congr 1;omega
theorem GL {key:List Int} {N:Int} {n:Nat} {xs:List Int} (h:n<=xs.length):cF key (M.aC N) 1 0 n xs=tE key N xs n:=by
 unfold tE cx
 rw [We h]
 have:(xs.take n).length=n:=by rw [List.length_take];omega
 rw [this]
theorem aIt (key:List Int) (N:Int) {xs:List Int} (h:bW xs):bW (cx key N xs):=by
 intro x hx
 simp only [cx,cF,List.mem_map] at hx
 obtain ⟨m,_,rfl⟩:=hx
 split
 .exact GA _ _
 .exact h.get _
theorem yN {a b:List Int} (ha:bW a) (hb:bW b):bW (a++b):=fun x hx=>(List.mem_append.1 hx).elim (ha x) (hb x)
theorem Lx {a:List Int} (n:Nat) (ha:bW a):bW (a.take n):=fun x hx=>ha x (List.mem_of_mem_take hx)
theorem uL (n:Nat):bW (List.replicate n (0:Int)):=fun x hx=>by rw [(List.mem_replicate.1 hx).2];exact ⟨by decide,by decide⟩
theorem HE (key:List Int) (N:Int):bW (M.once key N):=by
 intro x hx
 simp only [M.once,cF,List.mem_map] at hx
 obtain ⟨m,_,rfl⟩:=hx
 split
 .exact GA _ _
 .exact (uL 32).get _
theorem Ti {n:Nat} (h:n<=1073741824):M.pD (n:Int)=(16-n%16)%16:=by
 obtain ⟨e,h0,h1⟩:=M.Tj (n:Int) ⟨by omega,by omega⟩
 unfold M.pD;rw [e];omega
theorem Tg (n:Int):M.PC n=List.replicate (M.pD n) 0:=by
 unfold M.PC
 rw [List.drop_zero,List.take_of_length_le (by simp)]
theorem Wr (a n:Int):bW (M.Dw a n):=by
 intro x hx
 simp only [M.Dw,List.mem_cons,List.not_mem_nil,or_false] at hx
 rcases hx with rfl | rfl | rfl | rfl | rfl | rfl | rfl | rfl | rfl | rfl | rfl | rfl | rfl | rfl | rfl | rfl <;> exact Um _
theorem aGv (ad:List Int) (la:Nat) (c:List Int) (n:Nat):M.NH ad la c n=ad++(List.replicate (M.pD la) 0++(c++(List.replicate (M.pD n) 0++M.Dw la n))):=by
 unfold M.NH
 rw [Tg,Tg]
 rfl
theorem aGu {ad c:List Int} {la n:Nat} (ha:bW ad) (hc:bW c) (hla:ad.length=la) (hn:c.length=n) (aWs:la<=500000000) (Mm:n<=500000000) :
 bW (M.NH ad la c n)/\(M.NH ad la c n).length<=1073741824/\(M.NH ad la c n).length%16=0:=by
 have sQ:(M.Dw (la:Int) (n:Int)).length=16:=rfl
 have p1:=Ti (n:=la) (by omega)
 have p2:=Ti (n:=n) (by omega)
 rw [aGv]
 refine ⟨yN ha (yN (uL _) (yN hc (yN (uL _) (Wr _ _)))),?_,?_⟩
 .simp only [List.length_append,List.length_replicate,sQ,hla,hn];omega
 .simp only [List.length_append,List.length_replicate,sQ,hla,hn];omega
end Q
def oG:Nat->List SV
 | 0=>[.int true .i64 0,.raw .nilFunc,.raw .nilFunc,.raw .nilFunc,.raw .nilFunc,.raw .nilFunc,.raw .nilFunc]
 | 1=>[.int true .i64 1,.fn (.func 41) [] [.ptr 50 true 0],.fn (.func 43) [] [.ptr 50 true 0],.fn (.func 45) [] [.ptr 50 true 0],.fn (.func 47) [] [.ptr 50 true 0],.fn (.func 49) [] [.ptr 50 true 0],.fn (.func 51) [] [.ptr 50 true 0]]
 | _=>[.int true .i64 2,.fn (.func 35) [] [],.fn (.func 36) [] [],.fn (.func 37) [] [],.fn (.func 38) [] [],.fn (.func 39) [] [],.fn (.func 40) [] []]
def Vy:Nat->List (Nat × SB)
 | 1=>[(50,.fO [.raw (.pointer none)])]
 | _=>[]
def Ae:SV->Option (Nat × List (Nat × Fz))
 | .agg (.int true .i64 0::_)=>some (0,[])
 | .agg (.int true .i64 1 :: .fn _ _ [.ptr L _ _]::_)=>some (1,[(50,.lab L 0)])
 | .agg (.int true .i64 2::_)=>some (2,[])
 | _=>none
noncomputable def exE:Nat->Option Sum:=dM (dM fR 37 aJi) 46 (aL aB 100 CN)
noncomputable def Fw (mc:List Int->List Int->List Int):Nat->Option Sum:=dM (dM (dM fR 38 (aL aB 100 BS)) 48 (aL aB 100 (Rv mc))) 50 (aL aB 100 DY)
def OW (e:Nat) (key aC:List Int) (c:Int) (off len cap:Nat):List SV:=[.agg (oG e),.ai .u8 key,.int false .u32 c,.ai .u8 aC,.aH 60 false off len cap]
def stL (e:Nat) (xs:List Int) (t:TypeId):List (Nat × SB):=(60,.ints .u8 xs t)::(Vy e++Fm)
def YS (e:Nat) (d:Nat->List Int):List (Nat × SB):=Vy e++sgB d
def dY (e:Nat):Prop:=e=0\/e=1\/e=2
def stO (key aC xs:List Int) (c:Int) (t:TypeId) (off len cap:Nat) (m r:List Prop):List Prop:=
 (key.length=32)::(aC.length=12)::(off+len<=xs.length)::(m++(len<=4611686018427387904)::(0<=c/\c<=4294967295)::(key=key)::(c=c)::(aC=aC)::(off=0+off)::(len=len)::(cap=cap)::(xs=xs/\t=t)::(aC.length=12)::(key.length=32)::r)
def stE (key aC:List Int) (c:Int) (off len:Nat) (xs:List Int) (t:TypeId):bK:={ val:=.eH [],wr:=[(60,.ints .u8 (cF key aC c off len xs) t)] }
theorem ZS (e:Nat) (he:e=0\/e=2) (key aC xs:List Int) (c:Int) (t:TypeId) (off len cap:Nat):aK (env exE 22) Tryz.f28 true [] 400 (OW e key aC c off len cap) (fun l=>look l (stL e xs t)) 100 100=some { stE key aC c off len xs t with bO:=stO key aC xs c t off len cap [] [] }:=by rcases he with rfl | rfl <;> kernel_rfl
theorem aMd (key aC xs:List Int) (c:Int) (t:TypeId) (off len cap:Nat):aK (env exE 22) Tryz.f28 true [] 400 (OW 1 key aC c off len cap) (fun l=>look l (stL 1 xs t)) 100 100=some { stE key aC c off len xs t with bO:=stO key aC xs c t off len cap [len<=cap] [aC.length=12,key.length=32] }:=by kernel_rfl
theorem aHt:∀ f S,exE f=some S->∀ Γ:Env,Γ.aR=aB->aG Tryz.prog Γ f S:=bF (bF gH 37 _ aDh) 46 _ aFq
theorem GP {e:Nat} (he:dY e) {key aC xs:List Int} {c:Int} {t:TypeId} {off len cap:Nat} (hk:key.length=32) (hn:aC.length=12) (hx:off+len<=xs.length) (hlc:len<=cap) (hl:len<=4611686018427387904) (hc:0<=c/\c<=4294967295) (Γ:Env) (hg:Γ.aR=aB) :
 aE Tryz.prog Γ 28 (OW e key aC c off len cap) (fun l=>look l (stL e xs t)) 100 100 (stE key aC c off len xs t):=by
 have hs:aG Tryz.prog (env exE 22) 28 (aK (env exE 22) Tryz.f28 true [] 400):=aN (bN exE 22) (bT exE aHt 22) mix Tryz.func28 (by kernel_rfl) true [] 400
 have rM:∀ m r:List Prop,(∀ q∈m,q)->(∀ q∈r,q)->∀ q∈stO key aC xs c t off len cap m r,q:=fun m r hm hr=>
  aM hk (aM hn (aM hx (pS hm (aM hl (aM hc (aM rfl (aM rfl (aM rfl (aM (by omega) (aM rfl (aM rfl (aM ⟨rfl,rfl⟩ (aM hn (aM hk hr))))))))))))))
 rcases he with rfl | rfl | rfl
 .exact (hs.call (ZS 0 (.inl rfl) key aC xs c t off len cap) (rM _ _ gD gD)).words (by rw [hg];rfl) (fun _=>rfl) (fun _ _ h=>h) (fun _=>rfl) rfl rfl
 .exact (hs.call (aMd key aC xs c t off len cap) (rM _ _ (aM hlc gD) (aM hn (aM hk gD)))).words (by rw [hg];rfl) (fun _=>rfl) (fun _ _ h=>h) (fun _=>rfl) rfl rfl
 .exact (hs.call (ZS 2 (.inr rfl) key aC xs c t off len cap) (rM _ _ gD gD)).words (by rw [hg];rfl) (fun _=>rfl) (fun _ _ h=>h) (fun _=>rfl) rfl rfl
def Ke (d:Nat->List Int) (r:List Prop):List Prop:=
 ((d 1).length=(d 1).length)::((d 1).length=(d 1).length)::((d 2).length=(d 2).length)::((d 2).length=(d 2).length)::((d 3).length=(d 3).length)::((d 3).length=(d 3).length)::((d 4).length=(d 4).length)::((d 4).length=(d 4).length)::((d 5).length=(d 5).length)::((d 5).length=(d 5).length) ::
   (d 1=d 1)::(d 2=d 2)::(d 3=d 3)::(d 4=d 4)::(d 5=d 5)::r
theorem nT {d:Nat->List Int} {r:List Prop} (h:∀ q∈r,q):∀ q∈Ke d r,q:=
 aM rfl (aM rfl (aM rfl (aM rfl (aM rfl (aM rfl (aM rfl (aM rfl (aM rfl (aM rfl (aM rfl (aM rfl (aM rfl (aM rfl (aM rfl h))))))))))))))
def jB (key D:List Int) (r:List Prop):List Prop:=(key.length=32)::bW key::bW D::(D.length<=1073741824)::(D.length%16=0)::r
theorem Ua (mc:List Int->List Int->List Int):∀ f S,Fw mc f=some S->∀ Γ:Env,Γ.aR=aB->aG Tryz.prog Γ f S:=bF (bF (bF gH 38 _ aDu) 48 _ (FA mc)) 50 _ aIw
theorem ZR (e:Nat) (he:e=0\/e=2) (key:List Int) (d:Nat->List Int):aK (env (Fw M.tag) 22) Tryz.f30 true [] 400 [.agg (oG e),.ai .u8 key,.aH 62 true 0 5 5] (fun l=>look l (YS e d)) 100 100 =
 some { val:=.ai .u8 (M.tag key (M.cat d)),bO:=((M.tag key (M.cat d)).length=16)::((M.tag key (M.cat d)).length=16)::jB key (M.cat d) ((key=key)::Ke d [key.length=32]) }:=by rcases he with rfl | rfl <;> kernel_rfl
theorem aLz (mc:List Int->List Int->List Int) (key:List Int) (d:Nat->List Int):aK (env (Fw mc) 22) Tryz.f30 true [] 400 [.agg (oG 1),.ai .u8 key,.aH 62 true 0 5 5] (fun l=>look l (YS 1 d)) 100 100 =
 some { val:=.ai .u8 (mc key (M.cat d)),bO:=((mc key (M.cat d)).length=16)::((mc key (M.cat d)).length=16)::((mc key (M.cat d)).length=16)::((mc key (M.cat d)).length=16)::(mc key (M.cat d)=M.tag key (M.cat d))::jB key (M.cat d) ((key=key)::Ke d [key.length=32,key.length=32]) }:=by kernel_rfl
theorem GN {e:Nat} (he:dY e) {key:List Int} {d:Nat->List Int} (hk:key.length=32) (hb:bW key) (hd:bW (M.cat d)) (hl:(M.cat d).length<=1073741824) (sQ:(M.cat d).length%16=0) (Γ:Env) (hg:Γ.aR=aB) :
 aE Tryz.prog Γ 30 [.agg (oG e),.ai .u8 key,.aH 62 true 0 5 5] (fun l=>look l (YS e d)) 100 100 { val:=.ai .u8 (M.tag key (M.cat d)) }:=by
 have hs:aG Tryz.prog (env (Fw M.tag) 22) 30 (aK (env (Fw M.tag) 22) Tryz.f30 true [] 400):=aN (bN _ 22) (bT _ (Ua _) 22) mix Tryz.func30 (by kernel_rfl) true [] 400
 have hT:=M.mX key (M.cat d)
 have hw:∀ r:List Prop,(∀ q∈r,q)->∀ q∈jB key (M.cat d) r,q:=fun r hr=>aM hk (aM hb (aM hd (aM hl (aM sQ hr))))
 rcases he with rfl | rfl | rfl
 .exact (hs.call (ZR 0 (.inl rfl) key d) (aM hT (aM hT (hw _ (aM rfl (nT (aM hk gD))))))).words (by rw [hg];rfl) (fun _=>rfl) (fun _ _ h=>h) (fun _=>rfl) rfl rfl
 .exact (hs.call (aLz M.tag key d) (aM hT (aM hT (aM hT (aM hT (aM rfl (hw _ (aM rfl (nT (aM hk (aM hk gD)))))))))) ).words (by rw [hg];rfl) (fun _=>rfl) (fun _ _ h=>h) (fun _=>rfl) rfl rfl
 .exact (hs.call (ZR 2 (.inr rfl) key d) (aM hT (aM hT (hw _ (aM rfl (nT (aM hk gD))))))).words (by rw [hg];rfl) (fun _=>rfl) (fun _ _ h=>h) (fun _=>rfl) rfl rfl
theorem aAy (e:Nat) (he:e=0\/e=2) (key t:List Int) (d:Nat->List Int):aK (env (Fw M.tag) 22) Tryz.f57 true [] 400 [.agg (oG e),.ai .u8 key,.ai .u8 t,.aH 62 true 0 5 5] (fun l=>look l (YS e d)) 100 100 =
 some { val:=.bool false (decide (M.tag key (M.cat d)=t)),bO:=((M.tag key (M.cat d)).length=16/\t.length=16)::(t.length=16)::jB key (M.cat d) ((key=key)::Ke d [key.length=32,t.length=16,key.length=32]) }:=by rcases he with rfl | rfl <;> kernel_rfl
theorem aPt (key t:List Int) (d:Nat->List Int):aK (env (Fw M.tag) 22) Tryz.f57 true [] 400 [.agg (oG 1),.ai .u8 key,.ai .u8 t,.aH 62 true 0 5 5] (fun l=>look l (YS 1 d)) 100 100 =
 some { val:=.bool false (decide (M.tag key (M.cat d)=t)),bO:=(key.length=32)::bW key::(t.length=16)::bW t::bW (M.cat d)::((M.cat d).length<=1073741824)::((M.cat d).length%16=0)::(key=key)::(t=t)::Ke d [t.length=16,key.length=32,t.length=16,key.length=32] }:=by kernel_rfl
theorem MB {e:Nat} (he:dY e) {key t:List Int} {d:Nat->List Int} (hk:key.length=32) (hb:bW key) (ht:t.length=16) (htb:bW t) (hd:bW (M.cat d)) (hl:(M.cat d).length<=1073741824) (sQ:(M.cat d).length%16=0) (Γ:Env) (hg:Γ.aR=aB) :
 aE Tryz.prog Γ 57 [.agg (oG e),.ai .u8 key,.ai .u8 t,.aH 62 true 0 5 5] (fun l=>look l (YS e d)) 100 100 { val:=.bool false (decide (M.tag key (M.cat d)=t)) }:=by
 have hs:aG Tryz.prog (env (Fw M.tag) 22) 57 (aK (env (Fw M.tag) 22) Tryz.f57 true [] 400):=aN (bN _ 22) (bT _ (Ua _) 22) mix Tryz.func57 (by kernel_rfl) true [] 400
 have hT:=M.mX key (M.cat d)
 have hw:∀ r:List Prop,(∀ q∈r,q)->∀ q∈jB key (M.cat d) r,q:=fun r hr=>aM hk (aM hb (aM hd (aM hl (aM sQ hr))))
 rcases he with rfl | rfl | rfl
 .exact (hs.call (aAy 0 (.inl rfl) key t d) (aM ⟨hT,ht⟩ (aM ht (hw _ (aM rfl (nT (aM hk (aM ht (aM hk gD))))))))).words (by rw [hg];rfl) (fun _=>rfl) (fun _ _ h=>h) (fun _=>rfl) rfl rfl
 .exact (hs.call (aPt key t d) (aM hk (aM hb (aM ht (aM htb (aM hd (aM hl (aM sQ (aM rfl (aM rfl (nT (aM ht (aM hk (aM ht (aM hk gD)))))))))))))) ).words (by rw [hg];rfl) (fun _=>rfl) (fun _ _ h=>h) (fun _=>rfl) rfl rfl
 .exact (hs.call (aAy 2 (.inr rfl) key t d) (aM ⟨hT,ht⟩ (aM ht (hw _ (aM rfl (nT (aM hk (aM ht (aM hk gD))))))))).words (by rw [hg];rfl) (fun _=>rfl) (fun _ _ h=>h) (fun _=>rfl) rfl rfl
def Oc (vs:List SV) (T:bB):Option Canon:=match vs with
 | [ev,ks,.int _ .u32 c,ns,.aH l _ off len cap]=>match Ae ev,cJ ks,cJ ns,(T l).bind Dy with
   | some (e,vl),some (.u8,k),some (.u8,n),some (.u8,xs,ty)=>some { eR:=OW e k n c off len cap,T0:=stL e xs ty,vl:=(60,.lab l 0)::vl,e0:=stE k n c off len xs ty,conds:=[dY e,k.length=32,n.length=12,off+len<=xs.length,len<=cap,len<=4611686018427387904,0<=c/\c<=4294967295] }
   | _,_,_,_=>none
 | _=>none
theorem RC (Γ:Env) (hg:Γ.aR=aB):aG Tryz.prog Γ 28 (aL aB 100 Oc):=by
 refine aW hg fun vs T c hd hc=>?_
 unfold Oc at hd
 split at hd
 case h_2=>cases hd
 split at hd
 case h_2=>cases hd
 cases hd
 exact GP (hc _ (by simp)) (hc _ (by simp)) (hc _ (by simp)) (hc _ (by simp)) (hc _ (by simp)) (hc _ (by simp)) (hc _ (by simp)) Γ hg
def FR (L:Nat):List (Nat × Fz):=[(62,.lab L 0),(71,.cell L 0),(72,.cell L 1),(73,.cell L 2),(74,.cell L 3),(75,.cell L 4)]
def Nz (vs:List SV) (T:bB):Option Canon:=match vs with
 | [ev,ks,.aH L _ 0 5 5]=>match Ae ev,cJ ks,(T L).bind roL with
   | some (e,vl),some (.u8,k),some [p1,p2,p3,p4,p5]=>match dU T .u8 p1,dU T .u8 p2,dU T .u8 p3,dU T .u8 p4,dU T .u8 p5 with
     | some (o1,x1),some (o2,x2),some (o3,x3),some (o4,x4),some (o5,x5)=>some { eR:=[.agg (oG e),.ai .u8 k,.aH 62 true 0 5 5],T0:=YS e (yW x1 x2 x3 x4 x5),vl:=vl++FR L,e0:={ val:=.ai .u8 (M.tag k (x1++(x2++(x3++(x4++x5))))) },conds:=dY e::jB k (x1++(x2++(x3++(x4++x5)))) (o1++(o2++(o3++(o4++o5)))) }
     | _,_,_,_,_=>none
   | _,_,_=>none
 | _=>none
theorem QY (Γ:Env) (hg:Γ.aR=aB):aG Tryz.prog Γ 30 (aL aB 100 Nz):=by
 refine aW hg fun vs T c hd hc=>?_
 unfold Nz at hd
 split at hd
 case h_2=>cases hd
 split at hd
 case h_2=>cases hd
 split at hd
 case h_2=>cases hd
 cases hd
 rename_i o1 x1 o2 x2 o3 x3 o4 x4 o5 x5 _ _ _ _ _
 exact GN (d:=yW x1 x2 x3 x4 x5) (hc _ (by simp)) (hc _ (by simp [jB])) (hc _ (by simp [jB])) (hc _ (by simp [jB,M.cat,yW])) (hc _ (by simp [jB,M.cat,yW])) (hc _ (by simp [jB,M.cat,yW])) Γ hg
def Pj (vs:List SV) (T:bB):Option Canon:=match vs with
 | [ev,ks,ts,.aH L _ 0 5 5]=>match Ae ev,cJ ks,cJ ts,(T L).bind roL with
   | some (e,vl),some (.u8,k),some (.u8,t),some [p1,p2,p3,p4,p5]=>match dU T .u8 p1,dU T .u8 p2,dU T .u8 p3,dU T .u8 p4,dU T .u8 p5 with
     | some (o1,x1),some (o2,x2),some (o3,x3),some (o4,x4),some (o5,x5)=>some { eR:=[.agg (oG e),.ai .u8 k,.ai .u8 t,.aH 62 true 0 5 5],T0:=YS e (yW x1 x2 x3 x4 x5),vl:=vl++FR L,e0:={ val:=.bool false (decide (M.tag k (x1++(x2++(x3++(x4++x5))))=t)) },conds:=dY e::(t.length=16)::bW t::jB k (x1++(x2++(x3++(x4++x5)))) (o1++(o2++(o3++(o4++o5)))) }
     | _,_,_,_,_=>none
   | _,_,_,_=>none
 | _=>none
theorem YD (Γ:Env) (hg:Γ.aR=aB):aG Tryz.prog Γ 57 (aL aB 100 Pj):=by
 refine aW hg fun vs T c hd hc=>?_
 unfold Pj at hd
 split at hd
 case h_2=>cases hd
 split at hd
 case h_2=>cases hd
 split at hd
 case h_2=>cases hd
 cases hd
 rename_i o1 x1 o2 x2 o3 x3 o4 x4 o5 x5 _ _ _ _ _
 exact MB (d:=yW x1 x2 x3 x4 x5) (hc _ (by simp)) (hc _ (by simp [jB])) (hc _ (by simp [jB])) (hc _ (by simp)) (hc _ (by simp)) (hc _ (by simp [jB,M.cat,yW])) (hc _ (by simp [jB,M.cat,yW])) (hc _ (by simp [jB,M.cat,yW])) Γ hg
noncomputable def Vx:Nat->Option Sum:=dM (dM (dM (dM (dM (dM fR 28 (aL aB 100 Oc)) 30 (aL aB 100 Nz)) 57 (aL aB 100 Pj)) 29 (aL aB 100 CM)) 54 (aL aB 100 CR)) 55 (aL aB 100 DF)
theorem Ui:∀ f S,Vx f=some S->∀ Γ:Env,Γ.aR=aB->aG Tryz.prog Γ f S:=bF (bF (bF (bF (bF (bF gH 28 _ RC) 30 _ QY) 57 _ YD) 29 _ aNl) 54 _ aNw) 55 _ aPc
def onL (e:Nat):List (Nat × SB):=Vy e++Fm
theorem aVz (e:Nat) (he:dY e) (key:List Int) (N:Int):aK (env Vx 22) Tryz.f27 true [] 400 [.agg (oG e),.ai .u8 key,.int false .u64 N] (fun l=>look l (onL e)) 100 100 =
 some { val:=.ai .u8 (M.once key N),bO:=[(M.once key N).length=32,(M.once key N).length=32,(M.once key N).length=32,dY e,key.length=32,(M.aC N).length=12,0+32<=32,32<=32,32<=4611686018427387904,(0:Int)<=0/\(0:Int)<=4294967295,key=key,(0:Int)=0,M.aC N=M.aC N,0=0,32=32,32=32,List.replicate 32 (0:Int)=List.replicate 32 0/\(23:Nat)=(23:TypeId),N=N,key.length=32] }:=by rcases he with rfl | rfl | rfl <;> kernel_rfl
theorem YO {e:Nat} (he:dY e) {key:List Int} (hk:key.length=32) (N:Int) (Γ:Env) (hg:Γ.aR=aB):aE Tryz.prog Γ 27 [.agg (oG e),.ai .u8 key,.int false .u64 N] (fun l=>look l (onL e)) 100 100 { val:=.ai .u8 (M.once key N) }:=
 ((aN (bN Vx 22) (bT Vx Ui 22) mix Tryz.func27 (by kernel_rfl) true [] 400:aG Tryz.prog (env Vx 22) 27 _).call (aVz e he key N) (aA ⟨M.mY _ _,M.mY _ _,M.mY _ _,he,hk,rfl,by omega,by omega,by omega,by omega,rfl,rfl,rfl,rfl,rfl,rfl,⟨rfl,rfl⟩,rfl,hk,trivial⟩)).words (by rw [hg];rfl) (fun _=>rfl) (fun _ _ h=>h) (fun _=>rfl) rfl rfl
def ED (on:List Int->Int->List Int) (vs:List SV) (_:bB):Option Canon:=match vs with
 | [ev,ks,.int _ .u64 N]=>match Ae ev,cJ ks with
   | some (e,vl),some (.u8,k)=>some { eR:=[.agg (oG e),.ai .u8 k,.int false .u64 N],T0:=onL e,vl:=vl,e0:={ val:=.ai .u8 (on k N) },conds:=[on k N=M.once k N,dY e,k.length=32] }
   | _,_=>none
 | _=>none
theorem aJd (on:List Int->Int->List Int) (Γ:Env) (hg:Γ.aR=aB):aG Tryz.prog Γ 27 (aL aB 100 (ED on)):=by
 refine aW hg fun vs T c hd hc=>?_
 unfold ED at hd
 split at hd
 case h_2=>cases hd
 split at hd
 case h_2=>cases hd
 cases hd
 have e:=hc _ dB
 rw [e]
 exact YO (hc _ (eM _ dB)) (hc _ (eM _ (eM _ dB))) _ Γ hg
noncomputable def aLe (on:List Int->Int->List Int):Nat->Option Sum:=dM Vx 27 (aL aB 100 (ED on))
theorem XO (on:List Int->Int->List Int):∀ f S,aLe on f=some S->∀ Γ:Env,Γ.aR=aB->aG Tryz.prog Γ f S:=bF Ui 27 _ (aJd on)
noncomputable def yZ (on:List Int->Int->List Int):Env:=env (aLe on) 22
theorem Gx (on:List Int->Int->List Int):cA Tryz.prog (yZ on):=bN _ 22
theorem Gy (on:List Int->Int->List Int):cH Tryz.prog (yZ on):=bT _ (XO on) 22
def NI:List (Nat × SB):=[(0,.fO [.sO 407 (.ptr 40 true 0)]),(2,.fO [.sO 407 (.ptr 42 true 0)]),(17,.fO [.int true .i64 40]),(18,.fO [.int true .i64 40])]++Fm
def QJ:List (Nat × Fz):=[(40,.lab 40 0),(42,.lab 42 0)]
def aBi (e:Nat) (key:List Int) (N:Int) (la lb cb:Nat) (n:Int):List SV:=[.agg (oG e),.ai .u8 key,.int false .u64 N,.gY 63 la,.aH 62 false 0 lb cb,.int false .i64 n]
def seL (e:Nat) (ad bs:List Int) (t:TypeId):List (Nat × SB):=[(62,.ints .u8 bs t),(63,.iV .u8 ad)]++(Vy e++NI)
def seT (e:Nat) (ad bs:List Int) (t:TypeId):bB:=fun l=>look l (seL e ad bs t)
noncomputable def seM (on:List Int->Int->List Int) (e:Nat) (ad bs:List Int) (t:TypeId) (k:Nat) (cf:Cf) (K:List Fr) (s:St):Option qL:=hH (yZ on) (bI 100 (seT e ad bs t)) 100 Tryz.f15.ntmps [] 400 k cf K s
def pR:Nat->Code->Code
 | 0,c=>c
 | n+1,.seq _ y=>pR n y
 | _,c=>c
def aJr (la lb cb n:Nat):List (Nat × SV):=[(3,.gY 63 la),(4,.aH 62 false 0 lb cb),(5,.int false .i64 (n:Int)),(6,.ptr 100 true 0),(14,.aH 62 false 0 n n),(15,.ptr 101 true 0)]
def aJu (e:Nat) (cs ok:List Int) (t:TypeId):List (Nat × SB):=[(62,.ints .u8 cs t),(100,.own (oG e) 36),(101,.ints .u8 ok 23)]
def aJq (lb cb n:Nat):List (Nat × SV):=[(4,.aH 62 false 0 lb cb),(5,.int false .i64 (n:Int)),(16,.ptr 100 true 0)]
def aJt (cs tg:List Int) (t:TypeId):List (Nat × SB):=[(62,.ints .u8 cs t),(100,.ints .u8 tg 77)]
namespace Q
def oS (n:Nat):Nat:=(if IntKind.i64.wrap ((n:Int)+16)=(n:Int) then 0 else 0+(n:Int).toNat*1)
def aCa (n:Nat) (cs x:List Int):List Int:=cs.take (oS n)++x.take (x.length.min ((IntKind.i64.wrap ((n:Int)+16)).toNat-(n:Int).toNat))++cs.drop (oS n+x.length.min ((IntKind.i64.wrap ((n:Int)+16)).toNat-(n:Int).toNat))
end Q
theorem aRa (e:Nat) (he:dY e) (on:List Int->Int->List Int) (key ad bs cs ok:List Int) (N:Int) (la lb cb n:Nat) (t:TypeId):gX 100 Tryz.f15.ntmps (bI 100 (seT e ad bs t)) [] (aJr la lb cb n) (aJu e cs ok t) 102 [62] [] (seM on e ad bs t 25 (.go (codeOf Tryz.f15)) [] ((Df (aBi e key N la lb cb (n:Int)) 100).hint [false,false,false])) =
 some (.go (pR 5 (codeOf Tryz.f15)),[],[dY e,key.length=32,(M.aC N).length=12,0+((n:Int).toNat-0)<=bs.length,(n:Int).toNat-0<=(n:Int).toNat-0,(n:Int).toNat-0<=4611686018427387904,(0:Int)<=1/\(1:Int)<=4294967295,key=key,(1:Int)=1,M.aC N=M.aC N,0=0+0,(n:Int).toNat-0=(n:Int).toNat-0,(n:Int).toNat-0=(n:Int).toNat-0,bs=bs/\t=t,N=N,key.length=32,
  (on key N).length=32,on key N=M.once key N,dY e,key.length=32,key=key,N=N,key.length=32,(0:Int)<=(n:Int)/\(n:Int)<=(cb:Int)/\(0:Int)<=(n:Int)/\(n:Int)<=(n:Int)/\(0:Int)<=0/\(0:Int)<=(n:Int),decide (IntKind.i64.wrap ((lb:Int)-(n:Int))<16)=false,decide ((n:Int)>(lb:Int))=false,decide ((n:Int)<0)=false,
  la=la,0=0,lb=lb,cb=cb,(n:Int)=(n:Int),0=0,(n:Int).toNat-0=n,(n:Int).toNat-0=n,cF key (M.aC N) 1 0 ((n:Int).toNat-0) bs=cs/\t=t,on key N=ok/\(23:Nat)=(23:TypeId)]):=by rcases he with rfl | rfl | rfl <;> kernel_rfl
def frO (e:Nat) (ad cs ok:List Int) (la n:Nat) (x y r:List Prop):List Prop:=
 let pa:=M.pD la;let pn:=M.pD n;let RA:=List.replicate pa (0:Int);let RN:=List.replicate pn (0:Int);let L16:=M.Dw la n
 let TA:=(RA.drop 0).take pa;let TC:=(cs.drop 0).take n;let TN:=(RN.drop 0).take pn;let T5:=(L16.drop 0).take 16
 let p2:=0+pa<=RA.length/\pa<=pa;let p3:=0+n<=cs.length/\n<=n;let p4:=0+pn<=RN.length/\pn<=pn;let p5:=16<=L16.length/\(0:Nat)<=0
 dY e::(x++jB ok (M.NH ad la TC n) (p2::p3::p4::p5::(ok=ok)::(y++(la=la)::(ad.length=ad.length)::(0=0)::(pa=pa)::(pa=pa)::p2::(TA.length=TA.length)::(0=0)::(n=n)::(n=n)::p3::(TC.length=TC.length)::(0=0)::(pn=pn)::(pn=pn)::p4::(TN.length=TN.length)::(16=16)::p5::(T5.length=T5.length) ::
  (ad=ad)::(TA=TA)::p2::(TC=TC)::p3::(TN=TN)::p4::(T5=T5)::p5::r)))
def fqO (la n:Nat) (r:List Prop):List Prop:=(0<=(n:Int)/\(n:Int)<=1073741824)::((n:Int)=(n:Int))::(0<=(la:Int)/\(la:Int)<=1073741824)::((la:Int)=(la:Int))::(IntKind.u64.wrap (n:Int)=IntKind.u64.wrap (n:Int))::(IntKind.u64.wrap (la:Int)=IntKind.u64.wrap (la:Int))::r
theorem aQz (e:Nat) (he:dY e) (on:List Int->Int->List Int) (ad bs cs ok tg:List Int) (la lb cb n:Nat) (t:TypeId):gX 100 Tryz.f15.ntmps (bI 100 (seT e ad bs t)) [] (aJq lb cb n) (aJt cs tg t) 101 [62] [] (seM on e ad bs t 3 (.go (pR 5 (codeOf Tryz.f15))) [] ((cE (aJr la lb cb n) (aJu e cs ok t) 102 [62] []).hint [])) =
 some (.go (pR 6 (codeOf Tryz.f15)),[],((M.tag ok (M.NH ad la ((cs.drop 0).take n) n)).length=16)::frO e ad cs ok la n [] [] (fqO la n [ok.length=32,0=0,lb=lb,cb=cb,(n:Int)=(n:Int),cs=cs/\t=t,M.tag ok (M.NH ad la ((cs.drop 0).take n) n)=tg/\(77:Nat)=(77:TypeId)])):=by rcases he with rfl | rfl | rfl <;> kernel_rfl
theorem aQy (e:Nat) (he:dY e) (on:List Int->Int->List Int) (ad bs cs tg:List Int) (lb cb n:Nat) (t:TypeId):xU (yZ on) (seT e ad bs t) 100 100 Tryz.f15 [] (seM on e ad bs t 400 (.go (pR 6 (codeOf Tryz.f15))) [] ((cE (aJq lb cb n) (aJt cs tg t) 101 [62] []).hint [])) =
 some { bO:=[Q.oS n+((tg.drop 0).take 16).length.min ((IntKind.i64.wrap ((n:Int)+16)).toNat-(n:Int).toNat)<=cs.length,16<=tg.length,(0:Int)<=IntKind.i64.wrap ((n:Int)+16)/\IntKind.i64.wrap ((n:Int)+16)<=(cb:Int)/\(0:Int)<=IntKind.i64.wrap ((n:Int)+16)/\IntKind.i64.wrap ((n:Int)+16)<=IntKind.i64.wrap ((n:Int)+16)/\(0:Int)<=(n:Int)/\(n:Int)<=IntKind.i64.wrap ((n:Int)+16)],val:=.eH [.int false .i64 (IntKind.i64.wrap ((n:Int)+16)),.raw .nilIface],wr:=[(62,.ints .u8 (Q.aCa n cs ((tg.drop 0).take 16)) t)] }:=by rcases he with rfl | rfl | rfl <;> kernel_rfl
def BA (e:Nat) (key:List Int) (N:Int) (la lb:Nat) (n:Int):List SV:=[.agg (oG e),.ai .u8 key,.int false .u64 N,.gY 63 la,.gY 62 lb,.int false .i64 n]
def axL (e:Nat) (ad bs:List Int):List (Nat × SB):=[(62,.iV .u8 bs),(63,.iV .u8 ad)]++(Vy e++NI)
def erV (l:Nat):SV:=.eH [.int true .i64 0,.sO 407 (.ptr l true 0)]
theorem aQq (e:Nat) (he:dY e) (key ad bs:List Int) (N n:Int) (la lb:Nat):aK (yZ M.once) Tryz.f15 true [true] 400 (BA e key N la lb n) (fun l=>look l (axL e ad bs)) 100 100=some { val:=erV 40,bO:=[decide (n<0)=true] }:=by rcases he with rfl | rfl | rfl <;> kernel_rfl
theorem aQp (e:Nat) (he:dY e) (key ad bs:List Int) (N n:Int) (la lb:Nat):aK (yZ M.once) Tryz.f15 true [false,true] 400 (BA e key N la lb n) (fun l=>look l (axL e ad bs)) 100 100=some { val:=erV 40,bO:=[decide (n>(lb:Int))=true,decide (n<0)=false] }:=by rcases he with rfl | rfl | rfl <;> kernel_rfl
theorem aQo (e:Nat) (he:dY e) (key ad bs:List Int) (N n:Int) (la lb:Nat):aK (yZ M.once) Tryz.f15 true [false,false,true] 400 (BA e key N la lb n) (fun l=>look l (axL e ad bs)) 100 100=some { val:=erV 42,bO:=[decide (IntKind.i64.wrap ((lb:Int)-n)<16)=true,decide (n>(lb:Int))=false,decide (n<0)=false] }:=by rcases he with rfl | rfl | rfl <;> kernel_rfl
end Go.Proofs.YtnodfocobmghiaaGreatDoor.Sx
section
namespace Go.Proofs.YtnodfocobmghiaaGreatDoor.Sx
end Go.Proofs.YtnodfocobmghiaaGreatDoor.Sx
end
namespace Go.Proofs.YtnodfocobmghiaaGreatDoor.Sx
theorem Q.VH {n:Nat} {cs x:List Int} (hn:n+16<=1073741824) (hx:x.length=16):Q.aCa n cs x=cs.take n++(x++cs.drop (n+16)):=by
 have w2:IntKind.i64.wrap ((n:Int)+16)=((n+16:Nat):Int):=by rw [IntWalk.i64_in _ ⟨by omega,by omega⟩];omega
 have e1:Q.oS n=n:=by unfold Q.oS;rw [w2,if_neg (by omega)];omega
 unfold Q.aCa
 rw [e1,w2,hx]
 have e3:(16:Nat).min ((((n+16:Nat):Int)).toNat-(n:Int).toNat)=16:=by
  have:(((n+16:Nat):Int)).toNat-(n:Int).toNat=16:=by omega
  rw [this];rfl
 rw [e3,List.take_of_length_le (Nat.le_of_eq hx),List.append_assoc]
def seE (key:List Int) (N:Int) (ad bs:List Int) (n:Nat) (t:TypeId):bK:={ val:=.eH [.int false .i64 ((n+16:Nat):Int),.raw .nilIface],wr:=[(62,.ints .u8 (Q.dL key N ad bs n) t)] }
theorem TK {e:Nat} (he:dY e) {key ad bs:List Int} {N:Int} {lb cb n:Nat} {t:TypeId} (hk:key.length=32) (ha:bW ad) (hbs:bW (bs.take n)) (hla:ad.length<=500000000) (hn:n+16<=lb) (hl:lb<=cb) (hb:lb<=bs.length) (hcb:lb<=500000000) :
 aE Tryz.prog (yZ M.once) 15 (aBi e key N ad.length lb cb n) (seT e ad bs t) 100 100 (seE key N ad bs n t):=by
 refine iH (Gx _) (Gy _) Tryz.func15 (by kernel_rfl) rfl (kO (by kernel_rfl)) rfl [] ?_
 intro w0 Mx V0 Qx fA H
 have aV:=Gx M.once
 have aY:=Gy M.once
 have w1:IntKind.i64.wrap ((lb:Int)-(n:Int))=(lb:Int)-n:=IntWalk.i64_in _ ⟨by omega,by omega⟩
 have w2:IntKind.i64.wrap ((n:Int)+16)=((n+16:Nat):Int):=by rw [IntWalk.i64_in _ ⟨by omega,by omega⟩];omega
 have Fe:(cF key (M.aC N) 1 0 n bs).length=bs.length:=fN _ _ _ _ _ _
 have hx:=Q.aIt key N hbs
 have bV:cF key (M.aC N) 1 0 n bs=Q.tE key N bs n:=Q.GL (by omega)
 have qZ:(Q.cx key N (bs.take n)).length=n:=by rw [Q.Ez,List.length_take];omega
 have MZ:(M.aC N).length=12:=rfl
 have hol:=M.mY key N
 have hoB:=Q.HE key N
 have htk:(Q.tE key N bs n).take n=Q.cx key N (bs.take n):=by
  unfold Q.tE;rw [List.take_append_of_le_length (by omega),List.take_of_length_le (by omega)]
 have YY:=Q.Ef key N ad (Q.cx key N (bs.take n))
 have aOh:Q.dL key N ad bs n=(Q.tE key N bs n).take n++(Q.tg key N ad (Q.cx key N (bs.take n))++(Q.tE key N bs n).drop (n+16)):=by
  rw [htk];unfold Q.dL Q.tE
  have:List.drop (n+16) (Q.cx key N (bs.take n)++bs.drop n)=bs.drop (n+16):=by
   rw [List.drop_append,qZ,List.drop_of_length_le (by omega),oB,List.drop_drop]
   congr 1;omega
  rw [this]
 have d1:decide ((lb:Int)-(n:Int)<16)=false:=mZ (by omega)
 have d2:decide ((n:Int)>(lb:Int))=false:=mZ (by omega)
 have d3:decide ((n:Int)<0)=false:=mZ (by omega)
 refine G.gX aV aY mix fA [false,false,false] (aRa e he M.once key ad bs (cF key (M.aC N) 1 0 n bs) (M.once key N) N ad.length lb cb n t) (aA ?_) ?_
 .simp only [bZ,w1]
  repeat' apply And.intro
  all_goals first | rfl | assumption | omega | trivial | exact dE _
 rw [bV] at Fe |-
 rw [<- htk] at hx
 generalize nI:Q.tE key N bs n=cs at *
 have hd0:List.drop 0 cs=cs:=rfl
 have hct:(cs.take n).length=n:=by rw [List.length_take];omega
 obtain ⟨f1,f2,f3⟩:=Q.aGu (la:=ad.length) (n:=n) ha hx rfl hct hla (by omega)
 have htg:M.tag (M.once key N) (M.NH ad ad.length (cs.take n) n)=Q.tg key N ad (Q.cx key N (bs.take n)):=by
  unfold Q.tg;rw [qZ,<- htk]
 generalize Q.tg key N ad (Q.cx key N (bs.take n))=tg at *
 generalize nC:M.once key N=ok at *
 refine G.gX aV aY mix fA [] (aQz e he M.once ad bs cs ok tg ad.length lb cb n t) (aA ?_) ?_
 .simp only [bZ,frO,fqO,jB,List.cons_append,oB,hd0,htg,List.length_replicate]
  repeat' apply And.intro
  all_goals first | rfl | assumption | omega | trivial | exact dE _
 have e2:List.take 16 (List.drop 0 tg)=tg:=by rw [List.drop_zero,List.take_of_length_le (by omega)]
 have e1:Q.oS n=n:=by unfold Q.oS;rw [w2,if_neg (by omega)];omega
 have e3:(16:Nat).min (n+16-n)=16:=by rw [Nat.add_sub_cancel_left];rfl
 refine G.tB (cl:=[]) aV aY mix [] H (aQy e he M.once ad bs cs tg lb cb n t) (aA ?_) ?_ rfl ?_
 .simp only [bZ,w2,e2,sR,e1,YY,e3]
  repeat' apply And.intro
  all_goals first | rfl | assumption | omega | trivial | exact dE _
 .show SV.eH [.int false .i64 (IntKind.i64.wrap ((n:Int)+16)),.raw .nilIface]=_
  rw [w2];rfl
 .show [(62,SB.ints .u8 _ t)]=[(62,SB.ints .u8 _ t)]
  rw [e2,Q.VH (by omega) YY,aOh]
def GH (lb:Nat) (n:Int):Nat->Prop
 | 1=>n<0\/n>(lb:Int)
 | 2=>¬ n<0/\¬ n>(lb:Int)/\(lb:Int)-n<16
 | _=>¬ n<0/\¬ n>(lb:Int)/\n<16
def sxL:Nat->Nat
 | 1=>40
 | 2=>42
 | _=>44
theorem QZ {e:Nat} (he:dY e) (key ad bs:List Int) (N n:Int) {la lb:Nat} (_:lb<=500000000) {o:Nat} (ho:o=1\/o=2) (h:GH lb n o):aE Tryz.prog (yZ M.once) 15 (BA e key N la lb n) (fun l=>look l (axL e ad bs)) 100 100 { val:=erV (sxL o) }:=by
 have hI:∀ hs,aG Tryz.prog (yZ M.once) 15 (aK (yZ M.once) Tryz.f15 true hs 400):=fun hs=>aN (Gx _) (Gy _) mix Tryz.func15 (by kernel_rfl) true hs 400
 rcases ho with rfl | rfl
 .by_cases h0:n<0
  .exact ((hI _).call (aQq e he key ad bs N n la lb) (aA ⟨decide_eq_true h0,trivial⟩)).words rfl (fun _=>rfl) (fun _ _ h=>h) (fun _=>rfl) rfl rfl
  .have h1:n>(lb:Int):=h.resolve_left h0
   exact ((hI _).call (aQp e he key ad bs N n la lb) (aA ⟨decide_eq_true h1,mZ h0,trivial⟩)).words rfl (fun _=>rfl) (fun _ _ h=>h) (fun _=>rfl) rfl rfl
 .obtain ⟨h0,h1,h2⟩:=h
  exact ((hI _).call (aQo e he key ad bs N n la lb) (aA ⟨decide_eq_true (by rw [IntWalk.i64_in _ ⟨by omega,by omega⟩];exact h2),mZ h1,mZ h0,trivial⟩)).words rfl (fun _=>rfl) (fun _ _ h=>h) (fun _=>rfl) rfl rfl
abbrev wU:=List Int->Int->List Int->List Int->Nat->List Int
def aJs (x:List Int) (n:Nat) (t:TypeId):bK:={ val:=.eH [.int false .i64 ((n+16:Nat):Int),.raw .nilIface],wr:=[(62,.ints .u8 x t)] }
structure Jm (sb:wU) (k:List Int) (N:Int) (ad bs:List Int) (n:Nat):Prop where
 h:sb k N ad bs n=Q.dL k N ad bs n
def aBj (sb:wU) (ev ks a:SV) (N n:Int) (L lb cb:Nat) (T:bB):Option Canon:=match Ae ev,cJ ks,dU T .u8 a,(T L).bind Dy with
 | some (e,vl),some (.u8,k),some (oa,ad),some (.u8,bs,t)=>some { eR:=aBi e k N ad.length lb cb (n.toNat:Int),T0:=seL e ad bs t,vl:=(62,.lab L 0)::(63,.arg 3)::(vl++QJ),e0:=aJs (sb k N ad bs n.toNat) n.toNat t,conds:=Jm sb k N ad bs n.toNat::dY e::(k.length=32)::bW ad::bW (bs.take n.toNat)::(ad.length<=500000000)::(n.toNat+16<=lb)::(lb<=cb)::(lb<=bs.length)::(lb<=500000000)::oa }
 | _,_,_,_=>none
def OZ (o:Nat) (ev ks a b:SV) (N n:Int) (T:bB):Option Canon:=match Ae ev,cJ ks,dU T .u8 a,dU T .u8 b with
 | some (e,vl),some (.u8,k),some (oa,ad),some (ob,bs)=>some { eR:=BA e k N ad.length bs.length n,T0:=axL e ad bs,vl:=(62,.arg 4)::(63,.arg 3)::(vl++QJ),e0:={ val:=erV (sxL o) },conds:=dY e::(bs.length<=500000000)::GH bs.length n o::(oa++ob) }
 | _,_,_,_=>none
def Rr (sb:wU) (out:Int->Nat) (vs:List SV) (T:bB):Option Canon:=match vs with
 | [ev,ks,.int _ .u64 N,a,b,.int _ .i64 n]=>match out n,b with
   | 0,.aH L _ 0 lb cb=>aBj sb ev ks a N n L lb cb T
   | 1,_=>OZ 1 ev ks a b N n T
   | 2,_=>OZ 2 ev ks a b N n T
   | _,_=>none
 | _=>none
theorem TL {sb:wU} {ev ks a:SV} {N n:Int} {L lb cb:Nat} {T:bB} {c:Canon} (h:aBj sb ev ks a N n L lb cb T=some c) (hc:∀ q∈c.conds,q) (Γ:Env) (hg:Γ.aR=aB):aE Tryz.prog Γ 15 c.eR (fun l=>look l c.T0) 100 100 c.e0:=by
 unfold aBj at h
 split at h
 case h_2=>cases h
 cases h
 have e:sb _ _ _ _ _=_:=Jm.h (hc _ dB)
 rw [aJs,e]
 exact (TK (hc _ (by simp)) (hc _ (by simp)) (hc _ (by simp)) (hc _ (by simp)) (hc _ (by simp)) (hc _ (by simp)) (hc _ (by simp)) (hc _ (by simp)) (hc _ (by simp))).words (by rw [hg];rfl) (fun _=>rfl) (fun _ _ h=>h) (fun _=>rfl) rfl rfl
theorem Sy {o:Nat} (ho:o=1\/o=2) {ev ks a b:SV} {N n:Int} {T:bB} {c:Canon} (h:OZ o ev ks a b N n T=some c) (hc:∀ q∈c.conds,q) (Γ:Env) (hg:Γ.aR=aB):aE Tryz.prog Γ 15 c.eR (fun l=>look l c.T0) 100 100 c.e0:=by
 unfold OZ at h
 split at h
 case h_2=>cases h
 cases h
 exact (QZ (hc _ (by simp)) _ _ _ _ _ (hc _ (by simp)) ho (hc _ (by simp))).words (by rw [hg];rfl) (fun _=>rfl) (fun _ _ h=>h) (fun _=>rfl) rfl rfl
theorem EP (sb:wU) (out:Int->Nat) (Γ:Env) (hg:Γ.aR=aB):aG Tryz.prog Γ 15 (aL aB 100 (Rr sb out)):=by
 refine aW hg fun vs T c hd hc=>?_
 unfold Rr at hd
 split at hd
 case h_2=>cases hd
 split at hd
 .exact TL hd hc Γ hg
 .exact Sy (.inl rfl) hd hc Γ hg
 .exact Sy (.inr rfl) hd hc Γ hg
 .cases hd
def xyT (xs ys:List Int):bB:=fun l=>look l [(61,.iV .u8 xs),(62,.iV .u8 ys)]
noncomputable def saM (xs ys:List Int) (cf:Cf) (K:List Fr) (s:St):Option qL:=hH yY (bI 100 (xyT xs ys)) 100 Tryz.f17.ntmps [4] 400 3000 cf K s
def AE (la lb:Nat):List SV:=[.gY 61 la,.gY 62 lb]
def Ni (la lb:Nat) (i:Int):List (Nat × SV):=[(0,.gY 61 la),(1,.gY 62 lb),(5,.int false .i64 i)]
noncomputable def saR:Option qL:=saM [] [] (.go (codeOf Tryz.f17)) [] ((Df (AE 0 0) 100).hint [false])
noncomputable def aBk:Code:=Jh saR
noncomputable def saK:List Fr:=Jg saR
theorem aRf (xs ys:List Int) (la lb:Nat) (i:Int) :
 (gX 100 Tryz.f17.ntmps (bI 100 (xyT xs ys)) [] (Ni la lb i) [] 100 [] [] (saM xs ys (.go (codeOf Tryz.f17)) [] ((Df (AE la lb) 100).hint [false]))) =
 some (.go (.loop aBk),saK,
  [((↑la:Int) != (↑lb:Int))=false,la=la,lb=lb,(0:Int)=i]):=by kernel_rfl
theorem aRe (xs ys:List Int) (la lb:Nat) (i i':Int) :
 (gX 100 Tryz.f17.ntmps (bI 100 (xyT xs ys)) [] (Ni la lb i') [] 100 [] [] (saM xs ys (.go aBk) [] ((cE (Ni la lb i) [] 100 [] []).hint [true,false]))) =
 some (.at .normal,[],
  [(xs.getD i.toNat (0:Int) != ys.getD i.toNat (0:Int))=false,i.toNat<ys.length,(0:Int)<=i/\i<(↑lb:Int),i.toNat<xs.length,(0:Int)<=i/\i<(↑la:Int),
  decide (i<(↑la:Int))=true,la=la,lb=lb,IntKind.i64.wrap (i+(1:Int))=i']):=by kernel_rfl
theorem aRd (xs ys:List Int) (la lb:Nat) (i i':Int) :
 (gX 100 Tryz.f17.ntmps (bI 100 (xyT xs ys)) [] (Ni la lb i') [] 100 [] [] (saM xs ys (.go aBk) [] ((cE (Ni la lb i) [] 100 [] []).hint [false]))) =
 some (.at (.exit 0),[],
  [decide (i<(↑la:Int))=false,la=la,lb=lb,i=i']):=by kernel_rfl
theorem aRc (xs ys:List Int) (la lb:Nat) (i:Int) :
 xU yY (xyT xs ys) 100 100 Tryz.f17 [] (saM xs ys (.at (.exit 0)) saK ((cE (Ni la lb i) [] 100 [] []).hint [])) =
 some { val:=SV.bool true true }:=by kernel_rfl
theorem TM (xs:List Int) (hl:xs.length<=1073741824) (Γ:Env) (hg:Γ.aR=aB):aE Tryz.prog Γ 17 (AE xs.length xs.length) (xyT xs xs) 100 100 { val:=.bool true true }:=by
 refine aE.words (Γ:=yY) (vs:=AE xs.length xs.length) ?_ (by rw [hg];rfl) (fun _=>rfl) (fun _ _ h=>h) (fun _=>rfl) rfl rfl
 have aV:=Gt
 have aY:=Gu
 refine iH aV aY Tryz.func17 (by kernel_rfl) rfl (kO (by kernel_rfl)) rfl [] ?_
 intro w0 M V0 Q' hb H
 refine G.gX aV aY mix hb [false] (aRf xs xs xs.length xs.length 0) (aA ⟨by simp,rfl,rfl,rfl,trivial⟩) ?_
 refine G.loop (fun r s=>∃ i:Nat,i<=xs.length/\r=xs.length-i/\s=cE (Ni xs.length xs.length i) [] 100 [] []) (r0:=xs.length) ⟨0,by omega,rfl,rfl⟩ ?_
 rintro r s ⟨i,hi,rfl,rfl⟩
 by_cases h:i<xs.length
 .refine G.pU aV aY mix hb [true,false] (aRe xs xs xs.length xs.length i ((i+1:Nat):Int)) (aA ?_) (xs.length-(i+1)) (by omega) ⟨i+1,by omega,rfl,rfl⟩
  rw [sR]
  exact ⟨by simp,h,by omega,h,by omega,decide_eq_true (by omega),rfl,rfl,by rw [IntWalk.i64_in _ (by omega)];omega,trivial⟩
 .have e:i=xs.length:=by omega
  subst e
  refine G.gX aV aY mix hb [false] (aRd xs xs xs.length xs.length _ _) (aA ⟨mZ (by omega),rfl,rfl,rfl,trivial⟩) (G.leave (by simp) ?_)
  exact G.tB (cl:=[]) aV aY mix [] H (aRc xs xs xs.length xs.length _) gD rfl rfl rfl
def BT (vs:List SV) (T:bB):Option Canon:=match vs with
 | [a,b]=>match dU T .u8 a,dU T .u8 b with
   | some (oa,xs),some (ob,ys)=>some { eR:=AE xs.length ys.length,T0:=[(61,.iV .u8 xs),(62,.iV .u8 ys)],vl:=[(61,.arg 0),(62,.arg 1)],e0:={ val:=.bool true true },conds:=(xs=ys)::(xs.length<=1073741824)::(oa++ob) }
   | _,_=>none
 | _=>none
theorem aEy (Γ:Env) (hg:Γ.aR=aB):aG Tryz.prog Γ 17 (aL aB 100 BT):=by
 refine aW hg fun vs T c hd hc=>?_
 unfold BT at hd
 split at hd
 case h_2=>cases hd
 split at hd
 case h_2=>cases hd
 cases hd
 have e:=hc _ dB
 subst e
 exact TM _ (hc _ (eM _ dB)) Γ hg
def aLf (L:Nat):Nat->List SV
 | 0=>oG 0
 | 1=>[.int true .i64 1,.fn (.func 41) [] [.ptr L true 0],.fn (.func 43) [] [.ptr L true 0],.fn (.func 45) [] [.ptr L true 0],.fn (.func 47) [] [.ptr L true 0],.fn (.func 49) [] [.ptr L true 0],.fn (.func 51) [] [.ptr L true 0]]
 | _=>oG 2
def AY (x:Int):List SV:=[.int false .i64 x,.raw (.pointer none)]
def ok0:Int->Nat:=fun _=>0
theorem aVc (x:Int) :
 aK (env fR 22) Tryz.f10 true [false,false] 400 (AY x) (fun _=>none) 100 100 =
 some
 { bO:=[(x==(2:Int))=false,(x==(1:Int))=false],
   val:=SV.agg [SV.int true IntKind.i64 (0:Int),SV.raw Value.nilFunc,SV.raw Value.nilFunc,SV.raw Value.nilFunc,SV.raw Value.nilFunc,SV.raw Value.nilFunc,SV.raw Value.nilFunc] }:=by kernel_rfl
theorem aVb (x:Int) :
 aK (env fR 22) Tryz.f10 true [true] 400 (AY x) (fun _=>none) 100 100 =
 some
 { bO:=[(x==(1:Int))=true],
   val:=
    SV.agg
     [SV.int true IntKind.i64 (1:Int),SV.fn (Fn.func (41:Nat)) [] [SV.ptr 100 true 0],SV.fn (Fn.func (43:Nat)) [] [SV.ptr 100 true 0],
      SV.fn (Fn.func (45:Nat)) [] [SV.ptr 100 true 0],SV.fn (Fn.func (47:Nat)) [] [SV.ptr 100 true 0],
      SV.fn (Fn.func (49:Nat)) [] [SV.ptr 100 true 0],SV.fn (Fn.func (51:Nat)) [] [SV.ptr 100 true 0]],
   new:=[SB.own [SV.raw (Value.pointer none)] 68] }:=by kernel_rfl
theorem aVa (x:Int) :
 aK (env fR 22) Tryz.f10 true [false,true] 400 (AY x) (fun _=>none) 100 100 =
 some
 { bO:=[(x==(2:Int))=true,(x==(1:Int))=false],
   val:=
    SV.agg
     [SV.int true IntKind.i64 (2:Int),SV.fn (Fn.func (35:Nat)) [] [],SV.fn (Fn.func (36:Nat)) [] [],SV.fn (Fn.func (37:Nat)) [] [],SV.fn (Fn.func (38:Nat)) [] [],
      SV.fn (Fn.func (39:Nat)) [] [],SV.fn (Fn.func (40:Nat)) [] []] }:=by kernel_rfl
noncomputable def Jb (sb:wU):Nat->Option Sum:=dM fR 15 (aL aB 100 (Rr sb ok0))
def awK:List Int:=1::List.replicate 31 0
def awZ:List Int:=List.replicate 16 0
theorem aVy (sb:wU):aK (env (Jb sb) 22) Tryz.f8 true [true] 400 [] (fun l=>look l NI) 100 100 =
 some { val:=.bool true true,bO:=[true=true,Jm sb awK 0 [] awZ 0,dY 2,(32:Nat)=32,bW [],bW (awZ.take 0),0<=500000000,16<=16,16<=16,16<=16,16<=500000000,awK=awK,(0:Int)=0,0=0,0=0,16=16,16=16,(0:Int)=0,awZ=awZ/\5=5,([]:List Int)=[]] }:=by kernel_rfl
namespace M
def vI (xs:List Int):List Int:=(List.range 32).map fun i=>xs.getD i 0
theorem FM {xs:List Int} (h:xs.length=32):vI xs=xs:=by
 unfold vI
 apply List.ext_getElem
 .simp [h]
 .intro j h1 h2
  simp only [List.getElem_map,List.getElem_range]
  rw [gU,List.getElem?_eq_getElem h2];rfl
theorem Qe (xs:List Int):(vI xs).length=32:=by simp [vI]
end M
def aCn (L:Nat):Nat->List (Nat × SB)
 | 1=>[(L,.own [.raw (.pointer none)] 68)]
 | _=>[]
def Jd:Nat->Nat
 | 1=>1
 | _=>0
def stC (L e:Nat) (n:SV) (key:List Int):List SV:=n::(aLf L e++(cK .u8 32 key++[.bool true true]))
def nR (x:Int):Nat:=if x=1 then 1 else if x=2 then 2 else 0
theorem Li (x:Int):dY (nR x):=by
 unfold nR dY
 split
 .exact .inr (.inl rfl)
 .split
  .exact .inr (.inr rfl)
  .exact .inl rfl
structure Nu (e:Nat) (x:Int):Prop where
 h:nR x=e
def aLg:Nat->bK
 | 0=>{ val:=.agg (oG 0) }
 | 1=>{ val:=.agg (aLf 100 1),new:=[.own [.raw (.pointer none)] 68] }
 | _=>{ val:=.agg (oG 2) }
theorem XS {e:Nat} {x:Int} (h:nR x=e) (Γ:Env) (hg:Γ.aR=aB):aE Tryz.prog Γ 10 (AY x) (fun _=>none) 100 100 (aLg e):=by
 have hI:∀ hs,aG Tryz.prog (env fR 22) 10 (aK (env fR 22) Tryz.f10 true hs 400):=fun hs=>aN (bN fR 22) (bT fR gH 22) mix Tryz.func10 (by kernel_rfl) true hs 400
 unfold nR at h
 split at h
 .rename_i h1
  subst h
  exact ((hI _).call (aVb x) (aA ⟨by simp [h1],trivial⟩)).words (by rw [hg];rfl) (fun _=>rfl) (fun _ _ h=>h) (fun _=>rfl) rfl rfl
 .rename_i h1
  split at h
  .rename_i h2
   subst h
   exact ((hI _).call (aVa x) (aA ⟨by simp [h2],by simp [h1],trivial⟩)).words (by rw [hg];rfl) (fun _=>rfl) (fun _ _ h=>h) (fun _=>rfl) rfl rfl
  .rename_i h2
   subst h
   exact ((hI _).call (aVc x) (aA ⟨by simp [h2],by simp [h1],trivial⟩)).words (by rw [hg];rfl) (fun _=>rfl) (fun _ _ h=>h) (fun _=>rfl) rfl rfl
def DJ (e:Nat) (vs:List SV) (_:bB):Option Canon:=match vs with
 | [.int _ .i64 x,.raw (.pointer none)]=>some { eR:=AY x,T0:=[],vl:=[],e0:=aLg e,conds:=[Nu e x] }
 | _=>none
theorem aHy (e:Nat) (Γ:Env) (hg:Γ.aR=aB):aG Tryz.prog Γ 10 (aL aB 100 (DJ e)):=by
 refine aW hg fun vs T c hd hc=>?_
 unfold DJ at hd
 split at hd
 case h_2=>cases hd
 cases hd
 exact XS (Nu.h (hc _ (by simp))) Γ hg
def EC (vs:List SV) (_:bB):Option Canon:=match vs with
 | []=>some { eR:=[],T0:=NI,vl:=QJ,e0:={ val:=.bool true true },conds:=[] }
 | _=>none
theorem Uh (sb:wU):∀ f S,Jb sb f=some S->∀ Γ:Env,Γ.aR=aB->aG Tryz.prog Γ f S:=bF gH 15 _ (EP sb ok0)
theorem YN (Γ:Env) (hg:Γ.aR=aB):aE Tryz.prog Γ 8 [] (fun l=>look l NI) 100 100 { val:=.bool true true }:=by
 have hI:aG Tryz.prog (env (Jb Q.dL) 22) 8 (aK (env (Jb Q.dL) 22) Tryz.f8 true [true] 400):=aN (bN _ 22) (bT _ (Uh _) 22) mix Tryz.func8 (by kernel_rfl) true [true] 400
 refine (hI.call (aVy Q.dL) (aA ?_)).words (by rw [hg];rfl) (fun _=>rfl) (fun _ _ h=>h) (fun _=>rfl) rfl rfl
 simp only [bZ]
 repeat' apply And.intro
 all_goals first | rfl | trivial | omega | exact ⟨rfl⟩ | exact .inr (.inr rfl) | exact fun _ h=>by cases h
theorem aJc (Γ:Env) (hg:Γ.aR=aB):aG Tryz.prog Γ 8 (aL aB 100 EC):=by
 refine aW hg fun vs T c hd hc=>?_
 unfold EC at hd
 split at hd
 case h_2=>cases hd
 cases hd
 exact YN Γ hg
def ZX:List (Nat × List Bool):=[(16,[false,false,false]),(32,[true])]
noncomputable def EE (ex:Nat->Option Sum):List (Nat × List Bool)->Nat->Option Sum
 | []=>ex
 | (f,h)::r=>zS (EE ex r) f h
theorem Lt {ex:Nat->Option Sum} (hex:∀ f S,ex f=some S->∀ Γ:Env,Γ.aR=aB->aG Tryz.prog Γ f S):∀ l:List (Nat × List Bool),∀ f S,EE ex l f=some S->∀ Γ:Env,Γ.aR=aB->aG Tryz.prog Γ f S
 | []=>hex
 | (f,h)::r=>kX (Lt hex r) f h
def rcL (e:Nat) (N:Int) (key:List Int):List (Nat × SB):=(60,.own (stC 50 e (.int false .u64 N) key) 67)::(Vy e++NI)
def rcT (e:Nat) (N:Int) (key:List Int):bB:=fun l=>look l (rcL e N key)
noncomputable def rcM (sb:wU) (e:Nat) (N:Int) (key:List Int) (k:Nat) (cf:Cf) (K:List Fr) (s:St):Option qL:=hH (env (Jb sb) 22) (bI 100 (rcT e N key)) 100 Tryz.f13.ntmps [] 400 k cf K s
def rcG:List (Nat × SV):=[(0,.ptr 60 true 0),(3,.ptr 100 true 0)]
def rcB (nx:List Int):List (Nat × SB):=[(100,.own (cK .u8 48 nx) 70)]
def Bz:List Int:=List.replicate 48 0
def BX (nx:List Int):List Int:=(List.range 48).map fun i=>nx.getD i 0
abbrev jM:Int:=18446744073709551615
theorem aRn (e:Nat) (he:dY e) (sb:wU) (key nx:List Int) (N:Int):gX 100 Tryz.f13.ntmps (bI 100 (rcT e N key)) [] rcG (rcB nx) 101 [] [] (rcM sb e N key 30 (.go (codeOf Tryz.f13)) [] ((Df [.ptr 60 true 0] 100).hint []))=some (.go (pR 5 (codeOf Tryz.f13)),[],
 [Jm sb (M.vI key) jM [] Bz 32,dY e,(M.vI key).length=32,bW [],bW (Bz.take 32),0<=500000000,48<=48,48<=48,48<=48,48<=500000000,M.vI key=M.vI key,jM=jM,0=0,0=0,48=48,48=48,(32:Int)=32,Bz=Bz/\70=70,([]:List Int)=[],sb (M.vI key) jM [] Bz 32=BX nx/\70=70]):=by
 rcases he with rfl | rfl | rfl <;> kernel_rfl
theorem aRm (e:Nat) (he:dY e) (sb:wU) (key nx:List Int) (N:Int):xU (env (Jb sb) 22) (rcT e N key) 100 100 Tryz.f13 [] (rcM sb e N key 400 (.go (pR 5 (codeOf Tryz.f13))) [] ((cE rcG (rcB nx) 101 [] []).hint []))=some { val:=.raw .nilIface,wr:=[(60,.own (stC 50 e (.int false .u64 N) nx) 67)] }:=by
 rcases he with rfl | rfl | rfl <;> kernel_rfl
namespace Q
end Q
theorem oV (key:List Int) (N:Int) (ad bs:List Int) (n:Nat) (h:n+16<=bs.length):(Q.dL key N ad bs n).length=bs.length:=by
 unfold Q.dL
 have:=Q.Ef key N ad (Q.cx key N (bs.take n))
 simp only [List.length_append,Q.Ez,this,List.length_take,List.length_drop]
 omega
theorem TU {e:Nat} (he:dY e) {key:List Int} {N:Int} (hk:key.length=32) (Γ:Env) (hg:Γ.aR=aB) :
 aE Tryz.prog Γ 13 [.ptr 60 true 0] (rcT e N key) 100 100 { val:=.raw .nilIface,wr:=[(60,.own (stC 50 e (.int false .u64 N) (Q.dL key jM [] Bz 32)) 67)] }:=by
 refine aE.words (Γ:=env (Jb Q.dL) 22) (vs:=[.ptr 60 true 0]) ?_ (by rw [hg];rfl) (fun _=>rfl) (fun _ _ h=>h) (fun _=>rfl) rfl rfl
 have aV:=bN (Jb Q.dL) 22
 have aY:=bT _ (Uh Q.dL) 22
 refine iH aV aY Tryz.func13 (by kernel_rfl) rfl (kO (by kernel_rfl)) rfl [] ?_
 intro w0 Mx V0 Qx hb H
 have hk3:=M.FM hk
 have hl:(Q.dL key jM [] Bz 32).length=48:=oV _ _ _ _ _ (dE 48)
 have hr:Q.dL key jM [] Bz 32=BX (Q.dL key jM [] Bz 32):=by
  unfold BX
  apply List.ext_getElem
  .simp [hl]
  .intro j h1 h2
   simp only [List.getElem_map,List.getElem_range]
   rw [gU,List.getElem?_eq_getElem h1];rfl
 have hz:bW (Bz.take 32):=Q.Lx _ (Q.uL 48)
 refine G.gX aV aY mix hb [] (aRn e he Q.dL key (Q.dL key jM [] Bz 32) N) (aA ?_) ?_
 .rw [hk3]
  simp only [bZ]
  repeat' apply And.intro
  all_goals first | assumption | exact ⟨rfl⟩ | omega | trivial | exact (fun _ h=>by cases h)
 exact G.tB (cl:=[]) aV aY mix [] H (aRm e he Q.dL key _ N) gD rfl rfl rfl
namespace Q
def rx (key:List Int):List Int:=dL key jM [] Bz 32
end Q
structure QK (rx:List Int->List Int) (k:List Int):Prop where
 h:rx k=Q.rx k
def BY (rx:List Int->List Int) (vs:List SV) (T:bB):Option Canon:=match vs with
 | [.ptr l _ 0]=>match T l with
   | some (.own cs _)=>match cs.head?,Ae (.agg ((cs.drop 1).take 7)),tF ((cs.drop 8).take 32),cs.drop 40 with
     | some (.int _ .u64 N),some (e,vl),some (.u8,k),[.bool true true]=>some { eR:=[.ptr 60 true 0],T0:=rcL e N k,vl:=(60,.lab l 0)::(vl++QJ),e0:={ val:=.raw .nilIface,wr:=[(60,.own (stC 50 e (.int false .u64 N) (rx k)) 67)] },conds:=[QK rx k,dY e,k.length=32] }
     | _,_,_,_=>none
   | _=>none
 | _=>none
theorem aFa (rx:List Int->List Int) (Γ:Env) (hg:Γ.aR=aB):aG Tryz.prog Γ 13 (aL aB 100 (BY rx)):=by
 refine aW hg fun vs T c hd hc=>?_
 unfold BY at hd
 split at hd
 case h_2=>cases hd
 split at hd
 case h_2=>cases hd
 split at hd
 case h_2=>cases hd
 cases hd
 have e:rx _=_:=QK.h (hc _ dB)
 rw [e]
 exact TU (hc _ (eM _ dB)) (hc _ (eM _ (eM _ dB))) Γ hg
noncomputable def aLd (sb:wU) (rx:List Int->List Int) (e:Nat):Nat->Option Sum:=EE (dM (dM (dM (dM (dM fR 15 (aL aB 100 (Rr sb ok0))) 17 (aL aB 100 BT)) 8 (aL aB 100 EC)) 10 (aL aB 100 (DJ e))) 13 (aL aB 100 (BY rx))) ZX
theorem XN (sb:wU) (rx:List Int->List Int) (e:Nat):∀ f S,aLd sb rx e f=some S->∀ Γ:Env,Γ.aR=aB->aG Tryz.prog Γ f S:=
 Lt (bF (bF (bF (bF (bF gH 15 _ (EP sb ok0)) 17 _ aEy) 8 _ aJc) 10 _ (aHy e)) 13 _ (aFa rx)) ZX
noncomputable def Cp (sb:wU) (rx:List Int->List Int) (e:Nat):Env:=env (aLd sb rx e) 22
theorem Gv (sb:wU) (rx:List Int->List Int) (e:Nat):cA Tryz.prog (Cp sb rx e):=bN _ 22
theorem Gw (sb:wU) (rx:List Int->List Int) (e:Nat):cH Tryz.prog (Cp sb rx e):=bT _ (XN sb rx e) 22
theorem Nv (sb:wU) (rx:List Int->List Int) (e e':Nat):(Cp sb rx e).aR=(Cp sb rx e').aR:=by kernel_rfl
section
open Go.ChangeShapes Go.WideShapes
section
variable {H:Type} {enc:TypeId × Value->H} {P:Program} {w:World} {held:Bool}
theorem wf_u8 {n:Int} (h:(Lit.int .u8 n).wf=true):Bt n:=by
 have:=bounds_u8 h
 exact ⟨this.1,by omega⟩
theorem Br {fuel:Nat} {tb t5:TypeId} {cs:List Value} {x:DataW H × List MemPlace} (ht:P.underlying tb=some (.slice t5)) (h5:P.underlying t5=some (.int .u8)) (hc:P.cellsOf t5=1)
 (h:DataW.trod enc P w 0 (fun _=>true) held fuel tb cs=some x):∃ v xs,cs=[v]/\vT w .u8 v xs/\bW xs:=by
 rcases open_ints ht h5 hc h with ⟨rfl,_⟩ | ⟨a,len,cap,zs,rfl,_,hle,_,hz,_,gM,hwf⟩
 .exact ⟨_,[],rfl,.inl ⟨.nil,rfl⟩,fun _ h=>by cases h⟩
 .simp only [if_true] at hz
  refine ⟨_,zs.take len,rfl,?_,fun z hzm=>wf_u8 (hwf z (List.mem_of_mem_take hzm))⟩
  by_cases h0:cap=0
  .subst h0
   have:len=0:=by omega
   subst this
   exact .inl ⟨⟨_,rfl⟩,by simp⟩
  .have yT:=gM 0 (by omega)
   obtain ⟨b,o,s⟩:=a
   have hs:s=none:=by
    have:=World.cell?_spot yT
    cases s with
    | none=>rfl
    | some s=>simp [Addr.add] at this
   subst hs
   have hlen:(zs.take len).length=len:=by rw [List.length_take];omega
   refine .inr ⟨b,o,cap,by rw [hlen],?_,by omega,fun j u hj=>?_⟩
   .rw [bJ] at yT
    unfold World.cell? at yT
    simp only at yT
    cases hb:w.heap[b]? with
    | none=>rw [hb] at yT;simp at yT
    | some y=>exact (Array.getElem?_eq_some_iff.1 hb).1
   .rw [List.map_take,List.getElem?_take] at hj
    split at hj
    .rename_i hjl
     rw [List.getElem?_map] at hj
     obtain ⟨z,hzj,rfl⟩:=Option.map_eq_some_iff.1 hj
     have:=gM j (by omega)
     rw [bJ] at this
     rw [this,gU,hzj]
     rfl
    .cases hj
def intOf:Value->Int
 | .int _ z=>z
 | _=>0
theorem Mi {fuel:Nat} {ta t5:TypeId} {n:Nat} {cs:List Value} {x:DataW H × List MemPlace} (ht:P.underlying ta=some (.array n t5)) (h5:P.underlying t5=some (.int .u8)) (hc:P.cellsOf t5=1) (kF:P.cellsOf ta=n)
 (h:DataW.trod enc P w 0 (fun _=>true) held fuel ta cs=some x):∃ xs,xs.length=n/\cs=xs.map (Value.int .u8)/\bW xs:=by
 obtain ⟨xs,m,_,_,hlen,hn,hel⟩:=DataW.trod_array ht h
 rw [kF] at hlen
 have key:∀ i,i<n->∃ z,cs[i]?=some (.int .u8 z)/\Bt z:=by
  intro i hi
  have h1:=hel i hi
  rw [hc,Nat.mul_one,List.getElem?_eq_getElem (by omega)] at h1
  obtain ⟨z,hz,_,hw⟩:=DataW.trod_int h5 h1
  refine ⟨z,?_,wf_u8 hw⟩
  have:=congrArg (·[0]?) hz
  simpa [List.getElem?_take,List.getElem?_drop] using this
 refine ⟨cs.map intOf,by simp [hlen],?_,fun z hz=>?_⟩
 .rw [List.map_map]
  refine List.ext_getElem? fun i=>?_
  rw [List.getElem?_map]
  by_cases hi:i<n
  .obtain ⟨z,hz,_⟩:=key i hi
   rw [hz];rfl
  .rw [List.getElem?_eq_none (by omega)];rfl
 .obtain ⟨v,hv,rfl⟩:=List.mem_map.1 hz
  obtain ⟨i,hi⟩:=List.getElem?_of_mem hv
  have ZF:i<n:=by rw [<- hlen];exact (List.getElem?_eq_some_iff.1 hi).1
  obtain ⟨z,hz,hb⟩:=key i ZF
  rw [hi] at hz
  cases hz
  exact hb
end
end
end Go.Proofs.YtnodfocobmghiaaGreatDoor.Sx
