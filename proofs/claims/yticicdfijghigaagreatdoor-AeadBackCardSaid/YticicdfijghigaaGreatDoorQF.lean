/- Plain Lean for the fast stream: bytes turned by a row of bytes; four blocks at once. -/
import Derived.KernelRfl
import Derived.Lib.Mul64
import Derived.Laws.Bits64b
import Derived.Test.YticicdfijghigaaGreatDoorQE
open Go
set_option maxRecDepth 100000
namespace Go.Proofs.YticicdfijghigaaGreatDoor.Sx
namespace Q
def sA (off n:Nat) (f:Nat->Int) (xs:List Int):List Int:=
 (List.range xs.length).map fun m=>if off<=m/\m<off+n then iK .u8 (xs.getD m 0) (f (m-off)) else xs.getD m 0
theorem uS (key nonce:List Int) (c:Int) (off n:Nat) (xs:List Int):cG key nonce c off n xs=sA off n (zB key nonce c) xs:=rfl
theorem gR (off n:Nat) (f:Nat->Int) (xs:List Int):(sA off n f xs).length=xs.length:=by simp [sA]
def Z (off n:Nat) (P:Nat->Bool) (f:Nat->Int) (xs:List Int):List Int:=
 (List.range xs.length).map fun m=>if off<=m/\m<off+n/\P (m-off)=true then iK .u8 (xs.getD m 0) (f (m-off)) else xs.getD m 0
theorem Nv (off n:Nat) (P:Nat->Bool) (f:Nat->Int) (xs:List Int):(Z off n P f xs).length=xs.length:=by simp [Z]
theorem aUo (off n:Nat) (P:Nat->Bool) (f:Nat->Int) (xs:List Int) {m:Nat} (h:m<xs.length):(Z off n P f xs).getD m 0=if off<=m/\m<off+n/\P (m-off)=true then iK .u8 (xs.getD m 0) (f (m-off)) else xs.getD m 0:=by
 simp [Z,List.getD_eq_getElem?_getD,h]
theorem lQ {off n:Nat} {P P':Nat->Bool} (f:Nat->Int) (xs:List Int) (h:∀ m,m<n->P m=P' m):Z off n P f xs=Z off n P' f xs:=by
 unfold Z
 refine List.map_congr_left fun m _=>?_
 by_cases hm:off<=m/\m<off+n
 .rw [h (m-off) (by omega)]
 .rw [if_neg (fun q=>hm ⟨q.1,q.2.1⟩),if_neg (fun q=>hm ⟨q.1,q.2.1⟩)]
theorem KF (off n:Nat) (f:Nat->Int) (xs:List Int):Z off n (fun _=>false) f xs=xs:=by
 apply List.ext_getElem
 .simp [Z]
 .intro i h1 h2
  simp [Z,List.getD_eq_getElem?_getD,h2]
theorem aFe (off n:Nat) (f:Nat->Int) (xs:List Int):Z off n (fun _=>true) f xs=sA off n f xs:=by
 unfold Z sA
 refine List.map_congr_left fun m _=>?_
 simp only [and_true]
theorem aFd {off n q:Nat} {P:Nat->Bool} {f:Nat->Int} {xs:List Int} (hq:q<n) (hx:off+q<xs.length) (hP:P q=false) :
 (Z off n P f xs).set (off+q) (iK .u8 ((Z off n P f xs).getD (off+q) 0) (f q))=Z off n (fun m=>P m||m==q) f xs:=by
 apply List.ext_getElem
 .simp [Z]
 .intro i h1 h2
  have hl:i<xs.length:=by simpa [Z] using h2
  rw [List.getElem_set]
  split
  .rename_i e
   subst e
   rw [aUo _ _ _ _ _ hx,if_neg (by rw [Nat.add_sub_cancel_left,hP];simp)]
   simp only [Z,List.getElem_map,List.getElem_range,Nat.add_sub_cancel_left]
   rw [if_pos ⟨by omega,by omega,by simp⟩]
  .rename_i e
   simp only [Z,List.getElem_map,List.getElem_range]
   by_cases hc:off<=i/\i<off+n
   .have:(i-off==q)=false:=by simp;omega
    simp only [this,Bool.or_false]
   .rw [if_neg (fun q=>hc ⟨q.1,q.2.1⟩),if_neg (fun q=>hc ⟨q.1,q.2.1⟩)]
theorem Zl (v:List Int) (a b c d:Nat):(B.qr v a b c d).length=v.length:=by simp [B.qr]
theorem BP (v:List Int):(B.dr v).length=v.length:=by simp [B.dr,Zl]
theorem jD (k:Nat) (v:List Int):(lane k v).length=16:=by simp [lane]
theorem wA (k:Nat) (v:List Int) {i:Nat} (h:i<16):(lane k v).getD i 0=v.getD (4*i+k) 0:=by simp [lane,List.getD_eq_getElem?_getD,h]
theorem vY (a b c d:List Int) {i:Nat} (hi:i<16):(zA a b c d).getD (4*i+0) 0=a.getD i 0/\(zA a b c d).getD (4*i+1) 0=b.getD i 0/\(zA a b c d).getD (4*i+2) 0=c.getD i 0/\(zA a b c d).getD (4*i+3) 0=d.getD i 0:=by
 have g:∀ j,j<64->(zA a b c d).getD j 0=Fx a b c d j:=fun j hj=>by simp [zA,List.getD_eq_getElem?_getD,hj]
 refine ⟨?_,?_,?_,?_⟩
 .rw [g _ (by omega)];unfold Fx;rw [show (4*i+0)%4=0 by omega,show (4*i+0)/4=i by omega];rfl
 .rw [g _ (by omega)];unfold Fx;rw [show (4*i+1)%4=1 by omega,show (4*i+1)/4=i by omega];rfl
 .rw [g _ (by omega)];unfold Fx;rw [show (4*i+2)%4=2 by omega,show (4*i+2)/4=i by omega];rfl
 .rw [g _ (by omega)];unfold Fx;rw [show (4*i+3)%4=3 by omega,show (4*i+3)/4=i by omega];rfl
theorem Ch {a b:List Int} (ha:a.length=16) (hb:b.length=16) (h:∀ i,i<16->a.getD i 0=b.getD i 0):a=b:=by
 apply List.ext_getElem (by omega)
 intro i h1 h2
 have:=h i (by omega)
 rw [List.getD_eq_getElem?_getD,List.getD_eq_getElem?_getD,List.getElem?_eq_getElem h1,List.getElem?_eq_getElem h2] at this
 simpa using this
theorem Zs {a b c d:List Int} (ha:a.length=16) (hb:b.length=16) (hc:c.length=16) (hd:d.length=16) :
 lane 0 (zA a b c d)=a/\lane 1 (zA a b c d)=b/\lane 2 (zA a b c d)=c/\lane 3 (zA a b c d)=d:=by
 refine ⟨Ch (jD _ _) ha fun i hi=>?_,Ch (jD _ _) hb fun i hi=>?_,Ch (jD _ _) hc fun i hi=>?_,Ch (jD _ _) hd fun i hi=>?_⟩ <;> rw [wA _ _ hi]
 .exact (vY a b c d hi).1
 .exact (vY a b c d hi).2.1
 .exact (vY a b c d hi).2.2.1
 .exact (vY a b c d hi).2.2.2
theorem LS (v:List Int) {k:Nat} (hk:k<4):lane k (dr4 v)=B.dr (lane k v):=by
 have l:∀ k,(B.dr (lane k v)).length=16:=fun k=>by rw [BP,jD]
 have h:=Zs (l 0) (l 1) (l 2) (l 3)
 rcases (by omega:k=0\/k=1\/k=2\/k=3) with rfl | rfl | rfl | rfl
 .exact h.1
 .exact h.2.1
 .exact h.2.2.1
 .exact h.2.2.2
def it (v:List Int):Nat->List Int
 | 0=>v
 | n+1=>dr4 (it v n)
theorem Gw (v:List Int) (hv:v.length=64):∀ n,(it v n).length=64
 | 0=>hv
 | n+1=>by simp [it,dr4,zA]
theorem Si (n:Nat):∀ v:List Int,B.rounds n (B.dr v)=B.dr (B.rounds n v):=by
 induction n with
 | zero=>intro v;rfl
 | succ n ih=>intro v;rw [B.rounds,ih,B.rounds,ih]
theorem Wq (v:List Int) {k:Nat} (hk:k<4):∀ n,lane k (it v n)=B.rounds n (lane k v)
 | 0=>rfl
 | n+1=>by rw [it,LS _ hk,Wq v hk n,B.rounds,Si]
def st4 (s:List Int) (k:Nat):List Int:=s.set 12 (IntKind.u32.wrap (s.getD 12 0+(k:Int)))
theorem Tv (s:List Int):(jI s).length=64:=by simp [jI]
theorem LU {s:List Int} (hs:s.length=16) {k:Nat} (hk:k<4):lane k (jI s)=st4 s k:=by
 have g:∀ j,j<64->(jI s).getD j 0=HX s j:=fun j hj=>by simp [jI,List.getD_eq_getElem?_getD,hj]
 refine Ch (jD _ _) (by simp [st4,hs]) fun i hi=>?_
 rw [wA _ _ hi,g _ (by omega)]
 unfold HX
 rw [show (4*i+k)/4=i by omega,show (4*i+k)%4=k by omega,IntWalk.u32_in (k:Int) (by omega)]
 unfold st4
 by_cases h:i=12
 .subst h
  simp [List.getD_eq_getElem?_getD,hs]
 .have e:Nat.beq i 12=false:=by
   cases hb:Nat.beq i 12 with
   | false=>rfl
   | true=>exact absurd (cH hb) h
  rw [e]
  simp only [List.getD_eq_getElem?_getD]
  rw [List.getElem?_set_ne (by omega)]
def jA (s:List Int) (m:Nat):Int:=(B.out (B.rounds 10 (st4 s (m/64))) (st4 s (m/64))).getD (m%64) 0
theorem YR (v w:List Int) {j:Nat} (h:j<64):(B.out v w).getD j 0=IntKind.u8.wrap (bZ .u32 (IntKind.u32.wrap (v.getD (j/4) 0+w.getD (j/4) 0)) (IntKind.i64.wrap (8*(j%4:Nat)))):=by
 simp [B.out,List.getD_eq_getElem?_getD,h]
theorem aNk {s:List Int} (hs:s.length=16) {i k n:Nat} (hi:i<16) (hk:k<4) (hn:n<4):byt (it (jI s) 10) (jI s) i k n=jA s (64*k+4*i+n):=by
 unfold jA
 rw [show (64*k+4*i+n)/64=k by omega,show (64*k+4*i+n)%64=4*i+n by omega,YR _ _ (by omega),show (4*i+n)/4=i by omega,show (4*i+n)%4=n by omega]
 rw [<- LU hs hk,<- Wq _ hk,wA _ _ hi,wA _ _ hi,IntWalk.i64_in _ (by omega)]
 unfold byt wd
 rw [Int.toNat_natCast,Int.toNat_natCast,show 0+i*4+k*1+0=4*i+k by omega]
theorem aEn {i k n:Nat} (hi:i<16) (hk:k<4) (hn:n<4):ix i k n=((64*k+4*i+n:Nat):Int):=by
 unfold ix
 rw [IntWalk.i64_in (64*(k:Int)) (by omega),IntWalk.i64_in (4*(i:Int)) (by omega),IntWalk.i64_in (64*(k:Int)+4*(i:Int)) (by omega),IntWalk.i64_in _ (by omega)]
 omega
theorem aFc (off:Nat) {i k n:Nat} (hi:i<16) (hk:k<4) (hn:n<4):ad off i k n=off+(64*k+4*i+n):=by
 unfold ad
 rw [aEn hi hk hn,Int.toNat_natCast,Nat.mul_one]
def dn (i k:Nat) (m:Nat):Bool:=decide (m%64/4<i\/(m%64/4=i/\m/64<k))
theorem Nw (off:Nat) (v w:List Int) (i k:Int) (xs:List Int):∀ n,(X off v w i k xs n).length=xs.length
 | 0=>rfl
 | n+1=>by rw [X,List.length_set,Nw off v w i k xs n]
theorem X_Z {s xs:List Int} (hs:s.length=16) {off i k:Nat} (hi:i<16) (hk:k<4) (hx:off+256<=xs.length):∀ n,n<=4 ->
 X off (it (jI s) 10) (jI s) i k (Z off 256 (dn i k) (jA s) xs) n=Z off 256 (fun m=>dn i k m||decide (64*k+4*i<=m/\m<64*k+4*i+n)) (jA s) xs
 | 0,_=>by
   rw [X]
   refine lQ _ _ fun m _=>?_
   have:decide (64*k+4*i<=m/\m<64*k+4*i+0)=false:=decide_eq_false (by omega)
   rw [this,Bool.or_false]
 | n+1,hn=>by
   rw [X,X_Z hs hi hk hx n (by omega),aFc off hi hk (by omega),Nat.add_zero,aNk hs hi hk (by omega),aFd (by omega) (by omega) (by simp [dn];omega)]
   refine lQ _ _ fun m hm=>?_
   rw [Bool.or_assoc]
   congr 1
   rw [Bool.eq_iff_iff]
   simp only [Bool.or_eq_true,decide_eq_true_eq,beq_iff_eq]
   omega
theorem bBr {s xs:List Int} (hs:s.length=16) {off i k:Nat} (hi:i<16) (hk:k<4) (hx:off+256<=xs.length) :
 X off (it (jI s) 10) (jI s) i k (Z off 256 (dn i k) (jA s) xs) 4=Z off 256 (dn i (k+1)) (jA s) xs:=by
 rw [X_Z hs hi hk hx 4 (by omega)]
 refine lQ _ _ fun m hm=>?_
 unfold dn
 rw [Bool.eq_iff_iff]
 simp only [Bool.or_eq_true,decide_eq_true_eq]
 omega
theorem aCu (off i:Nat) (f:Nat->Int) (xs:List Int):Z off 256 (dn i 4) f xs=Z off 256 (dn (i+1) 0) f xs:=lQ _ _ fun m hm=>by
 unfold dn
 rw [Bool.eq_iff_iff]
 simp only [decide_eq_true_eq]
 omega
theorem bAm (off:Nat) (f:Nat->Int) (xs:List Int):Z off 256 (dn 0 0) f xs=xs:=by
 rw [lQ (P':=fun _=>false) _ _ fun m hm=>by unfold dn;exact decide_eq_false (by omega)]
 exact KF _ _ _ _
theorem aUj (off:Nat) (f:Nat->Int) (xs:List Int):Z off 256 (dn 16 0) f xs=sA off 256 f xs:=by
 rw [lQ (P':=fun _=>true) _ _ fun m hm=>by unfold dn;exact decide_eq_true (by omega)]
 exact aFe _ _ _ _
end Q
namespace M
def cy (xs:List Int):Nat->Int
 | 0=>0
 | i+1=>(cy xs i+xs.getD i 0)/256
 termination_by c
 decreasing_by omega
def val:List Int->Int
 | []=>0
 | x::r=>x+256*val r
end M
namespace M
def h (xs:List Int) (i:Nat):Int:=xs.getD i 0/4+xs.getD (i+1) 0%4*64
end M
namespace M
end M
namespace M
def vs (f:Nat->Int):Nat->Int
 | 0=>0
 | n+1=>f 0+256*vs (fun i=>f (i+1)) n
theorem Co {f g:Nat->Int}:∀ {n:Nat},(∀ i,i<n->f i=g i)->vs f n=vs g n
 | 0,_=>rfl
 | n+1,h=>by
   unfold vs
   rw [h 0 (by omega),Co (f:=fun i=>f (i+1)) (g:=fun i=>g (i+1)) fun i hi=>h (i+1) (by omega)]
theorem Ih (f:Nat->Int) (m:Nat):∀ n:Nat,vs f (n+m)=vs f n+256^n*vs (fun i=>f (n+i)) m:=by
 intro n
 induction n generalizing f with
 | zero=>simp [vs]
 | succ n ih=>
   rw [show n+1+m=(n+m)+1 from by omega,vs,vs,ih]
   rw [show (fun i=>f (n+i+1))=fun i=>f (n+1+i) from by funext i;congr 1;omega,Int.pow_succ]
   rw [Int.mul_add,Int.mul_comm (256^n) 256,Int.mul_assoc]
   omega
theorem Vn {f:Nat->Int}:∀ {n:Nat},(∀ i,i<n->f i=0)->vs f n=0
 | 0,_=>rfl
 | n+1,h=>by
   unfold vs
   rw [h 0 (by omega),Vn (f:=fun i=>f (i+1)) fun i hi=>h (i+1) (by omega)]
   rfl
theorem zS (f:Nat->Int) (n:Nat):vs f (n+1)=vs f n+256^n*f n:=by
 rw [Ih f 1 n];simp [vs]
def V (xs:List Int):Int:=vs (fun i=>xs.getD i 0) xs.length
theorem bBt (xs:List Int) (n:Nat) (h:xs.length<=n):vs (fun i=>xs.getD i 0) n=V xs:=by
 obtain ⟨m,rfl⟩:∃ m,n=xs.length+m:=⟨n-xs.length,by omega⟩
 rw [Ih]
 have:vs (fun i=>xs.getD (xs.length+i) 0) m=0:=Vn fun i _=>by
  rw [List.getD_eq_getElem?_getD,List.getElem?_eq_none (by omega)];rfl
 rw [this];unfold V;omega
theorem QK (a b:List Int):V (a++b)=V a+256^a.length*V b:=by
 unfold V
 rw [List.length_append,Ih]
 congr 1
 .exact Co fun i hi=>by simp [List.getD_eq_getElem?_getD,List.getElem?_append,hi]
 .congr 1
  exact Co fun i _=>by rw [List.getD_eq_getElem?_getD,List.getD_eq_getElem?_getD,List.getElem?_append_right (Nat.le_add_right _ _),Nat.add_sub_cancel_left]
theorem tK (x:Int) (r:List Int):V (x::r)=x+256*V r:=by
 unfold V
 rw [List.length_cons,vs]
 simp
theorem By:V []=0:=rfl
end M
namespace M
def p:Int:=1361129467683753853853498429727072845819
def num (n:Int):List Int:=(List.range 17).map fun i=>n/256^i%256
theorem Wj (n:Int) {i:Nat} (h:i<17):(num n).getD i 0=n/256^i%256:=by simp [num,List.getD_eq_getElem?_getD,h]
end M
namespace M
end M
namespace M
end M
namespace M
def Iv (b:List Int) (i:Nat):Int:=match i%4 with
 | 3=>(IntKind.i64.wrap (b.getD i 0)).tmod 16
 | 0=>match i with
   | 0=>IntKind.i64.wrap (b.getD i 0)
   | _=>IntKind.i64.wrap (IntKind.i64.wrap (b.getD i 0)-(IntKind.i64.wrap (b.getD i 0)).tmod 4)
 | _=>IntKind.i64.wrap (b.getD i 0)
def Ru (b:List Int):List Int:=(List.range 16).map (Iv b)
def sc (a s:List Int):Nat->Int
 | 0=>0
 | i+1=>IntKind.i64.wrap ((IntKind.i64.wrap (IntKind.i64.wrap (sc a s i+a.getD i 0)+IntKind.i64.wrap (s.getD i 0))).tdiv 256)
def Pr (a s:List Int):List Int:=(List.range 16).map fun i=>IntKind.u8.wrap ((IntKind.i64.wrap (IntKind.i64.wrap (sc a s i+a.getD i 0)+IntKind.i64.wrap (s.getD i 0))).tmod 256)
end M
namespace M
end M
namespace R
end R
theorem kX (n:Nat):cI Tryz.prog (env gB n):=bW gB (fun f S h Γ _=>qU f S h Γ) n
namespace R
end R
def Ws (v:List Int):Prop:=∀ x∈v,W x
theorem Ws.set {v:List Int} (h:Ws v) (i:Nat) {x:Int} (hx:W x):Ws (v.set i x):=by
 intro y hy
 rcases List.mem_or_eq_of_mem_set hy with hy | hy
 .exact h y hy
 .subst hy;exact hx
def Bt (x:Int):Prop:=0<=x/\x<256
def bR (v:List Int):Prop:=∀ x∈v,Bt x
theorem bR.get {v:List Int} (h:bR v) (i:Nat):Bt (v.getD i 0):=by
 rw [List.getD_eq_getElem?_getD]
 cases hv:v[i]? with
 | none=>exact ⟨by decide,by decide⟩
 | some x=>exact h x (List.mem_of_getElem? hv)
theorem Bt.nat {x:Int} (h:Bt x):∃ a:Nat,x=a/\a<256:=⟨x.toNat,by unfold Bt at h;omega,by unfold Bt at h;omega⟩
namespace M
theorem aHr (n:Int):∀ k:Nat,vs (fun i=>n/256^i%256) k=n%256^k:=by
 intro k
 induction k with
 | zero=>simp [vs,Int.emod_one]
 | succ k ih=>
   rw [zS,ih,Int.pow_succ]
   have c:(0:Int)<256^k:=Int.pow_pos (by omega)
   have h1:=Int.emod_add_mul_ediv n (256^k)
   have h2:=Int.emod_nonneg n (show (256:Int)^k≠0 by omega)
   have h3:=Int.emod_lt_of_pos n c
   have h4:=Int.emod_add_mul_ediv (n/256^k) 256
   have h5:=Int.emod_nonneg (n/256^k) (show (256:Int)≠0 by omega)
   have h6:=Int.emod_lt_of_pos (n/256^k) (show (0:Int)<256 by omega)
   generalize n/256^k%256=s at *
   generalize n/256^k/256=q at *
   generalize n%256^k=r at *
   have e:n=(r+256^k*s)+256^k*256*q:=by
    rw [<- h1,<- h4,Int.mul_add,Int.mul_assoc];omega
   have l:r+256^k*s<256^k*256:=by
    have:256^k*s<=256^k*255:=Int.mul_le_mul_of_nonneg_left (by omega) (Int.le_of_lt c)
    omega
   have l0:0<=r+256^k*s:=by
    have:0<=256^k*s:=Int.mul_nonneg (Int.le_of_lt c) h5
    omega
   have:n%(256^k*256)=r+256^k*s:=by
    rw [e,Int.add_mul_emod_self_left,Int.emod_eq_of_lt l0 l]
   exact this.symm
end M
namespace M
end M
end Go.Proofs.YticicdfijghigaaGreatDoor.Sx
section
namespace Go.Proofs.YticicdfijghigaaGreatDoor.Sx
end Go.Proofs.YticicdfijghigaaGreatDoor.Sx
end
namespace Go.Proofs.YticicdfijghigaaGreatDoor.Sx
namespace M
def aM (data:List Int) (i:Int) (m:Nat):List Int:=((List.range m).map fun j:Nat=>data.getD (IntKind.i64.wrap (i+(j:Int))).toNat 0)++1::List.replicate (16-m) 0
end M
namespace M
def lo (key:List Int):List Int:=(List.range 16).map fun j=>key.getD j 0
def hi (key:List Int):List Int:=(List.range 16).map fun j=>key.getD (16+j) 0
def cl (key:List Int):List Int:=Ru (lo key)++[0]
def acc (r:Int) (data:List Int):Nat->Int
 | 0=>0
 | j+1=>((acc r data j+V (aM data (16*(j:Int)) (min 16 (data.length-16*j))))*r)%p
def tag (key data:List Int):List Int:=Pr (num (acc (V (cl key)) data ((data.length+15)/16))) (hi key)
theorem aDe {data:List Int} (hd:bR data) (i:Int) (m:Nat):bR (aM data i m):=by
 intro x hx
 simp only [aM,List.mem_append,List.mem_map,List.mem_cons,List.mem_replicate] at hx
 rcases hx with ⟨j,_,rfl⟩ | rfl | ⟨_,rfl⟩
 .exact hd.get _
 .exact ⟨by decide,by decide⟩
 .exact ⟨by decide,by decide⟩
end M
namespace M
def U (x:Int):Prop:=0<=x/\x<18446744073709551616
def uh (n:Int):Int:=n/18446744073709551616
def ul (n:Int):Int:=n%18446744073709551616
theorem dU (n:Int):U (ul n):=by unfold U ul;omega
theorem uI {n:Int} (h:U n):ul n=n:=by unfold U at h;unfold ul;omega
theorem eN {x y:Int} (hx:U x) (hy:U y):0<=x*y/\x*y<=340282366920938463426481119284349108225:=by
 refine ⟨Int.mul_nonneg hx.1 hy.1,?_⟩
 have h1:=hx.2
 have h2:=hy.2
 exact Int.le_trans (Int.mul_le_mul (show x<=18446744073709551615 by omega) (show y<=18446744073709551615 by omega) hy.1 (by decide)) (by decide)
theorem bP (n:Int):IntKind.u64.wrap n=ul n:=by rw [IntKind.wrap_u64];rfl
end M
theorem aSn (x y:Int) :
 aJ (env gB 3) Tryz.f199 true [] 400 [.int false .u64 x,.int false .u64 y] (fun _=>none) 100 100 =
 sh (32:Int) fun z2=>
 sh (4294967295:Int) fun z1=>
 sh (IntKind.u64.wrap (IntKind.u64.wrap (bZ IntKind.u64 x z2*bU IntKind.u64 y z1)+bZ IntKind.u64 (IntKind.u64.wrap (bU IntKind.u64 x z1*bU IntKind.u64 y z1)) z2)) fun z0=>
 some {val:=SV.eL [SV.int false IntKind.u64 (IntKind.u64.wrap (IntKind.u64.wrap (IntKind.u64.wrap (bZ IntKind.u64 x z2*bZ IntKind.u64 y z2)+bZ IntKind.u64 z0 z2)+bZ IntKind.u64 (IntKind.u64.wrap (bU IntKind.u64 z0 z1+IntKind.u64.wrap (bU IntKind.u64 x z1*bZ IntKind.u64 y z2))) z2)),SV.int false IntKind.u64 (IntKind.u64.wrap (x*y))]}:=by kernel_rfl
namespace M
theorem aHa (a:Nat) (ha:a<18446744073709551616):bU .u64 (a:Int) 4294967295=((a%4294967296:Nat):Int):=by
 have h:=bits_and_u64_nat a 4294967295 ha (by omega)
 have e:a &&& 4294967295=a%4294967296:=Nat.and_two_pow_sub_one_eq_mod a 32
 rw [e] at h
 exact h
theorem aVj (a:Nat):bZ .u64 (a:Int) 32=((a/4294967296:Nat):Int):=by
 show Int.fdiv (a:Int) 4294967296=_
 rw [Int.fdiv_eq_ediv_of_nonneg _ (by decide)]
 omega
theorem aXl (a b:Nat):(a:Int)*(b:Int)=((a*b:Nat):Int):=(Int.natCast_mul a b).symm
theorem bBd (a b:Nat):(a:Int)+(b:Int)=((a+b:Nat):Int):=(Int.natCast_add a b).symm
theorem yC (a:Nat) (ha:a<18446744073709551616):IntKind.u64.wrap (a:Int)=(a:Int):=by rw [IntKind.wrap_u64];omega
set_option maxHeartbeats 1000000 in
theorem ZI {x y:Int} (hx:U x) (hy:U y):(IntKind.u64.wrap
 (IntKind.u64.wrap
  (IntKind.u64.wrap (bZ IntKind.u64 x (32:Int)*bZ IntKind.u64 y (32:Int)) +
   bZ IntKind.u64
    (IntKind.u64.wrap
     (IntKind.u64.wrap (bZ IntKind.u64 x (32:Int)*bU IntKind.u64 y (4294967295:Int)) +
      bZ IntKind.u64 (IntKind.u64.wrap (bU IntKind.u64 x (4294967295:Int)*bU IntKind.u64 y (4294967295:Int))) (32:Int)))
    (32:Int)) +
  bZ IntKind.u64
   (IntKind.u64.wrap
    (bU IntKind.u64
     (IntKind.u64.wrap
      (IntKind.u64.wrap (bZ IntKind.u64 x (32:Int)*bU IntKind.u64 y (4294967295:Int)) +
       bZ IntKind.u64 (IntKind.u64.wrap (bU IntKind.u64 x (4294967295:Int)*bU IntKind.u64 y (4294967295:Int))) (32:Int)))
     (4294967295:Int) +
     IntKind.u64.wrap (bU IntKind.u64 x (4294967295:Int)*bZ IntKind.u64 y (32:Int))))
   (32:Int)))=uh (x*y):=by
 obtain ⟨x,rfl⟩:=Int.eq_ofNat_of_zero_le hx.1
 obtain ⟨y,rfl⟩:=Int.eq_ofNat_of_zero_le hy.1
 have hx:x<18446744073709551616:=by have:=hx.2;omega
 have hy:y<18446744073709551616:=by have:=hy.2;omega
 obtain ⟨bd,bt,bw,hhi⟩:=Lib.mul64_hi x y hx hy
 have ba:=Lib.half_mul_le (a:=x/4294967296) (b:=y/4294967296) (by omega) (by omega)
 have bb:=Lib.half_mul_le (a:=x/4294967296) (b:=y%4294967296) (by omega) (by omega)
 have bc:=Lib.half_mul_le (a:=x%4294967296) (b:=y/4294967296) (by omega) (by omega)
 have ba':x/4294967296*(y/4294967296)<18446744073709551616:=by omega
 have bb':x/4294967296*(y%4294967296)<18446744073709551616:=by omega
 have bc':x%4294967296*(y/4294967296)<18446744073709551616:=by omega
 have bh1:x/4294967296*(y/4294967296)+(x/4294967296*(y%4294967296)+x%4294967296*(y%4294967296)/4294967296)/4294967296<18446744073709551616:=by omega
 have bh:x/4294967296*(y/4294967296)+(x/4294967296*(y%4294967296)+x%4294967296*(y%4294967296)/4294967296)/4294967296+((x/4294967296*(y%4294967296)+x%4294967296*(y%4294967296)/4294967296)%4294967296+x%4294967296*(y/4294967296))/4294967296<18446744073709551616:=by omega
 simp only [aHa x hx,aHa y hy,aVj,aXl,bBd,yC _ bd,yC _ bb',yC _ bt,aHa _ bt,yC _ bc',yC _ bw,yC _ ba',yC _ bh1,yC _ bh]
 rw [hhi]
 unfold uh
 omega
end M
def Qv (vs:List SV) (_:aZ):Option Canon:=match vs with
 | [.int _ .u64 x,.int _ .u64 y]=>some { eR:=[.int false .u64 x,.int false .u64 y],T0:=[],vl:=[],e0:={ val:=.eL [.int false .u64 (M.uh (x*y)),.int false .u64 (M.ul (x*y))] },conds:=[M.U x,M.U y] }
 | _=>none
theorem aKj (Γ:Env) (hg:Γ.aR=aB):aI Tryz.prog Γ 199 (aL aB 100 Qv):=by
 refine aW hg fun vs T c hd hc=>?_
 unfold Qv at hd
 split at hd
 case h_2=>cases hd
 rename_i x _ y
 cases hd
 have hx:M.U x:=hc _ (by simp)
 have hy:M.U y:=hc _ (by simp)
 have hs:aI Tryz.prog (env gB 3) 199 (aJ (env gB 3) Tryz.f199 true [] 400):=
  aN (bQ gB 3) (kX 3) mix Tryz.func199 (by kernel_rfl) true [] 400
 refine (hs.call (aSn _ _) (by simp)).words (by rw [hg];rfl) (fun _=>rfl) (fun _ _ h=>by cases h) (fun V=>?_) rfl rfl
 simp only [den,aG,M.ZI hx hy]
 simp only [M.bP]
def Yv (f:Nat):Option Sum:=match Nat.beq f 199 with
 | true=>some (aL aB 100 Qv)
 | false=>gB f
theorem Xc (f:Nat) (S:Sum) (h:Yv f=some S) (Γ:Env) (hg:Γ.aR=aB):aI Tryz.prog Γ f S:=by
 unfold Yv at h
 split at h
 .rename_i e;cases h;rw [cH e];exact aKj Γ hg
 .exact qU f S h Γ
noncomputable def Kr:Env:=env Yv 8
theorem Vj:cI Tryz.prog Kr:=bW Yv Xc 8
theorem Vi:cB Tryz.prog Kr:=bQ Yv 8
theorem bBe (x y c:Int) :
 aJ Kr Tryz.f195 true [] 400 [.int false .u64 x,.int false .u64 y,.int false .u64 c] (fun _=>none) 100 100 =
 sh (18446744073709551616:Int) fun z0=>
 some {bK:=[(0:Int)<=x/\(0:Int)<=y/\(0:Int)<=c/\c<=(1:Int)],val:=SV.eL [SV.int false IntKind.u64 ((x+y+c)%z0),SV.int false IntKind.u64 ((x+y+c)/z0)]}:=by kernel_rfl
theorem aVx (x y c:Int) :
 aJ Kr Tryz.f187 true [] 400 [.int false .u64 x,.int false .u64 y,.int false .u64 c] (fun _=>none) 100 100 =
 sh (18446744073709551616:Nat) fun z0=>
 sh (0:Int) fun z1=>
 some {bK:=[z1<=x/\z1<=y/\z1<=c/\c<=(1:Int)],val:=SV.eL [SV.int false IntKind.u64 (↑((x.toNat+z0-y.toNat-c.toNat)%z0):Int),SV.int false IntKind.u64 (if x<y+c then (1:Int) else z1)]}:=by kernel_rfl
def M.ub (n:Int):Int := -(n/18446744073709551616)
def M.K (c:Int):Prop:=0<=c/\c<=1
def addDec (vs:List SV) (_:aZ):Option Canon:=match vs with
 | [.int _ .u64 x,.int _ .u64 y,.int _ .u64 c]=>some { eR:=[.int false .u64 x,.int false .u64 y,.int false .u64 c],T0:=[],vl:=[],e0:={ val:=.eL [.int false .u64 (M.ul (x+y+c)),.int false .u64 (M.uh (x+y+c))] },conds:=[M.U x,M.U y,M.K c] }
 | _=>none
def Qk (vs:List SV) (_:aZ):Option Canon:=match vs with
 | [.int _ .u64 x,.int _ .u64 y,.int _ .u64 c]=>some { eR:=[.int false .u64 x,.int false .u64 y,.int false .u64 c],T0:=[],vl:=[],e0:={ val:=.eL [.int false .u64 (M.ul (x-y-c)),.int false .u64 (M.ub (x-y-c))] },conds:=[M.U x,M.U y,M.K c] }
 | _=>none
theorem aUn (Γ:Env) (hg:Γ.aR=aB):aI Tryz.prog Γ 195 (aL aB 100 addDec):=by
 refine aW hg fun vs T c hd hc=>?_
 unfold addDec at hd
 split at hd
 case h_2=>cases hd
 rename_i x _ y _ c
 cases hd
 have hx:M.U x:=hc _ (by simp)
 have hy:M.U y:=hc _ (by simp)
 have hk:M.K c:=hc _ (by simp)
 have hs:aI Tryz.prog Kr 195 (aJ Kr Tryz.f195 true [] 400):=aN Vi Vj mix Tryz.func195 (by kernel_rfl) true [] 400
 exact (hs.call (bBe _ _ _) (aA (by simp only [sh,bX,and_true];exact ⟨hx.1,hy.1,hk.1,hk.2⟩))).words (by rw [hg];rfl) (fun _=>rfl) (fun _ _ h=>by cases h) (fun V=>rfl) rfl rfl
theorem aRq (Γ:Env) (hg:Γ.aR=aB):aI Tryz.prog Γ 187 (aL aB 100 Qk):=by
 refine aW hg fun vs T c hd hc=>?_
 unfold Qk at hd
 split at hd
 case h_2=>cases hd
 rename_i x _ y _ c
 cases hd
 have hx:M.U x:=hc _ (by simp)
 have hy:M.U y:=hc _ (by simp)
 have hk:M.K c:=hc _ (by simp)
 have hs:aI Tryz.prog Kr 187 (aJ Kr Tryz.f187 true [] 400):=aN Vi Vj mix Tryz.func187 (by kernel_rfl) true [] 400
 refine (hs.call (aVx _ _ _) (aA (by simp only [sh,bX,and_true];exact ⟨hx.1,hy.1,hk.1,hk.2⟩))).words (by rw [hg];rfl) (fun _=>rfl) (fun _ _ h=>by cases h) (fun V=>?_) rfl rfl
 have h1:=hx.1
 have h2:=hx.2
 have h3:=hy.1
 have h4:=hy.2
 have h5:=hk.1
 have h6:=hk.2
 have e1:(((x.toNat+18446744073709551616-y.toNat-c.toNat)%18446744073709551616:Nat):Int)=M.ul (x-y-c):=by unfold M.ul;omega
 have e2:(if x<y+c then (1:Int) else 0)=M.ub (x-y-c):=by unfold M.ub;split <;> omega
 rw [e1,e2]
def Yu (f:Nat):Option Sum:=match Nat.beq f 195 with
 | true=>some (aL aB 100 addDec)
 | false=>match Nat.beq f 187 with
   | true=>some (aL aB 100 Qk)
   | false=>Yv f
theorem Xb (f:Nat) (S:Sum) (h:Yu f=some S) (Γ:Env) (hg:Γ.aR=aB):aI Tryz.prog Γ f S:=by
 unfold Yu at h
 split at h
 .rename_i e;cases h;rw [cH e];exact aUn Γ hg
 split at h
 .rename_i e;cases h;rw [cH e];exact aRq Γ hg
 .exact Xc f S h Γ hg
noncomputable def wX:Env:=env Yu 8
theorem Iy:cI Tryz.prog wX:=bW Yu Xb 8
theorem Ix:cB Tryz.prog wX:=bQ Yu 8
theorem aUm (x y c:Int) :
 aJ wX Tryz.f264 true [] 400 [.int false .u64 x,.int false .u64 y,.int false .u64 c] (fun _=>none) 100 100 =
 sh (0:Int) fun z1=>
 sh (M.ul (x*y)+c+z1) fun z0=>
 some {bK:=[M.U (M.ul (x*y)),M.U c,M.K z1,M.ul (x*y)=M.ul (x*y),c=c,z1=z1,M.U x,M.U y,x=x,y=y],val:=SV.eL [SV.int false IntKind.u64 (IntKind.u64.wrap (M.uh (x*y)+M.uh z0)),SV.int false IntKind.u64 (M.ul z0)]}:=by kernel_rfl
theorem aUf (x y:Int) :
 aJ wX Tryz.f285 true [false,false] 400 [.int false .u64 x,.int false .u64 y,.int true .u64 18446744073709551615,.int true .u64 1] (fun _=>none) 100 100 =
 sh (18446744073709551615:Int) fun z4=>
 sh (1:Int) fun z7=>
 sh (z7*x) fun z2=>
 sh (0:Int) fun z5=>
 sh (M.ul z2+y+z5) fun z6=>
 sh (M.uh z2+x+M.uh z6) fun z1=>
 sh (z4*M.ul z1) fun z0=>
 sh (y-M.ul z0-z5) fun z3=>
 some {bK:=[decide (M.ul z3>=z4)=false,(M.ul (x-M.uh z0-M.ub z3) != z5)=false,M.U x,M.U (M.uh z0),M.K (M.ub z3),x=x,M.uh z0=M.uh z0,M.ub z3=M.ub z3,M.U y,M.U (M.ul z0),M.K z5,y=y,M.ul z0=M.ul z0,z5=z5,M.U z4,M.U (M.ul z1),z4=z4,M.ul z1=M.ul z1,M.U (M.uh z2),M.U x,M.K (M.uh z6),M.uh z2=M.uh z2,x=x,M.uh z6=M.uh z6,M.U (M.ul z2),M.U y,M.K z5,M.ul z2=M.ul z2,y=y,z5=z5,M.U z7,M.U x,z7=z7,x=x],val:=SV.eL [SV.int false IntKind.u64 (M.ul z1),SV.int false IntKind.u64 (bZ IntKind.u64 (M.ul z3) z5)]}:=by kernel_rfl
theorem aUe (x y:Int) :
 aJ wX Tryz.f285 true [false,true] 400 [.int false .u64 x,.int false .u64 y,.int true .u64 18446744073709551615,.int true .u64 1] (fun _=>none) 100 100 =
 sh (18446744073709551615:Int) fun z2=>
 sh (1:Int) fun z7=>
 sh (z7*x) fun z3=>
 sh (0:Int) fun z5=>
 sh (M.ul z3+y+z5) fun z6=>
 sh (M.uh z3+x+M.uh z6) fun z1=>
 sh (z2*M.ul z1) fun z0=>
 sh (y-M.ul z0-z5) fun z4=>
 some {bK:=[decide (M.ul z4>=z2)=true,(M.ul (x-M.uh z0-M.ub z4) != z5)=false,M.U x,M.U (M.uh z0),M.K (M.ub z4),x=x,M.uh z0=M.uh z0,M.ub z4=M.ub z4,M.U y,M.U (M.ul z0),M.K z5,y=y,M.ul z0=M.ul z0,z5=z5,M.U z2,M.U (M.ul z1),z2=z2,M.ul z1=M.ul z1,M.U (M.uh z3),M.U x,M.K (M.uh z6),M.uh z3=M.uh z3,x=x,M.uh z6=M.uh z6,M.U (M.ul z3),M.U y,M.K z5,M.ul z3=M.ul z3,y=y,z5=z5,M.U z7,M.U x,z7=z7,x=x],val:=SV.eL [SV.int false IntKind.u64 (IntKind.u64.wrap (M.ul z1+z7)),SV.int false IntKind.u64 (bZ IntKind.u64 (IntKind.u64.wrap (M.ul z4-z2)) z5)]}:=by kernel_rfl
theorem aUd (x y:Int) :
 aJ wX Tryz.f285 true [false,false] 400 [.int false .u64 x,.int false .u64 y,.int true .u64 9223372036854775808,.int true .u64 18446744073709551615] (fun _=>none) 100 100 =
 sh (9223372036854775808:Int) fun z4=>
 sh (18446744073709551615:Int) fun z5=>
 sh (z5*x) fun z1=>
 sh (0:Int) fun z6=>
 sh (M.ul z1+y+z6) fun z7=>
 sh (M.uh z1+x+M.uh z7) fun z2=>
 sh (z4*M.ul z2) fun z0=>
 sh (y-M.ul z0-z6) fun z3=>
 some {bK:=[decide (M.ul z3>=z4)=false,(M.ul (x-M.uh z0-M.ub z3) != z6)=false,M.U x,M.U (M.uh z0),M.K (M.ub z3),x=x,M.uh z0=M.uh z0,M.ub z3=M.ub z3,M.U y,M.U (M.ul z0),M.K z6,y=y,M.ul z0=M.ul z0,z6=z6,M.U z4,M.U (M.ul z2),z4=z4,M.ul z2=M.ul z2,M.U (M.uh z1),M.U x,M.K (M.uh z7),M.uh z1=M.uh z1,x=x,M.uh z7=M.uh z7,M.U (M.ul z1),M.U y,M.K z6,M.ul z1=M.ul z1,y=y,z6=z6,M.U z5,M.U x,z5=z5,x=x],val:=SV.eL [SV.int false IntKind.u64 (M.ul z2),SV.int false IntKind.u64 (bZ IntKind.u64 (M.ul z3) z6)]}:=by kernel_rfl
theorem aUc (x y:Int) :
 aJ wX Tryz.f285 true [false,true] 400 [.int false .u64 x,.int false .u64 y,.int true .u64 9223372036854775808,.int true .u64 18446744073709551615] (fun _=>none) 100 100 =
 sh (9223372036854775808:Int) fun z3=>
 sh (18446744073709551615:Int) fun z5=>
 sh (z5*x) fun z1=>
 sh (0:Int) fun z6=>
 sh (M.ul z1+y+z6) fun z7=>
 sh (M.uh z1+x+M.uh z7) fun z2=>
 sh (z3*M.ul z2) fun z0=>
 sh (y-M.ul z0-z6) fun z4=>
 some {bK:=[decide (M.ul z4>=z3)=true,(M.ul (x-M.uh z0-M.ub z4) != z6)=false,M.U x,M.U (M.uh z0),M.K (M.ub z4),x=x,M.uh z0=M.uh z0,M.ub z4=M.ub z4,M.U y,M.U (M.ul z0),M.K z6,y=y,M.ul z0=M.ul z0,z6=z6,M.U z3,M.U (M.ul z2),z3=z3,M.ul z2=M.ul z2,M.U (M.uh z1),M.U x,M.K (M.uh z7),M.uh z1=M.uh z1,x=x,M.uh z7=M.uh z7,M.U (M.ul z1),M.U y,M.K z6,M.ul z1=M.ul z1,y=y,z6=z6,M.U z5,M.U x,z5=z5,x=x],val:=SV.eL [SV.int false IntKind.u64 (IntKind.u64.wrap (M.ul z2+(1:Int))),SV.int false IntKind.u64 (bZ IntKind.u64 (IntKind.u64.wrap (M.ul z4-z3)) z6)]}:=by kernel_rfl
def Rx (vs:List SV) (_:aZ):Option Canon:=match vs with
 | [.int _ .u64 x,.int _ .u64 y,.int _ .u64 c]=>some { eR:=[.int false .u64 x,.int false .u64 y,.int false .u64 c],T0:=[],vl:=[],e0:={ val:=.eL [.int false .u64 (M.uh (x*y+c)),.int false .u64 (M.ul (x*y+c))] },conds:=[M.U x,M.U y,M.U c] }
 | _=>none
theorem aNn (Γ:Env) (hg:Γ.aR=aB):aI Tryz.prog Γ 264 (aL aB 100 Rx):=by
 refine aW hg fun vs T c hd hc=>?_
 unfold Rx at hd
 split at hd
 case h_2=>cases hd
 rename_i x _ y _ c
 cases hd
 have hx:M.U x:=hc _ (by simp)
 have hy:M.U y:=hc _ (by simp)
 have hk:M.U c:=hc _ (by simp)
 have hs:aI Tryz.prog wX 264 (aJ wX Tryz.f264 true [] 400):=aN Ix Iy mix Tryz.func264 (by kernel_rfl) true [] 400
 refine (hs.call (aUm _ _ _) (aA (by simp only [sh,bX,and_true,true_and];exact ⟨M.dU _,hk,⟨by decide,by decide⟩,hx,hy⟩))).words (by rw [hg];rfl) (fun _=>rfl) (fun _ _ h=>by cases h) (fun V=>?_) rfl rfl
 have h0:=M.eN hx hy
 have h1:=hk.1
 have h2:=hk.2
 rw [M.bP]
 have e1:M.ul (M.uh (x*y)+M.uh (M.ul (x*y)+c+0))=M.uh (x*y+c):=by unfold M.ul M.uh;omega
 have e2:M.ul (M.ul (x*y)+c+0)=M.ul (x*y+c):=by unfold M.ul;omega
 rw [e1,e2]
def M.dq (d x y:Int):Int:=(x*18446744073709551616+y)/d
def M.dr (d x y:Int):Int:=(x*18446744073709551616+y)%d
def HQ (vs:List SV) (_:aZ):Option Canon:=match vs with
 | [.int _ .u64 x,.int _ .u64 y,.int true .u64 d,.int true .u64 m]=>match Li d 18446744073709551615&&Li m 1 with
   | true=>some { eR:=[.int false .u64 x,.int false .u64 y,.int true .u64 18446744073709551615,.int true .u64 1],T0:=[],vl:=[],e0:={ val:=.eL [.int false .u64 (M.dq 18446744073709551615 x y),.int false .u64 (M.dr 18446744073709551615 x y)] },conds:=[M.U x,M.U y,x<18446744073709551615] }
   | false=>match Li d 9223372036854775808&&Li m 18446744073709551615 with
     | true=>some { eR:=[.int false .u64 x,.int false .u64 y,.int true .u64 9223372036854775808,.int true .u64 18446744073709551615],T0:=[],vl:=[],e0:={ val:=.eL [.int false .u64 (M.dq 9223372036854775808 x y),.int false .u64 (M.dr 9223372036854775808 x y)] },conds:=[M.U x,M.U y,x<9223372036854775808] }
     | false=>none
 | _=>none
set_option maxHeartbeats 2000000 in
theorem QA {x y:Int} (hx:M.U x) (hy:M.U y) (hd:x<18446744073709551615) (Γ:Env) (hg:Γ.aR=aB):aE Tryz.prog Γ 285 [.int false .u64 x,.int false .u64 y,.int true .u64 18446744073709551615,.int true .u64 1] (fun l=>look l []) 100 100 { val:=.eL [.int false .u64 (M.dq 18446744073709551615 x y),.int false .u64 (M.dr 18446744073709551615 x y)] }:=by
 have h1:=hx.1
 have h3:=hy.1
 have h4:=hy.2
 have q1:M.ul (M.uh (1*x)+x+M.uh (M.ul (1*x)+y+0))=x+(x+y)/18446744073709551616:=by unfold M.ul M.uh;omega
 have q2:M.uh (1*x)=0:=by unfold M.uh;omega
 have q3:M.uh (M.ul (1*x)+y+0)=(x+y)/18446744073709551616:=by unfold M.uh M.ul;omega
 obtain ⟨c,hc⟩:∃ c,c=(x+y)/18446744073709551616:=⟨_,rfl⟩
 rw [<- hc] at q1 q3
 have c0:c=0\/c=1:=by omega
 have q4:M.ul (18446744073709551615*(x+c))=if x+c=0 then 0 else 18446744073709551616-(x+c):=by unfold M.ul;split <;> omega
 have q5:M.uh (18446744073709551615*(x+c))=if x+c=0 then 0 else x+c-1:=by unfold M.uh;split <;> omega
 have hs:∀ hs,aI Tryz.prog wX 285 (aJ wX Tryz.f285 true hs 400):=fun hs=>aN Ix Iy mix Tryz.func285 (by kernel_rfl) true hs 400
 by_cases hh:x+y=18446744073709551615
 .refine ((hs _).call (aUe x y) (aA ?_)).words (by rw [hg];rfl) (fun _=>rfl) (fun _ _ h=>by cases h) (fun V=>?_) rfl rfl
  .simp only [q1]
   simp only [q4,q5]
   simp only [sh,bX,q2,q3,and_true,true_and,decide_eq_true_eq,bne_eq_false_iff_eq]
   unfold M.U M.K M.ub M.ul
   and_intros <;> (try split) <;> omega
  .simp only [q1]
   simp only [q4]
   have e1:IntKind.u64.wrap (x+c+1)=M.dq 18446744073709551615 x y:=by rw [M.bP];unfold M.ul M.dq;omega
   have e2:∀ z,bZ .u64 z 0=z:=fun z=>by show Int.fdiv z 1=z;simp
   rw [e1,e2,M.bP]
   congr 1
   unfold M.ul M.dr
   simp
   split <;> omega
 .refine ((hs _).call (aUf x y) (aA ?_)).words (by rw [hg];rfl) (fun _=>rfl) (fun _ _ h=>by cases h) (fun V=>?_) rfl rfl
  .simp only [q1]
   simp only [q4,q5]
   simp only [sh,bX,q2,q3,and_true,true_and,decide_eq_false_iff_not,bne_eq_false_iff_eq]
   unfold M.U M.K M.ub M.ul
   and_intros <;> (try split) <;> omega
  .simp only [q1]
   simp only [q4]
   have e1:x+c=M.dq 18446744073709551615 x y:=by unfold M.dq;omega
   have e2:∀ z,bZ .u64 z 0=z:=fun z=>by show Int.fdiv z 1=z;simp
   rw [e1,e2]
   congr 1
   rw [<- e1]
   unfold M.ul M.dr
   simp
   split <;> omega
set_option maxHeartbeats 2000000 in
theorem PZ {x y:Int} (hx:M.U x) (hy:M.U y) (hd:x<9223372036854775808) (Γ:Env) (hg:Γ.aR=aB):aE Tryz.prog Γ 285 [.int false .u64 x,.int false .u64 y,.int true .u64 9223372036854775808,.int true .u64 18446744073709551615] (fun l=>look l []) 100 100 { val:=.eL [.int false .u64 (M.dq 9223372036854775808 x y),.int false .u64 (M.dr 9223372036854775808 x y)] }:=by
 have h1:=hx.1
 have h3:=hy.1
 have h4:=hy.2
 obtain ⟨t1,e1⟩:∃ t1,t1=M.uh (18446744073709551615*x):=⟨_,rfl⟩
 obtain ⟨c,e3⟩:∃ c,c=M.uh (M.ul (18446744073709551615*x)+y+0):=⟨_,rfl⟩
 have b1:t1=if x=0 then 0 else x-1:=by rw [e1];unfold M.uh;split <;> omega
 have b3:c=if x=0 then 0 else if y<x then 0 else 1:=by rw [e3];unfold M.uh M.ul;split <;> (try split) <;> omega
 obtain ⟨q,eq⟩:∃ q,q=M.ul (t1+x+c):=⟨_,rfl⟩
 have bq:q=if x=0 then 0 else if y<x then 2*x-1 else 2*x:=by rw [eq,b1,b3];unfold M.ul;split <;> (try split) <;> omega
 have hs:∀ hs,aI Tryz.prog wX 285 (aJ wX Tryz.f285 true hs 400):=fun hs=>aN Ix Iy mix Tryz.func285 (by kernel_rfl) true hs 400
 have sh:∀ z,bZ .u64 z 0=z:=fun z=>by show Int.fdiv z 1=z;simp
 by_cases hh:M.dq 9223372036854775808 x y=q+1
 .refine ((hs _).call (aUc x y) (aA ?_)).words (by rw [hg];rfl) (fun _=>rfl) (fun _ _ h=>by cases h) (fun V=>?_) rfl rfl
  .simp only [<- e1,<- e3]
   simp only [<- eq]
   simp only [sh,bX,and_true,true_and,decide_eq_true_eq,bne_eq_false_iff_eq]
   unfold M.dq at hh
   unfold M.U M.K M.ub M.ul M.uh
   split at bq
   .and_intros <;> omega
   split at bq
   .and_intros <;> omega
   .and_intros <;> omega
  .simp only [<- e1,<- e3]
   simp only [<- eq,sh]
   have g1:IntKind.u64.wrap (q+1)=M.dq 9223372036854775808 x y:=by
    rw [M.bP,hh]
    unfold M.ul
    split at bq <;> (try split at bq) <;> omega
   rw [g1,M.bP]
   have g2:M.ul (M.ul (y-M.ul (9223372036854775808*q)-0)-9223372036854775808)=M.dr 9223372036854775808 x y:=by
    unfold M.dq at hh
    unfold M.ul M.dr
    split at bq <;> (try split at bq) <;> omega
   rw [g2]
 .have hq:M.dq 9223372036854775808 x y=q:=by
   revert hh
   unfold M.dq
   split at bq <;> (try split at bq) <;> omega
  refine ((hs _).call (aUd x y) (aA ?_)).words (by rw [hg];rfl) (fun _=>rfl) (fun _ _ h=>by cases h) (fun V=>?_) rfl rfl
  .simp only [<- e1,<- e3]
   simp only [<- eq]
   simp only [sh,bX,and_true,true_and,decide_eq_false_iff_not,bne_eq_false_iff_eq]
   unfold M.dq at hq
   unfold M.U M.K M.ub M.ul M.uh
   split at bq
   .and_intros <;> omega
   split at bq
   .and_intros <;> omega
   .and_intros <;> omega
  .simp only [<- e1,<- e3]
   simp only [<- eq,sh,hq]
   have g2:M.ul (y-M.ul (9223372036854775808*q)-0)=M.dr 9223372036854775808 x y:=by
    unfold M.dq at hq
    unfold M.ul M.dr
    split at bq <;> (try split at bq) <;> omega
   rw [g2]
theorem aUg (Γ:Env) (hg:Γ.aR=aB):aI Tryz.prog Γ 285 (aL aB 100 HQ):=by
 refine aW hg fun vs T c hd hc=>?_
 unfold HQ at hd
 split at hd
 case h_2=>cases hd
 rename_i x _ y d m
 split at hd
 .cases hd
  exact QA (hc _ (by simp)) (hc _ (by simp)) (hc _ (by simp)) Γ hg
 split at hd
 .cases hd
  exact PZ (hc _ (by simp)) (hc _ (by simp)) (hc _ (by simp)) Γ hg
 .cases hd
def exB (f:Nat):Option Sum:=match Nat.beq f 264 with
 | true=>some (aL aB 100 Rx)
 | false=>match Nat.beq f 285 with
   | true=>some (aL aB 100 HQ)
   | false=>Yu f
theorem JX (f:Nat) (S:Sum) (h:exB f=some S) (Γ:Env) (hg:Γ.aR=aB):aI Tryz.prog Γ f S:=by
 unfold exB at h
 split at h
 .rename_i e;cases h;rw [cH e];exact aNn Γ hg
 split at h
 .rename_i e;cases h;rw [cH e];exact aUg Γ hg
 .exact Xb f S h Γ hg
noncomputable def Γb:Env:=env exB 8
theorem aHh:cI Tryz.prog Γb:=bW exB JX 8
theorem aHg:cB Tryz.prog Γb:=bQ exB 8
theorem aZm (a b c d:Int) :
 aJ Γb Tryz.f286 true [true] 400 [.int false .u64 a,.int false .u64 b,.int false .u64 c,.int false .u64 d] (fun _=>none) 100 100 =
 some {bK:=[decide (a>c)=true],val:=SV.bool true true}:=by kernel_rfl
theorem aZl (a b c d:Int) :
 aJ Γb Tryz.f286 true [false,true] 400 [.int false .u64 a,.int false .u64 b,.int false .u64 c,.int false .u64 d] (fun _=>none) 100 100 =
 some {bK:=[(a==c)=true,decide (a>c)=false],val:=SV.bool false (decide (b>d))}:=by kernel_rfl
theorem aZk (a b c d:Int) :
 aJ Γb Tryz.f286 true [false,false] 400 [.int false .u64 a,.int false .u64 b,.int false .u64 c,.int false .u64 d] (fun _=>none) 100 100 =
 some {bK:=[(a==c)=false,decide (a>c)=false],val:=SV.bool true false}:=by kernel_rfl
def M.gt (a b c d:Int):Bool:=decide (c*18446744073709551616+d<a*18446744073709551616+b)
def GV (vs:List SV) (_:aZ):Option Canon:=match vs with
 | [.int _ .u64 a,.int _ .u64 b,.int _ .u64 c,.int _ .u64 d]=>some { eR:=[.int false .u64 a,.int false .u64 b,.int false .u64 c,.int false .u64 d],T0:=[],vl:=[],e0:={ val:=.bool false (M.gt a b c d) },conds:=[M.U b,M.U d] }
 | _=>none
theorem aTr (Γ:Env) (hg:Γ.aR=aB):aI Tryz.prog Γ 286 (aL aB 100 GV):=by
 refine aW hg fun vs T c hd hc=>?_
 unfold GV at hd
 split at hd
 case h_2=>cases hd
 rename_i a _ b _ c _ d
 cases hd
 have hb:M.U b:=hc _ (by simp)
 have hd:M.U d:=hc _ (by simp)
 have b1:=hb.1
 have b2:=hb.2
 have d1:=hd.1
 have d2:=hd.2
 have hs:∀ hs,aI Tryz.prog Γb 286 (aJ Γb Tryz.f286 true hs 400):=fun hs=>aN aHg aHh mix Tryz.func286 (by kernel_rfl) true hs 400
 by_cases h1:a>c
 .refine ((hs _).call (aZm a b c d) (aA ?_)).words (by rw [hg];rfl) (fun _=>rfl) (fun _ _ h=>by cases h) (fun V=>?_) rfl rfl
  .simp only [sh,bX,and_true,decide_eq_true_eq,h1]
  .have:M.gt a b c d=true:=by unfold M.gt;exact decide_eq_true (by omega)
   rw [this];rfl
 by_cases h2:a=c
 .refine ((hs _).call (aZl a b c d) (aA ?_)).words (by rw [hg];rfl) (fun _=>rfl) (fun _ _ h=>by cases h) (fun V=>?_) rfl rfl
  .simp only [sh,bX,and_true,beq_iff_eq,decide_eq_false_iff_not];exact ⟨h2,h1⟩
  .have:M.gt a b c d=decide (b>d):=by unfold M.gt;rw [decide_eq_decide];omega
   rw [this]
 .refine ((hs _).call (aZk a b c d) (aA ?_)).words (by rw [hg];rfl) (fun _=>rfl) (fun _ _ h=>by cases h) (fun V=>?_) rfl rfl
  .simp only [sh,bX,and_true,beq_eq_false_iff_ne,decide_eq_false_iff_not];exact ⟨h2,h1⟩
  .have:M.gt a b c d=false:=by unfold M.gt;exact decide_eq_false (by omega)
   rw [this];rfl
def Yb (f:Nat):Option Sum:=match Nat.beq f 286 with
 | true=>some (aL aB 100 GV)
 | false=>exB f
theorem JW (f:Nat) (S:Sum) (h:Yb f=some S) (Γ:Env) (hg:Γ.aR=aB):aI Tryz.prog Γ f S:=by
 unfold Yb at h
 split at h
 .rename_i e;cases h;rw [cH e];exact aTr Γ hg
 .exact JX f S h Γ hg
noncomputable def Γv:Env:=env Yb 8
theorem lE:cI Tryz.prog Γv:=bW Yb JW 8
theorem lD:cB Tryz.prog Γv:=bQ Yb 8
def Bh (nu cu nq cq:Nat):List SV:=[.aH 61 true 0 nq cq,.ptr 62 true 0,.aH 63 true 0 nu cu,.cP 64 0 3 0]
def Hn (v:List SV) (us qs:List SV):aZ:=fun l=>look l [(61,.own qs 196),(62,.own [.raw (.pointer none)] 306),(63,.own us 196),(64,.row 1 v 196)]
def fF:List SV:=[.int true .u64 13835058055282163712,.int true .u64 18446744073709551614,.int true .u64 18446744073709551615]
def wc (xs:List Int):List SV:=xs.map (.int false .u64)
noncomputable def Bw (v us qs:List SV) (nu cu nq cq:Nat):Option pU:=gY Γv (bH 100 (Hn v us qs)) 100 Tryz.f259.ntmps [8] 100 400 (.go (codeOf Tryz.f259)) [] (zJ (Bh nu cu nq cq) 100)
noncomputable def xH:Code:=match Bw fF (wc [0,0,0,0]) (wc [0]) 4 4 1 1 with
 | some { cf:=.go (.loop c),.. }=>c
 | _=>.skip
noncomputable def Eu:List Fr:=match Bw fF (wc [0,0,0,0]) (wc [0]) 4 4 1 1 with
 | some r=>r.fr
 | _=>[]
def jL (nu cu nq cq m:Nat) (d rec:Int) (ujn:SV) (j:Int):List (Nat × SV):=[(0,.aH 61 true 0 nq cq),(2,.aH 63 true 0 nu cu),(3,.cP 64 0 3 0),(8,.int true .i64 3),(9,.int true .i64 m),(10,.cP 100 0 4 0),(11,.int true .u64 d),(12,.int true .u64 rec),(13,ujn),(14,.int true .i64 j)]
def jK (hs us qs:List SV):List (Nat × SB):=[(100,.row 1 hs 196),(61,.own qs 196),(63,.own us 196)]
def jM:List SV:=[.fn (.func 243) [.ptr 62 true 0,.int true .i64 0] []]
noncomputable def fW (v eY eZ:List SV) (nu cu nq cq m:Nat) (d rec:Int) (j j':Int) (ujn aVa:SV) (us us' qs qs' hs Dv:List SV) (h:List Bool):Option (Cf × List Fr × List Prop):=
 yQ 100 (bH 100 (Hn v eY eZ)) [] (jL nu cu nq cq m d rec aVa j') (jK Dv us' qs') 101 [61,63] jM (gY Γv (bH 100 (Hn v eY eZ)) 100 Tryz.f259.ntmps [8] 100 400 (.go xH) [] ((cA (jL nu cu nq cq m d rec ujn j) (jK hs us qs) 101 [61,63] jM).hint h))
noncomputable def Md (v eY eZ:List SV) (nu cu nq cq m:Nat) (d rec:Int) (ujn:SV) (us qs hs:List SV):Option bJ:=
 Lf Γv (Hn v eY eZ) 100 100 Tryz.f259 (gY Γv (bH 100 (Hn v eY eZ)) 100 Tryz.f259.ntmps [8] 100 400 (.at (.exit 0)) Eu ((cA (jL nu cu nq cq m d rec ujn (-1)) (jK hs us qs) 101 [61,63] jM).hint []))
structure CJ where
 nu:Nat
 cu:Nat
 nq:Nat
 cq:Nat
 m:Nat
def DvP (hs:List Bool) (ob:Int->Int->Int->Int->Int->Int->Int->Int->Int->List Prop) (uo:Int->Int->Int->Int->List Int) (qo:Int->Int->Int) (c:CJ) (j j':Int) (pre post qa qb:List Int):Prop:=
 ∀ (eY eZ:List SV) (u0 u1 u2 u3 v0 v1 v2 v3 q0 q1 h0 h1 h2 h3 g0 g1 g2 g3:Int),
   fW fF eY eZ c.nu c.cu c.nq c.cq c.m 18446744073709551615 1 j j' (.int false .u64 u3) (.int false .u64 v2) (wc (pre++[u0,u1,u2,u3]++post)) (wc (pre++[v0,v1,v2,v3]++post)) (wc (qa++[q0]++qb)) (wc (qa++[q1]++qb)) (wc [h0,h1,h2,h3]) (wc [g0,g1,g2,g3]) hs =
    some (.at .normal,[],ob u0 u1 u2 u3 v2 g0 g1 g2 g3++[qa++[qo u2 u3]++qb=qa++[q1]++qb,pre++uo u0 u1 u2 u3++post=pre++[v0,v1,v2,v3]++post])
def aEh (u0 u1 u2 u3 v2 g0 g1 g2 g3:Int):List Prop:=
 sh (13835058055282163713:Int) fun z4=>
 sh (4611686018427387904:Int) fun z3=>
 sh (0:Int) fun z6=>
 sh (u0-z3-z6) fun iI=>
 sh (u1-z4-M.ub iI) fun z0=>
 sh (18446744073709551614:Int) fun z1=>
 sh (18446744073709551615:Int) fun z2=>
 sh (u2-z1-M.ub z0) fun z5=>
 sh (18446744073709551613:Int) fun z7=>
 sh (13835058055282163711:Int) fun z8=>
 sh (13835058055282163712:Int) fun z9=>
 [(M.ub (u3-z1-M.ub z5) != z6)=false,M.U u3,M.U z1,M.K (M.ub z5),u3=u3,z1=z1,M.ub z5=M.ub z5,M.U u2,M.U z1,M.K (M.ub z0),u2=u2,z1=z1,M.ub z0=M.ub z0,M.U u1,M.U z4,M.K (M.ub iI),u1=u1,z4=z4,M.ub iI=M.ub iI,M.U u0,M.U z3,M.K z6,u0=u0,z3=z3,z6=z6,M.U z2,M.U z2,M.U z7,z2=z2,z2=z2,z7=z7,M.U z1,M.U z2,M.U z8,z1=z1,z2=z2,z8=z8,M.U z9,M.U z2,M.U z6,z9=z9,z2=z2,z6=z6,(u3 != z2)=false,(3:Nat)=(3:Nat),(4:Nat)=(4:Nat),M.ul z5=v2,z3=g0,z4=g1,z1=g2,z1=g3]
def aDo (u0 u1 u2 u3:Int):List Int:=[M.ul (u0-(4611686018427387904:Int)-(0:Int)),M.ul (u1-(13835058055282163713:Int)-M.ub (u0-(4611686018427387904:Int)-(0:Int))),M.ul (u2-(18446744073709551614:Int)-M.ub (u1-(13835058055282163713:Int)-M.ub (u0-(4611686018427387904:Int)-(0:Int)))),M.ul (u3-(18446744073709551614:Int)-M.ub (u2-(18446744073709551614:Int)-M.ub (u1-(13835058055282163713:Int)-M.ub (u0-(4611686018427387904:Int)-(0:Int)))))]
def aEb (u2 u3:Int):Int:=(18446744073709551615:Int)
abbrev yK:=DvP [false,false] aEh aDo aEb
def FV (u0 u1 u2 u3 v2 g0 g1 g2 g3:Int):List Prop:=
 sh (18446744073709551614:Int) fun z4=>
 sh (18446744073709551615:Int) fun z1=>
 sh (13835058055282163712:Int) fun z8=>
 sh (0:Int) fun iI=>
 sh (z8*M.dq z1 u3 u2+iI) fun z2=>
 sh (z4*M.dq z1 u3 u2+M.uh z2) fun z0=>
 sh (z1*M.dq z1 u3 u2+M.uh z0) fun z5=>
 sh (u0-M.ul z2-iI) fun z6=>
 sh (u1-M.ul z0-M.ub z6) fun z9=>
 sh (u2-M.ul z5-M.ub z9) fun z3=>
 sh (M.dq z1 u3 u2*z4) fun z7=>
 sh (M.dq z1 u3 u2) fun iQ=>
 [(M.ub (u3-M.uh z5-M.ub z3) != iI)=false,M.U u3,M.U (M.uh z5),M.K (M.ub z3),u3=u3,M.uh z5=M.uh z5,M.ub z3=M.ub z3,M.U u2,M.U (M.ul z5),M.K (M.ub z9),u2=u2,M.ul z5=M.ul z5,M.ub z9=M.ub z9,M.U u1,M.U (M.ul z0),M.K (M.ub z6),u1=u1,M.ul z0=M.ul z0,M.ub z6=M.ub z6,M.U u0,M.U (M.ul z2),M.K iI,u0=u0,M.ul z2=M.ul z2,iI=iI,M.U z1,M.U iQ,M.U (M.uh z0),z1=z1,M.dq z1 u3 u2=M.dq z1 u3 u2,M.uh z0=M.uh z0,M.U z4,M.U iQ,M.U (M.uh z2),z4=z4,M.dq z1 u3 u2=M.dq z1 u3 u2,M.uh z2=M.uh z2,M.U z8,M.U iQ,M.U iI,z8=z8,M.dq z1 u3 u2=M.dq z1 u3 u2,iI=iI,M.gt (M.uh z7) (M.ul z7) (M.dr z1 u3 u2) u1=false,M.U (M.ul z7),M.U u1,M.uh z7=M.uh z7,M.ul z7=M.ul z7,M.dr z1 u3 u2=M.dr z1 u3 u2,u1=u1,M.U iQ,M.U z4,M.dq z1 u3 u2=M.dq z1 u3 u2,z4=z4,M.U u3,M.U u2,u3<z1,u3=u3,u2=u2,(u3 != z1)=true,(3:Nat)=(3:Nat),(4:Nat)=(4:Nat),M.ul z3=v2,M.ul z2=g0,M.ul z0=g1,M.ul z5=g2,M.uh z5=g3]
def EO (u0 u1 u2 u3:Int):List Int:=
 sh (18446744073709551615:Int) fun z2=>
 sh ((13835058055282163712:Int)*M.dq z2 u3 u2+(0:Int)) fun z1=>
 sh ((18446744073709551614:Int)*M.dq z2 u3 u2+M.uh z1) fun z0=>
 sh (z2*M.dq z2 u3 u2+M.uh z0) fun z5=>
 sh (u0-M.ul z1-(0:Int)) fun z4=>
 sh (u1-M.ul z0-M.ub z4) fun z6=>
 sh (u2-M.ul z5-M.ub z6) fun z3=>
 [M.ul z4,M.ul z6,M.ul z3,M.ul (u3-M.uh z5-M.ub z3)]
def FL (u2 u3:Int):Int:=M.dq (18446744073709551615:Int) u3 u2
abbrev uN:=DvP [true,false,false] FV EO FL
def JD (u0 u1 u2 u3 v2 g0 g1 g2 g3:Int):List Prop:=
 sh (18446744073709551614:Int) fun z5=>
 sh (18446744073709551615:Int) fun z3=>
 sh (M.dq z3 u3 u2-(1:Int)) fun z1=>
 sh (13835058055282163712:Int) fun z9=>
 sh (0:Int) fun iQ=>
 sh (z9*IntKind.u64.wrap z1+iQ) fun z2=>
 sh (z5*IntKind.u64.wrap z1+M.uh z2) fun z0=>
 sh (z3*IntKind.u64.wrap z1+M.uh z0) fun z4=>
 sh (u0-M.ul z2-iQ) fun iI=>
 sh (u1-M.ul z0-M.ub iI) fun z6=>
 sh (M.dq z3 u3 u2*z5) fun z7=>
 sh (u2-M.ul z4-M.ub z6) fun z8=>
 sh (IntKind.u64.wrap z1) fun sG=>
 [(M.ub (u3-M.uh z4-M.ub z8) != iQ)=false,M.U u3,M.U (M.uh z4),M.K (M.ub z8),u3=u3,M.uh z4=M.uh z4,M.ub z8=M.ub z8,M.U u2,M.U (M.ul z4),M.K (M.ub z6),u2=u2,M.ul z4=M.ul z4,M.ub z6=M.ub z6,M.U u1,M.U (M.ul z0),M.K (M.ub iI),u1=u1,M.ul z0=M.ul z0,M.ub iI=M.ub iI,M.U u0,M.U (M.ul z2),M.K iQ,u0=u0,M.ul z2=M.ul z2,iQ=iQ,M.U z3,M.U sG,M.U (M.uh z0),z3=z3,IntKind.u64.wrap z1=IntKind.u64.wrap z1,M.uh z0=M.uh z0,M.U z5,M.U sG,M.U (M.uh z2),z5=z5,IntKind.u64.wrap z1=IntKind.u64.wrap z1,M.uh z2=M.uh z2,M.U z9,M.U sG,M.U iQ,z9=z9,IntKind.u64.wrap z1=IntKind.u64.wrap z1,iQ=iQ,decide (IntKind.u64.wrap (M.dr z3 u3 u2+z3)<z3)=true,M.gt (M.uh z7) (M.ul z7) (M.dr z3 u3 u2) u1=true,M.U (M.ul z7),M.U u1,M.uh z7=M.uh z7,M.ul z7=M.ul z7,M.dr z3 u3 u2=M.dr z3 u3 u2,u1=u1,M.U (M.dq z3 u3 u2),M.U z5,M.dq z3 u3 u2=M.dq z3 u3 u2,z5=z5,M.U u3,M.U u2,u3<z3,u3=u3,u2=u2,(u3 != z3)=true,(3:Nat)=(3:Nat),(4:Nat)=(4:Nat),M.ul z8=v2,M.ul z2=g0,M.ul z0=g1,M.ul z4=g2,M.uh z4=g3]
def IC (u0 u1 u2 u3:Int):List Int:=
 sh (18446744073709551615:Int) fun z5=>
 sh (M.dq z5 u3 u2-(1:Int)) fun z3=>
 sh ((13835058055282163712:Int)*IntKind.u64.wrap z3+(0:Int)) fun z1=>
 sh ((18446744073709551614:Int)*IntKind.u64.wrap z3+M.uh z1) fun z0=>
 sh (z5*IntKind.u64.wrap z3+M.uh z0) fun z2=>
 sh (u0-M.ul z1-(0:Int)) fun z6=>
 sh (u1-M.ul z0-M.ub z6) fun z4=>
 sh (u2-M.ul z2-M.ub z4) fun z7=>
 [M.ul z6,M.ul z4,M.ul z7,M.ul (u3-M.uh z2-M.ub z7)]
def IT (u2 u3:Int):Int:=IntKind.u64.wrap (M.dq (18446744073709551615:Int) u3 u2-(1:Int))
abbrev qV:=DvP [true,true,true,false] JD IC IT
def Wh (u0 u1 u2 u3 v2 g0 g1 g2 g3:Int):List Prop:=
 sh (18446744073709551614:Int) fun z4=>
 sh (18446744073709551615:Int) fun z1=>
 sh (M.dq z1 u3 u2-(1:Int)) fun z6=>
 sh (13835058055282163712:Int) fun z9=>
 sh (0:Int) fun sG=>
 sh (z9*IntKind.u64.wrap z6+sG) fun z2=>
 sh (z4*IntKind.u64.wrap z6+M.uh z2) fun z0=>
 sh (z1*IntKind.u64.wrap z6+M.uh z0) fun z3=>
 sh (u0-M.ul z2-sG) fun iI=>
 sh (u1-M.ul z0-M.ub iI) fun z5=>
 sh (M.dq z1 u3 u2*z4) fun z7=>
 sh (u2-M.ul z3-M.ub z5) fun z8=>
 sh (M.dr z1 u3 u2+z1) fun iQ=>
 sh (IntKind.u64.wrap z6) fun On=>
 sh (M.uh z7-(1:Int)) fun CK=>
 sh (M.ul z7-z4) fun QM=>
 sh (IntKind.u64.wrap QM) fun nL=>
 [(M.ub (u3-M.uh z3-M.ub z8) != sG)=false,M.U u3,M.U (M.uh z3),M.K (M.ub z8),u3=u3,M.uh z3=M.uh z3,M.ub z8=M.ub z8,M.U u2,M.U (M.ul z3),M.K (M.ub z5),u2=u2,M.ul z3=M.ul z3,M.ub z5=M.ub z5,M.U u1,M.U (M.ul z0),M.K (M.ub iI),u1=u1,M.ul z0=M.ul z0,M.ub iI=M.ub iI,M.U u0,M.U (M.ul z2),M.K sG,u0=u0,M.ul z2=M.ul z2,sG=sG,M.U z1,M.U On,M.U (M.uh z0),z1=z1,IntKind.u64.wrap z6=IntKind.u64.wrap z6,M.uh z0=M.uh z0,M.U z4,M.U On,M.U (M.uh z2),z4=z4,IntKind.u64.wrap z6=IntKind.u64.wrap z6,M.uh z2=M.uh z2,M.U z9,M.U On,M.U sG,z9=z9,IntKind.u64.wrap z6=IntKind.u64.wrap z6,sG=sG,M.gt (IntKind.u64.wrap CK) nL (IntKind.u64.wrap iQ) u1=false,M.U nL,M.U u1,IntKind.u64.wrap CK=IntKind.u64.wrap CK,IntKind.u64.wrap QM=IntKind.u64.wrap QM,IntKind.u64.wrap iQ=IntKind.u64.wrap iQ,u1=u1,decide (z4>M.ul z7)=true,decide (IntKind.u64.wrap iQ<z1)=false,M.gt (M.uh z7) (M.ul z7) (M.dr z1 u3 u2) u1=true,M.U (M.ul z7),M.U u1,M.uh z7=M.uh z7,M.ul z7=M.ul z7,M.dr z1 u3 u2=M.dr z1 u3 u2,u1=u1,M.U (M.dq z1 u3 u2),M.U z4,M.dq z1 u3 u2=M.dq z1 u3 u2,z4=z4,M.U u3,M.U u2,u3<z1,u3=u3,u2=u2,(u3 != z1)=true,(3:Nat)=(3:Nat),(4:Nat)=(4:Nat),M.ul z8=v2,M.ul z2=g0,M.ul z0=g1,M.ul z3=g2,M.uh z3=g3]
def Vo (u0 u1 u2 u3:Int):List Int:=
 sh (18446744073709551615:Int) fun z5=>
 sh (M.dq z5 u3 u2-(1:Int)) fun z3=>
 sh ((13835058055282163712:Int)*IntKind.u64.wrap z3+(0:Int)) fun z1=>
 sh ((18446744073709551614:Int)*IntKind.u64.wrap z3+M.uh z1) fun z0=>
 sh (z5*IntKind.u64.wrap z3+M.uh z0) fun z2=>
 sh (u0-M.ul z1-(0:Int)) fun z6=>
 sh (u1-M.ul z0-M.ub z6) fun z4=>
 sh (u2-M.ul z2-M.ub z4) fun z7=>
 [M.ul z6,M.ul z4,M.ul z7,M.ul (u3-M.uh z2-M.ub z7)]
def Vx (u2 u3:Int):Int:=IntKind.u64.wrap (M.dq (18446744073709551615:Int) u3 u2-(1:Int))
abbrev nT:=DvP [true,true,false,true,false,false] Wh Vo Vx
def Wi (u0 u1 u2 u3 v2 g0 g1 g2 g3:Int):List Prop:=
 sh (18446744073709551614:Int) fun z4=>
 sh (18446744073709551615:Int) fun z1=>
 sh (M.dq z1 u3 u2-(1:Int)) fun z6=>
 sh (13835058055282163712:Int) fun z9=>
 sh (0:Int) fun sG=>
 sh (z9*IntKind.u64.wrap z6+sG) fun z2=>
 sh (z4*IntKind.u64.wrap z6+M.uh z2) fun z0=>
 sh (z1*IntKind.u64.wrap z6+M.uh z0) fun z3=>
 sh (u0-M.ul z2-sG) fun iI=>
 sh (u1-M.ul z0-M.ub iI) fun z5=>
 sh (M.dq z1 u3 u2*z4) fun z7=>
 sh (u2-M.ul z3-M.ub z5) fun z8=>
 sh (M.dr z1 u3 u2+z1) fun iQ=>
 sh (IntKind.u64.wrap z6) fun On=>
 sh (M.ul z7-z4) fun CK=>
 sh (IntKind.u64.wrap CK) fun QM=>
 [(M.ub (u3-M.uh z3-M.ub z8) != sG)=false,M.U u3,M.U (M.uh z3),M.K (M.ub z8),u3=u3,M.uh z3=M.uh z3,M.ub z8=M.ub z8,M.U u2,M.U (M.ul z3),M.K (M.ub z5),u2=u2,M.ul z3=M.ul z3,M.ub z5=M.ub z5,M.U u1,M.U (M.ul z0),M.K (M.ub iI),u1=u1,M.ul z0=M.ul z0,M.ub iI=M.ub iI,M.U u0,M.U (M.ul z2),M.K sG,u0=u0,M.ul z2=M.ul z2,sG=sG,M.U z1,M.U On,M.U (M.uh z0),z1=z1,IntKind.u64.wrap z6=IntKind.u64.wrap z6,M.uh z0=M.uh z0,M.U z4,M.U On,M.U (M.uh z2),z4=z4,IntKind.u64.wrap z6=IntKind.u64.wrap z6,M.uh z2=M.uh z2,M.U z9,M.U On,M.U sG,z9=z9,IntKind.u64.wrap z6=IntKind.u64.wrap z6,sG=sG,M.gt (M.uh z7) QM (IntKind.u64.wrap iQ) u1=false,M.U QM,M.U u1,M.uh z7=M.uh z7,IntKind.u64.wrap CK=IntKind.u64.wrap CK,IntKind.u64.wrap iQ=IntKind.u64.wrap iQ,u1=u1,decide (z4>M.ul z7)=false,decide (IntKind.u64.wrap iQ<z1)=false,M.gt (M.uh z7) (M.ul z7) (M.dr z1 u3 u2) u1=true,M.U (M.ul z7),M.U u1,M.uh z7=M.uh z7,M.ul z7=M.ul z7,M.dr z1 u3 u2=M.dr z1 u3 u2,u1=u1,M.U (M.dq z1 u3 u2),M.U z4,M.dq z1 u3 u2=M.dq z1 u3 u2,z4=z4,M.U u3,M.U u2,u3<z1,u3=u3,u2=u2,(u3 != z1)=true,(3:Nat)=(3:Nat),(4:Nat)=(4:Nat),M.ul z8=v2,M.ul z2=g0,M.ul z0=g1,M.ul z3=g2,M.uh z3=g3]
def Vp (u0 u1 u2 u3:Int):List Int:=
 sh (18446744073709551615:Int) fun z5=>
 sh (M.dq z5 u3 u2-(1:Int)) fun z3=>
 sh ((13835058055282163712:Int)*IntKind.u64.wrap z3+(0:Int)) fun z1=>
 sh ((18446744073709551614:Int)*IntKind.u64.wrap z3+M.uh z1) fun z0=>
 sh (z5*IntKind.u64.wrap z3+M.uh z0) fun z2=>
 sh (u0-M.ul z1-(0:Int)) fun z6=>
 sh (u1-M.ul z0-M.ub z6) fun z4=>
 sh (u2-M.ul z2-M.ub z4) fun z7=>
 [M.ul z6,M.ul z4,M.ul z7,M.ul (u3-M.uh z2-M.ub z7)]
def Vy (u2 u3:Int):Int:=IntKind.u64.wrap (M.dq (18446744073709551615:Int) u3 u2-(1:Int))
abbrev nU:=DvP [true,true,false,false,false,false] Wi Vp Vy
def aEg (u0 u1 u2 u3 v2 g0 g1 g2 g3:Int):List Prop:=
 sh (18446744073709551614:Int) fun z4=>
 sh (18446744073709551615:Int) fun z2=>
 sh (13835058055282163712:Int) fun z3=>
 sh (0:Int) fun iQ=>
 sh (z3*M.dq z2 u3 u2+iQ) fun z7=>
 sh (z4*M.dq z2 u3 u2+M.uh z7) fun z0=>
 sh (u0-M.ul z7-iQ) fun z1=>
 sh (z2*M.dq z2 u3 u2+M.uh z0) fun z6=>
 sh (u1-M.ul z0-M.ub z1) fun z8=>
 sh (u2-M.ul z6-M.ub z8) fun z5=>
 sh (M.ul z1+z3+iQ) fun z9=>
 sh (M.dq z2 u3 u2*z4) fun iI=>
 sh (M.ul z8+z4+M.uh z9) fun sG=>
 sh (M.dq z2 u3 u2) fun On=>
 [M.U (M.ul z5),M.U z2,M.K (M.uh sG),M.ul z5=M.ul z5,z2=z2,M.uh sG=M.uh sG,M.U (M.ul z8),M.U z4,M.K (M.uh z9),M.ul z8=M.ul z8,z4=z4,M.uh z9=M.uh z9,M.U (M.ul z1),M.U z3,M.K iQ,M.ul z1=M.ul z1,z3=z3,iQ=iQ,(M.ub (u3-M.uh z6-M.ub z5) != iQ)=true,M.U u3,M.U (M.uh z6),M.K (M.ub z5),u3=u3,M.uh z6=M.uh z6,M.ub z5=M.ub z5,M.U u2,M.U (M.ul z6),M.K (M.ub z8),u2=u2,M.ul z6=M.ul z6,M.ub z8=M.ub z8,M.U u1,M.U (M.ul z0),M.K (M.ub z1),u1=u1,M.ul z0=M.ul z0,M.ub z1=M.ub z1,M.U u0,M.U (M.ul z7),M.K iQ,u0=u0,M.ul z7=M.ul z7,iQ=iQ,M.U z2,M.U On,M.U (M.uh z0),z2=z2,M.dq z2 u3 u2=M.dq z2 u3 u2,M.uh z0=M.uh z0,M.U z4,M.U On,M.U (M.uh z7),z4=z4,M.dq z2 u3 u2=M.dq z2 u3 u2,M.uh z7=M.uh z7,M.U z3,M.U On,M.U iQ,z3=z3,M.dq z2 u3 u2=M.dq z2 u3 u2,iQ=iQ,M.gt (M.uh iI) (M.ul iI) (M.dr z2 u3 u2) u1=false,M.U (M.ul iI),M.U u1,M.uh iI=M.uh iI,M.ul iI=M.ul iI,M.dr z2 u3 u2=M.dr z2 u3 u2,u1=u1,M.U On,M.U z4,M.dq z2 u3 u2=M.dq z2 u3 u2,z4=z4,M.U u3,M.U u2,u3<z2,u3=u3,u2=u2,(u3 != z2)=true,(3:Nat)=(3:Nat),(4:Nat)=(4:Nat),M.ul (M.ul z5+z2+M.uh sG)=v2,M.ul z7=g0,M.ul z0=g1,M.ul z6=g2,M.uh z6=g3]
def aDn (u0 u1 u2 u3:Int):List Int:=
 sh (13835058055282163712:Int) fun z9=>
 sh (18446744073709551615:Int) fun z3=>
 sh (z9*M.dq z3 u3 u2+(0:Int)) fun z0=>
 sh (18446744073709551614:Int) fun iI=>
 sh (iI*M.dq z3 u3 u2+M.uh z0) fun z1=>
 sh (z3*M.dq z3 u3 u2+M.uh z1) fun z8=>
 sh (u0-M.ul z0-(0:Int)) fun z7=>
 sh (u1-M.ul z1-M.ub z7) fun iQ=>
 sh (u2-M.ul z8-M.ub iQ) fun z5=>
 sh (M.ul z7+z9+(0:Int)) fun z6=>
 sh (M.ul iQ+iI+M.uh z6) fun z4=>
 sh (M.ul z5+z3+M.uh z4) fun z2=>
 [M.ul z6,M.ul z4,M.ul z2,IntKind.u64.wrap (M.ul (u3-M.uh z8-M.ub z5)+M.uh z2)]
def aEa (u2 u3:Int):Int:=IntKind.u64.wrap (M.dq (18446744073709551615:Int) u3 u2-(1:Int))
abbrev yJ:=DvP [true,false,true] aEg aDn aEa
def aOn (u1 u2 u3 v3 g0 g1 g2 g3:Int):List Prop:=
 sh (18446744073709551614:Int) fun z3=>
 sh (18446744073709551615:Int) fun z1=>
 sh (0:Int) fun z4=>
 sh (13835058055282163712:Int) fun z8=>
 sh (z8*M.dq z1 z4 u3+z4) fun z2=>
 sh (z3*M.dq z1 z4 u3+M.uh z2) fun z0=>
 sh (z1*M.dq z1 z4 u3+M.uh z0) fun z5=>
 sh (u1-M.ul z2-z4) fun z9=>
 sh (u2-M.ul z0-M.ub z9) fun z6=>
 sh (M.dq z1 z4 u3*z3) fun z7=>
 sh (M.dq z1 z4 u3) fun iI=>
 sh (u3-M.ul z5-M.ub z6) fun iQ=>
 [(M.dq z1 z4 u3==z4)=true,(M.ub iQ != z4)=false,M.U u3,M.U (M.ul z5),M.K (M.ub z6),u3=u3,M.ul z5=M.ul z5,M.ub z6=M.ub z6,M.U u2,M.U (M.ul z0),M.K (M.ub z9),u2=u2,M.ul z0=M.ul z0,M.ub z9=M.ub z9,M.U u1,M.U (M.ul z2),M.K z4,u1=u1,M.ul z2=M.ul z2,z4=z4,(M.uh z5==z4)=true,M.U z1,M.U iI,M.U (M.uh z0),z1=z1,M.dq z1 z4 u3=M.dq z1 z4 u3,M.uh z0=M.uh z0,M.U z3,M.U iI,M.U (M.uh z2),z3=z3,M.dq z1 z4 u3=M.dq z1 z4 u3,M.uh z2=M.uh z2,M.U z8,M.U iI,M.U z4,z8=z8,M.dq z1 z4 u3=M.dq z1 z4 u3,z4=z4,M.gt (M.uh z7) (M.ul z7) (M.dr z1 z4 u3) u2=false,M.U (M.ul z7),M.U u2,M.uh z7=M.uh z7,M.ul z7=M.ul z7,M.dr z1 z4 u3=M.dr z1 z4 u3,u2=u2,M.U iI,M.U z3,M.dq z1 z4 u3=M.dq z1 z4 u3,z3=z3,M.U z4,M.U u3,z4<z1,z4=z4,u3=u3,(3:Nat)=(3:Nat),(4:Nat)=(4:Nat),M.ul iQ=v3,M.ul z2=g0,M.ul z0=g1,M.ul z5=g2,M.uh z5=g3]
def aNx (u1 u2 u3:Int):List Int:=
 sh (18446744073709551615:Int) fun z2=>
 sh (0:Int) fun z4=>
 sh ((13835058055282163712:Int)*M.dq z2 z4 u3+z4) fun z0=>
 sh ((18446744073709551614:Int)*M.dq z2 z4 u3+M.uh z0) fun z1=>
 sh (u1-M.ul z0-z4) fun z3=>
 sh (u2-M.ul z1-M.ub z3) fun z5=>
 [M.ul z3,M.ul z5,M.ul (u3-M.ul (z2*M.dq z2 z4 u3+M.uh z1)-M.ub z5)]
def DvT (c:CJ) (j j':Int) (pre post qs:List Int):Prop:=
 ∀ (eY eZ:List SV) (u1 u2 u3 v1 v2 v3 h0 h1 h2 h3 g0 g1 g2 g3:Int),
   fW fF eY eZ c.nu c.cu c.nq c.cq c.m 18446744073709551615 1 j j' (.int true .u64 0) (.int false .u64 v3) (wc (pre++[u1,u2,u3]++post)) (wc (pre++[v1,v2,v3]++post)) (wc qs) (wc qs) (wc [h0,h1,h2,h3]) (wc [g0,g1,g2,g3]) [false,true,false,true] =
    some (.at .normal,[],aOn u1 u2 u3 v3 g0 g1 g2 g3++[qs=qs,pre++aNx u1 u2 u3++post=pre++[v1,v2,v3]++post])
theorem aKx:yK ⟨4,7,1,1,1⟩ 0 (-1) [] [0,0,0] [] []:=fun eY eZ u0 u1 u2 u3 v0 v1 v2 v3 q0 q1 h0 h1 h2 h3 g0 g1 g2 g3=>by kernel_rfl
theorem aKw:uN ⟨4,7,1,1,1⟩ 0 (-1) [] [0,0,0] [] []:=fun eY eZ u0 u1 u2 u3 v0 v1 v2 v3 q0 q1 h0 h1 h2 h3 g0 g1 g2 g3=>by kernel_rfl
theorem aAp:qV ⟨4,7,1,1,1⟩ 0 (-1) [] [0,0,0] [] []:=fun eY eZ u0 u1 u2 u3 v0 v1 v2 v3 q0 q1 h0 h1 h2 h3 g0 g1 g2 g3=>by kernel_rfl
theorem MD:nT ⟨4,7,1,1,1⟩ 0 (-1) [] [0,0,0] [] []:=fun eY eZ u0 u1 u2 u3 v0 v1 v2 v3 q0 q1 h0 h1 h2 h3 g0 g1 g2 g3=>by kernel_rfl
theorem ME:nU ⟨4,7,1,1,1⟩ 0 (-1) [] [0,0,0] [] []:=fun eY eZ u0 u1 u2 u3 v0 v1 v2 v3 q0 q1 h0 h1 h2 h3 g0 g1 g2 g3=>by kernel_rfl
theorem aKv:yJ ⟨4,7,1,1,1⟩ 0 (-1) [] [0,0,0] [] []:=fun eY eZ u0 u1 u2 u3 v0 v1 v2 v3 q0 q1 h0 h1 h2 h3 g0 g1 g2 g3=>by kernel_rfl
theorem aTa (u0 q0:Int):DvT ⟨4,7,1,1,1⟩ 1 0 [u0] [0,0,0] [q0]:=fun eY eZ u1 u2 u3 v1 v2 v3 h0 h1 h2 h3 g0 g1 g2 g3=>by kernel_rfl
theorem aKu:yK ⟨4,8,1,1,1⟩ 0 (-1) [] [0,0,0,0] [] []:=fun eY eZ u0 u1 u2 u3 v0 v1 v2 v3 q0 q1 h0 h1 h2 h3 g0 g1 g2 g3=>by kernel_rfl
theorem aKt:uN ⟨4,8,1,1,1⟩ 0 (-1) [] [0,0,0,0] [] []:=fun eY eZ u0 u1 u2 u3 v0 v1 v2 v3 q0 q1 h0 h1 h2 h3 g0 g1 g2 g3=>by kernel_rfl
theorem aAo:qV ⟨4,8,1,1,1⟩ 0 (-1) [] [0,0,0,0] [] []:=fun eY eZ u0 u1 u2 u3 v0 v1 v2 v3 q0 q1 h0 h1 h2 h3 g0 g1 g2 g3=>by kernel_rfl
theorem MB:nT ⟨4,8,1,1,1⟩ 0 (-1) [] [0,0,0,0] [] []:=fun eY eZ u0 u1 u2 u3 v0 v1 v2 v3 q0 q1 h0 h1 h2 h3 g0 g1 g2 g3=>by kernel_rfl
theorem MC:nU ⟨4,8,1,1,1⟩ 0 (-1) [] [0,0,0,0] [] []:=fun eY eZ u0 u1 u2 u3 v0 v1 v2 v3 q0 q1 h0 h1 h2 h3 g0 g1 g2 g3=>by kernel_rfl
theorem aKs:yJ ⟨4,8,1,1,1⟩ 0 (-1) [] [0,0,0,0] [] []:=fun eY eZ u0 u1 u2 u3 v0 v1 v2 v3 q0 q1 h0 h1 h2 h3 g0 g1 g2 g3=>by kernel_rfl
theorem aSz (u0 q0:Int):DvT ⟨4,8,1,1,1⟩ 1 0 [u0] [0,0,0,0] [q0]:=fun eY eZ u1 u2 u3 v1 v2 v3 h0 h1 h2 h3 g0 g1 g2 g3=>by kernel_rfl
theorem aAn (z0 y0:Int):yK ⟨5,8,2,6,2⟩ 1 0 [z0] [0,0,0] [y0] [0,0,0,0]:=fun eY eZ u0 u1 u2 u3 v0 v1 v2 v3 q0 q1 h0 h1 h2 h3 g0 g1 g2 g3=>by kernel_rfl
theorem aAm (z0 y0:Int):uN ⟨5,8,2,6,2⟩ 1 0 [z0] [0,0,0] [y0] [0,0,0,0]:=fun eY eZ u0 u1 u2 u3 v0 v1 v2 v3 q0 q1 h0 h1 h2 h3 g0 g1 g2 g3=>by kernel_rfl
theorem MA (z0 y0:Int):qV ⟨5,8,2,6,2⟩ 1 0 [z0] [0,0,0] [y0] [0,0,0,0]:=fun eY eZ u0 u1 u2 u3 v0 v1 v2 v3 q0 q1 h0 h1 h2 h3 g0 g1 g2 g3=>by kernel_rfl
theorem Zz (z0 y0:Int):nT ⟨5,8,2,6,2⟩ 1 0 [z0] [0,0,0] [y0] [0,0,0,0]:=fun eY eZ u0 u1 u2 u3 v0 v1 v2 v3 q0 q1 h0 h1 h2 h3 g0 g1 g2 g3=>by kernel_rfl
theorem AA (z0 y0:Int):nU ⟨5,8,2,6,2⟩ 1 0 [z0] [0,0,0] [y0] [0,0,0,0]:=fun eY eZ u0 u1 u2 u3 v0 v1 v2 v3 q0 q1 h0 h1 h2 h3 g0 g1 g2 g3=>by kernel_rfl
theorem aAl (z0 y0:Int):yJ ⟨5,8,2,6,2⟩ 1 0 [z0] [0,0,0] [y0] [0,0,0,0]:=fun eY eZ u0 u1 u2 u3 v0 v1 v2 v3 q0 q1 h0 h1 h2 h3 g0 g1 g2 g3=>by kernel_rfl
theorem aAk (y1:Int):yK ⟨5,8,2,6,2⟩ 0 (-1) [] [0,0,0,0] [] [y1,0,0,0,0]:=fun eY eZ u0 u1 u2 u3 v0 v1 v2 v3 q0 q1 h0 h1 h2 h3 g0 g1 g2 g3=>by kernel_rfl
theorem aAj (y1:Int):uN ⟨5,8,2,6,2⟩ 0 (-1) [] [0,0,0,0] [] [y1,0,0,0,0]:=fun eY eZ u0 u1 u2 u3 v0 v1 v2 v3 q0 q1 h0 h1 h2 h3 g0 g1 g2 g3=>by kernel_rfl
theorem LZ (y1:Int):qV ⟨5,8,2,6,2⟩ 0 (-1) [] [0,0,0,0] [] [y1,0,0,0,0]:=fun eY eZ u0 u1 u2 u3 v0 v1 v2 v3 q0 q1 h0 h1 h2 h3 g0 g1 g2 g3=>by kernel_rfl
theorem Zx (y1:Int):nT ⟨5,8,2,6,2⟩ 0 (-1) [] [0,0,0,0] [] [y1,0,0,0,0]:=fun eY eZ u0 u1 u2 u3 v0 v1 v2 v3 q0 q1 h0 h1 h2 h3 g0 g1 g2 g3=>by kernel_rfl
theorem Zy (y1:Int):nU ⟨5,8,2,6,2⟩ 0 (-1) [] [0,0,0,0] [] [y1,0,0,0,0]:=fun eY eZ u0 u1 u2 u3 v0 v1 v2 v3 q0 q1 h0 h1 h2 h3 g0 g1 g2 g3=>by kernel_rfl
theorem aAi (y1:Int):yJ ⟨5,8,2,6,2⟩ 0 (-1) [] [0,0,0,0] [] [y1,0,0,0,0]:=fun eY eZ u0 u1 u2 u3 v0 v1 v2 v3 q0 q1 h0 h1 h2 h3 g0 g1 g2 g3=>by kernel_rfl
theorem aSy (z0 u0 q0 q1:Int):DvT ⟨5,8,2,6,2⟩ 2 1 [z0,u0] [0,0,0] [q0,q1,0,0,0,0]:=fun eY eZ u1 u2 u3 v1 v2 v3 h0 h1 h2 h3 g0 g1 g2 g3=>by kernel_rfl
theorem aAh (z0 y0:Int):yK ⟨5,9,2,6,2⟩ 1 0 [z0] [0,0,0,0] [y0] [0,0,0,0]:=fun eY eZ u0 u1 u2 u3 v0 v1 v2 v3 q0 q1 h0 h1 h2 h3 g0 g1 g2 g3=>by kernel_rfl
theorem aAg (z0 y0:Int):uN ⟨5,9,2,6,2⟩ 1 0 [z0] [0,0,0,0] [y0] [0,0,0,0]:=fun eY eZ u0 u1 u2 u3 v0 v1 v2 v3 q0 q1 h0 h1 h2 h3 g0 g1 g2 g3=>by kernel_rfl
theorem LY (z0 y0:Int):qV ⟨5,9,2,6,2⟩ 1 0 [z0] [0,0,0,0] [y0] [0,0,0,0]:=fun eY eZ u0 u1 u2 u3 v0 v1 v2 v3 q0 q1 h0 h1 h2 h3 g0 g1 g2 g3=>by kernel_rfl
theorem Zv (z0 y0:Int):nT ⟨5,9,2,6,2⟩ 1 0 [z0] [0,0,0,0] [y0] [0,0,0,0]:=fun eY eZ u0 u1 u2 u3 v0 v1 v2 v3 q0 q1 h0 h1 h2 h3 g0 g1 g2 g3=>by kernel_rfl
theorem Zw (z0 y0:Int):nU ⟨5,9,2,6,2⟩ 1 0 [z0] [0,0,0,0] [y0] [0,0,0,0]:=fun eY eZ u0 u1 u2 u3 v0 v1 v2 v3 q0 q1 h0 h1 h2 h3 g0 g1 g2 g3=>by kernel_rfl
theorem aAf (z0 y0:Int):yJ ⟨5,9,2,6,2⟩ 1 0 [z0] [0,0,0,0] [y0] [0,0,0,0]:=fun eY eZ u0 u1 u2 u3 v0 v1 v2 v3 q0 q1 h0 h1 h2 h3 g0 g1 g2 g3=>by kernel_rfl
theorem aAe (y1:Int):yK ⟨5,9,2,6,2⟩ 0 (-1) [] [0,0,0,0,0] [] [y1,0,0,0,0]:=fun eY eZ u0 u1 u2 u3 v0 v1 v2 v3 q0 q1 h0 h1 h2 h3 g0 g1 g2 g3=>by kernel_rfl
theorem aAd (y1:Int):uN ⟨5,9,2,6,2⟩ 0 (-1) [] [0,0,0,0,0] [] [y1,0,0,0,0]:=fun eY eZ u0 u1 u2 u3 v0 v1 v2 v3 q0 q1 h0 h1 h2 h3 g0 g1 g2 g3=>by kernel_rfl
theorem LX (y1:Int):qV ⟨5,9,2,6,2⟩ 0 (-1) [] [0,0,0,0,0] [] [y1,0,0,0,0]:=fun eY eZ u0 u1 u2 u3 v0 v1 v2 v3 q0 q1 h0 h1 h2 h3 g0 g1 g2 g3=>by kernel_rfl
theorem Zt (y1:Int):nT ⟨5,9,2,6,2⟩ 0 (-1) [] [0,0,0,0,0] [] [y1,0,0,0,0]:=fun eY eZ u0 u1 u2 u3 v0 v1 v2 v3 q0 q1 h0 h1 h2 h3 g0 g1 g2 g3=>by kernel_rfl
theorem Zu (y1:Int):nU ⟨5,9,2,6,2⟩ 0 (-1) [] [0,0,0,0,0] [] [y1,0,0,0,0]:=fun eY eZ u0 u1 u2 u3 v0 v1 v2 v3 q0 q1 h0 h1 h2 h3 g0 g1 g2 g3=>by kernel_rfl
theorem aAc (y1:Int):yJ ⟨5,9,2,6,2⟩ 0 (-1) [] [0,0,0,0,0] [] [y1,0,0,0,0]:=fun eY eZ u0 u1 u2 u3 v0 v1 v2 v3 q0 q1 h0 h1 h2 h3 g0 g1 g2 g3=>by kernel_rfl
theorem aSx (z0 u0 q0 q1:Int):DvT ⟨5,9,2,6,2⟩ 2 1 [z0,u0] [0,0,0,0] [q0,q1,0,0,0,0]:=fun eY eZ u1 u2 u3 v1 v2 v3 h0 h1 h2 h3 g0 g1 g2 g3=>by kernel_rfl
namespace M
def n4 (a b c d:Int):Int:=a+18446744073709551616*(b+18446744073709551616*(c+18446744073709551616*d))
def D:Int:=6277101735386680763835789423207666416102355444464034512895-23058430092136939519+0
structure Dig (d0 d1 d2 q u0 u1 u2 u3:Int) (c0 c1 p0 p1 p2 p3 b0 b1 b2 b3 s0 s1 s2 s3:Int):Prop where
 RZ:M.ul (d0*q+0)=p0
 Ao:M.uh (d0*q+0)=c0
 CV:M.ul (d1*q+c0)=p1
 DC:M.uh (d1*q+c0)=c1
 RC:M.ul (d2*q+c1)=p2
 hp3:M.uh (d2*q+c1)=p3
 Fl:M.ul (u0-p0-0)=s0
 Ed:M.ub (u0-p0-0)=b0
 fP:M.ul (u1-p1-b0)=s1
 qH:M.ub (u1-p1-b0)=b1
 rZ:M.ul (u2-p2-b1)=s2
 lB:M.ub (u2-p2-b1)=b2
 hs3:M.ul (u3-p3-b2)=s3
 RH:M.ub (u3-p3-b2)=b3
theorem xI (d0 d1 d2 q u0 u1 u2 u3:Int):∃ c0 c1 p0 p1 p2 p3 b0 b1 b2 b3 s0 s1 s2 s3,Dig d0 d1 d2 q u0 u1 u2 u3 c0 c1 p0 p1 p2 p3 b0 b1 b2 b3 s0 s1 s2 s3:=
 ⟨_,_,_,_,_,_,_,_,_,_,_,_,_,_,rfl,rfl,rfl,rfl,rfl,rfl,rfl,rfl,rfl,rfl,rfl,rfl,rfl,rfl⟩
theorem mU (n:Int):M.ul n+18446744073709551616*M.uh n=n:=by unfold ul uh;omega
theorem Uk (n:Int):M.ul n-18446744073709551616*M.ub n=n:=by unfold ul ub;omega
theorem As {d q c:Int} (hd:U d) (hq:U q) (hc:U c):U (uh (d*q+c)):=by
 have h:=eN hd hq
 have:=hc.1
 have:=hc.2
 unfold U uh
 omega
theorem SU {a b c:Int} (ha:U a) (hb:U b) (hc:K c):K (ub (a-b-c)):=by
 have:=ha.1;have:=ha.2;have:=hb.1;have:=hb.2;have:=hc.1;have:=hc.2
 unfold K ub
 omega
structure aQg (c0 c1 p0 p1 p2 p3 b0 b1 b2 b3 s0 s1 s2 s3:Int):Prop where
 c0:U c0
 c1:U c1
 p0:U p0
 p1:U p1
 p2:U p2
 p3:U p3
 b0:K b0
 b1:K b1
 b2:K b2
 b3:K b3
 s0:U s0
 s1:U s1
 s2:U s2
 s3:U s3
theorem U0:U 0:=⟨by decide,by decide⟩
theorem K0:K 0:=⟨by decide,by decide⟩
theorem Dig.u {d0 d1 d2 q u0 u1 u2 u3 c0 c1 p0 p1 p2 p3 b0 b1 b2 b3 s0 s1 s2 s3:Int} (h:Dig d0 d1 d2 q u0 u1 u2 u3 c0 c1 p0 p1 p2 p3 b0 b1 b2 b3 s0 s1 s2 s3)
 (e0:U d0) (e1:U d1) (e2:U d2) (hq:U q) (w0:U u0) (w1:U u1) (w2:U u2) (w3:U u3):aQg c0 c1 p0 p1 p2 p3 b0 b1 b2 b3 s0 s1 s2 s3:=by
 have k0:U c0:=by rw [<- h.Ao];exact As e0 hq U0
 have k1:U c1:=by rw [<- h.DC];exact As e1 hq k0
 have r0:U p0:=by rw [<- h.RZ];exact dU _
 have r1:U p1:=by rw [<- h.CV];exact dU _
 have r2:U p2:=by rw [<- h.RC];exact dU _
 have r3:U p3:=by rw [<- h.hp3];exact As e2 hq k1
 have x0:K b0:=by rw [<- h.Ed];exact SU w0 r0 K0
 have x1:K b1:=by rw [<- h.qH];exact SU w1 r1 x0
 have x2:K b2:=by rw [<- h.lB];exact SU w2 r2 x1
 have x3:K b3:=by rw [<- h.RH];exact SU w3 r3 x2
 exact ⟨k0,k1,r0,r1,r2,r3,x0,x1,x2,x3,by rw [<- h.Fl];exact dU _,by rw [<- h.fP];exact dU _,by rw [<- h.rZ];exact dU _,by rw [<- h.hs3];exact dU _⟩
theorem Dig.sum {d0 d1 d2 q u0 u1 u2 u3 c0 c1 p0 p1 p2 p3 b0 b1 b2 b3 s0 s1 s2 s3:Int} (h:Dig d0 d1 d2 q u0 u1 u2 u3 c0 c1 p0 p1 p2 p3 b0 b1 b2 b3 s0 s1 s2 s3) :
 n4 s0 s1 s2 s3-18446744073709551616*(18446744073709551616*(18446744073709551616*(18446744073709551616*b3))) =
  n4 u0 u1 u2 u3-(d0*q+18446744073709551616*(d1*q+18446744073709551616*(d2*q))):=by
 have a0:=mU (d0*q+0)
 have a1:=mU (d1*q+c0)
 have a2:=mU (d2*q+c1)
 have z0:=Uk (u0-p0-0)
 have z1:=Uk (u1-p1-b0)
 have z2:=Uk (u2-p2-b1)
 have z3:=Uk (u3-p3-b2)
 rw [h.RZ,h.Ao] at a0
 rw [h.CV,h.DC] at a1
 rw [h.RC,h.hp3] at a2
 rw [h.Fl,h.Ed] at z0
 rw [h.fP,h.qH] at z1
 rw [h.rZ,h.lB] at z2
 rw [h.hs3,h.RH] at z3
 generalize d0*q=x0 at *
 generalize d1*q=x1 at *
 generalize d2*q=x2 at *
 unfold n4
 omega
def DD:Int:=n4 13835058055282163712 18446744073709551614 18446744073709551615 0
def w0 (n:Int):Int:=n%18446744073709551616
def w1 (n:Int):Int:=n/18446744073709551616%18446744073709551616
def w2 (n:Int):Int:=n/340282366920938463463374607431768211456%18446744073709551616
theorem aNw {a b c d:Int} (ha:U a) (hb:U b) (hc:U c):w0 (n4 a b c d)=a/\w1 (n4 a b c d)=b/\w2 (n4 a b c d)=c:=by
 have:=ha.1;have:=ha.2;have:=hb.1;have:=hb.2;have:=hc.1;have:=hc.2
 unfold w0 w1 w2 n4
 omega
abbrev aQf (q u0 u1 u2 u3:Int):=Dig 13835058055282163712 18446744073709551614 18446744073709551615 q u0 u1 u2 u3
theorem Dig.fits {q u0 u1 u2 u3 c0 c1 p0 p1 p2 p3 b0 b1 b2 b3 s0 s1 s2 s3:Int} (h:aQf q u0 u1 u2 u3 c0 c1 p0 p1 p2 p3 b0 b1 b2 b3 s0 s1 s2 s3)
 (hu:aQg c0 c1 p0 p1 p2 p3 b0 b1 b2 b3 s0 s1 s2 s3) (hq:q=n4 u0 u1 u2 u3/DD) :
 b3=0/\s0=w0 (n4 u0 u1 u2 u3%DD)/\s1=w1 (n4 u0 u1 u2 u3%DD)/\s2=w2 (n4 u0 u1 u2 u3%DD)/\s3=0:=by
 have hs:=h.sum
 obtain ⟨n,hn⟩:∃ n,n=n4 u0 u1 u2 u3:=⟨_,rfl⟩
 rw [<- hn] at hs hq |-
 have e:n-(13835058055282163712*q+18446744073709551616*(18446744073709551614*q+18446744073709551616*(18446744073709551615*q)))=n%DD:=by
  rw [hq]
  unfold DD n4
  omega
 rw [e] at hs
 have r0:0<=n%DD:=Int.emod_nonneg _ (by decide)
 have r1:n%DD<DD:=Int.emod_lt_of_pos _ (by decide)
 obtain ⟨r,hr⟩:∃ r,r=n%DD:=⟨_,rfl⟩
 rw [<- hr] at hs r0 r1 |-
 have rb:r<6277101735386680763835789423207666416102355444464034512896:=by
  refine Int.lt_of_lt_of_le r1 (by decide)
 have x0:=hu.b3.1
 have x1:=hu.b3.2
 have y0:=hu.s0.1
 have y1:=hu.s0.2
 have y2:=hu.s1.1
 have y3:=hu.s1.2
 have y4:=hu.s2.1
 have y5:=hu.s2.2
 have y6:=hu.s3.1
 have y7:=hu.s3.2
 have hb:b3=0:=by unfold n4 at hs;omega
 have h3:s3=0:=by unfold n4 at hs;omega
 rw [hb] at hs
 have Dv:r=n4 s0 s1 s2 s3:=by omega
 have:=aNw (d:=s3) hu.s0 hu.s1 hu.s2
 rw [Dv]
 exact ⟨hb,this.1.symm,this.2.1.symm,this.2.2.symm,h3⟩
end M
open M in
theorem aRv {c:CJ} {j j':Int} {pre post qa qb:List Int} (P:uN c j j' pre post qa qb) (eY eZ:List SV) (q0 h0 h1 h2 h3:Int) {u0 u1 u2 u3:Int} (a0:U u0) (a1:U u1) (a2:U u2) (a3:U u3) (hc:u3+u2<18446744073709551615) :
 ∃ g0 g1 g2 g3 ps,fW fF eY eZ c.nu c.cu c.nq c.cq c.m 18446744073709551615 1 j j' (.int false .u64 u3) (.int false .u64 (w2 (n4 u0 u1 u2 u3%DD))) (wc (pre++[u0,u1,u2,u3]++post))
   (wc (pre++[w0 (n4 u0 u1 u2 u3%DD),w1 (n4 u0 u1 u2 u3%DD),w2 (n4 u0 u1 u2 u3%DD),0]++post)) (wc (qa++[q0]++qb)) (wc (qa++[n4 u0 u1 u2 u3/DD]++qb)) (wc [h0,h1,h2,h3]) (wc [g0,g1,g2,g3]) [true,false,false]=some (.at .normal,[],ps)/\∀ q∈ps,q:=by
 have z0:=a0.1;have z1:=a0.2;have z2:=a1.1;have z3:=a1.2;have z4:=a2.1;have z5:=a2.2;have z6:=a3.1;have z7:=a3.2
 have e0:U 13835058055282163712:=⟨by decide,by decide⟩
 have e1:U 18446744073709551614:=⟨by decide,by decide⟩
 have e2:U 18446744073709551615:=⟨by decide,by decide⟩
 have aq:U (u3):=by unfold U;omega
 obtain ⟨c0,c1,p0,p1,p2,p3,b0,b1,b2,b3,s0,s1,s2,s3,H⟩:=xI 13835058055282163712 18446744073709551614 18446744073709551615 (u3) u0 u1 u2 u3
 have hu:=H.u e0 e1 e2 aq a0 a1 a2 a3
 have hq:u3=n4 u0 u1 u2 u3/DD:=by unfold DD n4;omega
 obtain ⟨f3,k0,k1,k2,k3⟩:=H.fits hu hq
 have hQ:dq 18446744073709551615 u3 u2=u3:=by unfold dq;omega
 have hR:dr 18446744073709551615 u3 u2=u3+u2:=by unfold dr;omega
 refine ⟨p0,p1,p2,p3,_,P eY eZ u0 u1 u2 u3 _ _ _ _ q0 _ h0 h1 h2 h3 _ _ _ _,aA ?_⟩
 simp only [sh,FV,EO,FL,List.cons_append,List.nil_append,hQ,hR,bX,H.RZ,H.Ao,H.CV,H.DC,H.RC,H.hp3,H.Fl,H.Ed,H.fP,H.qH,H.rZ,H.lB,H.hs3,H.RH,f3,<- k0,<- k1,<- k2,k3,<- hq,hu.c0,hu.c1,hu.p0,hu.p1,hu.p2,hu.p3,hu.b0,hu.b1,hu.b2,U0,K0,e0,e1,e2,a0,a1,a2,a3,and_true,true_and,aq]
 exact ⟨rfl,by unfold gt uh ul;exact decide_eq_false (by omega),dU _,by omega,bne_iff_ne.2 (by omega)⟩
open M in
theorem aRu {c:CJ} {j j':Int} {pre post qa qb:List Int} (P:uN c j j' pre post qa qb) (eY eZ:List SV) (q0 h0 h1 h2 h3:Int) {u0 u1 u2 u3:Int} (a0:U u0) (a1:U u1) (a2:U u2) (a3:U u3) (hd:u3<18446744073709551615) (hc:18446744073709551615<=u3+u2) (hn:gt (uh ((u3+1)*18446744073709551614)) (ul ((u3+1)*18446744073709551614)) (u3+u2-18446744073709551615) u1=false) (hq:u3+1=n4 u0 u1 u2 u3/DD) :
 ∃ g0 g1 g2 g3 ps,fW fF eY eZ c.nu c.cu c.nq c.cq c.m 18446744073709551615 1 j j' (.int false .u64 u3) (.int false .u64 (w2 (n4 u0 u1 u2 u3%DD))) (wc (pre++[u0,u1,u2,u3]++post))
   (wc (pre++[w0 (n4 u0 u1 u2 u3%DD),w1 (n4 u0 u1 u2 u3%DD),w2 (n4 u0 u1 u2 u3%DD),0]++post)) (wc (qa++[q0]++qb)) (wc (qa++[n4 u0 u1 u2 u3/DD]++qb)) (wc [h0,h1,h2,h3]) (wc [g0,g1,g2,g3]) [true,false,false]=some (.at .normal,[],ps)/\∀ q∈ps,q:=by
 have z0:=a0.1;have z1:=a0.2;have z2:=a1.1;have z3:=a1.2;have z4:=a2.1;have z5:=a2.2;have z6:=a3.1;have z7:=a3.2
 have e0:U 13835058055282163712:=⟨by decide,by decide⟩
 have e1:U 18446744073709551614:=⟨by decide,by decide⟩
 have e2:U 18446744073709551615:=⟨by decide,by decide⟩
 have aq:U (u3+1):=by unfold U;omega
 obtain ⟨c0,c1,p0,p1,p2,p3,b0,b1,b2,b3,s0,s1,s2,s3,H⟩:=xI 13835058055282163712 18446744073709551614 18446744073709551615 (u3+1) u0 u1 u2 u3
 have hu:=H.u e0 e1 e2 aq a0 a1 a2 a3
 have hq:u3+1=n4 u0 u1 u2 u3/DD:=by exact hq
 obtain ⟨f3,k0,k1,k2,k3⟩:=H.fits hu hq
 have hQ:dq 18446744073709551615 u3 u2=u3+1:=by unfold dq;omega
 have hR:dr 18446744073709551615 u3 u2=u3+u2-18446744073709551615:=by unfold dr;omega
 refine ⟨p0,p1,p2,p3,_,P eY eZ u0 u1 u2 u3 _ _ _ _ q0 _ h0 h1 h2 h3 _ _ _ _,aA ?_⟩
 simp only [sh,FV,EO,FL,List.cons_append,List.nil_append,hQ,hR,bX,H.RZ,H.Ao,H.CV,H.DC,H.RC,H.hp3,H.Fl,H.Ed,H.fP,H.qH,H.rZ,H.lB,H.hs3,H.RH,f3,<- k0,<- k1,<- k2,k3,<- hq,hu.c0,hu.c1,hu.p0,hu.p1,hu.p2,hu.p3,hu.b0,hu.b1,hu.b2,U0,K0,e0,e1,e2,a0,a1,a2,a3,and_true,true_and,aq]
 exact ⟨rfl,hn,dU _,hd,bne_iff_ne.2 (by omega)⟩
open M in
theorem aJq {c:CJ} {j j':Int} {pre post qa qb:List Int} (P:qV c j j' pre post qa qb) (eY eZ:List SV) (q0 h0 h1 h2 h3:Int) {u0 u1 u2 u3:Int} (a0:U u0) (a1:U u1) (a2:U u2) (a3:U u3) (hd:u3<18446744073709551615) (hc:18446744073709551615<=u3+u2) (hn:gt (uh ((u3+1)*18446744073709551614)) (ul ((u3+1)*18446744073709551614)) (u3+u2-18446744073709551615) u1=true) (hv:18446744073709551616<=u3+u2) :
 ∃ g0 g1 g2 g3 ps,fW fF eY eZ c.nu c.cu c.nq c.cq c.m 18446744073709551615 1 j j' (.int false .u64 u3) (.int false .u64 (w2 (n4 u0 u1 u2 u3%DD))) (wc (pre++[u0,u1,u2,u3]++post))
   (wc (pre++[w0 (n4 u0 u1 u2 u3%DD),w1 (n4 u0 u1 u2 u3%DD),w2 (n4 u0 u1 u2 u3%DD),0]++post)) (wc (qa++[q0]++qb)) (wc (qa++[n4 u0 u1 u2 u3/DD]++qb)) (wc [h0,h1,h2,h3]) (wc [g0,g1,g2,g3]) [true,true,true,false]=some (.at .normal,[],ps)/\∀ q∈ps,q:=by
 have z0:=a0.1;have z1:=a0.2;have z2:=a1.1;have z3:=a1.2;have z4:=a2.1;have z5:=a2.2;have z6:=a3.1;have z7:=a3.2
 have e0:U 13835058055282163712:=⟨by decide,by decide⟩
 have e1:U 18446744073709551614:=⟨by decide,by decide⟩
 have e2:U 18446744073709551615:=⟨by decide,by decide⟩
 have aq:U (u3):=by unfold U;omega
 obtain ⟨c0,c1,p0,p1,p2,p3,b0,b1,b2,b3,s0,s1,s2,s3,H⟩:=xI 13835058055282163712 18446744073709551614 18446744073709551615 (u3) u0 u1 u2 u3
 have hu:=H.u e0 e1 e2 aq a0 a1 a2 a3
 have hW:IntKind.u64.wrap (u3+1-1)=u3:=by rw [bP];unfold ul;omega
 have hq:u3=n4 u0 u1 u2 u3/DD:=by have Ou:=hn;unfold gt uh ul at Ou;have:=of_decide_eq_true Ou;unfold DD n4;omega
 obtain ⟨f3,k0,k1,k2,k3⟩:=H.fits hu hq
 have hQ:dq 18446744073709551615 u3 u2=u3+1:=by unfold dq;omega
 have hR:dr 18446744073709551615 u3 u2=u3+u2-18446744073709551615:=by unfold dr;omega
 refine ⟨p0,p1,p2,p3,_,P eY eZ u0 u1 u2 u3 _ _ _ _ q0 _ h0 h1 h2 h3 _ _ _ _,aA ?_⟩
 simp only [sh,JD,IC,IT,List.cons_append,List.nil_append,hQ,hR,hW,bX,H.RZ,H.Ao,H.CV,H.DC,H.RC,H.hp3,H.Fl,H.Ed,H.fP,H.qH,H.rZ,H.lB,H.hs3,H.RH,f3,<- k0,<- k1,<- k2,k3,<- hq,hu.c0,hu.c1,hu.p0,hu.p1,hu.p2,hu.p3,hu.b0,hu.b1,hu.b2,U0,K0,e0,e1,e2,a0,a1,a2,a3,and_true,true_and,aq]
 exact ⟨rfl,decide_eq_true (by rw [bP];unfold ul;omega),hn,dU _,⟨by omega,by omega⟩,hd,bne_iff_ne.2 (by omega)⟩
open M in
theorem YN {c:CJ} {j j':Int} {pre post qa qb:List Int} (P:nT c j j' pre post qa qb) (eY eZ:List SV) (q0 h0 h1 h2 h3:Int) {u0 u1 u2 u3:Int} (a0:U u0) (a1:U u1) (a2:U u2) (a3:U u3) (hd:u3<18446744073709551615) (hc:18446744073709551615<=u3+u2) (hn:gt (uh ((u3+1)*18446744073709551614)) (ul ((u3+1)*18446744073709551614)) (u3+u2-18446744073709551615) u1=true) (hv:u3+u2=18446744073709551615) (hb:ul ((u3+1)*18446744073709551614)<18446744073709551614) :
 ∃ g0 g1 g2 g3 ps,fW fF eY eZ c.nu c.cu c.nq c.cq c.m 18446744073709551615 1 j j' (.int false .u64 u3) (.int false .u64 (w2 (n4 u0 u1 u2 u3%DD))) (wc (pre++[u0,u1,u2,u3]++post))
   (wc (pre++[w0 (n4 u0 u1 u2 u3%DD),w1 (n4 u0 u1 u2 u3%DD),w2 (n4 u0 u1 u2 u3%DD),0]++post)) (wc (qa++[q0]++qb)) (wc (qa++[n4 u0 u1 u2 u3/DD]++qb)) (wc [h0,h1,h2,h3]) (wc [g0,g1,g2,g3]) [true,true,false,true,false,false]=some (.at .normal,[],ps)/\∀ q∈ps,q:=by
 have z0:=a0.1;have z1:=a0.2;have z2:=a1.1;have z3:=a1.2;have z4:=a2.1;have z5:=a2.2;have z6:=a3.1;have z7:=a3.2
 have e0:U 13835058055282163712:=⟨by decide,by decide⟩
 have e1:U 18446744073709551614:=⟨by decide,by decide⟩
 have e2:U 18446744073709551615:=⟨by decide,by decide⟩
 have aq:U (u3):=by unfold U;omega
 obtain ⟨c0,c1,p0,p1,p2,p3,b0,b1,b2,b3,s0,s1,s2,s3,H⟩:=xI 13835058055282163712 18446744073709551614 18446744073709551615 (u3) u0 u1 u2 u3
 have hu:=H.u e0 e1 e2 aq a0 a1 a2 a3
 have hW:IntKind.u64.wrap (u3+1-1)=u3:=by rw [bP];unfold ul;omega
 have hq:u3=n4 u0 u1 u2 u3/DD:=by have Ou:=hn;unfold gt uh ul at Ou;have:=of_decide_eq_true Ou;unfold DD n4;omega
 obtain ⟨f3,k0,k1,k2,k3⟩:=H.fits hu hq
 have hQ:dq 18446744073709551615 u3 u2=u3+1:=by unfold dq;omega
 have hR:dr 18446744073709551615 u3 u2=u3+u2-18446744073709551615:=by unfold dr;omega
 refine ⟨p0,p1,p2,p3,_,P eY eZ u0 u1 u2 u3 _ _ _ _ q0 _ h0 h1 h2 h3 _ _ _ _,aA ?_⟩
 simp only [sh,Wh,Vo,Vx,List.cons_append,List.nil_append,hQ,hR,hW,bX,H.RZ,H.Ao,H.CV,H.DC,H.RC,H.hp3,H.Fl,H.Ed,H.fP,H.qH,H.rZ,H.lB,H.hs3,H.RH,f3,<- k0,<- k1,<- k2,k3,<- hq,hu.c0,hu.c1,hu.p0,hu.p1,hu.p2,hu.p3,hu.b0,hu.b1,hu.b2,U0,K0,e0,e1,e2,a0,a1,a2,a3,and_true,true_and,aq]
 exact ⟨rfl,by
  have hx:(uh ((u3+1)*18446744073709551614)=u3/\ul ((u3+1)*18446744073709551614)=18446744073709551616-2*u3-2/\2*u3+2<=18446744073709551616)\/(uh ((u3+1)*18446744073709551614)=u3-1/\ul ((u3+1)*18446744073709551614)=36893488147419103232-2*u3-2/\18446744073709551616<2*u3+2):=by unfold uh ul;omega
  simp only [bP]
  rcases hx with ⟨x1,x2,x3⟩ | ⟨x1,x2,x3⟩
  .rw [x1,x2];rw [x2] at hb;unfold gt ul;exact decide_eq_false (by omega)
  .rw [x1,x2];rw [x2] at hb;unfold gt ul;exact decide_eq_false (by omega),by rw [bP];exact dU _,decide_eq_true hb,decide_eq_false (by rw [bP];unfold ul;omega),hn,dU _,⟨by omega,by omega⟩,hd,bne_iff_ne.2 (by omega)⟩
open M in
theorem YO {c:CJ} {j j':Int} {pre post qa qb:List Int} (P:nU c j j' pre post qa qb) (eY eZ:List SV) (q0 h0 h1 h2 h3:Int) {u0 u1 u2 u3:Int} (a0:U u0) (a1:U u1) (a2:U u2) (a3:U u3) (hd:u3<18446744073709551615) (hc:18446744073709551615<=u3+u2) (hn:gt (uh ((u3+1)*18446744073709551614)) (ul ((u3+1)*18446744073709551614)) (u3+u2-18446744073709551615) u1=true) (hv:u3+u2=18446744073709551615) (hb:¬ ul ((u3+1)*18446744073709551614)<18446744073709551614) :
 ∃ g0 g1 g2 g3 ps,fW fF eY eZ c.nu c.cu c.nq c.cq c.m 18446744073709551615 1 j j' (.int false .u64 u3) (.int false .u64 (w2 (n4 u0 u1 u2 u3%DD))) (wc (pre++[u0,u1,u2,u3]++post))
   (wc (pre++[w0 (n4 u0 u1 u2 u3%DD),w1 (n4 u0 u1 u2 u3%DD),w2 (n4 u0 u1 u2 u3%DD),0]++post)) (wc (qa++[q0]++qb)) (wc (qa++[n4 u0 u1 u2 u3/DD]++qb)) (wc [h0,h1,h2,h3]) (wc [g0,g1,g2,g3]) [true,true,false,false,false,false]=some (.at .normal,[],ps)/\∀ q∈ps,q:=by
 have z0:=a0.1;have z1:=a0.2;have z2:=a1.1;have z3:=a1.2;have z4:=a2.1;have z5:=a2.2;have z6:=a3.1;have z7:=a3.2
 have e0:U 13835058055282163712:=⟨by decide,by decide⟩
 have e1:U 18446744073709551614:=⟨by decide,by decide⟩
 have e2:U 18446744073709551615:=⟨by decide,by decide⟩
 have aq:U (u3):=by unfold U;omega
 obtain ⟨c0,c1,p0,p1,p2,p3,b0,b1,b2,b3,s0,s1,s2,s3,H⟩:=xI 13835058055282163712 18446744073709551614 18446744073709551615 (u3) u0 u1 u2 u3
 have hu:=H.u e0 e1 e2 aq a0 a1 a2 a3
 have hW:IntKind.u64.wrap (u3+1-1)=u3:=by rw [bP];unfold ul;omega
 have hq:u3=n4 u0 u1 u2 u3/DD:=by have Ou:=hn;unfold gt uh ul at Ou;have:=of_decide_eq_true Ou;unfold DD n4;omega
 obtain ⟨f3,k0,k1,k2,k3⟩:=H.fits hu hq
 have hQ:dq 18446744073709551615 u3 u2=u3+1:=by unfold dq;omega
 have hR:dr 18446744073709551615 u3 u2=u3+u2-18446744073709551615:=by unfold dr;omega
 refine ⟨p0,p1,p2,p3,_,P eY eZ u0 u1 u2 u3 _ _ _ _ q0 _ h0 h1 h2 h3 _ _ _ _,aA ?_⟩
 simp only [sh,Wi,Vp,Vy,List.cons_append,List.nil_append,hQ,hR,hW,bX,H.RZ,H.Ao,H.CV,H.DC,H.RC,H.hp3,H.Fl,H.Ed,H.fP,H.qH,H.rZ,H.lB,H.hs3,H.RH,f3,<- k0,<- k1,<- k2,k3,<- hq,hu.c0,hu.c1,hu.p0,hu.p1,hu.p2,hu.p3,hu.b0,hu.b1,hu.b2,U0,K0,e0,e1,e2,a0,a1,a2,a3,and_true,true_and,aq]
 exact ⟨rfl,by
  have hx:(uh ((u3+1)*18446744073709551614)=u3/\ul ((u3+1)*18446744073709551614)=18446744073709551616-2*u3-2/\2*u3+2<=18446744073709551616)\/(uh ((u3+1)*18446744073709551614)=u3-1/\ul ((u3+1)*18446744073709551614)=36893488147419103232-2*u3-2/\18446744073709551616<2*u3+2):=by unfold uh ul;omega
  simp only [bP]
  rcases hx with ⟨x1,x2,x3⟩ | ⟨x1,x2,x3⟩
  .rw [x1,x2];rw [x2] at hb;unfold gt ul;exact decide_eq_false (by omega)
  .rw [x1,x2];rw [x2] at hb;unfold gt ul;exact decide_eq_false (by omega),by rw [bP];exact dU _,decide_eq_false hb,decide_eq_false (by rw [bP];unfold ul;omega),hn,dU _,⟨by omega,by omega⟩,hd,bne_iff_ne.2 (by omega)⟩
open M in
theorem aRt {c:CJ} {j j':Int} {pre post qa qb:List Int} (P:yJ c j j' pre post qa qb) (eY eZ:List SV) (q0 h0 h1 h2 h3:Int) {u0 u1 u2 u3:Int} (a0:U u0) (a1:U u1) (a2:U u2) (a3:U u3) (hd:u3<18446744073709551615) (hc:18446744073709551615<=u3+u2) (hn:gt (uh ((u3+1)*18446744073709551614)) (ul ((u3+1)*18446744073709551614)) (u3+u2-18446744073709551615) u1=false) (hq:u3=n4 u0 u1 u2 u3/DD) :
 ∃ g0 g1 g2 g3 ps,fW fF eY eZ c.nu c.cu c.nq c.cq c.m 18446744073709551615 1 j j' (.int false .u64 u3) (.int false .u64 (w2 (n4 u0 u1 u2 u3%DD))) (wc (pre++[u0,u1,u2,u3]++post))
   (wc (pre++[w0 (n4 u0 u1 u2 u3%DD),w1 (n4 u0 u1 u2 u3%DD),w2 (n4 u0 u1 u2 u3%DD),0]++post)) (wc (qa++[q0]++qb)) (wc (qa++[n4 u0 u1 u2 u3/DD]++qb)) (wc [h0,h1,h2,h3]) (wc [g0,g1,g2,g3]) [true,false,true]=some (.at .normal,[],ps)/\∀ q∈ps,q:=by
 have z0:=a0.1;have z1:=a0.2;have z2:=a1.1;have z3:=a1.2;have z4:=a2.1;have z5:=a2.2;have z6:=a3.1;have z7:=a3.2
 have e0:U 13835058055282163712:=⟨by decide,by decide⟩
 have e1:U 18446744073709551614:=⟨by decide,by decide⟩
 have e2:U 18446744073709551615:=⟨by decide,by decide⟩
 have aq:U (u3+1):=by unfold U;omega
 obtain ⟨c0,c1,p0,p1,p2,p3,b0,b1,b2,b3,s0,s1,s2,s3,H⟩:=xI 13835058055282163712 18446744073709551614 18446744073709551615 (u3+1) u0 u1 u2 u3
 have hu:=H.u e0 e1 e2 aq a0 a1 a2 a3
 have hW:IntKind.u64.wrap (u3+1-1)=u3:=by rw [bP];unfold ul;omega
 have hQ:dq 18446744073709551615 u3 u2=u3+1:=by unfold dq;omega
 have hR:dr 18446744073709551615 u3 u2=u3+u2-18446744073709551615:=by unfold dr;omega
 have hs:=H.sum
 obtain ⟨n,hn4⟩:∃ n,n=n4 u0 u1 u2 u3:=⟨_,rfl⟩
 rw [<- hn4] at hs hq |-
 obtain ⟨r,hr⟩:∃ r,r=n%DD:=⟨_,rfl⟩
 have e:n-(13835058055282163712*(u3+1)+18446744073709551616*(18446744073709551614*(u3+1)+18446744073709551616*(18446744073709551615*(u3+1))))=r-DD:=by
  rw [hr]
  unfold DD n4
  unfold DD n4 at hq
  omega
 rw [e] at hs
 have r0:0<=r:=by rw [hr];exact Int.emod_nonneg _ (by decide)
 have r1:r<DD:=by rw [hr];exact Int.emod_lt_of_pos _ (by decide)
 rw [<- hr]
 refine ⟨p0,p1,p2,p3,_,P eY eZ u0 u1 u2 u3 _ _ _ _ q0 _ h0 h1 h2 h3 _ _ _ _,aA ?_⟩
 simp only [sh,aEg,aDn,aEa,List.cons_append,List.nil_append,hQ,hR,hW,bX,H.RZ,H.Ao,H.CV,H.DC,H.RC,H.hp3,H.Fl,H.Ed,H.fP,H.qH,H.rZ,H.lB,H.hs3,H.RH,<- hq,hu.c0,hu.c1,hu.p0,hu.p1,hu.p2,hu.p3,hu.b0,hu.b1,hu.b2,hu.s0,hu.s1,hu.s2,U0,K0,e0,e1,e2,a0,a1,a2,a3,aq,and_true,true_and]
 obtain ⟨t0,ht0⟩:∃ t,t=ul (s0+13835058055282163712+0):=⟨_,rfl⟩
 obtain ⟨g0,zP⟩:∃ t,t=uh (s0+13835058055282163712+0):=⟨_,rfl⟩
 rw [<- ht0,<- zP]
 obtain ⟨t1,ht1⟩:∃ t,t=ul (s1+18446744073709551614+g0):=⟨_,rfl⟩
 obtain ⟨g1,hg1⟩:∃ t,t=uh (s1+18446744073709551614+g0):=⟨_,rfl⟩
 rw [<- ht1,<- hg1]
 obtain ⟨t2,Pd⟩:∃ t,t=ul (s2+18446744073709551615+g1):=⟨_,rfl⟩
 obtain ⟨g2,hg2⟩:∃ t,t=uh (s2+18446744073709551615+g1):=⟨_,rfl⟩
 rw [<- Pd,<- hg2,bP]
 obtain ⟨t3,ht3⟩:∃ t,t=ul (s3+g2):=⟨_,rfl⟩
 obtain ⟨g3,hg3⟩:∃ t,t=uh (s3+g2):=⟨_,rfl⟩
 rw [<- ht3]
 have m0:=mU (s0+13835058055282163712+0)
 have m1:=mU (s1+18446744073709551614+g0)
 have m2:=mU (s2+18446744073709551615+g1)
 have m3:=mU (s3+g2)
 rw [<- ht0,<- zP] at m0
 rw [<- ht1,<- hg1] at m1
 rw [<- Pd,<- hg2] at m2
 rw [<- ht3,<- hg3] at m3
 have v0:U t0:=by rw [ht0];exact dU _
 have v1:U t1:=by rw [ht1];exact dU _
 have v2:U t2:=by rw [Pd];exact dU _
 have v3:U t3:=by rw [ht3];exact dU _
 have q1:=hu.s0.1;have q2:=hu.s0.2;have q3:=hu.s1.1;have q4:=hu.s1.2
 have q5:=hu.s2.1;have q6:=hu.s2.2;have q7:=hu.s3.1;have q8:=hu.s3.2
 have y0:=v0.1;have y1:=v0.2;have y2:=v1.1;have y3:=v1.2;have y4:=v2.1;have y5:=v2.2;have y6:=v3.1;have y7:=v3.2
 have l1:=hu.b3.1;have l2:=hu.b3.2
 have kg0:K g0:=by unfold K;omega
 have kg1:K g1:=by have:=kg0.1;have:=kg0.2;unfold K;omega
 have hDD:DD=6277101735386680763835789423207666416079297014371897573376:=by decide
 rw [hDD] at hs r1
 have hb:b3=1:=by unfold n4 at hs;omega
 have ht:r=n4 t0 t1 t2 t3:=by unfold n4 at hs |-;omega
 have h3:t3=0:=by unfold n4 at ht;omega
 have W:=aNw (d:=t3) v0 v1 v2
 rw [<- ht] at W
 rw [W.1,W.2.1,W.2.2,h3,hb]
 exact ⟨kg1,kg0,rfl,hn,dU _,hd,bne_iff_ne.2 (by omega),rfl,rfl⟩
open M in
theorem aRw {c:CJ} {j j':Int} {pre post qa qb:List Int} (P:yK c j j' pre post qa qb) (eY eZ:List SV) (q0 h0 h1 h2 h3:Int) {u0 u1 u2 u3:Int} (a0:U u0) (a1:U u1) (a2:U u2) (hc:u3=18446744073709551615) (hl:n4 u0 u1 u2 u3<18446744073709551616*DD) :
 ∃ g0 g1 g2 g3 ps,fW fF eY eZ c.nu c.cu c.nq c.cq c.m 18446744073709551615 1 j j' (.int false .u64 u3) (.int false .u64 (w2 (n4 u0 u1 u2 u3%DD))) (wc (pre++[u0,u1,u2,u3]++post))
   (wc (pre++[w0 (n4 u0 u1 u2 u3%DD),w1 (n4 u0 u1 u2 u3%DD),w2 (n4 u0 u1 u2 u3%DD),0]++post)) (wc (qa++[q0]++qb)) (wc (qa++[n4 u0 u1 u2 u3/DD]++qb)) (wc [h0,h1,h2,h3]) (wc [g0,g1,g2,g3]) [false,false]=some (.at .normal,[],ps)/\∀ q∈ps,q:=by
 have a3:U u3:=by unfold U;omega
 have z0:=a0.1;have z1:=a0.2;have z2:=a1.1;have z3:=a1.2;have z4:=a2.1;have z5:=a2.2;have z6:=a3.1;have z7:=a3.2
 have e0:U 13835058055282163712:=⟨by decide,by decide⟩
 have e1:U 18446744073709551614:=⟨by decide,by decide⟩
 have e2:U 18446744073709551615:=⟨by decide,by decide⟩
 have H:aQf 18446744073709551615 u0 u1 u2 u3 13835058055282163711 18446744073709551613 4611686018427387904 13835058055282163713 18446744073709551614 18446744073709551614 _ _ _ _ _ _ _ _:=⟨by decide,by decide,by decide,by decide,by decide,by decide,rfl,rfl,rfl,rfl,rfl,rfl,rfl,rfl⟩
 have hu:=H.u e0 e1 e2 e2 a0 a1 a2 a3
 have hq:18446744073709551615=n4 u0 u1 u2 u3/DD:=by unfold DD n4 at *;omega
 obtain ⟨f3,k0,k1,k2,k3⟩:=H.fits hu hq
 refine ⟨4611686018427387904,13835058055282163713,18446744073709551614,18446744073709551614,_,P eY eZ u0 u1 u2 u3 _ _ _ _ q0 _ h0 h1 h2 h3 _ _ _ _,aA ?_⟩
 simp only [sh,aEh,aDo,aEb,List.cons_append,List.nil_append,bX,f3,k0,k1,k2,k3,<- hq,hu.b0,hu.b1,hu.b2,U0,K0,e0,e1,e2,a0,a1,a2,a3,and_true,true_and]
 exact ⟨rfl,⟨by decide,by decide⟩,⟨by decide,by decide⟩,⟨by decide,by decide⟩,⟨by decide,by decide⟩,by rw [hc];decide⟩
structure aUu (c:CJ) (j j':Int) (pre post qa qb:List Int):Prop where
 p0:yK c j j' pre post qa qb
 p1:uN c j j' pre post qa qb
 p2a:qV c j j' pre post qa qb
 aWm:nT c j j' pre post qa qb
 aWn:nU c j j' pre post qa qb
 p4:yJ c j j' pre post qa qb
open M in
theorem oQ {c:CJ} {j j':Int} {pre post qa qb:List Int} (P:aUu c j j' pre post qa qb) (eY eZ:List SV) (q0 h0 h1 h2 h3:Int) {u0 u1 u2 u3:Int} (a0:U u0) (a1:U u1) (a2:U u2) (a3:U u3) (hl:n4 u0 u1 u2 u3<18446744073709551616*DD) :
 ∃ hs g0 g1 g2 g3 ps,fW fF eY eZ c.nu c.cu c.nq c.cq c.m 18446744073709551615 1 j j' (.int false .u64 u3) (.int false .u64 (w2 (n4 u0 u1 u2 u3%DD))) (wc (pre++[u0,u1,u2,u3]++post))
   (wc (pre++[w0 (n4 u0 u1 u2 u3%DD),w1 (n4 u0 u1 u2 u3%DD),w2 (n4 u0 u1 u2 u3%DD),0]++post)) (wc (qa++[q0]++qb)) (wc (qa++[n4 u0 u1 u2 u3/DD]++qb)) (wc [h0,h1,h2,h3]) (wc [g0,g1,g2,g3]) hs=some (.at .normal,[],ps)/\∀ q∈ps,q:=by
 have z0:=a0.1;have z1:=a0.2;have z2:=a1.1;have z3:=a1.2;have z4:=a2.1;have z5:=a2.2;have z6:=a3.1;have z7:=a3.2
 by_cases hc:u3=18446744073709551615
 .exact ⟨_,aRw P.p0 eY eZ q0 h0 h1 h2 h3 a0 a1 a2 hc hl⟩
 have hd:u3<18446744073709551615:=by omega
 by_cases Ee:u3+u2<18446744073709551615
 .exact ⟨_,aRv P.p1 eY eZ q0 h0 h1 h2 h3 a0 a1 a2 a3 Ee⟩
 have DZ:18446744073709551615<=u3+u2:=by omega
 cases hn:gt (uh ((u3+1)*18446744073709551614)) (ul ((u3+1)*18446744073709551614)) (u3+u2-18446744073709551615) u1 with
 | true=>
   by_cases hv:u3+u2=18446744073709551615
   .by_cases hb:ul ((u3+1)*18446744073709551614)<18446744073709551614
    .exact ⟨_,YN P.aWm eY eZ q0 h0 h1 h2 h3 a0 a1 a2 a3 hd DZ hn hv hb⟩
    .exact ⟨_,YO P.aWn eY eZ q0 h0 h1 h2 h3 a0 a1 a2 a3 hd DZ hn hv hb⟩
   .exact ⟨_,aJq P.p2a eY eZ q0 h0 h1 h2 h3 a0 a1 a2 a3 hd DZ hn (by omega)⟩
 | false=>
   by_cases hq:u3+1=n4 u0 u1 u2 u3/DD
   .exact ⟨_,aRu P.p1 eY eZ q0 h0 h1 h2 h3 a0 a1 a2 a3 hd DZ hn hq⟩
   .exact ⟨_,aRt P.p4 eY eZ q0 h0 h1 h2 h3 a0 a1 a2 a3 hd DZ hn (by revert hq;unfold DD n4;omega)⟩
namespace M
theorem sO {n:Int} (h:U n):ub n=0:=by unfold U at h;unfold ub;omega
theorem ul0:ul 0=0:=by decide
theorem Ki:uh 0=0:=by decide
end M
open M in
theorem Iu {c:CJ} {j j':Int} {pre post qs:List Int} (P:DvT c j j' pre post qs) (eY eZ:List SV) (h0 h1 h2 h3:Int) {u1 u2 u3:Int} (a1:U u1) (a2:U u2) (a3:U u3) (hd:u3<18446744073709551615) :
 ∃ ps,fW fF eY eZ c.nu c.cu c.nq c.cq c.m 18446744073709551615 1 j j' (.int true .u64 0) (.int false .u64 u3) (wc (pre++[u1,u2,u3]++post)) (wc (pre++[u1,u2,u3]++post)) (wc qs) (wc qs) (wc [h0,h1,h2,h3]) (wc [0,0,0,0]) [false,true,false,true]=some (.at .normal,[],ps)/\∀ q∈ps,q:=by
 have z2:=a1.1;have z3:=a1.2;have z4:=a2.1;have z5:=a2.2;have z6:=a3.1;have z7:=a3.2
 have e0:U 13835058055282163712:=⟨by decide,by decide⟩
 have e1:U 18446744073709551614:=⟨by decide,by decide⟩
 have e2:U 18446744073709551615:=⟨by decide,by decide⟩
 have hQ:dq 18446744073709551615 0 u3=0:=by unfold dq;omega
 have hR:dr 18446744073709551615 0 u3=u3:=by unfold dr;omega
 have hg:gt 0 0 u3 u2=false:=by unfold gt;exact decide_eq_false (by omega)
 refine ⟨_,P eY eZ u1 u2 u3 _ _ _ h0 h1 h2 h3 _ _ _ _,aA ?_⟩
 simp only [sh,aOn,aNx,List.cons_append,List.nil_append,hQ,hR,bX,Int.mul_zero,Int.zero_mul,Int.add_zero,Int.sub_zero,ul0,Ki,sO a1,sO a2,sO a3,uI a1,uI a2,uI a3,hg,U0,K0,e0,e1,e2,a1,a2,a3,and_true,true_and]
 and_intros <;> first | rfl | decide
theorem aMz (u0 u1 u2 u3 q0 h0 h1 h2 h3:Int) :
 (yQ 100 (bH 100 (Hn fF (wc [u0,u1,u2,u3,0,0,0]) (wc [q0]))) [] (jL 4 7 1 1 1 18446744073709551615 1 (.int true .u64 0) 1) (jK (wc [h0,h1,h2,h3]) (wc [u0,u1,u2,u3,0,0,0]) (wc [q0])) 101 [61,63] jM (Bw fF (wc [u0,u1,u2,u3,0,0,0]) (wc [q0]) 4 7 1 1)) =
 sh (0:Int) fun z0=>
 some (.go (.loop xH),Eu,[(3:Nat)=(3:Nat),(4:Nat)=(4:Nat),(11259375:Int)=h0,z0=h1,z0=h2,z0=h3,[q0]=[q0],[u0,u1,u2,u3,z0,z0,z0]=[u0,u1,u2,u3,z0,z0,z0]]):=by kernel_rfl
theorem aMx (x0 x1 x2 x3 y0 u0 u1 u2 u3 q0 h0 h1 h2 h3:Int) :
 fW fF (wc [x0,x1,x2,x3,0,0,0]) (wc [y0]) 4 7 1 1 1 18446744073709551615 1 (-1) (-1) (.int false .u64 u2) (.int false .u64 u2) (wc [u0,u1,u2,u3,0,0,0]) (wc [u0,u1,u2,u3,0,0,0]) (wc [q0]) (wc [q0]) (wc [h0,h1,h2,h3]) (wc [h0,h1,h2,h3]) [] =
 sh (0:Int) fun z0=>
 some (Cf.at (Ex.exit 0),[],[(3:Nat)=(3:Nat),(4:Nat)=(4:Nat),u2=u2,h0=h0,h1=h1,h2=h2,h3=h3,[q0]=[q0],[u0,u1,u2,u3,z0,z0,z0]=[u0,u1,u2,u3,z0,z0,z0]]):=by kernel_rfl
theorem aMy (x0 x1 x2 x3 y0 u0 u1 u2 u3 q0 h0 h1 h2 h3:Int) :
 Md fF (wc [x0,x1,x2,x3,0,0,0]) (wc [y0]) 4 7 1 1 1 18446744073709551615 1 (.int false .u64 u2) (wc [u0,u1,u2,u3,0,0,0]) (wc [q0]) (wc [h0,h1,h2,h3]) =
 some {val:=SV.eL [],wr:=[(61,SB.own [SV.int false IntKind.u64 q0] 196),(63,SB.own [SV.int false IntKind.u64 u0,SV.int false IntKind.u64 u1,SV.int false IntKind.u64 u2,SV.int false IntKind.u64 u3,SV.int false IntKind.u64 (0:Int),SV.int false IntKind.u64 (0:Int),SV.int false IntKind.u64 (0:Int)] 196)]}:=by kernel_rfl
theorem aMw (u0 u1 u2 u3 q0 h0 h1 h2 h3:Int) :
 (yQ 100 (bH 100 (Hn fF (wc [u0,u1,u2,u3,0,0,0,0]) (wc [q0]))) [] (jL 4 8 1 1 1 18446744073709551615 1 (.int true .u64 0) 1) (jK (wc [h0,h1,h2,h3]) (wc [u0,u1,u2,u3,0,0,0,0]) (wc [q0])) 101 [61,63] jM (Bw fF (wc [u0,u1,u2,u3,0,0,0,0]) (wc [q0]) 4 8 1 1)) =
 sh (0:Int) fun z0=>
 some (.go (.loop xH),Eu,[(3:Nat)=(3:Nat),(4:Nat)=(4:Nat),(11259375:Int)=h0,z0=h1,z0=h2,z0=h3,[q0]=[q0],[u0,u1,u2,u3,z0,z0,z0,z0]=[u0,u1,u2,u3,z0,z0,z0,z0]]):=by kernel_rfl
theorem aMu (x0 x1 x2 x3 y0 u0 u1 u2 u3 q0 h0 h1 h2 h3:Int) :
 fW fF (wc [x0,x1,x2,x3,0,0,0,0]) (wc [y0]) 4 8 1 1 1 18446744073709551615 1 (-1) (-1) (.int false .u64 u2) (.int false .u64 u2) (wc [u0,u1,u2,u3,0,0,0,0]) (wc [u0,u1,u2,u3,0,0,0,0]) (wc [q0]) (wc [q0]) (wc [h0,h1,h2,h3]) (wc [h0,h1,h2,h3]) [] =
 sh (0:Int) fun z0=>
 some (Cf.at (Ex.exit 0),[],[(3:Nat)=(3:Nat),(4:Nat)=(4:Nat),u2=u2,h0=h0,h1=h1,h2=h2,h3=h3,[q0]=[q0],[u0,u1,u2,u3,z0,z0,z0,z0]=[u0,u1,u2,u3,z0,z0,z0,z0]]):=by kernel_rfl
theorem aMv (x0 x1 x2 x3 y0 u0 u1 u2 u3 q0 h0 h1 h2 h3:Int) :
 Md fF (wc [x0,x1,x2,x3,0,0,0,0]) (wc [y0]) 4 8 1 1 1 18446744073709551615 1 (.int false .u64 u2) (wc [u0,u1,u2,u3,0,0,0,0]) (wc [q0]) (wc [h0,h1,h2,h3]) =
 sh (0:Int) fun z0=>
 some {val:=SV.eL [],wr:=[(61,SB.own [SV.int false IntKind.u64 q0] 196),(63,SB.own [SV.int false IntKind.u64 u0,SV.int false IntKind.u64 u1,SV.int false IntKind.u64 u2,SV.int false IntKind.u64 u3,SV.int false IntKind.u64 z0,SV.int false IntKind.u64 z0,SV.int false IntKind.u64 z0,SV.int false IntKind.u64 z0] 196)]}:=by kernel_rfl
theorem aMt (u0 u1 u2 u3 u4 q0 q1 h0 h1 h2 h3:Int) :
 (yQ 100 (bH 100 (Hn fF (wc [u0,u1,u2,u3,u4,0,0,0]) (wc [q0,q1,0,0,0,0]))) [] (jL 5 8 2 6 2 18446744073709551615 1 (.int true .u64 0) 2) (jK (wc [h0,h1,h2,h3]) (wc [u0,u1,u2,u3,u4,0,0,0]) (wc [q0,q1,0,0,0,0])) 101 [61,63] jM (Bw fF (wc [u0,u1,u2,u3,u4,0,0,0]) (wc [q0,q1,0,0,0,0]) 5 8 2 6)) =
 sh (0:Int) fun z0=>
 some (.go (.loop xH),Eu,[(3:Nat)=(3:Nat),(4:Nat)=(4:Nat),(11259375:Int)=h0,z0=h1,z0=h2,z0=h3,[q0,q1,z0,z0,z0,z0]=[q0,q1,z0,z0,z0,z0],[u0,u1,u2,u3,u4,z0,z0,z0]=[u0,u1,u2,u3,u4,z0,z0,z0]]):=by kernel_rfl
theorem aMr (x0 x1 x2 x3 x4 y0 y1 u0 u1 u2 u3 u4 q0 q1 h0 h1 h2 h3:Int) :
 fW fF (wc [x0,x1,x2,x3,x4,0,0,0]) (wc [y0,y1,0,0,0,0]) 5 8 2 6 2 18446744073709551615 1 (-1) (-1) (.int false .u64 u2) (.int false .u64 u2) (wc [u0,u1,u2,u3,u4,0,0,0]) (wc [u0,u1,u2,u3,u4,0,0,0]) (wc [q0,q1,0,0,0,0]) (wc [q0,q1,0,0,0,0]) (wc [h0,h1,h2,h3]) (wc [h0,h1,h2,h3]) [] =
 sh (0:Int) fun z0=>
 some (Cf.at (Ex.exit 0),[],[(3:Nat)=(3:Nat),(4:Nat)=(4:Nat),u2=u2,h0=h0,h1=h1,h2=h2,h3=h3,[q0,q1,z0,z0,z0,z0]=[q0,q1,z0,z0,z0,z0],[u0,u1,u2,u3,u4,z0,z0,z0]=[u0,u1,u2,u3,u4,z0,z0,z0]]):=by kernel_rfl
theorem aMs (x0 x1 x2 x3 x4 y0 y1 u0 u1 u2 u3 u4 q0 q1 h0 h1 h2 h3:Int) :
 Md fF (wc [x0,x1,x2,x3,x4,0,0,0]) (wc [y0,y1,0,0,0,0]) 5 8 2 6 2 18446744073709551615 1 (.int false .u64 u2) (wc [u0,u1,u2,u3,u4,0,0,0]) (wc [q0,q1,0,0,0,0]) (wc [h0,h1,h2,h3]) =
 sh (0:Int) fun z0=>
 some {val:=SV.eL [],wr:=[(61,SB.own [SV.int false IntKind.u64 q0,SV.int false IntKind.u64 q1,SV.int false IntKind.u64 z0,SV.int false IntKind.u64 z0,SV.int false IntKind.u64 z0,SV.int false IntKind.u64 z0] 196),(63,SB.own [SV.int false IntKind.u64 u0,SV.int false IntKind.u64 u1,SV.int false IntKind.u64 u2,SV.int false IntKind.u64 u3,SV.int false IntKind.u64 u4,SV.int false IntKind.u64 z0,SV.int false IntKind.u64 z0,SV.int false IntKind.u64 z0] 196)]}:=by kernel_rfl
theorem aMq (u0 u1 u2 u3 u4 q0 q1 h0 h1 h2 h3:Int) :
 (yQ 100 (bH 100 (Hn fF (wc [u0,u1,u2,u3,u4,0,0,0,0]) (wc [q0,q1,0,0,0,0]))) [] (jL 5 9 2 6 2 18446744073709551615 1 (.int true .u64 0) 2) (jK (wc [h0,h1,h2,h3]) (wc [u0,u1,u2,u3,u4,0,0,0,0]) (wc [q0,q1,0,0,0,0])) 101 [61,63] jM (Bw fF (wc [u0,u1,u2,u3,u4,0,0,0,0]) (wc [q0,q1,0,0,0,0]) 5 9 2 6)) =
 sh (0:Int) fun z0=>
 some (.go (.loop xH),Eu,[(3:Nat)=(3:Nat),(4:Nat)=(4:Nat),(11259375:Int)=h0,z0=h1,z0=h2,z0=h3,[q0,q1,z0,z0,z0,z0]=[q0,q1,z0,z0,z0,z0],[u0,u1,u2,u3,u4,z0,z0,z0,z0]=[u0,u1,u2,u3,u4,z0,z0,z0,z0]]):=by kernel_rfl
theorem aMo (x0 x1 x2 x3 x4 y0 y1 u0 u1 u2 u3 u4 q0 q1 h0 h1 h2 h3:Int) :
 fW fF (wc [x0,x1,x2,x3,x4,0,0,0,0]) (wc [y0,y1,0,0,0,0]) 5 9 2 6 2 18446744073709551615 1 (-1) (-1) (.int false .u64 u2) (.int false .u64 u2) (wc [u0,u1,u2,u3,u4,0,0,0,0]) (wc [u0,u1,u2,u3,u4,0,0,0,0]) (wc [q0,q1,0,0,0,0]) (wc [q0,q1,0,0,0,0]) (wc [h0,h1,h2,h3]) (wc [h0,h1,h2,h3]) [] =
 sh (0:Int) fun z0=>
 some (Cf.at (Ex.exit 0),[],[(3:Nat)=(3:Nat),(4:Nat)=(4:Nat),u2=u2,h0=h0,h1=h1,h2=h2,h3=h3,[q0,q1,z0,z0,z0,z0]=[q0,q1,z0,z0,z0,z0],[u0,u1,u2,u3,u4,z0,z0,z0,z0]=[u0,u1,u2,u3,u4,z0,z0,z0,z0]]):=by kernel_rfl
theorem aMp (x0 x1 x2 x3 x4 y0 y1 u0 u1 u2 u3 u4 q0 q1 h0 h1 h2 h3:Int) :
 Md fF (wc [x0,x1,x2,x3,x4,0,0,0,0]) (wc [y0,y1,0,0,0,0]) 5 9 2 6 2 18446744073709551615 1 (.int false .u64 u2) (wc [u0,u1,u2,u3,u4,0,0,0,0]) (wc [q0,q1,0,0,0,0]) (wc [h0,h1,h2,h3]) =
 sh (0:Int) fun z0=>
 some {val:=SV.eL [],wr:=[(61,SB.own [SV.int false IntKind.u64 q0,SV.int false IntKind.u64 q1,SV.int false IntKind.u64 z0,SV.int false IntKind.u64 z0,SV.int false IntKind.u64 z0,SV.int false IntKind.u64 z0] 196),(63,SB.own [SV.int false IntKind.u64 u0,SV.int false IntKind.u64 u1,SV.int false IntKind.u64 u2,SV.int false IntKind.u64 u3,SV.int false IntKind.u64 u4,SV.int false IntKind.u64 z0,SV.int false IntKind.u64 z0,SV.int false IntKind.u64 z0,SV.int false IntKind.u64 z0] 196)]}:=by kernel_rfl
namespace M
def r5 (u0 u1 u2 u3 u4:Int):Int:=n4 u0 (w0 (n4 u1 u2 u3 u4%DD)) (w1 (n4 u1 u2 u3 u4%DD)) (w2 (n4 u1 u2 u3 u4%DD))
theorem aUv:DD<6277101735386680763835789423207666416102355444464034512896:=by decide
theorem Sc:0<DD:=by decide
theorem w_U (n:Int):U (w0 n)/\U (w1 n)/\U (w2 n):=by unfold U w0 w1 w2;omega
theorem Uu {a b c d:Int} (ha:U a) (hb:U b) (hc:U c) (hd:d<9223372036854775808):n4 a b c d<18446744073709551616*DD:=by
 have:=ha.2;have:=hb.2;have:=hc.2
 unfold n4 DD n4
 omega
theorem aXc {r:Int} (h0:0<=r) (h1:r<DD):n4 (w0 r) (w1 r) (w2 r) 0=r:=by
 have:=aUv
 unfold n4 w0 w1 w2
 omega
theorem aDz {u0 u1 u2 u3 u4:Int}:r5 u0 u1 u2 u3 u4=u0+18446744073709551616*(n4 u1 u2 u3 u4%DD):=by
 have h0:0<=n4 u1 u2 u3 u4%DD:=Int.emod_nonneg _ (by decide)
 have h1:n4 u1 u2 u3 u4%DD<DD:=Int.emod_lt_of_pos _ Sc
 have h:=aXc h0 h1
 unfold r5
 generalize n4 u1 u2 u3 u4%DD=r at *
 unfold n4 at *
 omega
theorem aDy {u0 u1 u2 u3 u4:Int} (ha:U u0):r5 u0 u1 u2 u3 u4<18446744073709551616*DD:=by
 rw [aDz]
 have h1:n4 u1 u2 u3 u4%DD<DD:=Int.emod_lt_of_pos _ Sc
 have:=ha.2
 omega
end M
open M in
set_option maxHeartbeats 2000000 in
theorem BO {u0 u1 u2 u3:Int} (y0:Int) (a0:U u0) (a1:U u1) (a2:U u2) (a3:U u3) (hd:u3<9223372036854775808) :
 aE Tryz.prog Γv 259 (Bh 4 7 1 1) (Hn fF (wc [u0,u1,u2,u3,0,0,0]) (wc [y0])) 100 100 { val:=.eL [],wr:=[(61,.own (wc [n4 u0 u1 u2 u3/DD]) 196),(63,.own (wc [w0 (n4 u0 u1 u2 u3%DD),w1 (n4 u0 u1 u2 u3%DD),w2 (n4 u0 u1 u2 u3%DD),0,0,0,0]) 196)] }:=by
 have hl:=Uu a0 a1 a2 hd
 refine gQ lD lE Tryz.func259 (by kernel_rfl) rfl (Nat.le_of_ble_eq_true (by kernel_rfl)) rfl [] ?_
 intro w0' Mx V0 Q hb H
 have aT:=lD
 have aX:=lE
 refine G.yQ aT aX mix hb [] (aMz u0 u1 u2 u3 y0 11259375 0 0 0) (aA (by simp only [sh,bX,and_true])) ?_
 have fin:∀ h0 h1 h2 h3,G Tryz.prog Γv w0' Mx (bH 100 (Hn fF (wc [u0,u1,u2,u3,0,0,0]) (wc [y0]))) Tryz.f259.ntmps 100 V0 (.at (.exit 0)) Eu
  (cA (jL 4 7 1 1 1 18446744073709551615 1 (.int false .u64 (w2 (n4 u0 u1 u2 u3%DD))) (-1)) (jK (wc [h0,h1,h2,h3]) (wc [w0 (n4 u0 u1 u2 u3%DD),w1 (n4 u0 u1 u2 u3%DD),w2 (n4 u0 u1 u2 u3%DD),0,0,0,0]) (wc [n4 u0 u1 u2 u3/DD])) 101 [61,63] jM) Q:=fun h0 h1 h2 h3=>
  G.fin aT aX mix [] H (aMy u0 u1 u2 u3 y0 _ _ _ _ _ h0 h1 h2 h3) (by simp) rfl rfl rfl
 refine G.loop (fun r s=>(r=2/\s=cA (jL 4 7 1 1 1 18446744073709551615 1 (.int true .u64 0) 1) (jK (wc [11259375,0,0,0]) (wc [u0,u1,u2,u3,0,0,0]) (wc [y0])) 101 [61,63] jM)
  \/ (r=1/\s=cA (jL 4 7 1 1 1 18446744073709551615 1 (.int false .u64 u3) 0) (jK (wc [0,0,0,0]) (wc [u0,u1,u2,u3,0,0,0]) (wc [y0])) 101 [61,63] jM)
  \/ (r=0/\∃ h0 h1 h2 h3,s=cA (jL 4 7 1 1 1 18446744073709551615 1 (.int false .u64 (w2 (n4 u0 u1 u2 u3%DD))) (-1)) (jK (wc [h0,h1,h2,h3]) (wc [w0 (n4 u0 u1 u2 u3%DD),w1 (n4 u0 u1 u2 u3%DD),w2 (n4 u0 u1 u2 u3%DD),0,0,0,0]) (wc [n4 u0 u1 u2 u3/DD])) 101 [61,63] jM)) (r0:=2) (.inl ⟨rfl,rfl⟩) ?_
 rintro r s (⟨rfl,rfl⟩ | ⟨rfl,rfl⟩ | ⟨rfl,h0,h1,h2,h3,rfl⟩)
 .obtain ⟨ps,e,hp⟩:=Iu (aTa u0 y0) (wc [u0,u1,u2,u3,0,0,0]) (wc [y0]) 11259375 0 0 0 a1 a2 a3 (by omega)
  exact G.lG aT aX mix hb _ e hp 1 (by omega) (.inr (.inl ⟨rfl,rfl⟩))
 .obtain ⟨hs,g0,g1,g2,g3,ps,e,hp⟩:=oQ ⟨aKx,aKw,aAp,MD,ME,aKv⟩ (wc [u0,u1,u2,u3,0,0,0]) (wc [y0]) y0 0 0 0 0 a0 a1 a2 a3 hl
  exact G.lG aT aX mix hb _ e hp 0 (by omega) (.inr (.inr ⟨rfl,g0,g1,g2,g3,rfl⟩))
 .exact G.yQ aT aX mix hb [] (aMx u0 u1 u2 u3 y0 _ _ _ _ _ h0 h1 h2 h3) (aA (by simp only [sh,bX,and_true])) (G.leave (fun h=>by cases h) (fin h0 h1 h2 h3))
open M in
set_option maxHeartbeats 2000000 in
theorem BN {u0 u1 u2 u3:Int} (y0:Int) (a0:U u0) (a1:U u1) (a2:U u2) (a3:U u3) (hd:u3<9223372036854775808) :
 aE Tryz.prog Γv 259 (Bh 4 8 1 1) (Hn fF (wc [u0,u1,u2,u3,0,0,0,0]) (wc [y0])) 100 100 { val:=.eL [],wr:=[(61,.own (wc [n4 u0 u1 u2 u3/DD]) 196),(63,.own (wc [w0 (n4 u0 u1 u2 u3%DD),w1 (n4 u0 u1 u2 u3%DD),w2 (n4 u0 u1 u2 u3%DD),0,0,0,0,0]) 196)] }:=by
 have hl:=Uu a0 a1 a2 hd
 refine gQ lD lE Tryz.func259 (by kernel_rfl) rfl (Nat.le_of_ble_eq_true (by kernel_rfl)) rfl [] ?_
 intro w0' Mx V0 Q hb H
 have aT:=lD
 have aX:=lE
 refine G.yQ aT aX mix hb [] (aMw u0 u1 u2 u3 y0 11259375 0 0 0) (aA (by simp only [sh,bX,and_true])) ?_
 have fin:∀ h0 h1 h2 h3,G Tryz.prog Γv w0' Mx (bH 100 (Hn fF (wc [u0,u1,u2,u3,0,0,0,0]) (wc [y0]))) Tryz.f259.ntmps 100 V0 (.at (.exit 0)) Eu
  (cA (jL 4 8 1 1 1 18446744073709551615 1 (.int false .u64 (w2 (n4 u0 u1 u2 u3%DD))) (-1)) (jK (wc [h0,h1,h2,h3]) (wc [w0 (n4 u0 u1 u2 u3%DD),w1 (n4 u0 u1 u2 u3%DD),w2 (n4 u0 u1 u2 u3%DD),0,0,0,0,0]) (wc [n4 u0 u1 u2 u3/DD])) 101 [61,63] jM) Q:=fun h0 h1 h2 h3=>
  G.fin aT aX mix [] H (aMv u0 u1 u2 u3 y0 _ _ _ _ _ h0 h1 h2 h3) (by simp) rfl rfl rfl
 refine G.loop (fun r s=>(r=2/\s=cA (jL 4 8 1 1 1 18446744073709551615 1 (.int true .u64 0) 1) (jK (wc [11259375,0,0,0]) (wc [u0,u1,u2,u3,0,0,0,0]) (wc [y0])) 101 [61,63] jM)
  \/ (r=1/\s=cA (jL 4 8 1 1 1 18446744073709551615 1 (.int false .u64 u3) 0) (jK (wc [0,0,0,0]) (wc [u0,u1,u2,u3,0,0,0,0]) (wc [y0])) 101 [61,63] jM)
  \/ (r=0/\∃ h0 h1 h2 h3,s=cA (jL 4 8 1 1 1 18446744073709551615 1 (.int false .u64 (w2 (n4 u0 u1 u2 u3%DD))) (-1)) (jK (wc [h0,h1,h2,h3]) (wc [w0 (n4 u0 u1 u2 u3%DD),w1 (n4 u0 u1 u2 u3%DD),w2 (n4 u0 u1 u2 u3%DD),0,0,0,0,0]) (wc [n4 u0 u1 u2 u3/DD])) 101 [61,63] jM)) (r0:=2) (.inl ⟨rfl,rfl⟩) ?_
 rintro r s (⟨rfl,rfl⟩ | ⟨rfl,rfl⟩ | ⟨rfl,h0,h1,h2,h3,rfl⟩)
 .obtain ⟨ps,e,hp⟩:=Iu (aSz u0 y0) (wc [u0,u1,u2,u3,0,0,0,0]) (wc [y0]) 11259375 0 0 0 a1 a2 a3 (by omega)
  exact G.lG aT aX mix hb _ e hp 1 (by omega) (.inr (.inl ⟨rfl,rfl⟩))
 .obtain ⟨hs,g0,g1,g2,g3,ps,e,hp⟩:=oQ ⟨aKu,aKt,aAo,MB,MC,aKs⟩ (wc [u0,u1,u2,u3,0,0,0,0]) (wc [y0]) y0 0 0 0 0 a0 a1 a2 a3 hl
  exact G.lG aT aX mix hb _ e hp 0 (by omega) (.inr (.inr ⟨rfl,g0,g1,g2,g3,rfl⟩))
 .exact G.yQ aT aX mix hb [] (aMu u0 u1 u2 u3 y0 _ _ _ _ _ h0 h1 h2 h3) (aA (by simp only [sh,bX,and_true])) (G.leave (fun h=>by cases h) (fin h0 h1 h2 h3))
open M in
set_option maxHeartbeats 4000000 in
theorem BM {u0 u1 u2 u3 u4:Int} (y0 y1:Int) (a0:U u0) (a1:U u1) (a2:U u2) (a3:U u3) (a4:U u4) (hd:u4<9223372036854775808) :
 aE Tryz.prog Γv 259 (Bh 5 8 2 6) (Hn fF (wc [u0,u1,u2,u3,u4,0,0,0]) (wc [y0,y1,0,0,0,0])) 100 100 { val:=.eL [],wr:=[(61,.own (wc [r5 u0 u1 u2 u3 u4/DD,n4 u1 u2 u3 u4/DD,0,0,0,0]) 196),(63,.own (wc [w0 (r5 u0 u1 u2 u3 u4%DD),w1 (r5 u0 u1 u2 u3 u4%DD),w2 (r5 u0 u1 u2 u3 u4%DD),0,0,0,0,0]) 196)] }:=by
 have hl:=Uu a1 a2 a3 hd
 obtain ⟨b0,b1,b2⟩:=w_U (n4 u1 u2 u3 u4%DD)
 refine gQ lD lE Tryz.func259 (by kernel_rfl) rfl (Nat.le_of_ble_eq_true (by kernel_rfl)) rfl [] ?_
 intro w0' Mx V0 Q hb H
 have aT:=lD
 have aX:=lE
 refine G.yQ aT aX mix hb [] (aMt u0 u1 u2 u3 u4 y0 y1 11259375 0 0 0) (aA (by simp only [sh,bX,and_true])) ?_
 have fin:∀ h0 h1 h2 h3,G Tryz.prog Γv w0' Mx (bH 100 (Hn fF (wc [u0,u1,u2,u3,u4,0,0,0]) (wc [y0,y1,0,0,0,0]))) Tryz.f259.ntmps 100 V0 (.at (.exit 0)) Eu
  (cA (jL 5 8 2 6 2 18446744073709551615 1 (.int false .u64 (w2 (r5 u0 u1 u2 u3 u4%DD))) (-1)) (jK (wc [h0,h1,h2,h3]) (wc [w0 (r5 u0 u1 u2 u3 u4%DD),w1 (r5 u0 u1 u2 u3 u4%DD),w2 (r5 u0 u1 u2 u3 u4%DD),0,0,0,0,0]) (wc [r5 u0 u1 u2 u3 u4/DD,n4 u1 u2 u3 u4/DD,0,0,0,0])) 101 [61,63] jM) Q:=fun h0 h1 h2 h3=>
  G.fin aT aX mix [] H (aMs u0 u1 u2 u3 u4 y0 y1 _ _ _ _ _ _ _ h0 h1 h2 h3) (by simp) rfl rfl rfl
 refine G.loop (fun r s=>(r=3/\s=cA (jL 5 8 2 6 2 18446744073709551615 1 (.int true .u64 0) 2) (jK (wc [11259375,0,0,0]) (wc [u0,u1,u2,u3,u4,0,0,0]) (wc [y0,y1,0,0,0,0])) 101 [61,63] jM)
  \/ (r=2/\s=cA (jL 5 8 2 6 2 18446744073709551615 1 (.int false .u64 u4) 1) (jK (wc [0,0,0,0]) (wc [u0,u1,u2,u3,u4,0,0,0]) (wc [y0,y1,0,0,0,0])) 101 [61,63] jM)
  \/ (r=1/\∃ h0 h1 h2 h3,s=cA (jL 5 8 2 6 2 18446744073709551615 1 (.int false .u64 (w2 (n4 u1 u2 u3 u4%DD))) 0) (jK (wc [h0,h1,h2,h3]) (wc [u0,w0 (n4 u1 u2 u3 u4%DD),w1 (n4 u1 u2 u3 u4%DD),w2 (n4 u1 u2 u3 u4%DD),0,0,0,0]) (wc [y0,n4 u1 u2 u3 u4/DD,0,0,0,0])) 101 [61,63] jM)
  \/ (r=0/\∃ h0 h1 h2 h3,s=cA (jL 5 8 2 6 2 18446744073709551615 1 (.int false .u64 (w2 (r5 u0 u1 u2 u3 u4%DD))) (-1)) (jK (wc [h0,h1,h2,h3]) (wc [w0 (r5 u0 u1 u2 u3 u4%DD),w1 (r5 u0 u1 u2 u3 u4%DD),w2 (r5 u0 u1 u2 u3 u4%DD),0,0,0,0,0]) (wc [r5 u0 u1 u2 u3 u4/DD,n4 u1 u2 u3 u4/DD,0,0,0,0])) 101 [61,63] jM)) (r0:=3) (.inl ⟨rfl,rfl⟩) ?_
 rintro r s (⟨rfl,rfl⟩ | ⟨rfl,rfl⟩ | ⟨rfl,h0,h1,h2,h3,rfl⟩ | ⟨rfl,h0,h1,h2,h3,rfl⟩)
 .obtain ⟨ps,e,hp⟩:=Iu (aSy u0 u1 y0 y1) (wc [u0,u1,u2,u3,u4,0,0,0]) (wc [y0,y1,0,0,0,0]) 11259375 0 0 0 a2 a3 a4 (by omega)
  exact G.lG aT aX mix hb _ e hp 2 (by omega) (.inr (.inl ⟨rfl,rfl⟩))
 .obtain ⟨hs,g0,g1,g2,g3,ps,e,hp⟩:=oQ ⟨aAn u0 y0,aAm u0 y0,MA u0 y0,Zz u0 y0,AA u0 y0,aAl u0 y0⟩ (wc [u0,u1,u2,u3,u4,0,0,0]) (wc [y0,y1,0,0,0,0]) y1 0 0 0 0 a1 a2 a3 a4 hl
  exact G.lG aT aX mix hb _ e hp 1 (by omega) (.inr (.inr (.inl ⟨rfl,g0,g1,g2,g3,rfl⟩)))
 .obtain ⟨hs,g0,g1,g2,g3,ps,e,hp⟩:=oQ ⟨aAk (n4 u1 u2 u3 u4/DD),aAj (n4 u1 u2 u3 u4/DD),LZ (n4 u1 u2 u3 u4/DD),Zx (n4 u1 u2 u3 u4/DD),Zy (n4 u1 u2 u3 u4/DD),aAi (n4 u1 u2 u3 u4/DD)⟩ (wc [u0,u1,u2,u3,u4,0,0,0]) (wc [y0,y1,0,0,0,0]) y0 h0 h1 h2 h3 a0 b0 b1 b2 (aDy a0)
  exact G.lG aT aX mix hb _ e hp 0 (by omega) (.inr (.inr (.inr ⟨rfl,g0,g1,g2,g3,rfl⟩)))
 .exact G.yQ aT aX mix hb [] (aMr u0 u1 u2 u3 u4 y0 y1 _ _ _ _ _ _ _ h0 h1 h2 h3) (aA (by simp only [sh,bX,and_true])) (G.leave (fun h=>by cases h) (fin h0 h1 h2 h3))
open M in
set_option maxHeartbeats 4000000 in
theorem BL {u0 u1 u2 u3 u4:Int} (y0 y1:Int) (a0:U u0) (a1:U u1) (a2:U u2) (a3:U u3) (a4:U u4) (hd:u4<9223372036854775808) :
 aE Tryz.prog Γv 259 (Bh 5 9 2 6) (Hn fF (wc [u0,u1,u2,u3,u4,0,0,0,0]) (wc [y0,y1,0,0,0,0])) 100 100 { val:=.eL [],wr:=[(61,.own (wc [r5 u0 u1 u2 u3 u4/DD,n4 u1 u2 u3 u4/DD,0,0,0,0]) 196),(63,.own (wc [w0 (r5 u0 u1 u2 u3 u4%DD),w1 (r5 u0 u1 u2 u3 u4%DD),w2 (r5 u0 u1 u2 u3 u4%DD),0,0,0,0,0,0]) 196)] }:=by
 have hl:=Uu a1 a2 a3 hd
 obtain ⟨b0,b1,b2⟩:=w_U (n4 u1 u2 u3 u4%DD)
 refine gQ lD lE Tryz.func259 (by kernel_rfl) rfl (Nat.le_of_ble_eq_true (by kernel_rfl)) rfl [] ?_
 intro w0' Mx V0 Q hb H
 have aT:=lD
 have aX:=lE
 refine G.yQ aT aX mix hb [] (aMq u0 u1 u2 u3 u4 y0 y1 11259375 0 0 0) (aA (by simp only [sh,bX,and_true])) ?_
 have fin:∀ h0 h1 h2 h3,G Tryz.prog Γv w0' Mx (bH 100 (Hn fF (wc [u0,u1,u2,u3,u4,0,0,0,0]) (wc [y0,y1,0,0,0,0]))) Tryz.f259.ntmps 100 V0 (.at (.exit 0)) Eu
  (cA (jL 5 9 2 6 2 18446744073709551615 1 (.int false .u64 (w2 (r5 u0 u1 u2 u3 u4%DD))) (-1)) (jK (wc [h0,h1,h2,h3]) (wc [w0 (r5 u0 u1 u2 u3 u4%DD),w1 (r5 u0 u1 u2 u3 u4%DD),w2 (r5 u0 u1 u2 u3 u4%DD),0,0,0,0,0,0]) (wc [r5 u0 u1 u2 u3 u4/DD,n4 u1 u2 u3 u4/DD,0,0,0,0])) 101 [61,63] jM) Q:=fun h0 h1 h2 h3=>
  G.fin aT aX mix [] H (aMp u0 u1 u2 u3 u4 y0 y1 _ _ _ _ _ _ _ h0 h1 h2 h3) (by simp) rfl rfl rfl
 refine G.loop (fun r s=>(r=3/\s=cA (jL 5 9 2 6 2 18446744073709551615 1 (.int true .u64 0) 2) (jK (wc [11259375,0,0,0]) (wc [u0,u1,u2,u3,u4,0,0,0,0]) (wc [y0,y1,0,0,0,0])) 101 [61,63] jM)
  \/ (r=2/\s=cA (jL 5 9 2 6 2 18446744073709551615 1 (.int false .u64 u4) 1) (jK (wc [0,0,0,0]) (wc [u0,u1,u2,u3,u4,0,0,0,0]) (wc [y0,y1,0,0,0,0])) 101 [61,63] jM)
  \/ (r=1/\∃ h0 h1 h2 h3,s=cA (jL 5 9 2 6 2 18446744073709551615 1 (.int false .u64 (w2 (n4 u1 u2 u3 u4%DD))) 0) (jK (wc [h0,h1,h2,h3]) (wc [u0,w0 (n4 u1 u2 u3 u4%DD),w1 (n4 u1 u2 u3 u4%DD),w2 (n4 u1 u2 u3 u4%DD),0,0,0,0,0]) (wc [y0,n4 u1 u2 u3 u4/DD,0,0,0,0])) 101 [61,63] jM)
  \/ (r=0/\∃ h0 h1 h2 h3,s=cA (jL 5 9 2 6 2 18446744073709551615 1 (.int false .u64 (w2 (r5 u0 u1 u2 u3 u4%DD))) (-1)) (jK (wc [h0,h1,h2,h3]) (wc [w0 (r5 u0 u1 u2 u3 u4%DD),w1 (r5 u0 u1 u2 u3 u4%DD),w2 (r5 u0 u1 u2 u3 u4%DD),0,0,0,0,0,0]) (wc [r5 u0 u1 u2 u3 u4/DD,n4 u1 u2 u3 u4/DD,0,0,0,0])) 101 [61,63] jM)) (r0:=3) (.inl ⟨rfl,rfl⟩) ?_
 rintro r s (⟨rfl,rfl⟩ | ⟨rfl,rfl⟩ | ⟨rfl,h0,h1,h2,h3,rfl⟩ | ⟨rfl,h0,h1,h2,h3,rfl⟩)
 .obtain ⟨ps,e,hp⟩:=Iu (aSx u0 u1 y0 y1) (wc [u0,u1,u2,u3,u4,0,0,0,0]) (wc [y0,y1,0,0,0,0]) 11259375 0 0 0 a2 a3 a4 (by omega)
  exact G.lG aT aX mix hb _ e hp 2 (by omega) (.inr (.inl ⟨rfl,rfl⟩))
 .obtain ⟨hs,g0,g1,g2,g3,ps,e,hp⟩:=oQ ⟨aAh u0 y0,aAg u0 y0,LY u0 y0,Zv u0 y0,Zw u0 y0,aAf u0 y0⟩ (wc [u0,u1,u2,u3,u4,0,0,0,0]) (wc [y0,y1,0,0,0,0]) y1 0 0 0 0 a1 a2 a3 a4 hl
  exact G.lG aT aX mix hb _ e hp 1 (by omega) (.inr (.inr (.inl ⟨rfl,g0,g1,g2,g3,rfl⟩)))
 .obtain ⟨hs,g0,g1,g2,g3,ps,e,hp⟩:=oQ ⟨aAe (n4 u1 u2 u3 u4/DD),aAd (n4 u1 u2 u3 u4/DD),LX (n4 u1 u2 u3 u4/DD),Zt (n4 u1 u2 u3 u4/DD),Zu (n4 u1 u2 u3 u4/DD),aAc (n4 u1 u2 u3 u4/DD)⟩ (wc [u0,u1,u2,u3,u4,0,0,0,0]) (wc [y0,y1,0,0,0,0]) y0 h0 h1 h2 h3 a0 b0 b1 b2 (aDy a0)
  exact G.lG aT aX mix hb _ e hp 0 (by omega) (.inr (.inr (.inr ⟨rfl,g0,g1,g2,g3,rfl⟩)))
 .exact G.yQ aT aX mix hb [] (aMo u0 u1 u2 u3 u4 y0 y1 _ _ _ _ _ _ _ h0 h1 h2 h3) (aA (by simp only [sh,bX,and_true])) (G.leave (fun h=>by cases h) (fin h0 h1 h2 h3))
theorem aI.aR {P:Program} {Γ Γ':Env} {f:FuncId} {S:Sum} (h:aI P Γ f S) (hg:Γ'.aR=Γ.aR):aI P Γ' f S:=
 fun vs T lab F e he ho w0 M V T2 w xs aK hT Xy=>h vs T lab F e he ho w0 M V T2 w xs aK hT (fun n l hl=>Xy n l (by rw [hg];exact hl))
namespace M
def nl:List Int->Nat
 | []=>0
 | x::r=>match nl r with
   | 0=>if x=0 then 0 else 1
   | k+1=>k+2
end M
def nmT (ws:List SV):aZ:=fun l=>look l [(63,.own ws 196)]
noncomputable def Fv (n cap:Nat) (ws:List SV) (h:List Bool):Option bJ:=aJ Γv Tryz.f186 true h 400 [.aH 63 true 0 n cap] (nmT ws) 100 100
namespace M
theorem FZ:∀ l:List Int,nl l<=l.length
 | []=>Nat.le_refl _
 | x::r=>by
   have:=FZ r
   simp only [nl,List.length_cons]
   split
   .split <;> omega
   .omega
end M
def nmH (n:Nat):Nat->List Bool
 | 0=>List.replicate n true
 | k+1=>List.replicate (n-(k+1)) true++[false]
def nmO (ws:List Int):Nat->List Prop
 | 0=>ws.map fun a=>(a==0)=true
 | k+1=>((ws.getD k 0==0)=false)::(ws.drop (k+1)).map fun a=>(a==0)=true
theorem JE:∀ ws:List Int,∀ q∈nmO ws (M.nl ws),q
 | [],q,h=>by cases h
 | x::r,q,h=>by
   have ih:=JE r
   unfold M.nl at h
   cases hn:M.nl r with
   | zero=>
     rw [hn] at h ih
     simp only at h
     by_cases hx:x=0
     .rw [if_pos hx] at h
      rcases List.mem_cons.1 h with rfl | h
      .simpa using hx
      .exact ih q h
     .rw [if_neg hx] at h
      rcases List.mem_cons.1 h with rfl | h
      .simpa using hx
      .exact ih q h
   | succ k=>
     rw [hn] at h ih
     exact ih q h
theorem nm1 {cap:Nat} (hc:cap=1\/cap=1) (zs:List SV) (a0:Int) (k:Nat) (hk:k<=1):Fv 1 cap (wc [a0]++zs) (nmH 1 k)=some { bK:=nmO [a0] k,val:=.aH 63 true 0 k cap }:=by
 rcases hc with rfl | rfl <;> rcases (by omega:k=0\/k=1) with rfl | rfl <;> kernel_rfl
theorem nm2 {cap:Nat} (hc:cap=6\/cap=6) (zs:List SV) (a0 a1:Int) (k:Nat) (hk:k<=2):Fv 2 cap (wc [a0,a1]++zs) (nmH 2 k)=some { bK:=nmO [a0,a1] k,val:=.aH 63 true 0 k cap }:=by
 rcases hc with rfl | rfl <;> rcases (by omega:k=0\/k=1\/k=2) with rfl | rfl | rfl <;> kernel_rfl
theorem nm3 {cap:Nat} (hc:cap=7\/cap=7) (zs:List SV) (a0 a1 a2:Int) (k:Nat) (hk:k<=3):Fv 3 cap (wc [a0,a1,a2]++zs) (nmH 3 k)=some { bK:=nmO [a0,a1,a2] k,val:=.aH 63 true 0 k cap }:=by
 rcases hc with rfl | rfl <;> rcases (by omega:k=0\/k=1\/k=2\/k=3) with rfl | rfl | rfl | rfl <;> kernel_rfl
theorem nm4 {cap:Nat} (hc:cap=7\/cap=8) (zs:List SV) (a0 a1 a2 a3:Int) (k:Nat) (hk:k<=4):Fv 4 cap (wc [a0,a1,a2,a3]++zs) (nmH 4 k)=some { bK:=nmO [a0,a1,a2,a3] k,val:=.aH 63 true 0 k cap }:=by
 rcases hc with rfl | rfl <;> rcases (by omega:k=0\/k=1\/k=2\/k=3\/k=4) with rfl | rfl | rfl | rfl | rfl <;> kernel_rfl
theorem nm5 {cap:Nat} (hc:cap=8\/cap=9) (zs:List SV) (a0 a1 a2 a3 a4:Int) (k:Nat) (hk:k<=5):Fv 5 cap (wc [a0,a1,a2,a3,a4]++zs) (nmH 5 k)=some { bK:=nmO [a0,a1,a2,a3,a4] k,val:=.aH 63 true 0 k cap }:=by
 rcases hc with rfl | rfl <;> rcases (by omega:k=0\/k=1\/k=2\/k=3\/k=4\/k=5) with rfl | rfl | rfl | rfl | rfl | rfl <;> kernel_rfl
theorem pI {n cap:Nat} {ws:List Int} {zs:List SV} (h:∀ k,k<=ws.length->Fv n cap (wc ws++zs) (nmH n k)=some { bK:=nmO ws k,val:=.aH 63 true 0 k cap }):aE Tryz.prog Γv 186 [.aH 63 true 0 n cap] (nmT (wc ws++zs)) 100 100 { val:=.aH 63 false 0 (M.nl ws) cap }:=
 ((aN lD lE mix Tryz.func186 (by kernel_rfl) true _ 400).call (h _ (M.FZ ws)) (JE ws)).words rfl (fun _=>rfl) (fun _ _ h=>h) (fun _=>rfl) rfl rfl
def FY (vs:List SV) (T:aZ):Option Canon:=match vs with
 | [.aH l true 0 n cap]=>match T l with
   | some (.own cs 196)=>match cX .u64 cs with
     | some [a0]=>match Nat.beq n 1&&Nat.beq cap 1 with
       | true=>some { eR:=[.aH 63 true 0 1 1],T0:=[(63,.own (wc [a0]) 196)],vl:=[(63,.lab l 0)],e0:={ val:=.aH 63 false 0 (M.nl [a0]) 1,wr:=[(63,.own (wc [a0]) 196)] } }
       | false=>none
     | some [a0,a1,_,_,_,_]=>match Nat.beq n 2&&Nat.beq cap 6 with
       | true=>some { eR:=[.aH 63 true 0 2 6],T0:=[(63,.own (wc [a0,a1,0,0,0,0]) 196)],vl:=[(63,.lab l 0)],e0:={ val:=.aH 63 false 0 (M.nl [a0,a1]) 6,wr:=[(63,.own (wc [a0,a1,0,0,0,0]) 196)] } }
       | false=>none
     | some [a0,a1,a2,a3,_,_,_]=>match Nat.beq cap 7 with
       | true=>match Nat.beq n 4 with
         | true=>some { eR:=[.aH 63 true 0 4 7],T0:=[(63,.own (wc [a0,a1,a2,a3,0,0,0]) 196)],vl:=[(63,.lab l 0)],e0:={ val:=.aH 63 false 0 (M.nl [a0,a1,a2,a3]) 7,wr:=[(63,.own (wc [a0,a1,a2,a3,0,0,0]) 196)] } }
         | false=>match Nat.beq n 3 with
           | true=>some { eR:=[.aH 63 true 0 3 7],T0:=[(63,.own (wc [a0,a1,a2,0,0,0,0]) 196)],vl:=[(63,.lab l 0)],e0:={ val:=.aH 63 false 0 (M.nl [a0,a1,a2]) 7,wr:=[(63,.own (wc [a0,a1,a2,0,0,0,0]) 196)] } }
           | false=>none
       | false=>none
     | some [a0,a1,a2,a3,a4,_,_,_]=>match Nat.beq cap 8 with
       | true=>match Nat.beq n 4 with
         | true=>some { eR:=[.aH 63 true 0 4 8],T0:=[(63,.own (wc [a0,a1,a2,a3,0,0,0,0]) 196)],vl:=[(63,.lab l 0)],e0:={ val:=.aH 63 false 0 (M.nl [a0,a1,a2,a3]) 8,wr:=[(63,.own (wc [a0,a1,a2,a3,0,0,0,0]) 196)] } }
         | false=>match Nat.beq n 5 with
           | true=>some { eR:=[.aH 63 true 0 5 8],T0:=[(63,.own (wc [a0,a1,a2,a3,a4,0,0,0]) 196)],vl:=[(63,.lab l 0)],e0:={ val:=.aH 63 false 0 (M.nl [a0,a1,a2,a3,a4]) 8,wr:=[(63,.own (wc [a0,a1,a2,a3,a4,0,0,0]) 196)] } }
           | false=>none
       | false=>none
     | some [a0,a1,a2,a3,a4,_,_,_,_]=>match Nat.beq n 5&&Nat.beq cap 9 with
       | true=>some { eR:=[.aH 63 true 0 5 9],T0:=[(63,.own (wc [a0,a1,a2,a3,a4,0,0,0,0]) 196)],vl:=[(63,.lab l 0)],e0:={ val:=.aH 63 false 0 (M.nl [a0,a1,a2,a3,a4]) 9,wr:=[(63,.own (wc [a0,a1,a2,a3,a4,0,0,0,0]) 196)] } }
       | false=>none
     | _=>none
   | _=>none
 | _=>none
theorem aEi (Γ:Env) (hg:Γ.aR=aB) {vs:List SV} {T:aZ} {c:Canon} (hd:FY vs T=some c):aE Tryz.prog Γ 186 c.eR (fun l=>look l c.T0) 100 100 c.e0:=by
 unfold FY at hd
 split at hd
 case h_2=>cases hd
 split at hd
 case h_2=>cases hd
 split at hd
 case h_6=>cases hd
 .split at hd
  case h_2=>cases hd
  cases hd
  exact ((pI (ws:=[_]) (zs:=wc []) (nm1 (.inl rfl) _ _)).bE 63 _ rfl (by decide)).words (by rw [hg];rfl) (fun _=>rfl) (fun _ _ h=>h) (fun _=>rfl) rfl rfl
 .split at hd
  case h_2=>cases hd
  cases hd
  exact ((pI (ws:=[_,_]) (zs:=wc [0,0,0,0]) (nm2 (.inl rfl) _ _ _)).bE 63 _ rfl (by decide)).words (by rw [hg];rfl) (fun _=>rfl) (fun _ _ h=>h) (fun _=>rfl) rfl rfl
 .split at hd
  case h_2=>cases hd
  split at hd
  .cases hd
   exact ((pI (ws:=[_,_,_,_]) (zs:=wc [0,0,0]) (nm4 (.inl rfl) _ _ _ _ _)).bE 63 _ rfl (by decide)).words (by rw [hg];rfl) (fun _=>rfl) (fun _ _ h=>h) (fun _=>rfl) rfl rfl
  .split at hd
   case h_2=>cases hd
   cases hd
   exact ((pI (ws:=[_,_,_]) (zs:=wc [0,0,0,0]) (nm3 (.inl rfl) _ _ _ _)).bE 63 _ rfl (by decide)).words (by rw [hg];rfl) (fun _=>rfl) (fun _ _ h=>h) (fun _=>rfl) rfl rfl
 .split at hd
  case h_2=>cases hd
  split at hd
  .cases hd
   exact ((pI (ws:=[_,_,_,_]) (zs:=wc [0,0,0,0]) (nm4 (.inr rfl) _ _ _ _ _)).bE 63 _ rfl (by decide)).words (by rw [hg];rfl) (fun _=>rfl) (fun _ _ h=>h) (fun _=>rfl) rfl rfl
  .split at hd
   case h_2=>cases hd
   cases hd
   exact ((pI (ws:=[_,_,_,_,_]) (zs:=wc [0,0,0]) (nm5 (.inl rfl) _ _ _ _ _ _)).bE 63 _ rfl (by decide)).words (by rw [hg];rfl) (fun _=>rfl) (fun _ _ h=>h) (fun _=>rfl) rfl rfl
 .split at hd
  case h_2=>cases hd
  cases hd
  exact ((pI (ws:=[_,_,_,_,_]) (zs:=wc [0,0,0,0]) (nm5 (.inr rfl) _ _ _ _ _ _)).bE 63 _ rfl (by decide)).words (by rw [hg];rfl) (fun _=>rfl) (fun _ _ h=>h) (fun _=>rfl) rfl rfl
def tE (iq ir:Nat) (vs:List SV) (T:aZ):Option Canon:=match FY vs T with
 | some c=>match c.eR,c.e0.val with
   | [.aH _ _ _ n _],.aH 63 false 0 k cap=>match Nat.ble n 2 with
     | true=>some { c with e0:={ c.e0 with val:=.aH 63 true 0 iq cap },conds:=[k=iq] }
     | false=>some { c with e0:={ c.e0 with val:=.aH 63 true 0 ir cap },conds:=[k=ir] }
   | _,_=>none
 | none=>none
theorem Cg (iq ir:Nat) (Γ:Env) (hg:Γ.aR=aB):aI Tryz.prog Γ 186 (aL aB 100 (tE iq ir)):=by
 refine aW hg fun vs T c hd hc=>?_
 unfold tE at hd
 split at hd
 case h_2=>cases hd
 rename_i c0 h0
 split at hd
 case h_2=>cases hd
 rename_i hv
 split at hd
 .cases hd
  have hk:=hc _ cM
  refine (aEi Γ hg h0).words rfl (fun _=>rfl) (fun _ _ h=>h) (fun V=>?_) rfl rfl
  rw [hv,hk];rfl
 .cases hd
  have hk:=hc _ cM
  refine (aEi Γ hg h0).words rfl (fun _=>rfl) (fun _ _ h=>h) (fun V=>?_) rfl rfl
  rw [hv,hk];rfl
def aGz (c c':Nat):List SV:=[.aH 61 true 0 3 c,.aH 62 true 0 3 c']
def cmT (xs ys:List Int):aZ:=fun l=>look l [(61,.nM .u64 xs),(62,.nM .u64 ys)]
noncomputable def yH (c c':Nat) (xs ys:List Int) (h:List Bool):Option bJ:=aJ Γv Tryz.f154 true h 400 (aGz c c') (cmT xs ys) 100 100
theorem bAu (c c':Nat) (x0 x1 x2 y0 y1 y2:Int) (xs ys:List Int) :
 yH c c' (x0::x1::x2::xs) (y0::y1::y2::ys) [false,true] =
 sh (x0::x1::x2::xs) fun z0=>
 sh (y0::y1::y2::ys) fun z1=>
 sh (2:Nat) fun z2=>
 sh (0:Int) fun z3=>
 sh (3:Nat) fun z4=>
 some {bK:=[decide (z0.getD z2 z3<z1.getD z2 z3)=true,z4<=z1.length,z4<=z0.length,(z0.getD z2 z3==z1.getD z2 z3)=false,z4<=z1.length,z4<=z0.length],val:=SV.int true IntKind.i64 (Int.negSucc 0)}:=by kernel_rfl
theorem bAt (c c':Nat) (x0 x1 x2 y0 y1 y2:Int) (xs ys:List Int) :
 yH c c' (x0::x1::x2::xs) (y0::y1::y2::ys) [false,false,true] =
 sh (x0::x1::x2::xs) fun z0=>
 sh (y0::y1::y2::ys) fun z1=>
 sh (2:Nat) fun z2=>
 sh (0:Int) fun z3=>
 sh (3:Nat) fun z4=>
 some {bK:=[decide (z0.getD z2 z3>z1.getD z2 z3)=true,z4<=z1.length,z4<=z0.length,decide (z0.getD z2 z3<z1.getD z2 z3)=false,z4<=z1.length,z4<=z0.length,(z0.getD z2 z3==z1.getD z2 z3)=false,z4<=z1.length,z4<=z0.length],val:=SV.int true IntKind.i64 (1:Int)}:=by kernel_rfl
theorem bAs (c c':Nat) (x0 x1 x2 y0 y1 y2:Int) (xs ys:List Int) :
 yH c c' (x0::x1::x2::xs) (y0::y1::y2::ys) [true,false,true] =
 sh (x0::x1::x2::xs) fun z0=>
 sh (y0::y1::y2::ys) fun z1=>
 sh (0:Int) fun z2=>
 sh (2:Nat) fun z3=>
 sh (1:Nat) fun z4=>
 some {bK:=[decide (z0.getD z4 z2<z1.getD z4 z2)=true,z3<=z1.length,z3<=z0.length,(z0.getD z4 z2==z1.getD z4 z2)=false,z3<=z1.length,z3<=z0.length,(z0.getD z3 z2==z1.getD z3 z2)=true,(3:Nat)<=z1.length,(3:Nat)<=z0.length],val:=SV.int true IntKind.i64 (Int.negSucc 0)}:=by kernel_rfl
theorem bAr (c c':Nat) (x0 x1 x2 y0 y1 y2:Int) (xs ys:List Int) :
 yH c c' (x0::x1::x2::xs) (y0::y1::y2::ys) [true,false,false,true] =
 sh (x0::x1::x2::xs) fun z0=>
 sh (y0::y1::y2::ys) fun z1=>
 sh (0:Int) fun z2=>
 sh (2:Nat) fun z3=>
 sh (1:Nat) fun z4=>
 some {bK:=[decide (z0.getD z4 z2>z1.getD z4 z2)=true,z3<=z1.length,z3<=z0.length,decide (z0.getD z4 z2<z1.getD z4 z2)=false,z3<=z1.length,z3<=z0.length,(z0.getD z4 z2==z1.getD z4 z2)=false,z3<=z1.length,z3<=z0.length,(z0.getD z3 z2==z1.getD z3 z2)=true,(3:Nat)<=z1.length,(3:Nat)<=z0.length],val:=SV.int true IntKind.i64 (1:Int)}:=by kernel_rfl
theorem bAq (c c':Nat) (x0 x1 x2 y0 y1 y2:Int) (xs ys:List Int) :
 yH c c' (x0::x1::x2::xs) (y0::y1::y2::ys) [true,true,true] =
 sh (x0::x1::x2::xs) fun z0=>
 sh (y0::y1::y2::ys) fun z1=>
 sh (0:Int) fun z2=>
 sh (1:Nat) fun z3=>
 sh (2:Nat) fun z4=>
 some {bK:=[decide (z0.getD (0:Nat) z2<z1.getD (0:Nat) z2)=true,z3<=z1.length,z3<=z0.length,(z0.getD z3 z2==z1.getD z3 z2)=true,z4<=z1.length,z4<=z0.length,(z0.getD z4 z2==z1.getD z4 z2)=true,(3:Nat)<=z1.length,(3:Nat)<=z0.length],val:=SV.int true IntKind.i64 (Int.negSucc 0)}:=by kernel_rfl
theorem bAp (c c':Nat) (x0 x1 x2 y0 y1 y2:Int) (xs ys:List Int) :
 yH c c' (x0::x1::x2::xs) (y0::y1::y2::ys) [true,true,false,true] =
 sh (x0::x1::x2::xs) fun z0=>
 sh (y0::y1::y2::ys) fun z1=>
 sh (0:Int) fun z2=>
 sh (1:Nat) fun z3=>
 sh (0:Nat) fun z4=>
 sh (2:Nat) fun z5=>
 some {bK:=[decide (z0.getD z4 z2>z1.getD z4 z2)=true,z3<=z1.length,z3<=z0.length,decide (z0.getD z4 z2<z1.getD z4 z2)=false,z3<=z1.length,z3<=z0.length,(z0.getD z3 z2==z1.getD z3 z2)=true,z5<=z1.length,z5<=z0.length,(z0.getD z5 z2==z1.getD z5 z2)=true,(3:Nat)<=z1.length,(3:Nat)<=z0.length],val:=SV.int true IntKind.i64 (1:Int)}:=by kernel_rfl
theorem bAo (c c':Nat) (x0 x1 x2 y0 y1 y2:Int) (xs ys:List Int) :
 yH c c' (x0::x1::x2::xs) (y0::y1::y2::ys) [true,true,false,false] =
 sh (x0::x1::x2::xs) fun z0=>
 sh (y0::y1::y2::ys) fun z1=>
 sh (0:Int) fun z2=>
 sh (1:Nat) fun z3=>
 sh (0:Nat) fun z4=>
 sh (2:Nat) fun z5=>
 some {bK:=[decide (z0.getD z4 z2>z1.getD z4 z2)=false,z3<=z1.length,z3<=z0.length,decide (z0.getD z4 z2<z1.getD z4 z2)=false,z3<=z1.length,z3<=z0.length,(z0.getD z3 z2==z1.getD z3 z2)=true,z5<=z1.length,z5<=z0.length,(z0.getD z5 z2==z1.getD z5 z2)=true,(3:Nat)<=z1.length,(3:Nat)<=z0.length],val:=SV.int true IntKind.i64 z2}:=by kernel_rfl
namespace M
def cmp (x y:Int):Int:=if x<y then -1 else if y<x then 1 else 0
def n3 (a b c:Int):Int:=a+18446744073709551616*(b+18446744073709551616*c)
end M
def GM:SB->Option (IntKind × List Int)
 | .ints k xs _=>some (k,xs)
 | .own cs _=>yE cs
 | .fN cs=>yE cs
 | .nM k xs=>some (k,xs)
 | _=>none
def Vd (vs:List SV) (T:aZ):Option Canon:=match vs with
 | [.aH l _ 0 3 c,.aH l' _ 0 3 c']=>match (T l).bind GM,(T l').bind GM with
   | some (.u64,x0::x1::x2::xs),some (.u64,y0::y1::y2::ys)=>some { eR:=aGz c c',T0:=[(61,.nM .u64 (x0::x1::x2::xs)),(62,.nM .u64 (y0::y1::y2::ys))],vl:=[(61,.lab l 0),(62,.lab l' 0)],e0:={ val:=.int false .i64 (M.cmp (M.n3 x0 x1 x2) (M.n3 y0 y1 y2)) },conds:=[M.U x0,M.U x1,M.U x2,M.U y0,M.U y1,M.U y2] }
   | _,_=>none
 | _=>none
theorem aEz (Γ:Env) (hg:Γ.aR=aB):aI Tryz.prog Γ 154 (aL aB 100 Vd):=by
 refine aW hg fun vs T c hd hc=>?_
 unfold Vd at hd
 split at hd
 case h_2=>cases hd
 split at hd
 case h_2=>cases hd
 rename_i c _ _ c' _ _ x0 x1 x2 xs y0 y1 y2 ys _ _
 cases hd
 have a0:M.U x0:=hc _ (by simp)
 have a1:M.U x1:=hc _ (by simp)
 have a2:M.U x2:=hc _ (by simp)
 have b0:M.U y0:=hc _ (by simp)
 have b1:M.U y1:=hc _ (by simp)
 have b2:M.U y2:=hc _ (by simp)
 have:=a0.1;have:=a0.2;have:=a1.1;have:=a1.2;have:=a2.1;have:=a2.2
 have:=b0.1;have:=b0.2;have:=b1.1;have:=b1.2;have:=b2.1;have:=b2.2
 have hs:∀ hs,aI Tryz.prog Γv 154 (aJ Γv Tryz.f154 true hs 400):=fun hs=>aN lD lE mix Tryz.func154 (by kernel_rfl) true hs 400
 have fin:∀ {hs:List Bool} {ob:List Prop} {s:Bool} {r:Int},yH c c' (x0::x1::x2::xs) (y0::y1::y2::ys) hs=some { bK:=ob,val:=.int s .i64 r }->(∀ q∈ob,q)->M.cmp (M.n3 x0 x1 x2) (M.n3 y0 y1 y2)=r ->
  aE Tryz.prog Γ 154 (aGz c c') (fun l=>look l [(61,.nM .u64 (x0::x1::x2::xs)),(62,.nM .u64 (y0::y1::y2::ys))]) 100 100 { val:=.int false .i64 (M.cmp (M.n3 x0 x1 x2) (M.n3 y0 y1 y2)) }:=by
  intro h ob s r e ho hr
  exact ((hs h).call e ho).words (by rw [hg];rfl) (fun _=>rfl) (fun _ _ h=>h) (fun V=>by simp only [den,hr]) rfl rfl
 rcases Int.lt_trichotomy x2 y2 with h | rfl | h
 .exact fin (bAu c c' x0 x1 x2 y0 y1 y2 xs ys) (aA (by simp [bX];omega)) (by unfold M.cmp M.n3;rw [if_pos (by omega)];rfl)
 .rcases Int.lt_trichotomy x1 y1 with h | rfl | h
  .exact fin (bAs c c' x0 x1 x2 y0 y1 x2 xs ys) (aA (by simp [bX];omega)) (by unfold M.cmp M.n3;rw [if_pos (by omega)];rfl)
  .rcases Int.lt_trichotomy x0 y0 with h | rfl | h
   .exact fin (bAq c c' x0 x1 x2 y0 x1 x2 xs ys) (aA (by simp [bX];omega)) (by unfold M.cmp M.n3;rw [if_pos (by omega)];rfl)
   .exact fin (bAo c c' x0 x1 x2 x0 x1 x2 xs ys) (aA (by simp [bX])) (by unfold M.cmp M.n3;rw [if_neg (by omega),if_neg (by omega)])
   .exact fin (bAp c c' x0 x1 x2 y0 x1 x2 xs ys) (aA (by simp [bX];omega)) (by unfold M.cmp M.n3;rw [if_neg (by omega),if_pos (by omega)])
  .exact fin (bAr c c' x0 x1 x2 y0 y1 x2 xs ys) (aA (by simp [bX];omega)) (by unfold M.cmp M.n3;rw [if_neg (by omega),if_pos (by omega)])
 .exact fin (bAt c c' x0 x1 x2 y0 y1 y2 xs ys) (aA (by simp [bX];omega)) (by unfold M.cmp M.n3;rw [if_neg (by omega),if_pos (by omega)])
noncomputable def Ez (ex:Nat->Option Sum) (f0:Nat) (hs:List Bool) (f:Nat):Option Sum:=match Nat.beq f f0 with
 | true=>match Tryz.prog.funcs[f0]? with
   | some fn=>some (aJ (env ex 22) fn true hs 400)
   | none=>none
 | false=>ex f
theorem nS {ex:Nat->Option Sum} (hex:∀ f S,ex f=some S->∀ Γ:Env,Γ.aR=aB->aI Tryz.prog Γ f S) (f0:Nat) (hs:List Bool):∀ f S,Ez ex f0 hs f=some S->∀ Γ:Env,Γ.aR=aB->aI Tryz.prog Γ f S:=by
 intro f S h Γ hg
 unfold Ez at h
 split at h
 .rename_i e
  rw [cH e]
  split at h
  .rename_i fn uA
   cases h
   exact (aN (bQ ex 22) (bW ex hex 22) mix uA (names f0 fn uA) true hs 400).aR (by rw [hg];rfl)
  .cases h
 .exact hex f S h Γ hg
noncomputable def dM (ex:Nat->Option Sum) (f0:Nat) (S0:Sum) (f:Nat):Option Sum:=match Nat.beq f f0 with
 | true=>some S0
 | false=>ex f
theorem bD {ex:Nat->Option Sum} (hex:∀ f S,ex f=some S->∀ Γ:Env,Γ.aR=aB->aI Tryz.prog Γ f S) (f0:Nat) (S0:Sum) (h0:∀ Γ:Env,Γ.aR=aB->aI Tryz.prog Γ f0 S0):∀ f S,dM ex f0 S0 f=some S->∀ Γ:Env,Γ.aR=aB->aI Tryz.prog Γ f S:=by
 intro f S h Γ hg
 unfold dM at h
 split at h
 .rename_i e;cases h;rw [cH e];exact h0 Γ hg
 .exact hex f S h Γ hg
noncomputable def orB (ex:Nat->Option Sum) (f0:Nat) (S0:Sum):Sum:=match Tryz.prog.funcs[f0]? with
 | some fn=>orS S0 (aJ (env ex 22) fn true [] 400)
 | none=>S0
theorem IX {ex:Nat->Option Sum} (hex:∀ f S,ex f=some S->∀ Γ:Env,Γ.aR=aB->aI Tryz.prog Γ f S) (f0:Nat) (S0:Sum) (h0:∀ Γ:Env,Γ.aR=aB->aI Tryz.prog Γ f0 S0):∀ Γ:Env,Γ.aR=aB->aI Tryz.prog Γ f0 (orB ex f0 S0):=by
 intro Γ hg
 unfold orB
 split
 .rename_i fn uA
  exact IW (h0 Γ hg) ((aN (bQ ex 22) (bW ex hex 22) mix uA (names f0 fn uA) true [] 400).aR (by rw [hg];rfl))
 .exact h0 Γ hg
theorem wC {i:Nat} (h:i<1000000):IntKind.i64.wrap ((i:Int)+1)=((i+1:Nat):Int):=by rw [IntWalk.i64_in _ (by omega)];omega
theorem VQ {xs b:List Int} {t:TypeId} {off:Nat} (hb:b.length=64) (hx:off+64<=xs.length) :
 aE Tryz.prog qN 81 (aFg off b) (tZ xs t) 100 100 { val:=.eL [],wr:=[(60,.ints .u8 (Q.sA off 64 (b.getD · 0) xs) t)] }:=by
 have aT:=uO
 have aX:=uP
 refine gQ aT aX Tryz.func81 (by kernel_rfl) rfl (Nat.le_of_ble_eq_true (by kernel_rfl)) rfl [] ?_
 intro w0 M V0 Q' eF H
 refine G.fL aT aX mix eF [] (aVe xs xs b b t off off 0) (aA ?_) ?_
 .exact ⟨rfl,rfl,⟨rfl,rfl⟩,⟨rfl,rfl⟩,trivial⟩
 refine G.loop (fun r s=>∃ i:Nat,i<=64/\r=64-i/\s=cA (Pq off i) (Pp (Q.Z off 64 (fun m=>decide (m<i)) (b.getD · 0) xs) b t) 101 [60] []) (r0:=64) ⟨0,by omega,rfl,?_⟩ ?_
 .rw [Q.lQ (P':=fun _=>false) _ _ fun m _=>decide_eq_false (by omega),Q.KF];rfl
 rintro r s ⟨i,hi,rfl,rfl⟩
 have hl:=Q.Nv off 64 (fun m=>decide (m<i)) (b.getD · 0) xs
 by_cases h:i<64
 .refine G.lF aT aX mix eF [true] (aVd xs _ (Q.Z off 64 (fun m=>decide (m<i+1)) (b.getD · 0) xs) b b t off off i ((i+1:Nat):Int)) (aA ?_) (64-(i+1)) (by omega) ⟨i+1,by omega,rfl,rfl⟩
  have e1:off+(i:Int).toNat*1=off+i:=by omega
  refine ⟨by rw [hl];omega,by omega,by rw [hb];omega,by omega,by rw [hl];omega,by omega,decide_eq_true (by omega),rfl,wC (by omega),⟨?_,rfl⟩,⟨rfl,rfl⟩,trivial⟩
  rw [e1,Nat.add_zero,show 0+(i:Int).toNat*1+0=i by omega]
  rw [show b.getD i 0=(fun j=>b.getD j 0) i from rfl,Q.aFd h (by omega) (decide_eq_false (by omega))]
  refine Q.lQ _ _ fun m hm=>?_
  rw [Bool.eq_iff_iff]
  simp only [Bool.or_eq_true,decide_eq_true_eq,beq_iff_eq]
  omega
 .have e:i=64:=by omega
  subst e
  refine G.fL aT aX mix eF [false] (aVc xs _ (Q.Z off 64 (fun m=>decide (m<64)) (b.getD · 0) xs) b b t off off (64:Nat) (64:Nat)) (aA ?_) (G.leave (by simp) ?_)
  .exact ⟨decide_eq_false (by omega),rfl,rfl,⟨rfl,rfl⟩,⟨rfl,rfl⟩,trivial⟩
  refine G.qR (cl:=[]) aT aX mix [] H (aVb xs _ b t off (64:Nat)) iF rfl rfl ?_
  rw [Q.lQ (P':=fun _=>true) _ _ fun m hm=>decide_eq_true (by omega),Q.aFe]
theorem aBk {xs s:List Int} {t:TypeId} {off:Nat} (hs:s.length=16) (hx:off+256<=xs.length) :
 aE Tryz.prog qN 80 (UN off s) (tZ xs t) 100 100 { val:=.eL [],wr:=[(60,.ints .u8 (Q.sA off 256 (Q.jA s) xs) t)] }:=by
 have aT:=uO
 have aX:=uP
 have UL:=Q.Tv s
 refine gQ aT aX Tryz.func80 (by kernel_rfl) rfl (Nat.le_of_ble_eq_true (by kernel_rfl)) rfl [] ?_
 intro w0 M V0 Q' eF H
 refine G.fL aT aX mix eF [] (bAb xs xs s (Q.jI s) (Q.jI s) t off off 0) (aA ?_) ?_
 .exact ⟨rfl,rfl,⟨rfl,rfl⟩,⟨rfl,rfl⟩,(eD UL).symm,trivial⟩
 refine G.loop (fun r s'=>∃ i:Nat,i<=10/\r=10-i/\s'=cA (Lb off i) (Kz xs (Q.jI s) (Q.it (Q.jI s) i) t) 102 [60] []) (r0:=10) ⟨0,by omega,rfl,rfl⟩ ?_
 rintro r s' ⟨i,hi,rfl,rfl⟩
 by_cases h:i<10
 .refine G.lF aT aX mix eF [true] (bAa xs xs xs (Q.jI s) (Q.it (Q.jI s) i) (Q.jI s) (Q.it (Q.jI s) (i+1)) t off off i ((i+1:Nat):Int)) (aA ?_) (10-(i+1)) (by omega) ⟨i+1,by omega,rfl,rfl⟩
  exact ⟨decide_eq_true (by omega),rfl,wC (by omega),⟨rfl,rfl⟩,⟨rfl,rfl⟩,(eD (Q.Gw _ UL (i+1))).symm,trivial⟩
 have e:i=10:=by omega
 subst e
 clear hi h
 have hv:=Q.Gw _ UL 10
 refine G.fL aT aX mix eF [false] (aZz xs xs xs (Q.jI s) (Q.it (Q.jI s) 10) (Q.jI s) (Q.it (Q.jI s) 10) t off off (10:Nat) (10:Nat)) (aA ?_) (G.leave (by simp) ?_)
 .exact ⟨decide_eq_false (by omega),rfl,rfl,⟨rfl,rfl⟩,⟨rfl,rfl⟩,rfl,trivial⟩
 refine G.fL aT aX mix eF [] (aZy xs xs xs (Q.jI s) (Q.it (Q.jI s) 10) (Q.jI s) (Q.it (Q.jI s) 10) t off off (10:Nat) 0) (aA ?_) ?_
 .exact ⟨rfl,rfl,⟨rfl,rfl⟩,⟨rfl,rfl⟩,⟨eD hv,rfl⟩,trivial⟩
 refine G.loop (fun r s'=>∃ i:Nat,i<=16/\r=16-i/\s'=cA (La off i) (sV (Q.Z off 256 (Q.dn i 0) (Q.jA s) xs) (Q.jI s) (Q.it (Q.jI s) 10) t) 102 [60] []) (r0:=16) ⟨0,by omega,rfl,by rw [Q.bAm];rfl⟩ ?_
 rintro r s' ⟨i,hi,rfl,rfl⟩
 by_cases h:i<16
 .refine G.fL aT aX mix eF [true] (aZv xs _ (Q.Z off 256 (Q.dn i 0) (Q.jA s) xs) (Q.jI s) (Q.it (Q.jI s) 10) (Q.jI s) (Q.it (Q.jI s) 10) t off off i i 0) (aA ?_) ?_
  .exact ⟨decide_eq_true (by omega),rfl,rfl,rfl,rfl,⟨rfl,rfl⟩,⟨rfl,rfl⟩,⟨rfl,rfl⟩,trivial⟩
  refine G.loop (fun r s'=>∃ k:Nat,k<=4/\r=4-k/\s'=cA (Pz off i k) (sV (Q.Z off 256 (Q.dn i k) (Q.jA s) xs) (Q.jI s) (Q.it (Q.jI s) 10) t) 102 [60] []) (r0:=4) ⟨0,by omega,rfl,rfl⟩ ?_
  rintro r s' ⟨k,hk,rfl,rfl⟩
  have hl:=Q.Nv off 256 (Q.dn i k) (Q.jA s) xs
  by_cases h4:k<4
  .refine G.lF aT aX mix eF [true] (aZu xs _ (Q.Z off 256 (Q.dn i (k+1)) (Q.jA s) xs) (Q.jI s) (Q.it (Q.jI s) 10) (Q.jI s) (Q.it (Q.jI s) 10) t off off i i k ((k+1:Nat):Int)) ?_ (4-(k+1)) (by omega) ⟨k+1,by omega,rfl,rfl⟩
   have ho:∀ n,n<=4->∀ r:List Prop,(∀ q∈r,q)->∀ q∈Q.ob off (Q.it (Q.jI s) 10) (Q.jI s) i k (Q.Z off 256 (Q.dn i k) (Q.jA s) xs) n r,q:=by
    intro n
    induction n with
    | zero=>intro _ r hr;exact hr
    | succ n ih=>
      intro hn r hr
      have e1:=Q.aFc off h h4 (n:=n) (by omega)
      have e2:=Q.aEn h h4 (n:=n) (by omega)
      have e3:=Q.Nw off (Q.it (Q.jI s) 10) (Q.jI s) i k (Q.Z off 256 (Q.dn i k) (Q.jA s) xs) n
      rw [Q.ob,e1,e2,e3,hl]
      exact aO (by omega) (aO (by omega) (aO (by omega) (aO (by omega) (ih (by omega) r hr))))
   refine ho 4 (Nat.le_refl 4) _ (aA ?_)
   refine ⟨by rw [UL];omega,by omega,by omega,by rw [hv];omega,by omega,by omega,decide_eq_true (by omega),rfl,rfl,rfl,wC (by omega),⟨Q.bBr hs h h4 hx,rfl⟩,⟨rfl,rfl⟩,⟨rfl,rfl⟩,trivial⟩
  .have e:k=4:=by omega
   subst e
   refine G.fL aT aX mix eF [false] (aZt xs _ (Q.Z off 256 (Q.dn i 4) (Q.jA s) xs) (Q.jI s) (Q.it (Q.jI s) 10) (Q.jI s) (Q.it (Q.jI s) 10) t off off i i (4:Nat) (4:Nat)) (aA ?_) (G.leave (by simp) ?_)
   .exact ⟨decide_eq_false (by omega),rfl,rfl,rfl,rfl,⟨rfl,rfl⟩,⟨rfl,rfl⟩,⟨rfl,rfl⟩,trivial⟩
   refine G.lF aT aX mix eF [] (aZs xs _ (Q.Z off 256 (Q.dn (i+1) 0) (Q.jA s) xs) (Q.jI s) (Q.it (Q.jI s) 10) (Q.jI s) (Q.it (Q.jI s) 10) t off off i ((i+1:Nat):Int) (4:Nat)) (aA ?_) (16-(i+1)) (by omega) ⟨i+1,by omega,rfl,rfl⟩
   exact ⟨rfl,wC (by omega),⟨Q.aCu _ _ _ _,rfl⟩,⟨rfl,rfl⟩,⟨rfl,rfl⟩,trivial⟩
 .have e:i=16:=by omega
  subst e
  refine G.fL aT aX mix eF [false] (aZx xs _ (Q.Z off 256 (Q.dn 16 0) (Q.jA s) xs) (Q.jI s) (Q.it (Q.jI s) 10) (Q.jI s) (Q.it (Q.jI s) 10) t off off (16:Nat) (16:Nat)) (aA ?_) (G.leave (by simp) ?_)
  .exact ⟨decide_eq_false (by omega),rfl,rfl,⟨rfl,rfl⟩,⟨rfl,rfl⟩,⟨rfl,rfl⟩,trivial⟩
  refine G.qR (cl:=[]) aT aX mix [] H (aZw xs _ (Q.jI s) (Q.it (Q.jI s) 10) t off (16:Nat)) iF rfl rfl ?_
  rw [Q.aUj]
namespace Q
def one (s:List Int):List Int:=B.out (B.rounds 10 s) s
def x4 (off:Nat) (s xs:List Int):List Int:=sA off 256 (jA s) xs
def tn (off:Nat) (b xs:List Int):List Int:=sA off 64 (b.getD · 0) xs
end Q
theorem WB (V:aY) (key nonce:List Int) (c:Int):den V (.agg (siV key nonce c))=den V (.ai .u32 (B.init key nonce c)):=rfl
theorem VY (key nonce:List Int) (c:Int) (hk:key.length=32) (hn:nonce.length=12) (Γ:Env) (hg:Γ.aR=aB) :
 aE Tryz.prog Γ 76 [.ai .u8 key,.int false .u32 c,.ai .u8 nonce] Dt 100 100 { val:=.ai .u32 (B.init key nonce c) }:=by
 have hs:aI Tryz.prog (env gB 4) 76 (aJ (env gB 4) Tryz.f76 true [] 400):=aN (bQ gB 4) (kX 4) mix Tryz.func76 (by kernel_rfl) true [] 400
 refine (hs.call (aHy key nonce c) iF).words (by rw [hg];rfl) (fun V=>?_) (fun _ _ h=>h) (fun V=>WB V _ _ _) rfl rfl
 simp only [aG,bI V hk,bI V hn]
theorem LC (s:List Int) (hl:s.length=16) (Γ:Env) (hg:Γ.aR=aB):aE Tryz.prog Γ 82 [.ai .u32 s] Dt 100 100 { val:=.ai .u8 (Q.one s) }:=by
 have hs:aI Tryz.prog (env gB 4) 82 (aJ (env gB 4) Tryz.f82 true [] 400):=aN (bQ gB 4) (kX 4) mix Tryz.func82 (by kernel_rfl) true [] 400
 have h:=hs.call (YU s) iF
 rw [eD hl] at h
 refine h.words (by rw [hg];rfl) (fun V=>?_) (fun _ _ h=>h) (fun V=>nE V _ _) rfl rfl
 simp only [aG,bI V hl]
theorem LW (s b:Bool) (Γ:Env) (hg:Γ.aR=aB):aE Tryz.prog Γ 77 [.raw (.pointer none),.bool s b] Dt 100 100 { val:=.bool s b }:=by
 have hs:aI Tryz.prog (env gB 2) 77 (aJ (env gB 2) Tryz.f77 true [] 400):=aN (bQ gB 2) (kX 2) mix Tryz.func77 (by kernel_rfl) true [] 400
 have h1:aJ (env gB 2) Tryz.f77 true [] 400 [.raw (.pointer none),.bool true true] (fun _=>none) 100 100=some { val:=.bool true true }:=by kernel_rfl
 have h2:aJ (env gB 2) Tryz.f77 true [] 400 [.raw (.pointer none),.bool true false] (fun _=>none) 100 100=some { val:=.bool true false }:=by kernel_rfl
 cases b with
 | true=>exact (hs.call h1 iF).words (by rw [hg];rfl) (fun _=>rfl) (fun _ _ h=>by cases h) (fun _=>rfl) rfl rfl
 | false=>exact (hs.call h2 iF).words (by rw [hg];rfl) (fun _=>rfl) (fun _ _ h=>by cases h) (fun _=>rfl) rfl rfl
def tG (vs:List SV) (_:aZ):Option Canon:=match vs with
 | [.raw (.pointer none),.bool s b]=>some { eR:=[.raw (.pointer none),.bool s b],T0:=[],vl:=[],e0:={ val:=.bool s b } }
 | _=>none
theorem Ci (Γ:Env) (hg:Γ.aR=aB):aI Tryz.prog Γ 77 (aL aB 100 tG):=by
 refine aW hg fun vs T c hd hc=>?_
 unfold tG at hd
 split at hd
 case h_2=>cases hd
 cases hd
 exact LW _ _ Γ hg
def EU (si:List Int->List Int->Int->List Int) (vs:List SV) (_:aZ):Option Canon:=match vs with
 | [ks,.int _ .u32 c,ns]=>match cK ks,cK ns with
   | some (.u8,k),some (.u8,n)=>some { eR:=[.ai .u8 k,.int false .u32 c,.ai .u8 n],T0:=[],vl:=[],e0:={ val:=.ai .u32 (si k n c) },conds:=[si k n c=B.init k n c,k.length=32,n.length=12] }
   | _,_=>none
 | _=>none
theorem aHx (si:List Int->List Int->Int->List Int) (Γ:Env) (hg:Γ.aR=aB):aI Tryz.prog Γ 76 (aL aB 100 (EU si)):=by
 refine aW hg fun vs T c hd hc=>?_
 unfold EU at hd
 split at hd
 case h_2=>cases hd
 split at hd
 case h_2=>cases hd
 cases hd
 have e:=hc _ cM
 rw [e]
 exact VY _ _ _ (hc _ (List.mem_cons_of_mem _ cM)) (hc _ (List.mem_cons_of_mem _ (List.mem_cons_of_mem _ cM))) Γ hg
def Qr (on:List Int->List Int) (vs:List SV) (_:aZ):Option Canon:=match vs with
 | [v]=>match cK v with
   | some (.u32,s)=>some { eR:=[.ai .u32 s],T0:=[],vl:=[],e0:={ val:=.ai .u8 (on s) },conds:=[on s=Q.one s,s.length=16] }
   | _=>none
 | _=>none
theorem aJs (on:List Int->List Int) (Γ:Env) (hg:Γ.aR=aB):aI Tryz.prog Γ 82 (aL aB 100 (Qr on)):=by
 refine aW hg fun vs T c hd hc=>?_
 unfold Qr at hd
 split at hd
 case h_2=>cases hd
 split at hd
 case h_2=>cases hd
 cases hd
 have e:=hc _ cM
 have h:=LC _ (hc _ (List.mem_cons_of_mem _ cM)) Γ hg
 rw [<- e] at h
 exact h
def GW (x4:Nat->List Int->List Int->List Int) (vs:List SV) (T:aZ):Option Canon:=match vs with
 | [v,.ptr l _ off]=>match cK v,T l with
   | some (.u32,s),some B=>match Bq B with
     | some (.u8,xs,t)=>some { eR:=[.ai .u32 s,.ptr 60 false off],T0:=[(60,.ints .u8 xs t)],vl:=[(60,.lab l 0)],e0:={ val:=.eL [],wr:=[(60,.ints .u8 (x4 off s xs) t)] },conds:=[x4 off s xs=Q.x4 off s xs,s.length=16,off+256<=xs.length] }
     | _=>none
   | _,_=>none
 | _=>none
theorem aLh (x4:Nat->List Int->List Int->List Int) (Γ:Env) (hg:Γ.aR=aB):aI Tryz.prog Γ 80 (aL aB 100 (GW x4)):=by
 refine aW hg fun vs T c hd hc=>?_
 unfold GW at hd
 split at hd
 case h_2=>cases hd
 split at hd
 case h_2=>cases hd
 split at hd
 case h_2=>cases hd
 cases hd
 have e:=hc _ cM
 have hl:=hc _ (List.mem_cons_of_mem _ cM)
 rw [e]
 exact (aBk hl (hc _ (List.mem_cons_of_mem _ (List.mem_cons_of_mem _ cM)))).words (by rw [hg];rfl) (fun V=>by simp only [UN,aG,bI V hl]) (fun _ _ h=>h) (fun _=>rfl) rfl rfl
def EP (tn:Nat->List Int->List Int->List Int) (vs:List SV) (T:aZ):Option Canon:=match vs with
 | [.ptr l _ off,v]=>match cK v,T l with
   | some (.u8,b),some B=>match Bq B with
     | some (.u8,xs,t)=>some { eR:=[.ptr 60 false off,.ai .u8 b],T0:=[(60,.ints .u8 xs t)],vl:=[(60,.lab l 0)],e0:={ val:=.eL [],wr:=[(60,.ints .u8 (tn off b xs) t)] },conds:=[tn off b xs=Q.tn off b xs,b.length=64,off+64<=xs.length] }
     | _=>none
   | _,_=>none
 | _=>none
theorem aHu (tn:Nat->List Int->List Int->List Int) (Γ:Env) (hg:Γ.aR=aB):aI Tryz.prog Γ 81 (aL aB 100 (EP tn)):=by
 refine aW hg fun vs T c hd hc=>?_
 unfold EP at hd
 split at hd
 case h_2=>cases hd
 split at hd
 case h_2=>cases hd
 split at hd
 case h_2=>cases hd
 cases hd
 have e:=hc _ cM
 rw [e]
 exact (VQ (hc _ (List.mem_cons_of_mem _ cM)) (hc _ (List.mem_cons_of_mem _ (List.mem_cons_of_mem _ cM)))).words (by rw [hg];rfl) (fun _=>rfl) (fun _ _ h=>h) (fun _=>rfl) rfl rfl
noncomputable def aPn (si:List Int->List Int->Int->List Int) (x4 tn:Nat->List Int->List Int->List Int) (on:List Int->List Int):Nat->Option Sum:=
 dM (dM (dM (dM (dM gB 77 (aL aB 100 tG)) 76 (aL aB 100 (EU si))) 82 (aL aB 100 (Qr on))) 80 (aL aB 100 (GW x4))) 81 (aL aB 100 (EP tn))
theorem gL:∀ f S,gB f=some S->∀ Γ:Env,Γ.aR=aB->aI Tryz.prog Γ f S:=fun f S h Γ _=>qU f S h Γ
theorem aBy (si:List Int->List Int->Int->List Int) (x4 tn:Nat->List Int->List Int->List Int) (on:List Int->List Int):∀ f S,aPn si x4 tn on f=some S->∀ Γ:Env,Γ.aR=aB->aI Tryz.prog Γ f S:=
 bD (bD (bD (bD (bD gL 77 _ Ci) 76 _ (aHx si)) 82 _ (aJs on)) 80 _ (aLh x4)) 81 _ (aHu tn)
namespace P
def W (n:Int):Int:=IntKind.u64.wrap n
def sh (n:Int):Int:=bZ .u64 n 26
def lo (n:Int):Int:=bU .u64 n 67108863
def c1 (x:List Int):Int:=W (x.getD 1 0+sh (x.getD 0 0))
def c2 (x:List Int):Int:=W (x.getD 2 0+sh (c1 x))
def c3 (x:List Int):Int:=W (x.getD 3 0+sh (c2 x))
def c4 (x:List Int):Int:=W (x.getD 4 0+sh (c3 x))
def pass (x:List Int):List Int:=[W (lo (x.getD 0 0)+W (5*sh (c4 x))),lo (c1 x),lo (c2 x),lo (c3 x),lo (c4 x)]
def settled (x:List Int):List Int:=pass (pass x)
theorem nG (x:List Int):(settled x).length=5:=rfl
def word (a b c d:Int):Int:=kN .u64 (kN .u64 (kN .u64 (W a) (dI .u64 (W b) 8)) (dI .u64 (W c) 16)) (dI .u64 (W d) 24)
def kB (b:List Int):List Int:=[lo (word (b.getD 0 0) (b.getD 1 0) (b.getD 2 0) (b.getD 3 0)),lo (bZ .u64 (word (b.getD 3 0) (b.getD 4 0) (b.getD 5 0) (b.getD 6 0)) 2),
 lo (bZ .u64 (word (b.getD 6 0) (b.getD 7 0) (b.getD 8 0) (b.getD 9 0)) 4),bZ .u64 (word (b.getD 9 0) (b.getD 10 0) (b.getD 11 0) (b.getD 12 0)) 6,word (b.getD 13 0) (b.getD 14 0) (b.getD 15 0) (b.getD 16 0)]
def num (b:List Int):List Int:=settled (kB b)
def Iv (b:List Int) (i:Nat):Int:=match i%4 with
 | 3=>bU .u8 (b.getD i 0) 15
 | 0=>match i with
   | 0=>b.getD i 0
   | _=>bU .u8 (b.getD i 0) 252
 | _=>b.getD i 0
def dQ (b:List Int):List Int:=(List.range 16).map (Iv b)++[0]
def Qe (a b:List Int):List Int:=(List.range 5).map fun j=>W (a.getD j 0+b.getD j 0)
def add (a b:List Int):List Int:=settled (Qe a b)
def Qu (a b:List Int) (i:Nat):Nat->List Int->List Int
 | 0,d=>d
 | k+1,d=>(Qu a b i k d).set (i+k) (W ((Qu a b i k d).getD (i+k) 0+W (a.getD i 0*b.getD k 0)))
def TZ (a b:List Int):Nat->List Int
 | 0=>List.replicate 10 0
 | i+1=>Qu a b i 5 (TZ a b i)
def mulL (a b:List Int):List Int:=(List.range 5).map fun j=>W ((TZ a b 5).getD j 0+W (5*(TZ a b 5).getD (j+5) 0))
def mul (a b:List Int):List Int:=settled (mulL a b)
end P
namespace P
def g0 (t:List Int):Int:=W (t.getD 0 0+5)
def g1 (t:List Int):Int:=W (t.getD 1 0+sh (g0 t))
def g2 (t:List Int):Int:=W (t.getD 2 0+sh (g1 t))
def g3 (t:List Int):Int:=W (t.getD 3 0+sh (g2 t))
def g4 (t:List Int):Int:=W (t.getD 4 0+sh (g3 t))
def pick (x a b:Int):Int:=iK .u64 b (bU .u64 (W (0-bU .u64 x 1)) (iK .u64 a b))
def xF (t:List Int):List Int:=[pick (sh (g4 t)) (lo (g0 t)) (t.getD 0 0),pick (sh (g4 t)) (lo (g1 t)) (t.getD 1 0),pick (sh (g4 t)) (lo (g2 t)) (t.getD 2 0),pick (sh (g4 t)) (lo (g3 t)) (t.getD 3 0),pick (sh (g4 t)) (lo (g4 t)) (t.getD 4 0)]
def least (a:List Int):List Int:=xF (settled a)
def low (t:List Int):Int:=kN .u64 (kN .u64 (t.getD 0 0) (dI .u64 (t.getD 1 0) 26)) (dI .u64 (t.getD 2 0) 52)
def high (t:List Int):Int:=kN .u64 (kN .u64 (bZ .u64 (t.getD 2 0) 12) (dI .u64 (t.getD 3 0) 14)) (dI .u64 (t.getD 4 0) 40)
def byteOf (x:Int) (i:Nat):Int:=IntKind.u8.wrap (bZ .u64 x (8*(i:Int)))
def lI (t:List Int):List Int:=(List.range 8).map (byteOf (low t))++((List.range 8).map (byteOf (high t))++[IntKind.u8.wrap (bZ .u64 (t.getD 4 0) 24)])
def acc (b:List Int) (k:Nat):Nat->Int
 | 0=>0
 | i+1=>kN .u64 (acc b k i) (dI .u64 (W (b.getD (k+i) 0)) (8*(i:Int)))
def ER (b s:List Int):Int:=(acc b 0 8+acc s 0 8+0)%18446744073709551616
def ES (b s:List Int):Int:=(acc b 8 8+acc s 8 8+(acc b 0 8+acc s 0 8+0)/18446744073709551616)%18446744073709551616
def aFi (b s:List Int):List Int:=(List.range 8).map (byteOf (ER b s))++(List.range 8).map (byteOf (ES b s))
end P
def P.tag (a s:List Int):List Int:=P.aFi (P.lI (P.least a)) s
structure P.MS where
 eT:List Int
 sum:List Int
 mask:List Int
 aM:List Int
 held:Nat
def P.plus (s b y:List Int):List Int:=P.mul (P.add s (P.num b)) y
namespace P
def nL:List Int:=List.replicate 16 0
def byte (S:MS) (c:Int):MS:=
 if S.held=15 then ⟨S.eT,plus S.sum (S.aM.set S.held c++[1]) S.eT,S.mask,nL,0⟩
 else ⟨S.eT,S.sum,S.mask,S.aM.set S.held c,S.held+1⟩
def put (S:MS) (d:List Int):MS:=d.foldl byte S
theorem YJ (S:MS):put S []=S:=rfl
theorem lP (S:MS) (a b:List Int):put S (a++b)=put (put S a) b:=List.foldl_append
structure MS.WF (S:MS):Prop where
 b5:S.eT.length=5
 s5:S.sum.length=5
 Oz:S.mask.length=16
 Pb:S.aM.length=16
 hl:S.held<16
 z:S.aM.drop S.held=List.replicate (16-S.held) 0
theorem aDb {S:MS} (h:S.WF) (c:Int):(byte S c).WF:=by
 obtain ⟨eT,sum,mask,aM,held⟩:=S
 obtain ⟨h1,h2,h3,h4,h5,h6⟩:=h
 simp only at h1 h2 h3 h4 h5 h6
 unfold byte
 simp only
 split
 .exact ⟨h1,rfl,h3,rfl,by simp only;omega,rfl⟩
 .refine ⟨h1,h2,h3,by simpa using h4,by simp only;omega,?_⟩
  simp only
  have e:(aM.set held c).drop (held+1)=aM.drop (held+1):=by
   rw [List.drop_set];simp
  rw [e,<- List.drop_drop,h6,List.drop_replicate]
  congr 1
theorem Ii {S:MS} (h:S.WF) (d:List Int):(put S d).WF:=by
 induction d generalizing S with
 | nil=>exact h
 | cons c d ih=>exact ih (aDb h c)
theorem uX (eT sum mask:List Int):∀ (d aM:List Int) (held:Nat),aM.length=16->held+d.length<16 ->
 put ⟨eT,sum,mask,aM,held⟩ d=⟨eT,sum,mask,aM.take held++d++aM.drop (held+d.length),held+d.length⟩
 | [],aM,held,hb,_=>by simp [put]
 | c::d,aM,held,hb,hl=>by
   rw [List.length_cons] at hl
   have e:put ⟨eT,sum,mask,aM,held⟩ (c::d)=put ⟨eT,sum,mask,aM.set held c,held+1⟩ d:=by
    show put (byte _ c) d=_
    unfold byte
    rw [if_neg (by simp only;omega)]
   rw [e,uX eT sum mask d (aM.set held c) (held+1) (by simpa using hb) (by omega)]
   have e1:(aM.set held c).take (held+1)=aM.take held++[c]:=by
    rw [List.take_set,List.take_add_one,List.getElem?_eq_getElem (show held<aM.length by omega)]
    apply List.ext_getElem
    .simp;omega
    .intro i h1 h2
     simp only [List.length_set,List.length_append,List.length_take,List.length_cons,List.length_nil] at h1 h2
     by_cases hi:i=held
     .subst hi;simp [List.getElem_append];omega
     .rw [List.getElem_set_ne (by omega)]
      have:i<held:=by simp at h1;omega
      simp [List.getElem_append]
      intro h;omega
   have e2:(aM.set held c).drop (held+1+d.length)=aM.drop (held+1+d.length):=by
    rw [List.drop_set,if_pos (by omega)]
   rw [e1,e2,List.length_cons]
   simp only [List.append_assoc,List.cons_append,List.nil_append,show held+1+d.length=held+(d.length+1) by omega]
theorem Cs (eT sum mask:List Int) (d aM:List Int) (held:Nat) (hb:aM.length=16) (hl:held+d.length=16) (hd:d≠[]) :
 put ⟨eT,sum,mask,aM,held⟩ d=⟨eT,plus sum (aM.take held++d++[1]) eT,mask,nL,0⟩:=by
 obtain ⟨a,c,rfl⟩:∃ a c,d=a++[c]:=⟨d.dropLast,d.getLast hd,(List.dropLast_concat_getLast hd).symm⟩
 rw [List.length_append,List.length_singleton] at hl
 rw [lP,uX eT sum mask a aM held hb (by omega)]
 show byte _ c=_
 unfold byte
 rw [if_pos (by simp only;omega)]
 simp only
 have e:(aM.take held++a++aM.drop (held+a.length)).set (held+a.length) c=aM.take held++(a++[c]):=by
  have cJ:(aM.take held++a).length=held+a.length:=by simp;omega
  obtain ⟨z,hz⟩:∃ z,aM.drop (held+a.length)=[z]:=by
   have:(aM.drop (held+a.length)).length=1:=by simp;omega
   match aM.drop (held+a.length),this with
   | [z],_=>exact ⟨z,rfl⟩
  rw [hz,List.set_append_right _ _ (by omega),cJ,Nat.sub_self]
  simp
 rw [e]
end P
theorem aVi (x:List Int):aJ (env gB 3) Tryz.f202 true [] 1500 [.agg (cO .u64 5 x)] Dt 100 100=some { val:=.agg ((P.settled x).map (.int false .u64)) }:=by kernel_rfl
theorem VX (x:List Int) (hl:x.length=5) (Γ:Env) (hg:Γ.aR=aB):aE Tryz.prog Γ 202 [.ai .u64 x] Dt 100 100 { val:=.agg (cO .u64 5 (P.settled x)) }:=by
 have hs:aI Tryz.prog (env gB 3) 202 (aJ (env gB 3) Tryz.f202 true [] 1500):=aN (bQ gB 3) (bW gB (fun f S h Γ _=>qU f S h Γ) 3) mix Tryz.func202 (by kernel_rfl) true [] 1500
 refine (hs.call (aVi x) (by simp)).words (by rw [hg];rfl) (fun V=>?_) (fun _ _ h=>h) (fun V=>(nE V _ _).trans (bI V rfl).symm) rfl rfl
 simp only [aG,bI V hl]
def ET (fZ:List Int->List Int) (vs:List SV) (_:aZ):Option Canon:=match vs with
 | [v]=>match cK v with
   | some (.u64,x)=>some { eR:=[.ai .u64 x],T0:=[],vl:=[],e0:={ val:=.agg (cO .u64 5 (fZ x)) },conds:=[x.length=5,fZ x=P.settled x] }
   | _=>none
 | _=>none
theorem aHw (fZ:List Int->List Int) (Γ:Env) (hg:Γ.aR=aB):aI Tryz.prog Γ 202 (aL aB 100 (ET fZ)):=by
 refine aW hg fun vs T c hd hc=>?_
 unfold ET at hd
 split at hd
 case h_2=>cases hd
 split at hd
 case h_2=>cases hd
 cases hd
 have e:=hc _ (List.mem_cons_of_mem _ cM)
 have h:=VX _ (hc _ cM) Γ hg
 rw [<- e] at h
 exact h
noncomputable def Qc (fZ:List Int->List Int):Nat->Option Sum:=dM gB 202 (aL aB 100 (ET fZ))
theorem aBw (fZ:List Int->List Int):∀ f S,Qc fZ f=some S->∀ Γ:Env,Γ.aR=aB->aI Tryz.prog Γ f S:=bD gL 202 _ (aHw fZ)
def pOb (fZ:List Int->List Int) (Y:List Int):List Prop:=[Y.length=5,fZ Y=P.settled Y,Y=Y]
def pV (fZ:List Int->List Int) (Y:List Int):SV:=.agg (cO .u64 5 (fZ Y))
theorem bAy (fZ:List Int->List Int) (b:List Int):aJ (env (Qc fZ) 4) Tryz.f173 true [] 1500 [.agg (cO .u8 17 b)] Dt 100 100=some { bK:=pOb fZ (P.kB b),val:=pV fZ (P.kB b) }:=by kernel_rfl
theorem bAv (fZ:List Int->List Int) (b:List Int):aJ (env (Qc fZ) 4) Tryz.f126 true [] 1500 [.agg (cO .u8 16 b)] Dt 100 100=some { bK:=pOb fZ (P.kB (P.dQ b)),val:=pV fZ (P.kB (P.dQ b)) }:=by kernel_rfl
theorem aWl (fZ:List Int->List Int) (a b:List Int):aJ (env (Qc fZ) 4) Tryz.f172 true [] 1500 [.raw (.pointer none),.agg (cO .u64 5 a),.agg (cO .u64 5 b)] Dt 100 100=some { bK:=pOb fZ (P.Qe a b),val:=pV fZ (P.Qe a b) }:=by kernel_rfl
theorem aWj (fZ:List Int->List Int) (a b:List Int):aJ (env (Qc fZ) 4) Tryz.f171 true [] 1500 [.raw (.pointer none),.agg (cO .u64 5 a),.agg (cO .u64 5 b)] Dt 100 100=some { bK:=pOb fZ (P.mulL a b),val:=pV fZ (P.mulL a b) }:=by kernel_rfl
theorem Ce {Y:List Int} (h:Y.length=5):∀ q∈pOb P.settled Y,q:=aA (l:=pOb P.settled Y) (show _/\_/\_/\True from ⟨h,rfl,rfl,trivial⟩)
theorem Up (V:aY) (Y:List Int):den V (pV P.settled Y)=den V (.ai .u64 (P.settled Y)):=bI V rfl
noncomputable def yT:Env:=env (Qc P.settled) 4
theorem uR:cI Tryz.prog yT:=bW _ (aBw _) 4
theorem uQ:cB Tryz.prog yT:=bQ _ 4
theorem aDf (b:List Int) (hl:b.length=17) (Γ:Env) (hg:Γ.aR=aB):aE Tryz.prog Γ 173 [.ai .u8 b] Dt 100 100 { val:=.ai .u64 (P.num b) }:=by
 have hs:aI Tryz.prog yT 173 (aJ yT Tryz.f173 true [] 1500):=aN uQ uR mix Tryz.func173 (by kernel_rfl) true [] 1500
 refine (hs.call (bAy _ b) (Ce rfl)).words (by rw [hg];rfl) (fun V=>?_) (fun _ _ h=>h) (fun V=>Up V _) rfl rfl
 simp only [aG,bI V hl]
theorem QC (b:List Int) (hl:b.length=16) (Γ:Env) (hg:Γ.aR=aB):aE Tryz.prog Γ 126 [.ai .u8 b] Dt 100 100 { val:=.ai .u64 (P.num (P.dQ b)) }:=by
 have hs:aI Tryz.prog yT 126 (aJ yT Tryz.f126 true [] 1500):=aN uQ uR mix Tryz.func126 (by kernel_rfl) true [] 1500
 refine (hs.call (bAv _ b) (Ce rfl)).words (by rw [hg];rfl) (fun V=>?_) (fun _ _ h=>h) (fun V=>Up V _) rfl rfl
 simp only [aG,bI V hl]
theorem LB (a b:List Int) (ha:a.length=5) (hb:b.length=5) (Γ:Env) (hg:Γ.aR=aB):aE Tryz.prog Γ 172 [.raw (.pointer none),.ai .u64 a,.ai .u64 b] Dt 100 100 { val:=.ai .u64 (P.add a b) }:=by
 have hs:aI Tryz.prog yT 172 (aJ yT Tryz.f172 true [] 1500):=aN uQ uR mix Tryz.func172 (by kernel_rfl) true [] 1500
 refine (hs.call (aWl _ a b) (Ce rfl)).words (by rw [hg];rfl) (fun V=>?_) (fun _ _ h=>h) (fun V=>Up V _) rfl rfl
 simp only [aG,bI V ha,bI V hb]
theorem KY (a b:List Int) (ha:a.length=5) (hb:b.length=5) (Γ:Env) (hg:Γ.aR=aB):aE Tryz.prog Γ 171 [.raw (.pointer none),.ai .u64 a,.ai .u64 b] Dt 100 100 { val:=.ai .u64 (P.mul a b) }:=by
 have hs:aI Tryz.prog yT 171 (aJ yT Tryz.f171 true [] 1500):=aN uQ uR mix Tryz.func171 (by kernel_rfl) true [] 1500
 refine (hs.call (aWj _ a b) (Ce rfl)).words (by rw [hg];rfl) (fun V=>?_) (fun _ _ h=>h) (fun V=>Up V _) rfl rfl
 simp only [aG,bI V ha,bI V hb]
def agV (x:List Int):SV:=.agg (cO .u64 5 x)
def aiV (x:List Int):SV:=.ai .u64 x
def HW (be:List Int->List Int) (vs:List SV) (_:aZ):Option Canon:=match vs with
 | [v]=>match cK v with
   | some (.u8,b)=>some { eR:=[.ai .u8 b],T0:=[],vl:=[],e0:={ val:=.ai .u64 (be b) },conds:=[b.length=17,be b=P.num b] }
   | _=>none
 | _=>none
def Vc (cp:List Int->List Int) (vs:List SV) (_:aZ):Option Canon:=match vs with
 | [v]=>match cK v with
   | some (.u8,b)=>some { eR:=[.ai .u8 b],T0:=[],vl:=[],e0:={ val:=agV (cp b) },conds:=[b.length=16,cp b=P.num (P.dQ b)] }
   | _=>none
 | _=>none
def Uq (wv:List Int->SV) (g g':List Int->List Int->List Int) (vs:List SV) (_:aZ):Option Canon:=match vs with
 | [.raw (.pointer none),v,u]=>match cK v,cK u with
   | some (.u64,a),some (.u64,b)=>some { eR:=[.raw (.pointer none),.ai .u64 a,.ai .u64 b],T0:=[],vl:=[],e0:={ val:=wv (g a b) },conds:=[a.length=5,b.length=5,g a b=g' a b] }
   | _,_=>none
 | _=>none
theorem aNm (be:List Int->List Int) (Γ:Env) (hg:Γ.aR=aB):aI Tryz.prog Γ 173 (aL aB 100 (HW be)):=by
 refine aW hg fun vs T c hd hc=>?_
 unfold HW at hd
 split at hd
 case h_2=>cases hd
 split at hd
 case h_2=>cases hd
 cases hd
 have e:=hc _ (List.mem_cons_of_mem _ cM)
 have h:=aDf _ (hc _ cM) Γ hg
 rw [<- e] at h
 exact h
theorem JZ (cp:List Int->List Int) (Γ:Env) (hg:Γ.aR=aB):aI Tryz.prog Γ 126 (aL aB 100 (Vc cp)):=by
 refine aW hg fun vs T c hd hc=>?_
 unfold Vc at hd
 split at hd
 case h_2=>cases hd
 split at hd
 case h_2=>cases hd
 cases hd
 have e:=hc _ (List.mem_cons_of_mem _ cM)
 have h:=(QC _ (hc _ cM) Γ hg).words (e':={ val:=agV (P.num (P.dQ _)) }) rfl (fun _=>rfl) (fun _ _ h=>h) (fun V=>(bI V (P.nG _)).symm) rfl rfl
 rw [<- e] at h
 exact h
theorem aEc {wv:List Int->SV} {g':List Int->List Int->List Int} {f:Nat} (hw:∀ (V:aY) (a b:List Int),den V (.ai .u64 (g' a b))=den V (wv (g' a b))) (g:List Int->List Int->List Int)
 (hN:∀ (a b:List Int),a.length=5->b.length=5->∀ (Γ:Env),Γ.aR=aB->aE Tryz.prog Γ f [.raw (.pointer none),.ai .u64 a,.ai .u64 b] Dt 100 100 { val:=.ai .u64 (g' a b) })
 (Γ:Env) (hg:Γ.aR=aB):aI Tryz.prog Γ f (aL aB 100 (Uq wv g g')):=by
 refine aW hg fun vs T c hd hc=>?_
 unfold Uq at hd
 split at hd
 .split at hd
  case h_2=>cases hd
  cases hd
  have e:=hc _ (List.mem_cons_of_mem _ (List.mem_cons_of_mem _ cM))
  have h:=(hN _ _ (hc _ cM) (hc _ (List.mem_cons_of_mem _ cM)) Γ hg).words (e':={ val:=wv (g' _ _) }) rfl (fun _=>rfl) (fun _ _ h=>h) (fun V=>hw V _ _) rfl rfl
  rw [<- e] at h
  exact h
 .cases hd
noncomputable def aPm (be:List Int->List Int) (al mu:List Int->List Int->List Int):Nat->Option Sum:=dM (dM (dM (dM (dM gB 77 (aL aB 100 tG)) 173 (aL aB 100 (HW be))) 126 (aL aB 100 (Vc fun b=>P.num (P.dQ b)))) 172 (aL aB 100 (Uq aiV al P.add))) 171 (aL aB 100 (Uq agV mu P.mul))
theorem aBv (be:List Int->List Int) (al mu:List Int->List Int->List Int):∀ f S,aPm be al mu f=some S->∀ Γ:Env,Γ.aR=aB->aI Tryz.prog Γ f S:=
 bD (bD (bD (bD (bD gL 77 _ Ci) 173 _ (aNm be)) 126 _ (JZ _)) 172 _ (aEc (fun _ _ _=>rfl) al LB)) 171 _ (aEc (fun V a b=>(bI V (P.nG _)).symm) mu KY)
theorem aWk (fZ:List Int->List Int) (a:List Int):aJ (env (Qc fZ) 4) Tryz.f204 true [] 1500 [.agg (cO .u64 5 a)] Dt 100 100=some { bK:=pOb fZ ((List.range 5).map fun j=>a.getD j 0),val:=.agg ((P.xF (fZ ((List.range 5).map fun j=>a.getD j 0))).map (.int false .u64)) }:=by kernel_rfl
theorem YM (a:List Int) (ha:a.length=5) (Γ:Env) (hg:Γ.aR=aB):aE Tryz.prog Γ 204 [.ai .u64 a] Dt 100 100 { val:=.agg (cO .u64 5 (P.least a)) }:=by
 have hs:aI Tryz.prog yT 204 (aJ yT Tryz.f204 true [] 1500):=aN uQ uR mix Tryz.func204 (by kernel_rfl) true [] 1500
 have e:(List.range 5).map (fun j=>a.getD j 0)=a:=by
  match a,ha with
  | [_,_,_,_,_],_=>rfl
 have h:=aWk P.settled a
 rw [e] at h
 refine (hs.call h (Ce ha)).words (by rw [hg];rfl) (fun V=>?_) (fun _ _ h=>h) (fun V=>(nE V _ _).trans (bI V rfl).symm) rfl rfl
 simp only [aG,bI V ha]
def Qw (nI:List Int->List Int) (vs:List SV) (_:aZ):Option Canon:=match vs with
 | [v]=>match cK v with
   | some (.u64,a)=>some { eR:=[.ai .u64 a],T0:=[],vl:=[],e0:={ val:=.agg (cO .u64 5 (nI a)) },conds:=[a.length=5,nI a=P.least a] }
   | _=>none
 | _=>none
theorem aKl (nI:List Int->List Int) (Γ:Env) (hg:Γ.aR=aB):aI Tryz.prog Γ 204 (aL aB 100 (Qw nI)):=by
 refine aW hg fun vs T c hd hc=>?_
 unfold Qw at hd
 split at hd
 case h_2=>cases hd
 split at hd
 case h_2=>cases hd
 cases hd
 have e:=hc _ (List.mem_cons_of_mem _ cM)
 have h:=YM _ (hc _ cM) Γ hg
 rw [<- e] at h
 exact h
noncomputable def UR (nI:List Int->List Int):Nat->Option Sum:=dM gB 204 (aL aB 100 (Qw nI))
theorem aBu (nI:List Int->List Int):∀ f S,UR nI f=some S->∀ Γ:Env,Γ.aR=aB->aI Tryz.prog Γ f S:=bD gL 204 _ (aKl nI)
def aFk (b s:List Int):List Prop:=[0<=P.acc b 8 8/\0<=P.acc s 8 8/\0<=(P.acc b 0 8+P.acc s 0 8+0)/18446744073709551616/\(P.acc b 0 8+P.acc s 0 8+0)/18446744073709551616<=1,0<=P.acc b 0 8/\0<=P.acc s 0 8/\(0:Int)<=0/\(0:Int)<=1]
def c5 (a:List Int):List Int:=(List.range 5).map fun j=>a.getD j 0
theorem aWh (nI:List Int->List Int) (a s:List Int):aJ (env (UR nI) 4) Tryz.f129 true [] 3000 [.agg (cO .u64 5 a),.agg (cO .u8 16 s)] Dt 100 100 =
 some { bK:=aFk (P.lI (nI (c5 a))) s++[(c5 a).length=5,nI (c5 a)=P.least (c5 a),c5 a=c5 a],val:=.agg ((P.aFi (P.lI (nI (c5 a))) s).map (.int false .u8)) }:=by kernel_rfl
theorem P.aUp (n:Int):0<=IntKind.u64.wrap n/\IntKind.u64.wrap n<18446744073709551616:=by
 have e:IntKind.u64.wrap n=n%18446744073709551616:=rfl
 rw [e];omega
theorem P.Af (b:List Int) (k:Nat):∀ n,0<=P.acc b k n/\P.acc b k n<18446744073709551616
 | 0=>⟨Int.le_refl 0,(by decide:(0:Int)<18446744073709551616)⟩
 | _+1=>P.aUp _
theorem WA (b s:List Int):∀ q∈aFk b s,q:=by
 have h1:=P.Af b 0 8
 have h2:=P.Af s 0 8
 have h3:=P.Af b 8 8
 have h4:=P.Af s 8 8
 refine aA (l:=aFk b s) (show _/\_/\True from ⟨⟨h3.1,h4.1,?_,?_⟩,⟨h1.1,h2.1,Int.le_refl 0,by decide⟩,trivial⟩)
 .omega
 .omega
theorem YI (a s:List Int) (ha:a.length=5) (Dv:s.length=16) (Γ:Env) (hg:Γ.aR=aB):aE Tryz.prog Γ 129 [.ai .u64 a,.ai .u8 s] Dt 100 100 { val:=.agg (cO .u8 16 (P.tag a s)) }:=by
 have hs:aI Tryz.prog (env (UR P.least) 4) 129 (aJ (env (UR P.least) 4) Tryz.f129 true [] 3000):=aN (bQ _ 4) (bW _ (aBu _) 4) mix Tryz.func129 (by kernel_rfl) true [] 3000
 have e:c5 a=a:=by
  match a,ha with
  | [_,_,_,_,_],_=>rfl
 have h:=aWh P.least a s
 rw [e] at h
 refine (hs.call h (fun q hq=>(List.mem_append.1 hq).elim (WA _ _ q) (aA (l:=[a.length=5,P.least a=P.least a,a=a]) (show _/\_/\_/\True from ⟨ha,rfl,rfl,trivial⟩) q))).words (by rw [hg];rfl) (fun V=>?_) (fun _ _ h=>h) (fun V=>(nE V _ _).trans (bI V (k:=.u8) (n:=16) (xs:=P.tag a s) rfl).symm) rfl rfl
 simp only [aG,bI V ha,bI V Dv]
def Uo (vs:List SV) (_:aZ):Option Canon:=match vs with
 | [v,u]=>match cK v,cK u with
   | some (.u64,a),some (.u8,s)=>some { eR:=[.ai .u64 a,.ai .u8 s],T0:=[],vl:=[],e0:={ val:=.agg (cO .u8 16 (P.tag a s)) },conds:=[a.length=5,s.length=16] }
   | _,_=>none
 | _=>none
theorem IU (Γ:Env) (hg:Γ.aR=aB):aI Tryz.prog Γ 129 (aL aB 100 Uo):=by
 refine aW hg fun vs T c hd hc=>?_
 unfold Uo at hd
 split at hd
 case h_2=>cases hd
 split at hd
 case h_2=>cases hd
 cases hd
 exact YI _ _ (hc _ (by simp)) (hc _ (by simp)) Γ hg
noncomputable def aEw (be:List Int->List Int) (al mu:List Int->List Int->List Int):Nat->Option Sum:=dM (aPm be al mu) 129 (aL aB 100 Uo)
theorem PI (be:List Int->List Int) (al mu:List Int->List Int->List Int):∀ f S,aEw be al mu f=some S->∀ Γ:Env,Γ.aR=aB->aI Tryz.prog Γ f S:=bD (aBv be al mu) 129 _ IU
theorem aE.same {P:Program} {Γ:Env} {f:FuncId} {vs:List SV} {T:aZ} {lab F l0:Nat} {B:SB} {e:bJ} (h:aE P Γ f vs T lab F e) (hT:T l0=some B) (hn:look l0 (e.eG lab)=none) :
 aE P Γ f vs T lab F { e with wr:=(l0,B)::e.wr }:=by
 intro w0 M V T2 w ys aK hT1 hg hf hF hx op a K Q hK
 refine h w0 M V T2 w ys aK hT1 hg hf hF hx op a K Q fun V' x w' h1 h2 h3=>hK V' x w' h1 h2 ?_
 have e1:eE T2 lab { e with wr:=(l0,B)::e.wr }=eE T2 lab e:=by
  funext l
  simp only [eE,bJ.eG,List.cons_append] at hn |-
  by_cases q:l=l0
  .subst q;rw [aF,hn,aK l B hT]
  .rw [aD (fun r=>q r.symm)]
 rw [e1]
 exact h3
noncomputable def DI (be:List Int->List Int) (al mu:List Int->List Int->List Int):Env:=env (aEw be al mu) 4
theorem VF (be:List Int->List Int) (al mu:List Int->List Int->List Int):cB Tryz.prog (DI be al mu):=bQ _ 4
theorem VG (be:List Int->List Int) (al mu:List Int->List Int->List Int):cI Tryz.prog (DI be al mu):=bW _ (PI be al mu) 4
def mN (S:P.MS):List SV:=.raw (.pointer none)::(cO .u64 5 S.eT++(cO .u64 5 S.sum++(cO .u8 16 S.mask++(cO .u8 16 S.aM++[.int false .i64 (S.held:Int)]))))
def mnL (S:P.MS):List (Nat × SB):=[(60,.own (mN S) 182)]
def mnT (S:P.MS):aZ:=fun l=>look l (mnL S)
def mtL (S:P.MS) (d:List Int):List (Nat × SB):=[(60,.own (mN S) 182),(61,.gO .u8 d)]
def QS (S:P.MS) (d:List Int):aZ:=fun l=>look l (mtL S d)
def Yd (b:List Int):List Int:=(List.range 17).map fun j=>b.getD j 0
def plX (be:List Int->List Int) (al mu:List Int->List Int->List Int) (S:P.MS) (s b:List Int):List Int:=mu (al (c5 s) (be (Yd b))) (c5 S.eT)
def pnO (be:List Int->List Int) (al mu:List Int->List Int->List Int) (S:P.MS) (s b:List Int):List Prop:=
 let A:=al (c5 s) (be (Yd b))
 [A.length=5,(c5 S.eT).length=5,mu A (c5 S.eT)=P.mul A (c5 S.eT),A=A,c5 S.eT=c5 S.eT,
  (c5 s).length=5,(be (Yd b)).length=5,al (c5 s) (be (Yd b))=P.add (c5 s) (be (Yd b)),c5 s=c5 s,be (Yd b)=be (Yd b),
  (Yd b).length=17,be (Yd b)=P.num (Yd b),Yd b=Yd b]
theorem aWi (be:List Int->List Int) (al mu:List Int->List Int->List Int) (S:P.MS) (s b:List Int):aJ (DI be al mu) Tryz.f128 true [] 1500 [.ptr 60 true 0,.agg (cO .u64 5 s),.agg (cO .u8 17 b)] (mnT S) 100 100 =
 some { bK:=pnO be al mu S s b,val:=agV (plX be al mu S s b) }:=by kernel_rfl
theorem jB {a:List Int} (ha:a.length=5):c5 a=a:=by
 match a,ha with
 | [_,_,_,_,_],_=>rfl
theorem KA {a:List Int} (ha:a.length=17):Yd a=a:=by
 match a,ha with
 | [_,_,_,_,_,_,_,_,_,_,_,_,_,_,_,_,_],_=>rfl
def RV (x:SV) (S:P.MS):bJ:={ val:=x,wr:=[(60,.own (mN S) 182)] }
theorem YL (S:P.MS) (s b:List Int) (hS:S.eT.length=5) (hs5:s.length=5) (hb:b.length=17) (Γ:Env) (hg:Γ.aR=aB) :
 aE Tryz.prog Γ 128 [.ptr 60 true 0,.ai .u64 s,.ai .u8 b] (mnT S) 100 100 (RV (agV (P.plus s b S.eT)) S):=by
 have hs:aI Tryz.prog (DI P.num P.add P.mul) 128 (aJ (DI P.num P.add P.mul) Tryz.f128 true [] 1500):=aN (VF _ _ _) (VG _ _ _) mix Tryz.func128 (by kernel_rfl) true [] 1500
 have h:=hs.call (aWi P.num P.add P.mul S s b) (by
  rw [pnO,jB hS,jB hs5,KA hb]
  exact aA (show _/\_/\_/\_/\_/\_/\_/\_/\_/\_/\_/\_/\_/\True from ⟨rfl,hS,rfl,rfl,rfl,hs5,rfl,rfl,rfl,rfl,hb,rfl,rfl,trivial⟩))
 rw [plX,jB hS,jB hs5,KA hb] at h
 refine (h.same (l0:=60) (by simp only [mnT,mnL,aF]) rfl).words (by rw [hg];rfl) (fun V=>?_) (fun _ _ h=>h) (fun V=>rfl) rfl rfl
 simp only [aG,bI V hs5,bI V hb]
def msN (cs:List SV):Option P.MS:=match cs with
 | .raw (.pointer none)::r=>match cX .u64 (r.take 5),cX .u64 ((r.drop 5).take 5),cX .u8 ((r.drop 10).take 16),cX .u8 ((r.drop 26).take 16),r.drop 42 with
   | some b,some s,some m,some k,[.int _ .i64 h]=>some ⟨b,s,m,k,h.toNat⟩
   | _,_,_,_,_=>none
 | _=>none
def P.nf (S:P.MS):P.MS:=⟨c5 S.eT,c5 S.sum,dJ 16 S.mask,dJ 16 S.aM,(S.held:Int).toNat⟩
def FN (pl:List Int->List Int->List Int->List Int) (vs:List SV) (T:aZ):Option Canon:=match vs with
 | [.ptr l _ _,v,u]=>match T l,cK v,cK u with
   | some (.own cs ty),some (.u64,s),some (.u8,b)=>match Nat.beq ty 182,msN cs with
     | true,some S=>some { eR:=[.ptr 60 true 0,.ai .u64 s,.ai .u8 b],T0:=mnL S,vl:=[(60,.lab l 0)],e0:=RV (agV (pl s b S.eT)) S,conds:=[pl s b S.eT=P.plus s b S.eT,S.eT.length=5,s.length=5,b.length=17] }
     | _,_=>none
   | _,_,_=>none
 | _=>none
theorem aJp (pl:List Int->List Int->List Int->List Int) (Γ:Env) (hg:Γ.aR=aB):aI Tryz.prog Γ 128 (aL aB 100 (FN pl)):=by
 refine aW hg fun vs T c hd hc=>?_
 unfold FN at hd
 split at hd
 case h_2=>cases hd
 split at hd
 case h_2=>cases hd
 split at hd
 case h_2=>cases hd
 cases hd
 have e:=hc _ cM
 have h:=YL _ _ _ (hc _ (List.mem_cons_of_mem _ cM)) (hc _ (List.mem_cons_of_mem _ (List.mem_cons_of_mem _ cM))) (hc _ (List.mem_cons_of_mem _ (List.mem_cons_of_mem _ (List.mem_cons_of_mem _ cM)))) Γ hg
 rw [<- e] at h
 exact h
noncomputable def aGo (pl:List Int->List Int->List Int->List Int):Nat->Option Sum:=dM (dM gB 77 (aL aB 100 tG)) 128 (aL aB 100 (FN pl))
theorem Wy (pl:List Int->List Int->List Int->List Int):∀ f S,aGo pl f=some S->∀ Γ:Env,Γ.aR=aB->aI Tryz.prog Γ f S:=bD (bD gL 77 _ Ci) 128 _ (aJp pl)
def qM (b s:List Int) (mk bk:Nat->Int) (h:Int) (S':P.MS):List Prop:=
 ((List.range 5).map fun j=>b.getD j 0=S'.eT.getD j 0)++(((List.range 5).map fun j=>s.getD j 0=S'.sum.getD j 0)++(((List.range 16).map fun j=>mk j=S'.mask.getD j 0)++(((List.range 16).map fun j=>bk j=S'.aM.getD j 0)++[h=(S'.held:Int)])))
def qMS (S S':P.MS):List Prop:=qM S.eT S.sum (S.mask.getD · 0) (S.aM.getD · 0) S.held S'
def tkG (pl:List Int->List Int->List Int->List Int) (y s:List Int) (mk bk:Nat->Int) (h:Int) (N:P.MS) (b:List Int) (r:List Prop):List Prop:=
 (pl (c5 s) b (c5 y)=P.plus (c5 s) b (c5 y))::((c5 y).length=5)::((c5 s).length=5)::(b.length=17)::(c5 s=c5 s)::(b=b)::(qM y s mk bk h N++r)
def tkD (d:List Int):List Int:=(d.take 16).take ((d.take 16).length.min 16)
def SX (d:List Int):List Int:=(List.replicate 17 0).take 0++tkD d++(List.replicate 17 0).drop (0+(tkD d).length)
def tqL (d:List Int):List Int:=(SX d).set 16 1
noncomputable def Pn (pl:List Int->List Int->List Int->List Int):Env:=env (aGo pl) 4
theorem Vk (pl:List Int->List Int->List Int->List Int):cB Tryz.prog (Pn pl):=bQ _ 4
theorem Vl (pl:List Int->List Int->List Int->List Int):cI Tryz.prog (Pn pl):=bW _ (Wy pl) 4
def DJ (n:Nat):List SV:=[.ptr 60 true 0,.eV 61 n]
def Aq (n:Nat):List (Nat × SV):=[(0,.ptr 60 true 0),(1,.eV 100 n)]
noncomputable def mwM (pl:List Int->List Int->List Int->List Int) (S:P.MS) (d:List Int) (cf:Cf) (K:List Fr) (s:St):Option pU:=gY (Pn pl) (bH 100 (QS S d)) 100 Tryz.f84.ntmps [8] 400 3000 cf K s
def Az (S:P.MS) (d:List Int):List (Nat × SB):=[(60,.own (mN S) 182),(100,.gO .u8 d)]
noncomputable def mwR:Option pU:=mwM (fun a _ _=>a) ⟨[],[],[],[],0⟩ [] (.go (codeOf Tryz.f84)) [] ((zJ (DJ 0) 100).hint [false])
noncomputable def Yk:Code:=Ew mwR
noncomputable def mwK:List Fr:=Ev mwR
def gT (h:Nat):Bool:=decide ((h:Int)>0)
def mM (d:List Int) (h:Nat):Nat:=d.length.min (16-(h:Int).toNat)
def hq (h m:Nat):Int:=IntKind.i64.wrap ((h:Int)+(m:Int))
def oM (h:Nat):Nat:=if (16:Int)=(h:Int) then 27 else 27+(h:Int).toNat*1
def spM (S:P.MS) (d:List Int) (o m:Nat):List Int:=(dJ 16 S.mask++dJ 16 S.aM).take (o-11)++d.take m++(dJ 16 S.mask++dJ 16 S.aM).drop (o-11+(d.take m).length)
def mcO (h n m:Nat) (d:List Int) (r:List Prop):List Prop:=
 (0<=(m:Int)/\(m:Int)<=(n:Int)/\(n:Int)<=(n:Int))::(11<=oM h/\oM h+(d.take m).length<=11+32)::((0:Int)<=16/\(16:Int)<=(16:Nat)/\(0:Int)<=16/\(16:Int)<=16/\0<=(h:Int)/\(h:Int)<=16) ::
  (gT h=true)::(gT h=gT h)::r
theorem aXs (pl:List Int->List Int->List Int->List Int) (S S':P.MS) (d d':List Int) (n n':Nat):fL 100 Tryz.f84.ntmps (bH 100 (QS S d)) [.ali 1] (Aq n') (Az S' d') 101 [60] [] (mwM pl S d (.go (codeOf Tryz.f84)) [] ((zJ (DJ n) 100).hint [false])) =
 some (.go (.loop Yk),mwK,(gT S.held=false)::(gT S.held=gT S.held)::(n=n')::(qMS S S'++[d=d'])):=by kernel_rfl
theorem aXr (pl:List Int->List Int->List Int->List Int) (S S':P.MS) (d d':List Int) (n n':Nat):fL 100 Tryz.f84.ntmps (bH 100 (QS S d)) [.ali 1] (Aq n') (Az S' d') 101 [60] [] (mwM pl S d (.go (codeOf Tryz.f84)) [] ((zJ (DJ n) 100).hint [true,false])) =
 some (.go (.loop Yk),mwK,((hq S.held (mM d S.held)==16)=false)::((hq S.held (mM d S.held)==16)=(hq S.held (mM d S.held)==16))::(mcO S.held n (mM d S.held) d (((n:Int).toNat-(mM d S.held:Int).toNat=n') ::
  (qM S.eT S.sum (fun j=>(spM S d (oM S.held) (mM d S.held)).getD j 0) (fun j=>(spM S d (oM S.held) (mM d S.held)).getD (16+j) 0) (hq S.held (mM d S.held)) S' ++
   [(d.drop (mM d S.held:Int).toNat).take ((n:Int).toNat-(mM d S.held:Int).toNat)=d'])))):=by kernel_rfl
def Ua (f:Nat->Int):List Int:=(List.range 16).map f
def spJ (S:P.MS) (d:List Int) (j:Nat):Int:=(spM S d (oM S.held) (mM d S.held)).getD j 0
def spN (S:P.MS) (d:List Int):P.MS:=⟨c5 S.eT,c5 S.sum,Ua (spJ S d),Ua fun j=>spJ S d (16+j),(hq S.held (mM d S.held)).toNat⟩
def DL (S:P.MS) (d:List Int):List Int:=Ua (fun j=>spJ S d (16+j))++[1]
theorem aXq (pl:List Int->List Int->List Int->List Int) (S S':P.MS) (d d':List Int) (n n':Nat):fL 100 Tryz.f84.ntmps (bH 100 (QS S d)) [.ali 1] (Aq n') (Az S' d') 101 [60] [] (mwM pl S d (.go (codeOf Tryz.f84)) [] ((zJ (DJ n) 100).hint [true,true])) =
 some (.go (.loop Yk),mwK,tkG pl S.eT S.sum (spJ S d) (fun j=>spJ S d (16+j)) (hq S.held (mM d S.held)) (spN S d) (DL S d) (((hq S.held (mM d S.held)==16)=true)::((hq S.held (mM d S.held)==16)=(hq S.held (mM d S.held)==16))::(mcO S.held n (mM d S.held) d (((n:Int).toNat-(mM d S.held:Int).toNat=n') ::
  (qM S.eT (pl (c5 S.sum) (DL S d) (c5 S.eT)) (spJ S d) (fun _=>0) 0 S' ++
   [(d.drop (mM d S.held:Int).toNat).take ((n:Int).toNat-(mM d S.held:Int).toNat)=d']))))):=by kernel_rfl
def lT (n:Nat):Bool:=decide ((n:Int)>=16)
def d16 (d:List Int):List Int:=(d.drop (0:Int).toNat).take ((16:Int).toNat-(0:Int).toNat)
theorem aXo (pl:List Int->List Int->List Int->List Int) (S0 S S':P.MS) (d0 d d':List Int) (n n':Nat):fL 100 Tryz.f84.ntmps (bH 100 (QS S0 d0)) [] (Aq n') (Az S' d') 101 [60] [] (mwM pl S0 d0 (.go Yk) [] ((cA (Aq n) (Az S d) 101 [60] []).hint [false])) =
 some (.at (.exit 0),[],(lT n=false)::(lT n=lT n)::(n=n')::(qMS S S'++[d=d'])):=by kernel_rfl
theorem aXp (pl:List Int->List Int->List Int->List Int) (S0 S S':P.MS) (d0 d d':List Int) (n n':Nat):fL 100 Tryz.f84.ntmps (bH 100 (QS S0 d0)) [] (Aq n') (Az S' d') 101 [60] [] (mwM pl S0 d0 (.go Yk) [] ((cA (Aq n) (Az S d) 101 [60] []).hint [true])) =
 some (.at .normal,[],((0:Int)<=16/\(16:Int)<=(n:Int)/\(n:Int)<=(n:Int))::tkG pl S.eT S.sum (S.mask.getD · 0) (S.aM.getD · 0) S.held (P.nf S) (tqL (d16 d)) ([(tqL (d16 d)).length=17,16<(SX (d16 d)).length,(0:Nat)<=0/\0+(tkD (d16 d)).length<=17,16<=(d16 d).length,16<=16,(0:Int)<=0/\(0:Int)<=16/\(16:Int)<=(n:Int)] ++
  (lT n=true)::(lT n=lT n)::((n:Int).toNat-(16:Int).toNat=n') ::
  (qM S.eT (pl (c5 S.sum) (tqL (d16 d)) (c5 S.eT)) (S.mask.getD · 0) (S.aM.getD · 0) S.held S' ++
   [(d.drop (16:Int).toNat).take ((n:Int).toNat-(16:Int).toNat)=d']))):=by kernel_rfl
def gP (n:Nat):Bool:=decide ((n:Int)>0)
theorem aXm (pl:List Int->List Int->List Int->List Int) (S0 S:P.MS) (d0 d:List Int) (n:Nat):sX (Pn pl) (QS S0 d0) 100 100 Tryz.f84 [] (mwM pl S0 d0 (.at (.exit 0)) mwK ((cA (Aq n) (Az S d) 101 [60] []).hint [false])) =
 some { RV (.eL []) S with bK:=[gP n=false,gP n=gP n] }:=by kernel_rfl
def spE (S:P.MS) (d:List Int) (j:Nat):Int:=(spM S d 27 (d.length.min 16)).getD j 0
def spF (S:P.MS) (d:List Int):P.MS:=⟨S.eT,S.sum,Ua (spE S d),Ua fun j=>spE S d (16+j),d.length.min 16⟩
theorem aXn (pl:List Int->List Int->List Int->List Int) (S0 S:P.MS) (d0 d:List Int) (n:Nat):sX (Pn pl) (QS S0 d0) 100 100 Tryz.f84 [] (mwM pl S0 d0 (.at (.exit 0)) mwK ((cA (Aq n) (Az S d) 101 [60] []).hint [true])) =
 some { RV (.eL []) (spF S d) with bK:=[11<=27/\27+(d.take (d.length.min 16)).length<=11+32,gP n=true,gP n=gP n] }:=by kernel_rfl
namespace P
theorem iG {n:Int} (h:0<=n/\n<18446744073709551616):W n=n:=by
 show n%18446744073709551616=n
 omega
theorem sP {n:Int}:sh n=n/67108864:=by
 show n.fdiv (2^26)=_
 rw [Int.fdiv_eq_ediv_of_nonneg _ (by decide)]
 rfl
theorem oO {n:Int} (h:0<=n/\n<18446744073709551616):lo n=n%67108864:=by
 obtain ⟨h0,h1⟩:=h
 obtain ⟨m,rfl⟩:=Int.eq_ofNat_of_zero_le h0
 have hm:m<18446744073709551616:=by omega
 show ((BitVec.ofInt 64 (m:Int) &&& BitVec.ofInt 64 67108863).toNat:Int)%18446744073709551616=_
 have e:(BitVec.ofInt 64 (m:Int) &&& BitVec.ofInt 64 67108863).toNat=m%67108864:=by
  rw [BitVec.toNat_and,BitVec.ofInt_natCast,BitVec.toNat_ofNat,Nat.mod_eq_of_lt (show m<2^64 by omega)]
  exact Nat.and_two_pow_sub_one_eq_mod m 26
 rw [e]
 omega
def L (x:List Int):Int:=x.getD 0 0+67108864*x.getD 1 0+4503599627370496*x.getD 2 0+302231454903657293676544*x.getD 3 0+20282409603651670423947251286016*x.getD 4 0
def p:Int:=1361129467683753853853498429727072845819
structure Ok (x:List Int):Prop where
 len:x.length=5
 a0:0<=x.getD 0 0/\x.getD 0 0<67108864+5
 a1:0<=x.getD 1 0/\x.getD 1 0<67108864
 a2:0<=x.getD 2 0/\x.getD 2 0<67108864
 a3:0<=x.getD 3 0/\x.getD 3 0<67108864
 a4:0<=x.getD 4 0/\x.getD 4 0<67108864
theorem Je {x:List Int} {m:Int} (hm:m<=1152921504606846976) (h0:0<=x.getD 0 0/\x.getD 0 0<m) (h1:0<=x.getD 1 0/\x.getD 1 0<m) (h2:0<=x.getD 2 0/\x.getD 2 0<m) (h3:0<=x.getD 3 0/\x.getD 3 0<m) (h4:0<=x.getD 4 0/\x.getD 4 0<m) :
 ∃ k1 k2 k3 k4:Int,k1=x.getD 1 0+x.getD 0 0/67108864/\k2=x.getD 2 0+k1/67108864/\k3=x.getD 3 0+k2/67108864/\k4=x.getD 4 0+k3/67108864 /\
   pass x=[x.getD 0 0%67108864+5*(k4/67108864),k1%67108864,k2%67108864,k3%67108864,k4%67108864]:=by
 generalize gC:x.getD 0 0=x0 at *
 generalize gD:x.getD 1 0=x1 at *
 generalize nJ:x.getD 2 0=x2 at *
 generalize Hj:x.getD 3 0=x3 at *
 generalize hx4:x.getD 4 0=x4 at *
 have e1:c1 x=x1+x0/67108864:=by unfold c1;rw [gC,gD,sP,iG (by omega)]
 have e2:c2 x=x2+(x1+x0/67108864)/67108864:=by unfold c2;rw [nJ,e1,sP,iG (by omega)]
 have e3:c3 x=x3+(x2+(x1+x0/67108864)/67108864)/67108864:=by unfold c3;rw [Hj,e2,sP,iG (by omega)]
 have e4:c4 x=x4+(x3+(x2+(x1+x0/67108864)/67108864)/67108864)/67108864:=by unfold c4;rw [hx4,e3,sP,iG (by omega)]
 refine ⟨_,_,_,_,rfl,rfl,rfl,rfl,?_⟩
 unfold pass
 rw [gC,e1,e2,e3,e4,sP,oO (by omega),oO (by omega),oO (by omega),oO (by omega),oO (by omega),iG (n:=5*_) (by omega),iG (by omega)]
end P
namespace P
theorem Bz (a b c d e:Int):L [a,b,c,d,e]=a+67108864*b+4503599627370496*c+302231454903657293676544*d+20282409603651670423947251286016*e:=rfl
theorem Qp {x:List Int} {m:Int} (hm:m<=1152921504606846976) (h0:0<=x.getD 0 0/\x.getD 0 0<m) (h1:0<=x.getD 1 0/\x.getD 1 0<m) (h2:0<=x.getD 2 0/\x.getD 2 0<m) (h3:0<=x.getD 3 0/\x.getD 3 0<m) (h4:0<=x.getD 4 0/\x.getD 4 0<m) :
 ∃ q:Int,0<=q/\q=(x.getD 4 0+(x.getD 3 0+(x.getD 2 0+(x.getD 1 0+x.getD 0 0/67108864)/67108864)/67108864)/67108864)/67108864/\L (pass x)=L x-p*q/\(pass x).length=5/\(0<=(pass x).getD 0 0/\(pass x).getD 0 0<=67108863+5*q)/\(0<=(pass x).getD 1 0/\(pass x).getD 1 0<67108864)/\(0<=(pass x).getD 2 0/\(pass x).getD 2 0<67108864)/\(0<=(pass x).getD 3 0/\(pass x).getD 3 0<67108864)/\(0<=(pass x).getD 4 0/\(pass x).getD 4 0<67108864):=by
 obtain ⟨k1,k2,k3,k4,e1,e2,e3,e4,e⟩:=Je hm h0 h1 h2 h3 h4
 refine ⟨k4/67108864,?_⟩
 rw [e]
 simp only [List.getD_cons_zero,List.getD_cons_succ,List.length_cons,List.length_nil,Bz]
 unfold L p
 generalize x.getD 0 0=x0 at *
 generalize x.getD 1 0=x1 at *
 generalize x.getD 2 0=x2 at *
 generalize x.getD 3 0=x3 at *
 generalize x.getD 4 0=x4 at *
 refine ⟨by omega,by rw [e4,e3,e2,e1],?_,(by first | rfl | trivial),⟨by omega,by omega⟩,⟨by omega,by omega⟩,⟨by omega,by omega⟩,⟨by omega,by omega⟩,⟨by omega,by omega⟩⟩
 have d0:=Int.emod_add_mul_ediv x0 67108864
 have d1:=Int.emod_add_mul_ediv k1 67108864
 have d2:=Int.emod_add_mul_ediv k2 67108864
 have d3:=Int.emod_add_mul_ediv k3 67108864
 have d4:=Int.emod_add_mul_ediv k4 67108864
 generalize x0%67108864=l0 at *
 generalize k1%67108864=l1 at *
 generalize k2%67108864=l2 at *
 generalize k3%67108864=l3 at *
 generalize k4%67108864=l4 at *
 generalize x0/67108864=q0 at *
 generalize k1/67108864=q1 at *
 generalize k2/67108864=q2 at *
 generalize k3/67108864=q3 at *
 generalize k4/67108864=q4 at *
 omega
theorem tM {x:List Int} {m:Int} (hm:m<=1152921504606846976) (h0:0<=x.getD 0 0/\x.getD 0 0<m) (h1:0<=x.getD 1 0/\x.getD 1 0<m) (h2:0<=x.getD 2 0/\x.getD 2 0<m) (h3:0<=x.getD 3 0/\x.getD 3 0<m) (h4:0<=x.getD 4 0/\x.getD 4 0<m) :
 Ok (settled x)/\∃ q,L (settled x)=L x-p*q:=by
 obtain ⟨q,a1,a2,a3,a4,a5,a6,a7,a8,a9⟩:=Qp hm h0 h1 h2 h3 h4
 have hq:q<=17179869440:=by omega
 obtain ⟨r,b1,b2,b3,b4,b5,b6,b7,b8,b9⟩:=Qp (x:=pass x) (m:=85966456064) (by omega) ⟨a5.1,by omega⟩ ⟨a6.1,by omega⟩ ⟨a7.1,by omega⟩ ⟨a8.1,by omega⟩ ⟨a9.1,by omega⟩
 have hr:r<=1:=by omega
 refine ⟨⟨b4,⟨b5.1,by unfold settled;omega⟩,b6,b7,b8,b9⟩,q+r,?_⟩
 show L (pass (pass x))=_
 rw [b3,a3,Int.mul_add]
 omega
end P
namespace P
theorem IQ (f:Nat->Int):(List.range 5).map f=[f 0,f 1,f 2,f 3,f 4]:=rfl
theorem aNr {a b:List Int} (ha:Ok a) (hb:Ok b):Ok (add a b)/\∃ q,L (add a b)=L a+L b-p*q:=by
 obtain ⟨_,a0,a1,a2,a3,a4⟩:=ha
 obtain ⟨_,b0,b1,b2,b3,b4⟩:=hb
 have e:Qe a b=[a.getD 0 0+b.getD 0 0,a.getD 1 0+b.getD 1 0,a.getD 2 0+b.getD 2 0,a.getD 3 0+b.getD 3 0,a.getD 4 0+b.getD 4 0]:=by
  unfold Qe
  rw [IQ,iG (by omega),iG (by omega),iG (by omega),iG (by omega),iG (by omega)]
 obtain ⟨h1,q,h2⟩:=tM (x:=Qe a b) (m:=1073741824) (by omega) (by rw [e];simp only [List.getD_cons_zero];omega) (by rw [e];simp only [List.getD_cons_zero,List.getD_cons_succ];omega) (by rw [e];simp only [List.getD_cons_zero,List.getD_cons_succ];omega) (by rw [e];simp only [List.getD_cons_zero,List.getD_cons_succ];omega) (by rw [e];simp only [List.getD_cons_zero,List.getD_cons_succ];omega)
 refine ⟨h1,q,?_⟩
 show L (settled (Qe a b))=_
 rw [h2,e,Bz]
 unfold L
 omega
end P
namespace P
theorem Wn {x y:Int} (hx:0<=x/\x<67108869) (hy:0<=y/\y<67108869):0<=x*y/\x*y<=4503600164241424:=by
 refine ⟨Int.mul_nonneg hx.1 hy.1,?_⟩
 have h1:x*y<=x*67108868:=Int.mul_le_mul_of_nonneg_left (by omega) hx.1
 have h2:x*67108868<=67108868*67108868:=Int.mul_le_mul_of_nonneg_right (by omega) (by decide)
 omega
def w0 (a b:Nat->Int):Int:=a 0*b 0
def w1 (a b:Nat->Int):Int:=a 0*b 1+a 1*b 0
def w2 (a b:Nat->Int):Int:=a 0*b 2+a 1*b 1+a 2*b 0
def w3 (a b:Nat->Int):Int:=a 0*b 3+a 1*b 2+a 2*b 1+a 3*b 0
def w4 (a b:Nat->Int):Int:=a 0*b 4+a 1*b 3+a 2*b 2+a 3*b 1+a 4*b 0
def w5 (a b:Nat->Int):Int:=a 1*b 4+a 2*b 3+a 3*b 2+a 4*b 1
def w6 (a b:Nat->Int):Int:=a 2*b 4+a 3*b 3+a 4*b 2
def w7 (a b:Nat->Int):Int:=a 3*b 4+a 4*b 3
def w8 (a b:Nat->Int):Int:=a 4*b 4
def B:Int:=4503600164241424
theorem aHe {a:Int} (ha:0<=a/\a<=4503600164241424):W (0+W a)=a:=by rw [iG (n:=a) (by omega),Int.zero_add,iG (by omega)]
theorem aHd {a b:Int} (ha:0<=a/\a<=4503600164241424) (hb:0<=b/\b<=4503600164241424):W (W (0+W a)+W b)=a+b:=by rw [aHe ha,iG (n:=b) (by omega),iG (by omega)]
theorem aHc {a b c:Int} (ha:0<=a/\a<=4503600164241424) (hb:0<=b/\b<=4503600164241424) (hc:0<=c/\c<=4503600164241424):W (W (W (0+W a)+W b)+W c)=a+b+c:=by rw [aHd ha hb,iG (n:=c) (by omega),iG (by omega)]
theorem aHb {a b c d:Int} (ha:0<=a/\a<=4503600164241424) (hb:0<=b/\b<=4503600164241424) (hc:0<=c/\c<=4503600164241424) (hd:0<=d/\d<=4503600164241424):W (W (W (W (0+W a)+W b)+W c)+W d)=a+b+c+d:=by rw [aHc ha hb hc,iG (n:=d) (by omega),iG (by omega)]
theorem bBg {a b c d e:Int} (ha:0<=a/\a<=4503600164241424) (hb:0<=b/\b<=4503600164241424) (hc:0<=c/\c<=4503600164241424) (hd:0<=d/\d<=4503600164241424) (he:0<=e/\e<=4503600164241424):W (W (W (W (W (0+W a)+W b)+W c)+W d)+W e)=a+b+c+d+e:=by rw [aHb ha hb hc hd,iG (n:=e) (by omega),iG (by omega)]
theorem EC {x y:Int} (hx:0<=x/\x<=22518000821207120) (hy:0<=y/\y<=22518000821207120):W (x+W (5*y))=x+5*y:=by rw [iG (n:=5*y) (by omega),iG (by omega)]
theorem aTu {x:Int} (hx:0<=x/\x<=22518000821207120):W (x+W (5*0))=x:=by rw [EC hx ⟨Int.le_refl 0,by decide⟩];omega
theorem Ok.get {a:List Int} (h:Ok a):∀ i,i<5->0<=a.getD i 0/\a.getD i 0<67108869:=by
 intro i hi
 have:=h.a0;have:=h.a1;have:=h.a2;have:=h.a3;have:=h.a4
 match i,hi with
 | 0,_=>omega
 | 1,_=>omega
 | 2,_=>omega
 | 3,_=>omega
 | 4,_=>omega
theorem TB {a b:Int} (ha:0<=a/\a<=4503600164241424) (hb:0<=b/\b<=4503600164241424):0<=a+b/\a+b<=22518000821207120:=by omega
theorem SZ {a b c:Int} (ha:0<=a/\a<=4503600164241424) (hb:0<=b/\b<=4503600164241424) (hc:0<=c/\c<=4503600164241424):0<=a+b+c/\a+b+c<=22518000821207120:=by omega
theorem SY {a b c d:Int} (ha:0<=a/\a<=4503600164241424) (hb:0<=b/\b<=4503600164241424) (hc:0<=c/\c<=4503600164241424) (hd:0<=d/\d<=4503600164241424):0<=a+b+c+d/\a+b+c+d<=22518000821207120:=by omega
theorem aNy {a b c d e:Int} (ha:0<=a/\a<=4503600164241424) (hb:0<=b/\b<=4503600164241424) (hc:0<=c/\c<=4503600164241424) (hd:0<=d/\d<=4503600164241424) (he:0<=e/\e<=4503600164241424):0<=a+b+c+d+e/\a+b+c+d+e<=22518000821207120:=by omega
theorem TD {a:Int} (ha:0<=a/\a<=4503600164241424):0<=a/\a<=22518000821207120:=by omega
theorem ZD (a b:List Int):TZ a b 5=[W (0+W (a.getD 0 0*b.getD 0 0)),W (W (0+W (a.getD 0 0*b.getD 1 0))+W (a.getD 1 0*b.getD 0 0)),
 W (W (W (0+W (a.getD 0 0*b.getD 2 0))+W (a.getD 1 0*b.getD 1 0))+W (a.getD 2 0*b.getD 0 0)),
 W (W (W (W (0+W (a.getD 0 0*b.getD 3 0))+W (a.getD 1 0*b.getD 2 0))+W (a.getD 2 0*b.getD 1 0))+W (a.getD 3 0*b.getD 0 0)),
 W (W (W (W (W (0+W (a.getD 0 0*b.getD 4 0))+W (a.getD 1 0*b.getD 3 0))+W (a.getD 2 0*b.getD 2 0))+W (a.getD 3 0*b.getD 1 0))+W (a.getD 4 0*b.getD 0 0)),
 W (W (W (W (0+W (a.getD 1 0*b.getD 4 0))+W (a.getD 2 0*b.getD 3 0))+W (a.getD 3 0*b.getD 2 0))+W (a.getD 4 0*b.getD 1 0)),
 W (W (W (0+W (a.getD 2 0*b.getD 4 0))+W (a.getD 3 0*b.getD 3 0))+W (a.getD 4 0*b.getD 2 0)),
 W (W (0+W (a.getD 3 0*b.getD 4 0))+W (a.getD 4 0*b.getD 3 0)),W (0+W (a.getD 4 0*b.getD 4 0)),0]:=by kernel_rfl
theorem ZE {a b:List Int} (ha:Ok a) (hb:Ok b) :
 mulL a b=[w0 (a.getD · 0) (b.getD · 0)+5*w5 (a.getD · 0) (b.getD · 0),w1 (a.getD · 0) (b.getD · 0)+5*w6 (a.getD · 0) (b.getD · 0),w2 (a.getD · 0) (b.getD · 0)+5*w7 (a.getD · 0) (b.getD · 0),w3 (a.getD · 0) (b.getD · 0)+5*w8 (a.getD · 0) (b.getD · 0),w4 (a.getD · 0) (b.getD · 0)]:=by
 have r:∀ i k,i<5->k<5->0<=a.getD i 0*b.getD k 0/\a.getD i 0*b.getD k 0<=4503600164241424:=fun i k hi hk=>Wn (ha.get i hi) (hb.get k hk)
 have e:=ZD a b
 have q:∀ i k,i<5->k<5->0<=a.getD i 0*b.getD k 0/\a.getD i 0*b.getD k 0<=4503600164241424:=r
 have t00:=r 0 0 (by decide) (by decide);have t01:=r 0 1 (by decide) (by decide);have t02:=r 0 2 (by decide) (by decide);have t03:=r 0 3 (by decide) (by decide);have t04:=r 0 4 (by decide) (by decide)
 have t10:=r 1 0 (by decide) (by decide);have t11:=r 1 1 (by decide) (by decide);have t12:=r 1 2 (by decide) (by decide);have t13:=r 1 3 (by decide) (by decide);have t14:=r 1 4 (by decide) (by decide)
 have t20:=r 2 0 (by decide) (by decide);have t21:=r 2 1 (by decide) (by decide);have t22:=r 2 2 (by decide) (by decide);have t23:=r 2 3 (by decide) (by decide);have t24:=r 2 4 (by decide) (by decide)
 have t30:=r 3 0 (by decide) (by decide);have t31:=r 3 1 (by decide) (by decide);have t32:=r 3 2 (by decide) (by decide);have t33:=r 3 3 (by decide) (by decide);have t34:=r 3 4 (by decide) (by decide)
 have t40:=r 4 0 (by decide) (by decide);have t41:=r 4 1 (by decide) (by decide);have t42:=r 4 2 (by decide) (by decide);have t43:=r 4 3 (by decide) (by decide);have t44:=r 4 4 (by decide) (by decide)
 rw [aHe t00,aHd t01 t10,aHc t02 t11 t20,aHb t03 t12 t21 t30,bBg t04 t13 t22 t31 t40,aHb t14 t23 t32 t41,aHc t24 t33 t42,aHd t34 t43,aHe t44] at e
 unfold mulL
 rw [IQ,e]
 simp only [List.getD_cons_zero,List.getD_cons_succ,w0,w1,w2,w3,w4,w5,w6,w7,w8]
 rw [EC (TD t00) (SY t14 t23 t32 t41),EC (TB t01 t10) (SZ t24 t33 t42),EC (SZ t02 t11 t20) (TB t34 t43),EC (SY t03 t12 t21 t30) (TD t44),aTu (aNy t04 t13 t22 t31 t40)]
end P
namespace P
theorem ex (c d x y:Int):(c*x)*(d*y)=(c*d)*(x*y):=by rw [Int.mul_assoc,Int.mul_left_comm x d y,<- Int.mul_assoc]
theorem aJn (a0 a1 a2 a3 a4 b0 b1 b2 b3 b4:Int) :
 (1*a0+67108864*a1+4503599627370496*a2+302231454903657293676544*a3+20282409603651670423947251286016*a4)*(1*b0+67108864*b1+4503599627370496*b2+302231454903657293676544*b3+20282409603651670423947251286016*b4) =
  (a0*b0+5*(a1*b4+a2*b3+a3*b2+a4*b1))+67108864*(a0*b1+a1*b0+5*(a2*b4+a3*b3+a4*b2))+4503599627370496*(a0*b2+a1*b1+a2*b0+5*(a3*b4+a4*b3))+302231454903657293676544*(a0*b3+a1*b2+a2*b1+a3*b0+5*(a4*b4))+20282409603651670423947251286016*(a0*b4+a1*b3+a2*b2+a3*b1+a4*b0) +
   1361129467683753853853498429727072845819*((a1*b4+a2*b3+a3*b2+a4*b1)+67108864*(a2*b4+a3*b3+a4*b2)+4503599627370496*(a3*b4+a4*b3)+302231454903657293676544*(a4*b4)):=by
 simp only [Int.add_mul,Int.mul_add]
 rw [ex 1 1 a0 b0,ex 1 67108864 a0 b1,ex 1 4503599627370496 a0 b2,ex 1 302231454903657293676544 a0 b3,ex 1 20282409603651670423947251286016 a0 b4,ex 67108864 1 a1 b0,ex 67108864 67108864 a1 b1,ex 67108864 4503599627370496 a1 b2,ex 67108864 302231454903657293676544 a1 b3,ex 67108864 20282409603651670423947251286016 a1 b4,ex 4503599627370496 1 a2 b0,ex 4503599627370496 67108864 a2 b1,ex 4503599627370496 4503599627370496 a2 b2,ex 4503599627370496 302231454903657293676544 a2 b3,ex 4503599627370496 20282409603651670423947251286016 a2 b4,ex 302231454903657293676544 1 a3 b0,ex 302231454903657293676544 67108864 a3 b1,ex 302231454903657293676544 4503599627370496 a3 b2,ex 302231454903657293676544 302231454903657293676544 a3 b3,ex 302231454903657293676544 20282409603651670423947251286016 a3 b4,ex 20282409603651670423947251286016 1 a4 b0,ex 20282409603651670423947251286016 67108864 a4 b1,ex 20282409603651670423947251286016 4503599627370496 a4 b2,ex 20282409603651670423947251286016 302231454903657293676544 a4 b3,ex 20282409603651670423947251286016 20282409603651670423947251286016 a4 b4]
 generalize a0*b0=m00
 generalize a0*b1=m01
 generalize a0*b2=m02
 generalize a0*b3=m03
 generalize a0*b4=m04
 generalize a1*b0=m10
 generalize a1*b1=m11
 generalize a1*b2=m12
 generalize a1*b3=m13
 generalize a1*b4=m14
 generalize a2*b0=m20
 generalize a2*b1=m21
 generalize a2*b2=m22
 generalize a2*b3=m23
 generalize a2*b4=m24
 generalize a3*b0=m30
 generalize a3*b1=m31
 generalize a3*b2=m32
 generalize a3*b3=m33
 generalize a3*b4=m34
 generalize a4*b0=m40
 generalize a4*b1=m41
 generalize a4*b2=m42
 generalize a4*b3=m43
 generalize a4*b4=m44
 omega
theorem aJz {a b:List Int} (ha:Ok a) (hb:Ok b):Ok (mul a b)/\∃ q,L (mul a b)=L a*L b-p*q:=by
 have r:∀ i k,i<5->k<5->0<=a.getD i 0*b.getD k 0/\a.getD i 0*b.getD k 0<=4503600164241424:=fun i k hi hk=>Wn (ha.get i hi) (hb.get k hk)
 have t00:=r 0 0 (by decide) (by decide);have t01:=r 0 1 (by decide) (by decide);have t02:=r 0 2 (by decide) (by decide);have t03:=r 0 3 (by decide) (by decide);have t04:=r 0 4 (by decide) (by decide)
 have t10:=r 1 0 (by decide) (by decide);have t11:=r 1 1 (by decide) (by decide);have t12:=r 1 2 (by decide) (by decide);have t13:=r 1 3 (by decide) (by decide);have t14:=r 1 4 (by decide) (by decide)
 have t20:=r 2 0 (by decide) (by decide);have t21:=r 2 1 (by decide) (by decide);have t22:=r 2 2 (by decide) (by decide);have t23:=r 2 3 (by decide) (by decide);have t24:=r 2 4 (by decide) (by decide)
 have t30:=r 3 0 (by decide) (by decide);have t31:=r 3 1 (by decide) (by decide);have t32:=r 3 2 (by decide) (by decide);have t33:=r 3 3 (by decide) (by decide);have t34:=r 3 4 (by decide) (by decide)
 have t40:=r 4 0 (by decide) (by decide);have t41:=r 4 1 (by decide) (by decide);have t42:=r 4 2 (by decide) (by decide);have t43:=r 4 3 (by decide) (by decide);have t44:=r 4 4 (by decide) (by decide)
 have f:∀ {x y:Int},0<=x/\x<=22518000821207120->0<=y/\y<=22518000821207120->0<=x+5*y/\x+5*y<1152921504606846976:=fun h1 h2=>by omega
 have g:∀ {x:Int},0<=x/\x<=22518000821207120->0<=x/\x<1152921504606846976:=fun h1=>by omega
 have e:=ZE ha hb
 obtain ⟨h1,q,h2⟩:=tM (x:=mulL a b) (m:=1152921504606846976) (Int.le_refl _) (by rw [e];exact f (TD t00) (SY t14 t23 t32 t41)) (by rw [e];exact f (TB t01 t10) (SZ t24 t33 t42)) (by rw [e];exact f (SZ t02 t11 t20) (TB t34 t43)) (by rw [e];exact f (SY t03 t12 t21 t30) (TD t44)) (by rw [e];exact g (aNy t04 t13 t22 t31 t40))
 refine ⟨h1,q+(w5 (a.getD · 0) (b.getD · 0)+67108864*w6 (a.getD · 0) (b.getD · 0)+4503599627370496*w7 (a.getD · 0) (b.getD · 0)+302231454903657293676544*w8 (a.getD · 0) (b.getD · 0)),?_⟩
 show L (settled (mulL a b))=_
 have hp:=aJn (a.getD 0 0) (a.getD 1 0) (a.getD 2 0) (a.getD 3 0) (a.getD 4 0) (b.getD 0 0) (b.getD 1 0) (b.getD 2 0) (b.getD 3 0) (b.getD 4 0)
 have lx:∀ x:List Int,L x=1*x.getD 0 0+67108864*x.getD 1 0+4503599627370496*x.getD 2 0+302231454903657293676544*x.getD 3 0+20282409603651670423947251286016*x.getD 4 0:=fun x=>by unfold L;rw [Int.one_mul]
 rw [h2,e,Bz,Int.mul_add,lx a,lx b,hp]
 simp only [w0,w1,w2,w3,w4,w5,w6,w7,w8,p]
 clear h1 h2 hp lx e f g r t00 t01 t02 t03 t04 t10 t11 t12 t13 t14 t20 t21 t22 t23 t24 t30 t31 t32 t33 t34 t40 t41 t42 t43 t44
 omega
end P
namespace P
def sN (x:Int):Prop:=0<=x/\x<256
theorem or_eq {x y k:Nat} (hx:x<2^k) (h:y*2^k+x<18446744073709551616):kN .u64 (x:Int) ((y*2^k:Nat):Int)=((y*2^k+x:Nat):Int):=by
 show (((BitVec.ofInt 64 (x:Int) ||| BitVec.ofInt 64 ((y*2^k:Nat):Int)).toNat:Nat):Int)%18446744073709551616=_
 have e:(BitVec.ofInt 64 (x:Int) ||| BitVec.ofInt 64 ((y*2^k:Nat):Int)).toNat=y*2^k+x:=by
  rw [BitVec.toNat_or,BitVec.ofInt_natCast,BitVec.ofInt_natCast,BitVec.toNat_ofNat,BitVec.toNat_ofNat,Nat.mod_eq_of_lt (show x<2^64 by omega),Nat.mod_eq_of_lt (show y*2^k<2^64 by omega),Nat.or_comm,<- Nat.shiftLeft_eq]
  exact (Nat.shiftLeft_add_eq_or_of_lt hx y).symm
 rw [e]
 omega
theorem aVm {y:Int} (h:sN y):dI .u64 (W y) 8=y*256:=by
 have:=h.1;have:=h.2
 rw [iG (by omega)]
 show (y*256)%18446744073709551616=_
 omega
theorem aRd {y:Int} (h:sN y):dI .u64 (W y) 16=y*65536:=by
 have:=h.1;have:=h.2
 rw [iG (by omega)]
 show (y*65536)%18446744073709551616=_
 omega
theorem aRc {y:Int} (h:sN y):dI .u64 (W y) 24=y*16777216:=by
 have:=h.1;have:=h.2
 rw [iG (by omega)]
 show (y*16777216)%18446744073709551616=_
 omega
theorem FQ {x y:Int} {k:Nat} {m:Int} (hm:m=((2^k:Nat):Int)) (hk:k<=24) (hx:0<=x/\x<m) (hy:sN y):kN .u64 x (y*m)=x+y*m:=by
 obtain ⟨a,rfl⟩:=Int.eq_ofNat_of_zero_le hx.1
 obtain ⟨b,rfl⟩:=Int.eq_ofNat_of_zero_le hy.1
 have hb:=hy.2
 subst hm
 have h1:a<2^k:=by have:=hx.2;omega
 have h2:(2:Nat)^k<=2^24:=Nat.pow_le_pow_right (by decide) hk
 have h3:b*2^k<=255*2^24:=Nat.mul_le_mul (by omega) h2
 have h4:(255:Nat)*2^24+2^24<18446744073709551616:=by decide
 rw [<- Int.natCast_mul,or_eq h1 (by omega)]
 rw [Int.natCast_add];omega
theorem uT {a b c d:Int} (ha:sN a) (hb:sN b) (hc:sN c) (hd:sN d):word a b c d=a+256*b+65536*c+16777216*d:=by
 have:=ha.1;have:=ha.2;have:=hb.1;have:=hb.2;have:=hc.1;have:=hc.2
 unfold word
 rw [aVm hb,aRd hc,aRc hd,iG (by omega),FQ (k:=8) (m:=256) rfl (by decide) (by omega) hb,FQ (k:=16) (m:=65536) rfl (by decide) (by omega) hc,FQ (k:=24) (m:=16777216) rfl (by decide) (by omega) hd]
 omega
theorem Ca (n:Int) (k:Nat) (hk:k<=64):bZ .u64 n (k:Int)=n/((2^k:Nat):Int):=by
 unfold bZ
 rw [Int.toNat_natCast,show min k IntKind.u64.bits=k from Nat.min_eq_left hk,Int.fdiv_eq_ediv_of_nonneg _ (Int.le_of_lt (Int.pow_pos (by decide))),Int.natCast_pow]
 rfl
theorem TF (n:Int):bZ .u64 n 2=n/4:=Ca n 2 (by decide)
theorem aVl (n:Int):bZ .u64 n 4=n/16:=Ca n 4 (by decide)
theorem aVk (n:Int):bZ .u64 n 6=n/64:=Ca n 6 (by decide)
def Uh (b:List Int):Int:=b.getD 0 0+256*b.getD 1 0+65536*b.getD 2 0+16777216*b.getD 3 0+4294967296*b.getD 4 0+1099511627776*b.getD 5 0+281474976710656*b.getD 6 0+72057594037927936*b.getD 7 0+18446744073709551616*b.getD 8 0+4722366482869645213696*b.getD 9 0+1208925819614629174706176*b.getD 10 0+309485009821345068724781056*b.getD 11 0+79228162514264337593543950336*b.getD 12 0+20282409603651670423947251286016*b.getD 13 0+5192296858534827628530496329220096*b.getD 14 0+1329227995784915872903807060280344576*b.getD 15 0+340282366920938463463374607431768211456*b.getD 16 0
theorem LK {b:List Int} (hb:∀ i,sN (b.getD i 0)):L (kB b)=Uh b/\(0<=(kB b).getD 0 0/\(kB b).getD 0 0<4294967296)/\(0<=(kB b).getD 1 0/\(kB b).getD 1 0<4294967296)/\(0<=(kB b).getD 2 0/\(kB b).getD 2 0<4294967296)/\(0<=(kB b).getD 3 0/\(kB b).getD 3 0<4294967296)/\(0<=(kB b).getD 4 0/\(kB b).getD 4 0<4294967296):=by
 have h0:=hb 0;have h1:=hb 1;have h2:=hb 2;have h3:=hb 3;have h4:=hb 4;have h5:=hb 5;have h6:=hb 6;have h7:=hb 7;have h8:=hb 8;have h9:=hb 9;have h10:=hb 10;have h11:=hb 11;have h12:=hb 12;have h13:=hb 13;have h14:=hb 14;have h15:=hb 15;have tY:=hb 16
 unfold kB
 rw [uT h0 h1 h2 h3,uT h3 h4 h5 h6,uT h6 h7 h8 h9,uT h9 h10 h11 h12,uT h13 h14 h15 tY,TF,aVl,aVk]
 unfold Uh
 unfold sN at *
 clear hb
 generalize b.getD 0 0=b0 at *
 generalize b.getD 1 0=b1 at *
 generalize b.getD 2 0=b2 at *
 generalize b.getD 3 0=b3 at *
 generalize b.getD 4 0=b4 at *
 generalize b.getD 5 0=b5 at *
 generalize b.getD 6 0=b6 at *
 generalize b.getD 7 0=b7 at *
 generalize b.getD 8 0=b8 at *
 generalize b.getD 9 0=b9 at *
 generalize b.getD 10 0=dC at *
 generalize b.getD 11 0=dB at *
 generalize b.getD 12 0=dA at *
 generalize b.getD 13 0=dH at *
 generalize b.getD 14 0=dG at *
 generalize b.getD 15 0=gN at *
 generalize b.getD 16 0=iW at *
 have l0:lo (b0+256*b1+65536*b2+16777216*b3)=b0+256*b1+65536*b2+16777216*(b3%4):=by
  rw [oO (by omega)];omega
 have l1:lo ((b3+256*b4+65536*b5+16777216*b6)/4)=b3/4+64*b4+16384*b5+4194304*(b6%16):=by
  rw [oO (by omega)];omega
 have l2:lo ((b6+256*b7+65536*b8+16777216*b9)/16)=b6/16+16*b7+4096*b8+1048576*(b9%64):=by
  rw [oO (by omega)];omega
 have l3:(b9+256*dC+65536*dB+16777216*dA)/64=b9/64+4*dC+1024*dB+262144*dA:=by omega
 rw [l0,l1,l2,l3]
 simp only [List.getD_cons_zero,List.getD_cons_succ,Bz]
 have d3:=Int.emod_add_mul_ediv b3 4
 have d6:=Int.emod_add_mul_ediv b6 16
 have d9:=Int.emod_add_mul_ediv b9 64
 refine ⟨?_,by omega,by omega,by omega,by omega,by omega⟩
 generalize b3%4=r3 at *
 generalize b3/4=q3 at *
 generalize b6%16=r6 at *
 generalize b6/16=q6 at *
 generalize b9%64=r9 at *
 generalize b9/64=q9 at *
 omega
theorem Ik {b:List Int} (hb:∀ i,sN (b.getD i 0)):Ok (num b)/\∃ q,L (num b)=Uh b-p*q:=by
 obtain ⟨h,a0,a1,a2,a3,a4⟩:=LK hb
 obtain ⟨h1,q,h2⟩:=tM (x:=kB b) (m:=4294967296) (by omega) a0 a1 a2 a3 a4
 exact ⟨h1,q,by rw [<- h];exact h2⟩
end P
namespace P
theorem Ie (x y:Int):iK .u64 x y=((BitVec.ofInt 64 x ^^^ BitVec.ofInt 64 y).toNat:Int):=by
 show ((BitVec.ofInt 64 x ^^^ BitVec.ofInt 64 y).toNat:Int)%18446744073709551616=_
 have:=(BitVec.ofInt 64 x ^^^ BitVec.ofInt 64 y).isLt
 omega
theorem KD (x y:Int):bU .u64 x y=((BitVec.ofInt 64 x &&& BitVec.ofInt 64 y).toNat:Int):=by
 show ((BitVec.ofInt 64 x &&& BitVec.ofInt 64 y).toNat:Int)%18446744073709551616=_
 have:=(BitVec.ofInt 64 x &&& BitVec.ofInt 64 y).isLt
 omega
theorem Iw (x:BitVec 64):BitVec.ofInt 64 (x.toNat:Int)=x:=by rw [BitVec.ofInt_natCast,BitVec.ofNat_toNat,BitVec.setWidth_eq]
theorem JI {x:Int} (h:0<=x/\x<18446744073709551616):((BitVec.ofInt 64 x).toNat:Int)=x:=by
 obtain ⟨m,rfl⟩:=Int.eq_ofNat_of_zero_le h.1
 rw [BitVec.ofInt_natCast,BitVec.toNat_ofNat,Nat.mod_eq_of_lt (show m<2^64 by omega)]
theorem Ls {a b:Int} (hb:0<=b/\b<18446744073709551616):pick 0 a b=b:=by
 unfold pick
 rw [show W (0-bU .u64 0 1)=0 by decide,Ie a b,KD,Iw,show BitVec.ofInt 64 0=0#64 from rfl,BitVec.zero_and,Ie,Iw,BitVec.xor_zero]
 exact JI hb
theorem Lr {a b:Int} (ha:0<=a/\a<18446744073709551616):pick 1 a b=a:=by
 unfold pick
 rw [show W (0-bU .u64 1 1)=18446744073709551615 by decide,Ie a b,KD,Iw,show BitVec.ofInt 64 18446744073709551615=BitVec.allOnes 64 by decide,BitVec.allOnes_and,Ie,Iw,BitVec.xor_comm (BitVec.ofInt 64 a),<- BitVec.xor_assoc,BitVec.xor_self,BitVec.zero_xor]
 exact JI ha
structure RM (x:List Int):Prop where
 len:x.length=5
 a0:0<=x.getD 0 0/\x.getD 0 0<67108864
 a1:0<=x.getD 1 0/\x.getD 1 0<67108864
 a2:0<=x.getD 2 0/\x.getD 2 0<67108864
 a3:0<=x.getD 3 0/\x.getD 3 0<67108864
 a4:0<=x.getD 4 0/\x.getD 4 0<67108864
theorem KZ {x:List Int} (h:Ok x):RM (pass x)/\∃ q,L (pass x)=L x-p*q:=by
 obtain ⟨q,_,b2,b3,b4,b5,b6,b7,b8,b9⟩:=Qp (x:=x) (m:=67108869) (by omega) h.a0 ⟨h.a1.1,by have:=h.a1.2;omega⟩ ⟨h.a2.1,by have:=h.a2.2;omega⟩ ⟨h.a3.1,by have:=h.a3.2;omega⟩ ⟨h.a4.1,by have:=h.a4.2;omega⟩
 obtain ⟨k1,k2,k3,k4,e1,e2,e3,e4,e⟩:=Je (x:=x) (m:=67108869) (by omega) h.a0 ⟨h.a1.1,by have:=h.a1.2;omega⟩ ⟨h.a2.1,by have:=h.a2.2;omega⟩ ⟨h.a3.1,by have:=h.a3.2;omega⟩ ⟨h.a4.1,by have:=h.a4.2;omega⟩
 refine ⟨⟨b4,⟨b5.1,?_⟩,b6,b7,b8,b9⟩,q,b3⟩
 rw [e]
 simp only [List.getD_cons_zero]
 have h0:=h.a0;have h1:=h.a1;have h2:=h.a2;have h3:=h.a3;have h4:=h.a4
 omega
theorem Zn {x:List Int} (h:RM x):pass x=x:=by
 have h0:=h.a0;have h1:=h.a1;have h2:=h.a2;have h3:=h.a3;have h4:=h.a4
 obtain ⟨k1,k2,k3,k4,e1,e2,e3,e4,e⟩:=Je (x:=x) (m:=67108864) (by omega) h0 h1 h2 h3 h4
 rw [e]
 clear e
 obtain ⟨hl,_,_,_,_,_⟩:=h
 match x,hl with
 | [x0,x1,x2,x3,x4],_=>
   simp only [List.getD_cons_zero,List.getD_cons_succ] at *
   have z0:x0/67108864=0:=Int.ediv_eq_zero_of_lt h0.1 h0.2
   rw [z0,Int.add_zero] at e1
   have z1:x1/67108864=0:=Int.ediv_eq_zero_of_lt h1.1 h1.2
   rw [e1,z1,Int.add_zero] at e2
   have z2:x2/67108864=0:=Int.ediv_eq_zero_of_lt h2.1 h2.2
   rw [e2,z2,Int.add_zero] at e3
   have z3:x3/67108864=0:=Int.ediv_eq_zero_of_lt h3.1 h3.2
   rw [e3,z3,Int.add_zero] at e4
   have z4:x4/67108864=0:=Int.ediv_eq_zero_of_lt h4.1 h4.2
   rw [e1,e2,e3,e4,z4,Int.emod_eq_of_lt h0.1 h0.2,Int.emod_eq_of_lt h1.1 h1.2,Int.emod_eq_of_lt h2.1 h2.2,Int.emod_eq_of_lt h3.1 h3.2,Int.emod_eq_of_lt h4.1 h4.2,Int.mul_zero,Int.add_zero]
theorem Oc {x:List Int} (h:Ok x):RM (settled x)/\∃ q,L (settled x)=L x-p*q:=by
 obtain ⟨h1,q,h2⟩:=KZ h
 have e:settled x=pass x:=Zn h1
 rw [e]
 exact ⟨h1,q,h2⟩
end P
namespace P
theorem Zr {t:List Int} (h:RM t):RM (xF t)/\L (xF t)=L t%p:=by
 have h':=h
 obtain ⟨hl,h0,h1,h2,h3,h4⟩:=h
 match t,hl with
 | [t0,t1,t2,t3,t4],_=>
   simp only [List.getD_cons_zero,List.getD_cons_succ] at h0 h1 h2 h3 h4
   have e0:g0 [t0,t1,t2,t3,t4]=t0+5:=by unfold g0;simp only [List.getD_cons_zero];rw [iG (by omega)]
   obtain ⟨q0,Pe⟩:∃ q,q=(t0+5)/67108864:=⟨_,rfl⟩
   have r0:0<=q0/\q0<=1:=by omega
   have e1:g1 [t0,t1,t2,t3,t4]=t1+q0:=by unfold g1;rw [e0,sP,<- Pe];simp only [List.getD_cons_zero,List.getD_cons_succ];rw [iG (by omega)]
   obtain ⟨q1,zM⟩:∃ q,q=(t1+q0)/67108864:=⟨_,rfl⟩
   have r1:0<=q1/\q1<=1:=by clear Pe;omega
   have e2:g2 [t0,t1,t2,t3,t4]=t2+q1:=by unfold g2;rw [e1,sP,<- zM];simp only [List.getD_cons_zero,List.getD_cons_succ];rw [iG (by clear Pe zM;omega)]
   obtain ⟨q2,Ud⟩:∃ q,q=(t2+q1)/67108864:=⟨_,rfl⟩
   have r2:0<=q2/\q2<=1:=by clear Pe zM;omega
   have e3:g3 [t0,t1,t2,t3,t4]=t3+q2:=by unfold g3;rw [e2,sP,<- Ud];simp only [List.getD_cons_zero,List.getD_cons_succ];rw [iG (by clear Pe zM Ud;omega)]
   obtain ⟨q3,RB⟩:∃ q,q=(t3+q2)/67108864:=⟨_,rfl⟩
   have r3:0<=q3/\q3<=1:=by clear Pe zM Ud;omega
   have e4:g4 [t0,t1,t2,t3,t4]=t4+q3:=by unfold g4;rw [e3,sP,<- RB];simp only [List.getD_cons_zero,List.getD_cons_succ];rw [iG (by clear Pe zM Ud RB;omega)]
   obtain ⟨q4,hq4⟩:∃ q,q=(t4+q3)/67108864:=⟨_,rfl⟩
   have r4:q4=0\/q4=1:=by clear Pe zM Ud RB;omega
   have d0:=Int.emod_add_mul_ediv (t0+5) 67108864
   have d1:=Int.emod_add_mul_ediv (t1+q0) 67108864
   have d2:=Int.emod_add_mul_ediv (t2+q1) 67108864
   have d3:=Int.emod_add_mul_ediv (t3+q2) 67108864
   have d4:=Int.emod_add_mul_ediv (t4+q3) 67108864
   rw [<- Pe] at d0
   rw [<- zM] at d1
   rw [<- Ud] at d2
   rw [<- RB] at d3
   rw [<- hq4] at d4
   have m0:=Int.emod_nonneg (t0+5) (show (67108864:Int)≠0 by decide)
   have m1:=Int.emod_nonneg (t1+q0) (show (67108864:Int)≠0 by decide)
   have m2:=Int.emod_nonneg (t2+q1) (show (67108864:Int)≠0 by decide)
   have m3:=Int.emod_nonneg (t3+q2) (show (67108864:Int)≠0 by decide)
   have m4:=Int.emod_nonneg (t4+q3) (show (67108864:Int)≠0 by decide)
   have n0:=Int.emod_lt_of_pos (t0+5) (show (0:Int)<67108864 by decide)
   have n1:=Int.emod_lt_of_pos (t1+q0) (show (0:Int)<67108864 by decide)
   have n2:=Int.emod_lt_of_pos (t2+q1) (show (0:Int)<67108864 by decide)
   have n3:=Int.emod_lt_of_pos (t3+q2) (show (0:Int)<67108864 by decide)
   have n4:=Int.emod_lt_of_pos (t4+q3) (show (0:Int)<67108864 by decide)
   have s:sh (g4 [t0,t1,t2,t3,t4])=q4:=by rw [e4,sP,hq4]
   have l0:lo (t0+5)=(t0+5)%67108864:=oO (by clear Pe zM Ud RB hq4 d0 d1 d2 d3 d4;omega)
   have l1:lo (t1+q0)=(t1+q0)%67108864:=oO (by clear Pe zM Ud RB hq4 d0 d1 d2 d3 d4;omega)
   have l2:lo (t2+q1)=(t2+q1)%67108864:=oO (by clear Pe zM Ud RB hq4 d0 d1 d2 d3 d4;omega)
   have l3:lo (t3+q2)=(t3+q2)%67108864:=oO (by clear Pe zM Ud RB hq4 d0 d1 d2 d3 d4;omega)
   have l4:lo (t4+q3)=(t4+q3)%67108864:=oO (by clear Pe zM Ud RB hq4 d0 d1 d2 d3 d4;omega)
   unfold xF
   rw [s,e0,e1,e2,e3,e4,l0,l1,l2,l3,l4]
   simp only [List.getD_cons_zero,List.getD_cons_succ]
   clear Pe zM Ud RB hq4 e0 e1 e2 e3 e4 s l0 l1 l2 l3 l4
   generalize (t0+5)%67108864=x0 at *
   generalize (t1+q0)%67108864=x1 at *
   generalize (t2+q1)%67108864=x2 at *
   generalize (t3+q2)%67108864=x3 at *
   generalize (t4+q3)%67108864=x4 at *
   have c:∀ x:Int,0<=x/\x<67108864->0<=x/\x<18446744073709551616:=fun x hx=>by clear d0 d1 d2 d3 d4;omega
   rcases r4 with rfl | rfl
   .rw [Ls (c _ h0),Ls (c _ h1),Ls (c _ h2),Ls (c _ h3),Ls (c _ h4)]
    refine ⟨h',?_⟩
    rw [Bz]
    unfold p
    rw [Int.emod_eq_of_lt (by omega) (by omega)]
   .rw [Lr (c _ ⟨m0,n0⟩),Lr (c _ ⟨m1,n1⟩),Lr (c _ ⟨m2,n2⟩),Lr (c _ ⟨m3,n3⟩),Lr (c _ ⟨m4,n4⟩)]
    refine ⟨⟨rfl,⟨m0,n0⟩,⟨m1,n1⟩,⟨m2,n2⟩,⟨m3,n3⟩,⟨m4,n4⟩⟩,?_⟩
    rw [Bz,Bz]
    unfold p
    have hd:x0+67108864*x1+4503599627370496*x2+302231454903657293676544*x3+20282409603651670423947251286016*x4=t0+67108864*t1+4503599627370496*t2+302231454903657293676544*t3+20282409603651670423947251286016*t4-1361129467683753853853498429727072845819:=by omega
    have z0:0<=x0+67108864*x1+4503599627370496*x2+302231454903657293676544*x3+20282409603651670423947251286016*x4:=by clear hd d0 d1 d2 d3 d4;omega
    have z1:t0+67108864*t1+4503599627370496*t2+302231454903657293676544*t3+20282409603651670423947251286016*t4<1361129467683753853853498429727072845824:=by clear hd d0 d1 d2 d3 d4;omega
    rw [hd] at z0 |-
    clear hd d0 d1 d2 d3 d4
    generalize t0+67108864*t1+4503599627370496*t2+302231454903657293676544*t3+20282409603651670423947251286016*t4=z at *
    have k:z=(z-1361129467683753853853498429727072845819)+1361129467683753853853498429727072845819*1:=by omega
    have e:z%1361129467683753853853498429727072845819=(z-1361129467683753853853498429727072845819)%1361129467683753853853498429727072845819:=by
     conv=>lhs;rw [k]
     rw [Int.add_mul_emod_self_left]
    rw [e,Int.emod_eq_of_lt z0 (by omega)]
theorem LL {a:List Int} (h:Ok a):RM (least a)/\L (least a)=L a%p:=by
 obtain ⟨h1,q,h2⟩:=Oc h
 obtain ⟨h3,h4⟩:=Zr h1
 refine ⟨h3,?_⟩
 show L (xF (settled a))=_
 rw [h4,h2,Int.sub_eq_add_neg,<- Int.mul_neg,Int.add_mul_emod_self_left]
end P
namespace P
theorem Cb {y:Int} (k:Nat) (hk:k<=64):dI .u64 y (k:Int)=(y*((2^k:Nat):Int))%18446744073709551616:=by
 unfold dI
 rw [Int.toNat_natCast,show min k IntKind.u64.bits=k from Nat.min_eq_left hk]
 show (y*2^k)%18446744073709551616=_
 rw [Int.natCast_pow];rfl
theorem aRb (y:Int):dI .u64 y 26=(y*67108864)%18446744073709551616:=Cb 26 (by decide)
theorem aQz (y:Int):dI .u64 y 52=(y*4503599627370496)%18446744073709551616:=Cb 52 (by decide)
theorem aRe (y:Int):dI .u64 y 14=(y*16384)%18446744073709551616:=Cb 14 (by decide)
theorem aRa (y:Int):dI .u64 y 40=(y*1099511627776)%18446744073709551616:=Cb 40 (by decide)
theorem aQy (n:Int):bZ .u64 n 12=n/4096:=Ca n 12 (by decide)
theorem Lt {x y:Int} {k:Nat} {m:Int} (hm:m=((2^k:Nat):Int)) (hx:0<=x/\x<m) (hy:0<=y) (h:y*m+x<18446744073709551616):kN .u64 x (y*m)=x+y*m:=by
 obtain ⟨a,rfl⟩:=Int.eq_ofNat_of_zero_le hx.1
 obtain ⟨b,rfl⟩:=Int.eq_ofNat_of_zero_le hy
 subst hm
 have h1:a<2^k:=by have:=hx.2;omega
 rw [<- Int.natCast_mul] at h |-
 rw [or_eq h1 (by omega),Int.natCast_add];omega
theorem aKk {t:List Int} (h:RM t):low t=t.getD 0 0+67108864*t.getD 1 0+4503599627370496*(t.getD 2 0%4096):=by
 obtain ⟨_,h0,h1,h2,_,_⟩:=h
 unfold low
 generalize t.getD 0 0=t0 at *
 generalize t.getD 1 0=t1 at *
 generalize t.getD 2 0=t2 at *
 rw [aRb,aQz,show (t1*67108864)%18446744073709551616=t1*67108864 by omega,show (t2*4503599627370496)%18446744073709551616=(t2%4096)*4503599627370496 by omega,
  Lt (k:=26) (m:=67108864) rfl h0 h1.1 (by omega),Lt (k:=52) (m:=4503599627370496) rfl (by omega) (by omega) (by omega)]
 omega
theorem aAq {t:List Int} (h:RM t):high t=t.getD 2 0/4096+16384*t.getD 3 0+1099511627776*(t.getD 4 0%16777216):=by
 obtain ⟨_,_,_,h2,h3,h4⟩:=h
 unfold high
 generalize t.getD 2 0=t2 at *
 generalize t.getD 3 0=t3 at *
 generalize t.getD 4 0=t4 at *
 rw [aQy,aRe,aRa,show (t3*16384)%18446744073709551616=t3*16384 by omega,show (t4*1099511627776)%18446744073709551616=(t4%16777216)*1099511627776 by omega,
  Lt (k:=14) (m:=16384) rfl (by omega) h3.1 (by omega),Lt (k:=40) (m:=1099511627776) rfl (by omega) (by omega) (by omega)]
 omega
theorem Ml {t:List Int} (h:RM t):low t+18446744073709551616*high t=L t%340282366920938463463374607431768211456/\(0<=low t/\low t<18446744073709551616)/\(0<=high t/\high t<18446744073709551616):=by
 rw [aKk h,aAq h]
 obtain ⟨_,h0,h1,h2,h3,h4⟩:=h
 unfold L
 generalize t.getD 0 0=t0 at *
 generalize t.getD 1 0=t1 at *
 generalize t.getD 2 0=t2 at *
 generalize t.getD 3 0=t3 at *
 generalize t.getD 4 0=t4 at *
 refine ⟨?_,by omega,by omega⟩
 have d2:=Int.emod_add_mul_ediv t2 4096
 have d4:=Int.emod_add_mul_ediv t4 16777216
 have m2:=Int.emod_nonneg t2 (show (4096:Int)≠0 by decide)
 have n2:=Int.emod_lt_of_pos t2 (show (0:Int)<4096 by decide)
 have m4:=Int.emod_nonneg t4 (show (16777216:Int)≠0 by decide)
 have n4:=Int.emod_lt_of_pos t4 (show (0:Int)<16777216 by decide)
 have q2:0<=t2/4096/\t2/4096<16384:=by omega
 generalize t2%4096=r2 at *
 generalize t2/4096=s2 at *
 generalize t4%16777216=r4 at *
 generalize t4/16777216=s4 at *
 have e:t0+67108864*t1+4503599627370496*t2+302231454903657293676544*t3+20282409603651670423947251286016*t4=(t0+67108864*t1+4503599627370496*r2+18446744073709551616*(s2+16384*t3+1099511627776*r4))+340282366920938463463374607431768211456*s4:=by omega
 rw [e,Int.add_mul_emod_self_left,Int.emod_eq_of_lt (by omega) (by omega)]
end P
namespace P
def S (b:List Int) (k:Nat):Nat->Int
 | 0=>0
 | n+1=>S b k n+b.getD (k+n) 0*((256^n:Nat):Int)
theorem Mf {b:List Int} (hb:∀ i,sN (b.getD i 0)) (k:Nat):∀ n,0<=S b k n/\S b k n<((256^n:Nat):Int)
 | 0=>⟨Int.le_refl 0,(by decide:(0:Int)<((256^0:Nat):Int))⟩
 | n+1=>by
   obtain ⟨h1,h2⟩:=Mf hb k n
   have hy:=hb (k+n)
   have hp:(0:Int)<((256^n:Nat):Int):=Int.natCast_pos.2 (Nat.pow_pos (by decide))
   have e:((256^(n+1):Nat):Int)=256*((256^n:Nat):Int):=by rw [Nat.pow_succ,Nat.mul_comm,Int.natCast_mul];rfl
   have a1:0<=b.getD (k+n) 0*((256^n:Nat):Int):=Int.mul_nonneg hy.1 (Int.le_of_lt hp)
   have a2:b.getD (k+n) 0*((256^n:Nat):Int)<=255*((256^n:Nat):Int):=Int.mul_le_mul_of_nonneg_right (by have:=hy.2;omega) (Int.le_of_lt hp)
   simp only [S]
   rw [e]
   omega
theorem Ck {b:List Int} (hb:∀ i,sN (b.getD i 0)) (k:Nat):∀ n,n<=8->acc b k n=S b k n
 | 0,_=>rfl
 | n+1,hn=>by
   obtain ⟨h1,h2⟩:=Mf hb k n
   obtain ⟨h3,h4⟩:=Mf hb k (n+1)
   have hy:=hb (k+n)
   have hw:W (b.getD (k+n) 0)=b.getD (k+n) 0:=iG (by have:=hy.1;have:=hy.2;omega)
   have aOv:(256^n:Nat)=2^(8*n):=by rw [Nat.pow_mul]
   have bCb:((256^(n+1):Nat):Int)<=18446744073709551616:=by
    have:(256:Nat)^(n+1)<=256^8:=Nat.pow_le_pow_right (by decide) hn
    have e8:(256:Nat)^8=18446744073709551616:=by decide
    omega
   have hnn:0<=b.getD (k+n) 0*((256^n:Nat):Int):=Int.mul_nonneg hy.1 (Int.natCast_nonneg _)
   simp only [S] at h3 h4 |-
   simp only [acc]
   rw [Ck hb k n (by omega),hw,show (8:Int)*(n:Int)=((8*n:Nat):Int) by omega,Cb (8*n) (by omega),<- aOv,Int.emod_eq_of_lt hnn (by omega)]
   exact Lt (k:=8*n) (by rw [aOv]) ⟨h1,h2⟩ hy.1 (by omega)
end P
namespace P
theorem rY {x:Int} (hx:0<=x) {i:Nat} (hi:i<8):byteOf x i=x/((256^i:Nat):Int)%256:=by
 unfold byteOf
 rw [show (8:Int)*(i:Int)=((8*i:Nat):Int) by omega,Ca x (8*i) (by omega),show (2:Nat)^(8*i)=256^i by rw [Nat.pow_mul]]
 rfl
theorem Dr (x:Int) (i:Nat):sN (byteOf x i):=by
 have e:byteOf x i=(bZ .u64 x (8*(i:Int)))%256:=rfl
 unfold sN
 rw [e];omega
theorem mod_succ (x:Int) (n:Nat):x%((256^(n+1):Nat):Int)=x%((256^n:Nat):Int)+(x/((256^n:Nat):Int)%256)*((256^n:Nat):Int):=by
 have hp:(0:Int)<((256^n:Nat):Int):=Int.natCast_pos.2 (Nat.pow_pos (by decide))
 have e:((256^(n+1):Nat):Int)=((256^n:Nat):Int)*256:=by rw [Nat.pow_succ,Int.natCast_mul];rfl
 rw [e]
 generalize ((256^n:Nat):Int)=m at *
 have h1:=Int.emod_add_mul_ediv x m
 have h2:=Int.emod_nonneg x (show m≠0 by omega)
 have h3:=Int.emod_lt_of_pos x hp
 have h4:=Int.emod_add_mul_ediv (x/m) 256
 have h5:=Int.emod_nonneg (x/m) (show (256:Int)≠0 by omega)
 have h6:=Int.emod_lt_of_pos (x/m) (show (0:Int)<256 by omega)
 generalize x/m%256=s at *
 generalize x/m/256=q at *
 generalize x%m=r at *
 have k:x=(r+s*m)+m*256*q:=by
  rw [<- h1,<- h4,Int.mul_add,Int.mul_comm m s,<- Int.mul_assoc];omega
 have l:r+s*m<m*256:=by
  have:s*m<=255*m:=Int.mul_le_mul_of_nonneg_right (by omega) (by omega)
  omega
 have l0:0<=r+s*m:=by
  have:0<=s*m:=Int.mul_nonneg h5 (by omega)
  omega
 rw [k,Int.add_mul_emod_self_left,Int.emod_eq_of_lt l0 l]
theorem Xo {b:List Int} {k:Nat} {x:Int} (h:∀ i,i<8->b.getD (k+i) 0=x/((256^i:Nat):Int)%256):∀ n,n<=8->S b k n=x%((256^n:Nat):Int)
 | 0,_=>by simp [S,Int.emod_one]
 | n+1,hn=>by
   simp only [S]
   rw [Xo h n (by omega),h n (by omega),mod_succ]
theorem S8 {b:List Int} {k:Nat} {x:Int} (h:∀ i,i<8->b.getD (k+i) 0=x/((256^i:Nat):Int)%256) (hx:0<=x/\x<18446744073709551616):S b k 8=x:=by
 rw [Xo h 8 (Nat.le_refl 8)]
 exact Int.emod_eq_of_lt hx.1 hx.2
theorem aLd (f g:Nat->Int) (r:List Int) {i:Nat} (hi:i<8):((List.range 8).map f++((List.range 8).map g++r)).getD i 0=f i:=by
 rw [List.getD_eq_getElem?_getD,List.getElem?_append_left (by simpa using hi)]
 simp [hi]
theorem aLe (f g:Nat->Int) (r:List Int) {i:Nat} (hi:i<8):((List.range 8).map f++((List.range 8).map g++r)).getD (8+i) 0=g i:=by
 rw [List.getD_eq_getElem?_getD,List.getElem?_append_right (by simp),List.getElem?_append_left (by simp;omega)]
 simp [hi]
theorem bBf {t:List Int} (h:RM t) (hb:∀ i,sN ((lI t).getD i 0)):acc (lI t) 0 8=low t/\acc (lI t) 8 8=high t:=by
 obtain ⟨_,hl,hh⟩:=Ml h
 rw [Ck hb 0 8 (Nat.le_refl 8),Ck hb 8 8 (Nat.le_refl 8)]
 refine ⟨S8 (fun i hi=>?_) hl,S8 (fun i hi=>?_) hh⟩
 .rw [Nat.zero_add]
  unfold lI
  rw [aLd _ _ _ hi,rY hl.1 hi]
 .unfold lI
  rw [aLe _ _ _ hi,rY hh.1 hi]
end P
namespace P
theorem rT {l:List Int} (h:∀ x∈l,sN x) (i:Nat):sN (l.getD i 0):=by
 rw [List.getD_eq_getElem?_getD]
 cases hi:l[i]? with
 | none=>exact ⟨Int.le_refl 0,(by decide:(0:Int)<256)⟩
 | some x=>exact h x (List.mem_of_getElem? hi)
theorem Ts (t:List Int):∀ i,sN ((lI t).getD i 0):=rT fun x hx=>by
 unfold lI at hx
 simp only [List.mem_append,List.mem_map,List.mem_singleton] at hx
 rcases hx with ⟨i,_,rfl⟩ | ⟨i,_,rfl⟩ | rfl
 .exact Dr _ _
 .exact Dr _ _
 .have e:IntKind.u8.wrap (bZ .u64 (t.getD 4 0) 24)=(bZ .u64 (t.getD 4 0) 24)%256:=rfl
  unfold sN
  rw [e];omega
def V2 (s:List Int):Int:=S s 0 8+18446744073709551616*S s 8 8
theorem Ze {a s:List Int} (ha:Ok a) (hs:∀ i,sN (s.getD i 0)) :
 ER (lI (least a)) s=(L a%p+V2 s)%340282366920938463463374607431768211456%18446744073709551616/\ES (lI (least a)) s=(L a%p+V2 s)%340282366920938463463374607431768211456/18446744073709551616:=by
 obtain ⟨hR,hL⟩:=LL ha
 obtain ⟨hw,hl,hh⟩:=Ml hR
 obtain ⟨a0,a8⟩:=bBf hR (Ts _)
 have s0:=Mf hs 0 8
 have s8:=Mf hs 8 8
 have e8:((256^8:Nat):Int)=18446744073709551616:=by decide
 rw [e8] at s0 s8
 unfold ER ES V2
 rw [a0,a8,Ck hs 0 8 (Nat.le_refl 8),Ck hs 8 8 (Nat.le_refl 8),<- hL]
 clear hL a0 a8 e8
 generalize low (least a)=l at *
 generalize high (least a)=h at *
 generalize S s 0 8=x at *
 generalize S s 8 8=y at *
 generalize L (least a)=z at *
 have hz:=Int.emod_add_mul_ediv z 340282366920938463463374607431768211456
 rw [<- hw] at hz
 generalize z/340282366920938463463374607431768211456=k at *
 have d1:=Int.emod_add_mul_ediv (l+x+0) 18446744073709551616
 have m1:=Int.emod_nonneg (l+x+0) (show (18446744073709551616:Int)≠0 by decide)
 have n1:=Int.emod_lt_of_pos (l+x+0) (show (0:Int)<18446744073709551616 by decide)
 generalize (l+x+0)%18446744073709551616=lo at *
 generalize (l+x+0)/18446744073709551616=c at *
 have d2:=Int.emod_add_mul_ediv (h+y+c) 18446744073709551616
 have m2:=Int.emod_nonneg (h+y+c) (show (18446744073709551616:Int)≠0 by decide)
 have n2:=Int.emod_lt_of_pos (h+y+c) (show (0:Int)<18446744073709551616 by decide)
 generalize (h+y+c)%18446744073709551616=hi at *
 generalize (h+y+c)/18446744073709551616=d at *
 have e:z+(x+18446744073709551616*y)=(lo+18446744073709551616*hi)+340282366920938463463374607431768211456*(d+k):=by clear hw hl hh s0 s8;omega
 rw [e,Int.add_mul_emod_self_left,Int.emod_eq_of_lt (a:=lo+18446744073709551616*hi) (by clear e hz d1 d2 hw;omega) (by clear e hz d1 d2 hw;omega),Int.add_mul_emod_self_left,Int.emod_eq_of_lt m1 n1,Int.add_mul_ediv_left _ _ (by decide),Int.ediv_eq_zero_of_lt m1 n1,Int.zero_add]
 exact ⟨rfl,rfl⟩
end P
namespace P
theorem Ul {x q:Int}:(x-p*q)%p=x%p:=by rw [Int.sub_eq_add_neg,<- Int.mul_neg,Int.add_mul_emod_self_left]
theorem Vz {s b y:List Int} (hs:Ok s) (hy:Ok y) (hb:∀ i,sN (b.getD i 0)):Ok (plus s b y)/\L (plus s b y)%p=((L s%p+Uh b)*L y)%p:=by
 obtain ⟨hn,q1,e1⟩:=Ik hb
 obtain ⟨hm,q2,e2⟩:=aNr hs hn
 obtain ⟨hr,q3,e3⟩:=aJz hm hy
 refine ⟨hr,?_⟩
 show L (mul (add s (num b)) y)%p=_
 have h1:L (add s (num b))%p=(L s%p+Uh b)%p:=by
  rw [e2,Ul,e1,show L s+(Uh b-p*q1)=(L s+Uh b)-p*q1 by omega,Ul]
  unfold p
  omega
 rw [e3,Ul,Int.mul_emod,h1,<- Int.mul_emod]
theorem aQh:Ok (List.replicate 5 0):=⟨rfl,by decide,by decide,by decide,by decide,by decide⟩
theorem aUw:L (List.replicate 5 0)=0:=by decide
end P
namespace P
theorem aJl {S:MS} (hS:S.WF) (h0:S.held=0) {d:List Int} (hd:d.length=16):put S d=⟨S.eT,plus S.sum (d++[1]) S.eT,S.mask,nL,0⟩:=by
 obtain ⟨eT,sum,mask,aM,held⟩:=S
 simp only at h0
 subst h0
 rw [Cs eT sum mask d aM 0 hS.Pb (by omega) (fun e=>by rw [e] at hd;cases hd)]
 rfl
def hor (r:Int) (d:List Int):Nat->Int
 | 0=>0
 | j+1=>((hor r d j+Uh ((d.drop (16*j)).take 16++[1]))*r)%p
theorem aDd {d:List Int} (hd:∀ x∈d,sN x) (j:Nat):∀ i,sN (((d.drop (16*j)).take 16++[1]).getD i 0):=rT fun x hx=>by
 rcases List.mem_append.1 hx with h | h
 .exact hd x (List.mem_of_mem_drop (List.mem_of_mem_take h))
 .simp only [List.mem_singleton] at h
  subst h
  exact ⟨by decide,by decide⟩
theorem Dk {eT mask:List Int} (hb:Ok eT) (hm:mask.length=16) {d:List Int} (hd:∀ x∈d,sN x):∀ j,16*j<=d.length ->
 ∃ s,put ⟨eT,List.replicate 5 0,mask,nL,0⟩ (d.take (16*j))=⟨eT,s,mask,nL,0⟩/\Ok s/\L s%p=hor (L eT) d j
 | 0,_=>⟨List.replicate 5 0,by rw [Nat.mul_zero,List.take_zero,YJ],aQh,by rw [aUw];rfl⟩
 | j+1,h=>by
   obtain ⟨s,e,hs,hL⟩:=Dk hb hm hd j (by omega)
   have hl:((d.drop (16*j)).take 16).length=16:=by rw [List.length_take,List.length_drop];omega
   have hw:(⟨eT,s,mask,nL,0⟩:MS).WF:=⟨hb.len,hs.len,hm,rfl,(by decide:0<16),rfl⟩
   obtain ⟨h1,h2⟩:=Vz hs hb (aDd hd j)
   refine ⟨plus s ((d.drop (16*j)).take 16++[1]) eT,?_,h1,?_⟩
   .have et:d.take (16*(j+1))=d.take (16*j)++(d.drop (16*j)).take 16:=by rw [Nat.mul_add,Nat.mul_one,List.take_add]
    rw [et,lP,e,aJl hw rfl hl]
   .rw [h2,hL];rfl
end P
namespace P
def Er (S:MS):List Int:=if 0<S.held then plus S.sum ((S.aM++[0]).set S.held 1) S.eT else S.sum
def Px (r:Int) (d:List Int):Int:=if d.length%16=0 then hor r d (d.length/16) else ((hor r d (d.length/16)+Uh (d.drop (16*(d.length/16))++1::List.replicate (16-d.length%16) 0))*r)%p
theorem LR {r:List Int} (h:r.length<16):((nL.take 0++r++nL.drop (0+r.length))++[0]).set (0+r.length) 1=r++1::List.replicate (16-r.length) 0:=by
 have e:nL.drop (0+r.length)++[0]=0::List.replicate (16-r.length) 0:=by
  unfold nL
  rw [List.drop_replicate,Nat.zero_add,<- List.replicate_succ,<- List.replicate_succ']
 rw [List.take_zero,List.nil_append,List.append_assoc,e,Nat.zero_add,List.set_append_right _ _ (Nat.le_refl _),Nat.sub_self]
 rfl
theorem aLi {eT mask:List Int} (hb:Ok eT) (hm:mask.length=16) {d:List Int} (hd:∀ x∈d,sN x) :
 Ok (Er (put ⟨eT,List.replicate 5 0,mask,nL,0⟩ d))/\L (Er (put ⟨eT,List.replicate 5 0,mask,nL,0⟩ d))%p=Px (L eT) d/\(put ⟨eT,List.replicate 5 0,mask,nL,0⟩ d).mask=mask:=by
 obtain ⟨s,e,hs,hL⟩:=Dk hb hm hd (d.length/16) (by omega)
 have hr:(d.drop (16*(d.length/16))).length=d.length%16:=by rw [List.length_drop];omega
 have ed:put ⟨eT,List.replicate 5 0,mask,nL,0⟩ d=put ⟨eT,s,mask,nL,0⟩ (d.drop (16*(d.length/16))):=by
  rw [<- e,<- lP,List.take_append_drop]
 have ef:=uX eT s mask (d.drop (16*(d.length/16))) nL 0 rfl (by rw [hr];omega)
 rw [ed,ef]
 unfold Er Px
 simp only
 by_cases h0:d.length%16=0
 .rw [if_neg (by omega),if_pos h0]
  exact ⟨hs,hL,trivial⟩
 .rw [if_pos (by omega),if_neg h0,LR (by omega),hr]
  obtain ⟨h1,h2⟩:=Vz (s:=s) (y:=eT) (b:=d.drop (16*(d.length/16))++1::List.replicate (16-d.length%16) 0) hs hb (rT fun x hx=>by
   rcases List.mem_append.1 hx with h | h
   .exact hd x (List.mem_of_mem_drop h)
   .rcases List.mem_cons.1 h with rfl | h
    .exact ⟨by decide,by decide⟩
    .rw [List.eq_of_mem_replicate h];exact ⟨by decide,by decide⟩)
  exact ⟨h1,by rw [h2,hL],trivial⟩
end P
theorem zV {L:List Int} (h:L.length=16):Ua (fun j=>L.getD j 0)=L:=eD h
theorem aJk {L K:List Int} (h:L.length=16):Ua (fun j=>(L++K).getD j 0)=L:=by
 rw [<- zV h]
 refine List.map_congr_left fun j hj=>?_
 have hj:j<16:=by simpa using hj
 rw [zV h,List.getD_eq_getElem?_getD,List.getElem?_append_left (by omega),<- List.getD_eq_getElem?_getD]
theorem IS {L K:List Int} (h:L.length=16) (hk:K.length=16):Ua (fun j=>(L++K).getD (16+j) 0)=K:=by
 conv=>rhs;rw [<- zV hk]
 refine List.map_congr_left fun j hj=>?_
 rw [List.getD_eq_getElem?_getD,List.getElem?_append_right (by omega),h,show 16+j-16=j by omega,<- List.getD_eq_getElem?_getD]
theorem Fs {S':P.MS} {b s:List Int} {mk bk:Nat->Int} {h:Int} (h1:b=S'.eT) (h2:s=S'.sum) (h3:∀ j<16,mk j=S'.mask.getD j 0) (h4:∀ j<16,bk j=S'.aM.getD j 0) (h5:h=(S'.held:Int)):∀ q∈qM b s mk bk h S',q:=by
 subst h1 h2 h5
 intro q hq
 simp only [qM,List.mem_append,List.mem_map,List.mem_range,List.mem_cons,List.not_mem_nil,or_false] at hq
 rcases hq with ⟨j,_,rfl⟩ | ⟨j,_,rfl⟩ | ⟨j,hj,rfl⟩ | ⟨j,hj,rfl⟩ | rfl
 .trivial
 .trivial
 .exact h3 j hj
 .exact h4 j hj
 .trivial
theorem Cc {S S':P.MS} (h:S=S'):∀ q∈qMS S S',q:=by
 subst h
 exact Fs rfl rfl (fun _ _=>rfl) (fun _ _=>rfl) rfl
theorem P.Lw {S:P.MS} (h:S.WF):P.nf S=S:=by
 obtain ⟨eT,sum,mask,aM,held⟩:=S
 obtain ⟨h1,h2,h3,h4,h5,h6⟩:=h
 simp only [P.nf,jB h1,jB h2,eD h3,eD h4,Int.toNat_natCast]
theorem Qh {y s:List Int} {mk bk:Nat->Int} {h:Int} {N:P.MS} {b:List Int} {r:List Prop} (hy:y.length=5) (hs:s.length=5) (hb:b.length=17)
 (hq:∀ q∈qM y s mk bk h N,q) (hr:∀ q∈r,q):∀ q∈tkG P.plus y s mk bk h N b r,q:=
 aO rfl (aO (by rw [jB hy];exact hy) (aO (by rw [jB hs];exact hs) (aO hb (aO rfl (aO rfl (qT hq hr))))))
theorem IE {d:List Int} (h:16<=d.length):tkD d=d.take 16:=by
 unfold tkD
 rw [List.take_of_length_le]
 have:(d.take 16).length=16:=by rw [List.length_take];omega
 rw [this];decide
theorem ID {d:List Int} (h:16<=d.length):tqL d=d.take 16++[1]:=by
 have hl:(d.take 16).length=16:=by rw [List.length_take];omega
 unfold tqL SX
 rw [IE h,hl,List.take_zero,List.nil_append]
 show ((d.take 16)++[0]).set 16 1=_
 rw [List.set_append_right _ _ (by omega),hl]
 rfl
theorem aNd (d:List Int):d16 d=d.take 16:=rfl
theorem P.aRr {S:P.MS} (hS:S.WF) (h0:S.held=0) {d:List Int} (hd:d.length=16):P.put S d=⟨S.eT,P.plus S.sum (d++[1]) S.eT,S.mask,P.nL,0⟩:=by
 obtain ⟨eT,sum,mask,aM,held⟩:=S
 simp only at h0
 subst h0
 rw [P.Cs eT sum mask d aM 0 hS.Pb (by omega) (fun e=>by rw [e] at hd;cases hd)]
 rfl
theorem P.Vm (j:Nat):P.nL.getD j 0=0:=by
 unfold P.nL
 rw [List.getD_eq_getElem?_getD,List.getElem?_replicate]
 split <;> rfl
theorem P.bAx {S:P.MS} (hS:S.WF) (h0:S.held=0):S.aM=P.nL:=by
 have:=hS.z
 rw [h0] at this
 exact this
theorem II {S:P.MS} (hS:S.WF) (d:List Int) (h m:Nat):spM S d (27+h) m=S.mask++(S.aM.take h++d.take m++S.aM.drop (h+(d.take m).length)):=by
 unfold spM
 rw [eD hS.Oz,eD hS.Pb,show 27+h-11=S.mask.length+h by rw [hS.Oz];omega,List.take_length_add_append,Nat.add_assoc,List.drop_length_add_append]
 simp only [List.append_assoc]
theorem Wp {S:P.MS} (hS:S.WF) {d:List Int} {h m:Nat} (hm:h+(d.take m).length<=16):(S.aM.take h++d.take m++S.aM.drop (h+(d.take m).length)).length=16:=by
 have:=hS.Pb
 simp only [List.length_append,List.length_drop,List.length_take] at *
 omega
theorem ZC {S:P.MS} (d:List Int) (hS:S.WF) (hl:d.length<=1000000000000) :
 aE Tryz.prog (Pn P.plus) 84 (DJ d.length) (QS S d) 100 100 (RV (.eL []) (P.put S d)):=by
 refine gQ (Vk _) (Vl _) Tryz.func84 (by kernel_rfl) rfl (Nat.le_of_ble_eq_true (by kernel_rfl)) rfl [] ?_
 intro w0 M V0 Q hb H
 have aT:=Vk P.plus
 have aX:=Vl P.plus
 have key:∀ (S1:P.MS) (d2:List Int),S1.WF->(S1.held=0\/d2=[])->P.put S1 d2=P.put S d->d2.length<=1000000000000 ->
  G Tryz.prog (Pn P.plus) w0 M (bH 100 (QS S d)) Tryz.f84.ntmps 100 V0 (.go (.loop Yk)) mwK (cA (Aq d2.length) (Az S1 d2) 101 [60] []) Q:=by
  intro S1 d2 hw h0 he SH
  refine G.loop (fun r s=>∃ (S1:P.MS) (d2:List Int),S1.WF/\(S1.held=0\/d2=[])/\P.put S1 d2=P.put S d/\d2.length<=1000000000000/\r=d2.length/\s=cA (Aq d2.length) (Az S1 d2) 101 [60] []) (r0:=d2.length)
   ⟨S1,d2,hw,h0,he,SH,rfl,rfl⟩ ?_
  clear hw h0 he SH S1 d2
  rintro r s ⟨S1,d2,hw,h0,he,SH,rfl,rfl⟩
  by_cases tY:16<=d2.length
  .have hT:lT d2.length=true:=decide_eq_true (by omega)
   have h0:S1.held=0:=h0.resolve_right fun e=>by rw [e] at tY;simp at tY
   have ht:(d2.take 16).length=16:=by rw [List.length_take];omega
   have e1:=P.aRr hw h0 ht
   have h:=aXp P.plus S S1 (P.put S1 (d2.take 16)) d d2 (d2.drop 16) d2.length (d2.drop 16).length
   rw [aNd,ID (by omega),IE (by omega),List.take_take,Nat.min_self,ht] at h
   refine G.lF aT aX mix hb [true] h ?_ (d2.drop 16).length (by rw [List.length_drop];omega) ⟨_,_,P.Ii hw _,?_,?_,?_,rfl,rfl⟩
   .have CY:(SX (d2.take 16)).length=17:=by
     have:=congrArg List.length (ID (d:=d2.take 16) (by omega))
     rw [List.take_take] at this
     simpa [tqL,ht] using this
    have aOy:(d2.take 16++[1]).length=17:=by rw [List.length_append,ht];rfl
    refine aO ⟨by omega,by omega,by omega⟩ (Qh hw.b5 hw.s5 aOy (by rw [P.Lw hw];exact Cc rfl) (qT ?_ (aO hT (aO rfl (aO (by rw [List.length_drop];omega) (qT ?_ (aO ?_ iF)))))))
    .refine aA (show _/\_/\_/\_/\_/\_/\True from ⟨aOy,by rw [CY];decide,⟨Nat.le_refl 0,by omega⟩,by omega,Nat.le_refl _,⟨by omega,by omega,by omega⟩,trivial⟩)
    .rw [e1]
     refine Fs rfl ?_ (fun _ _=>rfl) (fun j _=>by rw [P.bAx hw h0]) (by rw [h0])
     show P.plus _ _ _=P.plus _ _ _
     rw [jB hw.s5,jB hw.b5]
    .rw [List.take_of_length_le (by rw [List.length_drop];omega)];rfl
   .left;rw [e1]
   .rw [<- P.lP,List.take_append_drop];exact he
   .rw [List.length_drop];omega
  .have hT:lT d2.length=false:=decide_eq_false (by omega)
   refine G.fL aT aX mix hb [false] (aXo P.plus S S1 S1 d d2 d2 d2.length d2.length) (aO hT (aO rfl (aO rfl (qT (Cc rfl) (aO rfl iF))))) (G.leave (by simp) ?_)
   by_cases hz:d2.length=0
   .have hd:d2=[]:=List.length_eq_zero_iff.1 hz
    subst hd
    have hP:gP 0=false:=rfl
    have h6:=aXm P.plus S S1 d [] 0
    have e3:S1=P.put S d:=he
    rw [e3] at h6
    rw [e3]
    exact G.qR (cl:=[]) aT aX mix [false] H h6 (aO hP (aO rfl iF)) rfl rfl rfl
   .have h0:S1.held=0:=h0.resolve_right fun e=>hz (by rw [e];rfl)
    have hP:gP d2.length=true:=decide_eq_true (by omega)
    have h5:=aXn P.plus S S1 d d2 d2.length
    have e3:spF S1 d2=P.put S d:=by
     rw [<- he]
     have aYx:d2.length.min 16=d2.length:=Nat.min_eq_left (by omega)
     have em:=II hw d2 0 d2.length
     rw [List.take_length,List.take_zero,List.nil_append,Nat.zero_add] at em
     have hlen:=Wp hw (d:=d2) (h:=0) (m:=d2.length) (by rw [List.take_length];omega)
     rw [List.take_length,List.take_zero,List.nil_append,Nat.zero_add] at hlen
     have ep:=P.uX S1.eT S1.sum S1.mask d2 S1.aM 0 hw.Pb (by omega)
     rw [List.take_zero,List.nil_append,Nat.zero_add] at ep
     have eS:S1=⟨S1.eT,S1.sum,S1.mask,S1.aM,0⟩:=by rw [<- h0]
     rw [eS,ep]
     unfold spF spE
     simp only [aYx]
     have em':spM ⟨S1.eT,S1.sum,S1.mask,S1.aM,0⟩ d2 27 d2.length=S1.mask++(d2++S1.aM.drop d2.length):=em
     rw [em',aJk hw.Oz,IS hw.Oz hlen]
    rw [e3] at h5
    exact G.qR (cl:=[]) aT aX mix [true] H h5 (aO ⟨by omega,by rw [List.length_take];omega⟩ (aO hP (aO rfl iF))) rfl rfl rfl
 by_cases hz:S.held=0
 .have hG:gT S.held=false:=decide_eq_false (by omega)
  refine G.fL aT aX mix hb [false] (aXs P.plus S S d d d.length d.length) (aO hG (aO rfl (aO rfl (qT (Cc rfl) (aO rfl iF))))) ?_
  exact key S d hS (.inl hz) rfl hl
 .have hG:gT S.held=true:=decide_eq_true (by omega)
  have hh:=hS.hl
  have hm:mM d S.held=min d.length (16-S.held):=rfl
  have hmd:mM d S.held<=d.length:=by rw [hm];omega
  have bCd:S.held+mM d S.held<=16:=by rw [hm];omega
  have hmz:mM d S.held=d.length\/S.held+mM d S.held=16:=by rw [hm];omega
  clear hm
  generalize hmm:mM d S.held=m at *
  have CC:(d.take m).length=m:=by rw [List.length_take];omega
  have ho:oM S.held=27+S.held:=by unfold oM;rw [if_neg (by omega),Int.toNat_natCast];omega
  have hhq:hq S.held m=((S.held+m:Nat):Int):=by unfold hq;rw [IntWalk.i64_in _ (by omega)];omega
  have em:=II hS d S.held m
  have hlen:=Wp hS (d:=d) (h:=S.held) (m:=m) (by omega)
  have ej:spJ S d=fun j=>(S.mask++(S.aM.take S.held++d.take m++S.aM.drop (S.held+(d.take m).length))).getD j 0:=by
   funext j;unfold spJ;rw [ho,hmm,em]
  rw [CC] at ej hlen em
  have hmc:∀ {r:List Prop},(∀ q∈r,q)->∀ q∈mcO S.held d.length m d r,q:=fun hr=>
   aO ⟨by omega,by omega,by omega⟩ (aO ⟨by rw [ho];omega,by rw [ho,CC];omega⟩ (aO ⟨by omega,by omega,by omega,by omega,Int.natCast_nonneg _,by omega⟩ (aO hG (aO rfl hr))))
  have hdl:(d.drop m).length=d.length-m:=List.length_drop
  have htd:(d.drop (m:Int).toNat).take ((d.length:Int).toNat-(m:Int).toNat)=d.drop m:=by
   rw [Int.toNat_natCast,Int.toNat_natCast,List.take_of_length_le (by rw [hdl];omega)]
  have QY:=P.Ii hS (d.take m)
  have hpp:P.put (P.put S (d.take m)) (d.drop m)=P.put S d:=by rw [<- P.lP,List.take_append_drop]
  by_cases hf:S.held+m=16
  .have hbq:(hq S.held m==16)=true:=by rw [hhq,hf];rfl
   have ep:=P.Cs S.eT S.sum S.mask (d.take m) S.aM S.held hS.Pb (by omega) (fun e=>by rw [e] at CC;simp at CC;omega)
   have eS:P.put S (d.take m)=⟨S.eT,P.plus S.sum (S.aM.take S.held++d.take m++[1]) S.eT,S.mask,P.nL,0⟩:=ep
   have aPr:S.aM.drop (S.held+m)=[]:=List.drop_eq_nil_of_le (by rw [hf];exact Nat.le_of_eq hS.Pb)
   have hB:DL S d=S.aM.take S.held++d.take m++[1]:=by
    unfold DL
    rw [ej,IS hS.Oz hlen,aPr,List.append_nil]
   have aZj:(DL S d).length=17:=by rw [hB];rw [aPr,List.append_nil] at hlen;rw [List.length_append,hlen];rfl
   have h2:=aXq P.plus S (P.put S (d.take m)) d (d.drop m) d.length (d.drop m).length
   rw [hmm] at h2
   refine G.fL aT aX mix hb [true,true] h2 (Qh hS.b5 hS.s5 aZj ?_ (aO hbq (aO rfl (hmc (aO (by rw [hdl];omega) (qT ?_ (aO htd iF))))))) ?_
   .unfold spN
    refine Fs (jB hS.b5).symm (jB hS.s5).symm (fun j hj=>?_) (fun j hj=>?_) ?_
    .simp [Ua,List.getD_eq_getElem?_getD,hj]
    .simp [Ua,List.getD_eq_getElem?_getD,hj]
    .rw [hmm,hhq,Int.toNat_natCast]
   .rw [eS]
    refine Fs rfl (by show P.plus _ _ _=P.plus _ _ _;rw [jB hS.s5,jB hS.b5,hB]) (fun j hj=>?_) (fun j hj=>?_) rfl
    .rw [ej];simp only
     rw [List.getD_eq_getElem?_getD,List.getElem?_append_left (by rw [hS.Oz];exact hj),<- List.getD_eq_getElem?_getD]
    .exact (P.Vm j).symm
   .exact key _ _ QY (.inl (by rw [eS])) hpp (by rw [hdl];omega)
  .have bCc:m=d.length:=hmz.resolve_right hf
   have hbq:(hq S.held m==16)=false:=by rw [hhq];simpa using by omega
   have ep:=P.uX S.eT S.sum S.mask (d.take m) S.aM S.held hS.Pb (by omega)
   have eS:P.put S (d.take m)=⟨S.eT,S.sum,S.mask,S.aM.take S.held++d.take m++S.aM.drop (S.held+(d.take m).length),S.held+(d.take m).length⟩:=ep
   rw [CC] at eS
   have h1:=aXr P.plus S (P.put S (d.take m)) d (d.drop m) d.length (d.drop m).length
   rw [hmm,ho,em] at h1
   refine G.fL aT aX mix hb [true,false] h1 (aO hbq (aO rfl (hmc (aO (by rw [hdl];omega) (qT ?_ (aO htd iF)))))) ?_
   .rw [eS]
    refine Fs rfl rfl (fun j hj=>?_) (fun j hj=>?_) hhq
    .rw [List.getD_eq_getElem?_getD,List.getElem?_append_left (by rw [hS.Oz];exact hj),<- List.getD_eq_getElem?_getD]
    .rw [List.getD_eq_getElem?_getD,List.getElem?_append_right (by rw [hS.Oz];omega),hS.Oz,show 16+j-16=j by omega,<- List.getD_eq_getElem?_getD]
   .exact key _ _ QY (.inr (List.drop_eq_nil_of_le (by omega))) hpp (by rw [hdl];omega)
noncomputable def Qb (pl:List Int->List Int->List Int->List Int):Nat->Option Sum:=dM (aGo pl) 129 (aL aB 100 Uo)
theorem Wx (pl:List Int->List Int->List Int->List Int):∀ f S,Qb pl f=some S->∀ Γ:Env,Γ.aR=aB->aI Tryz.prog Γ f S:=bD (Wy pl) 129 _ IU
theorem aQr (pl:List Int->List Int->List Int->List Int) (S:P.MS):aJ (env (Qb pl) 4) Tryz.f85 true [false] 1500 [.ptr 60 true 0] (mnT S) 100 100 =
 some { bK:=[(c5 S.sum).length=5,(dJ 16 S.mask).length=16,c5 S.sum=c5 S.sum,dJ 16 S.mask=dJ 16 S.mask,gT S.held=false,gT S.held=gT S.held],val:=.agg (cO .u8 16 (P.tag (c5 S.sum) (dJ 16 S.mask))) }:=by kernel_rfl
def tgB (S:P.MS):List Int:=(dJ 16 S.aM++[0]).set (0+(S.held:Int).toNat*1) 1
def tgX (pl:List Int->List Int->List Int->List Int) (S:P.MS):List Int:=c5 (pl (c5 S.sum) (tgB S) (c5 S.eT))
def Pb (a b:List Int):List Prop:=[a.length=5,b.length=16,a=a,b=b]
theorem aQq (pl:List Int->List Int->List Int->List Int) (S:P.MS):aJ (env (Qb pl) 4) Tryz.f85 true [true] 1500 [.ptr 60 true 0] (mnT S) 100 100 =
 some { RV (.agg (cO .u8 16 (P.tag (tgX pl S) (dJ 16 S.mask)))) (P.nf S) with bK:=Pb (tgX pl S) (dJ 16 S.mask)++tkG pl S.eT S.sum (S.mask.getD · 0) (S.aM.getD · 0) S.held (P.nf S) (tgB S) [(tgB S).length=17,0+(S.held:Int).toNat*1<(dJ 16 S.aM++[0]).length,0<=(S.held:Int)/\(S.held:Int)<(17:Nat),gT S.held=true,gT S.held=gT S.held] }:=by kernel_rfl
namespace P
def Fm (S:MS):List Int:=tag (Er S) S.mask
end P
theorem KL {S:P.MS} (hS:S.WF) (Γ:Env) (hg:Γ.aR=aB):aE Tryz.prog Γ 85 [.ptr 60 true 0] (mnT S) 100 100 (RV (.agg (cO .u8 16 (P.Fm S))) S):=by
 have hk:∀ {a b:List Int},a.length=5->b.length=16->∀ q∈Pb a b,q:=fun h1 h2=>aA (show _/\_/\_/\_/\True from ⟨h1,h2,rfl,rfl,trivial⟩)
 by_cases hz:S.held=0
 .have hG:gT S.held=false:=decide_eq_false (by omega)
  have hs:aI Tryz.prog (env (Qb P.plus) 4) 85 (aJ (env (Qb P.plus) 4) Tryz.f85 true [false] 1500):=aN (bQ _ 4) (bW _ (Wx _) 4) mix Tryz.func85 (by kernel_rfl) true [false] 1500
  have h:=hs.call (aQr P.plus S) (aO (by rw [jB hS.s5];exact hS.s5) (aO (by rw [eD hS.Oz];exact hS.Oz) (aO rfl (aO rfl (aO hG (aO rfl iF))))))
  have e1:P.Fm S=P.tag (c5 S.sum) (dJ 16 S.mask):=by unfold P.Fm P.Er;rw [if_neg (by omega),jB hS.s5,eD hS.Oz]
  rw [e1]
  exact (h.same (l0:=60) (by simp only [mnT,mnL,aF]) rfl).words (by rw [hg];rfl) (fun _=>rfl) (fun _ _ h=>h) (fun V=>rfl) rfl rfl
 .have hG:gT S.held=true:=decide_eq_true (by omega)
  have hh:=hS.hl
  have hs:aI Tryz.prog (env (Qb P.plus) 4) 85 (aJ (env (Qb P.plus) 4) Tryz.f85 true [true] 1500):=aN (bQ _ 4) (bW _ (Wx _) 4) mix Tryz.func85 (by kernel_rfl) true [true] 1500
  have eB:tgB S=(S.aM++[0]).set S.held 1:=by unfold tgB;rw [eD hS.Pb,Int.toNat_natCast,Nat.mul_one,Nat.zero_add]
  have hB:(tgB S).length=17:=by rw [eB,List.length_set,List.length_append,hS.Pb];rfl
  have eX:tgX P.plus S=P.Er S:=by unfold tgX P.Er;rw [if_pos (by omega),jB hS.s5,jB hS.b5,jB rfl,eB]
  have h:=hs.call (aQq P.plus S) (qT (hk (by rw [eX];unfold P.Er;rw [if_pos (by omega)];rfl) (by rw [eD hS.Oz];exact hS.Oz)) (Qh hS.b5 hS.s5 hB (by rw [P.Lw hS];exact Cc rfl)
   (aO hB (aO (by rw [eD hS.Pb,List.length_append,hS.Pb,Int.toNat_natCast,List.length_singleton];omega) (aO ⟨by omega,by omega⟩ (aO hG (aO rfl iF)))))))
  rw [P.Lw hS,eX,eD hS.Oz] at h
  exact h.words (by rw [hg];rfl) (fun _=>rfl) (fun _ _ h=>h) (fun V=>rfl) rfl rfl
def GD (vs:List SV) (T:aZ):Option Canon:=match vs with
 | [.ptr l _ _,p]=>match T l with
   | some (.own cs ty)=>match Nat.beq ty 182,msN cs,cW T .u8 p with
     | true,some S,some (ob,d)=>some { eR:=[.ptr 60 true 0,.eV 61 d.length],T0:=mtL S d,vl:=[(60,.lab l 0),(61,.arg 1)],e0:=RV (.eL []) (P.put S d),conds:=S.WF::(d.length<=1000000000000)::ob }
     | _,_,_=>none
   | _=>none
 | _=>none
theorem aJy (Γ:Env) (hg:Γ.aR=aB):aI Tryz.prog Γ 84 (aL aB 100 GD):=by
 refine aW hg fun vs T c hd hc=>?_
 unfold GD at hd
 split at hd
 case h_2=>cases hd
 split at hd
 case h_2=>cases hd
 split at hd
 case h_2=>cases hd
 cases hd
 exact (ZC _ (hc _ cM) (hc _ (List.mem_cons_of_mem _ cM))).words (by rw [hg];rfl) (fun _=>rfl) (fun _ _ h=>h) (fun _=>rfl) rfl rfl
def Qi (vs:List SV) (T:aZ):Option Canon:=match vs with
 | [.ptr l _ _]=>match T l with
   | some (.own cs ty)=>match Nat.beq ty 182,msN cs with
     | true,some S=>some { eR:=[.ptr 60 true 0],T0:=mnL S,vl:=[(60,.lab l 0)],e0:=RV (.agg (cO .u8 16 (P.Fm S))) S,conds:=[S.WF] }
     | _,_=>none
   | _=>none
 | _=>none
theorem VR (Γ:Env) (hg:Γ.aR=aB):aI Tryz.prog Γ 85 (aL aB 100 Qi):=by
 refine aW hg fun vs T c hd hc=>?_
 unfold Qi at hd
 split at hd
 case h_2=>cases hd
 split at hd
 case h_2=>cases hd
 split at hd
 case h_2=>cases hd
 cases hd
 exact KL (hc _ cM) Γ hg
open M in
def HR (vs:List SV) (T:aZ):Option Canon:=match vs with
 | [.aH lq true 0 nq cq,.ptr ls true 0,.aH lu true 0 nu cu,.cP lv 0 3 0]=>match T lq,T ls,T lu,T lv with
   | some (.own qs 196),some (.own [.raw (.pointer none)] 306),some (.own us 196),some (.row 1 _ 196)=>match cX .u64 qs,cX .u64 us,Nat.beq nu 4 with
     | some [y0],some [u0,u1,u2,u3,_,_,_],true=>match Nat.beq cu 7&&(Nat.beq nq 1&&Nat.beq cq 1) with
       | true=>some { eR:=Bh 4 7 1 1,T0:=[(61,.own (wc [y0]) 196),(62,.own [.raw (.pointer none)] 306),(63,.own (wc [u0,u1,u2,u3,0,0,0]) 196),(64,.row 1 fF 196)],vl:=[(61,.lab lq 0),(62,.lab ls 0),(63,.lab lu 0),(64,.lab lv 0)]
                      e0:={ val:=.eL [],wr:=[(61,.own (wc [n4 u0 u1 u2 u3/DD]) 196),(63,.own (wc [w0 (n4 u0 u1 u2 u3%DD),w1 (n4 u0 u1 u2 u3%DD),w2 (n4 u0 u1 u2 u3%DD),0,0,0,0]) 196),(62,.own [.raw (.pointer none)] 306),(64,.row 1 fF 196)] },conds:=[U u0,U u1,U u2,U u3,u3<9223372036854775808] }
       | false=>none
     | some [y0],some [u0,u1,u2,u3,_,_,_,_],true=>match Nat.beq cu 8&&(Nat.beq nq 1&&Nat.beq cq 1) with
       | true=>some { eR:=Bh 4 8 1 1,T0:=[(61,.own (wc [y0]) 196),(62,.own [.raw (.pointer none)] 306),(63,.own (wc [u0,u1,u2,u3,0,0,0,0]) 196),(64,.row 1 fF 196)],vl:=[(61,.lab lq 0),(62,.lab ls 0),(63,.lab lu 0),(64,.lab lv 0)]
                      e0:={ val:=.eL [],wr:=[(61,.own (wc [n4 u0 u1 u2 u3/DD]) 196),(63,.own (wc [w0 (n4 u0 u1 u2 u3%DD),w1 (n4 u0 u1 u2 u3%DD),w2 (n4 u0 u1 u2 u3%DD),0,0,0,0,0]) 196),(62,.own [.raw (.pointer none)] 306),(64,.row 1 fF 196)] },conds:=[U u0,U u1,U u2,U u3,u3<9223372036854775808] }
       | false=>none
     | some [y0,y1,_,_,_,_],some [u0,u1,u2,u3,u4,_,_,_],false=>match Nat.beq nu 5&&(Nat.beq cu 8&&(Nat.beq nq 2&&Nat.beq cq 6)) with
       | true=>some { eR:=Bh 5 8 2 6,T0:=[(61,.own (wc [y0,y1,0,0,0,0]) 196),(62,.own [.raw (.pointer none)] 306),(63,.own (wc [u0,u1,u2,u3,u4,0,0,0]) 196),(64,.row 1 fF 196)],vl:=[(61,.lab lq 0),(62,.lab ls 0),(63,.lab lu 0),(64,.lab lv 0)]
                      e0:={ val:=.eL [],wr:=[(61,.own (wc [r5 u0 u1 u2 u3 u4/DD,n4 u1 u2 u3 u4/DD,0,0,0,0]) 196),(63,.own (wc [w0 (r5 u0 u1 u2 u3 u4%DD),w1 (r5 u0 u1 u2 u3 u4%DD),w2 (r5 u0 u1 u2 u3 u4%DD),0,0,0,0,0]) 196),(62,.own [.raw (.pointer none)] 306),(64,.row 1 fF 196)] },conds:=[U u0,U u1,U u2,U u3,U u4,u4<9223372036854775808] }
       | false=>none
     | some [y0,y1,_,_,_,_],some [u0,u1,u2,u3,u4,_,_,_,_],false=>match Nat.beq nu 5&&(Nat.beq cu 9&&(Nat.beq nq 2&&Nat.beq cq 6)) with
       | true=>some { eR:=Bh 5 9 2 6,T0:=[(61,.own (wc [y0,y1,0,0,0,0]) 196),(62,.own [.raw (.pointer none)] 306),(63,.own (wc [u0,u1,u2,u3,u4,0,0,0,0]) 196),(64,.row 1 fF 196)],vl:=[(61,.lab lq 0),(62,.lab ls 0),(63,.lab lu 0),(64,.lab lv 0)]
                      e0:={ val:=.eL [],wr:=[(61,.own (wc [r5 u0 u1 u2 u3 u4/DD,n4 u1 u2 u3 u4/DD,0,0,0,0]) 196),(63,.own (wc [w0 (r5 u0 u1 u2 u3 u4%DD),w1 (r5 u0 u1 u2 u3 u4%DD),w2 (r5 u0 u1 u2 u3 u4%DD),0,0,0,0,0,0]) 196),(62,.own [.raw (.pointer none)] 306),(64,.row 1 fF 196)] },conds:=[U u0,U u1,U u2,U u3,U u4,u4<9223372036854775808] }
       | false=>none
     | _,_,_=>none
   | _,_,_,_=>none
 | _=>none
theorem aUh (Γ:Env) (hg:Γ.aR=aB):aI Tryz.prog Γ 259 (aL aB 100 HR):=by
 refine aW hg fun vs T c hd hc=>?_
 unfold HR at hd
 split at hd
 case h_2=>cases hd
 split at hd
 case h_2=>cases hd
 split at hd
 case h_5=>cases hd
 .split at hd
  case h_2=>cases hd
  cases hd
  exact (((BO _ (hc _ (by simp)) (hc _ (by simp)) (hc _ (by simp)) (hc _ (by simp)) (hc _ (by simp))).bE 62 _ rfl (by decide)).bE 64 _ rfl (by decide)).words (by rw [hg];rfl) (fun _=>rfl) (fun _ _ h=>h) (fun _=>rfl) rfl rfl
 .split at hd
  case h_2=>cases hd
  cases hd
  exact (((BN _ (hc _ (by simp)) (hc _ (by simp)) (hc _ (by simp)) (hc _ (by simp)) (hc _ (by simp))).bE 62 _ rfl (by decide)).bE 64 _ rfl (by decide)).words (by rw [hg];rfl) (fun _=>rfl) (fun _ _ h=>h) (fun _=>rfl) rfl rfl
 .split at hd
  case h_2=>cases hd
  cases hd
  exact (((BM _ _ (hc _ (by simp)) (hc _ (by simp)) (hc _ (by simp)) (hc _ (by simp)) (hc _ (by simp)) (hc _ (by simp))).bE 62 _ rfl (by decide)).bE 64 _ rfl (by decide)).words (by rw [hg];rfl) (fun _=>rfl) (fun _ _ h=>h) (fun _=>rfl) rfl rfl
 .split at hd
  case h_2=>cases hd
  cases hd
  exact (((BL _ _ (hc _ (by simp)) (hc _ (by simp)) (hc _ (by simp)) (hc _ (by simp)) (hc _ (by simp)) (hc _ (by simp))).bE 62 _ rfl (by decide)).bE 64 _ rfl (by decide)).words (by rw [hg];rfl) (fun _=>rfl) (fun _ _ h=>h) (fun _=>rfl) rfl rfl
theorem pK:∀ f S,Yb f=some S->∀ Γ:Env,Γ.aR=aB->aI Tryz.prog Γ f S:=JW
noncomputable def aGq:Nat->Option Sum:=dM Yb 259 (aL aB 100 HR)
theorem Xa:∀ f S,aGq f=some S->∀ Γ:Env,Γ.aR=aB->aI Tryz.prog Γ f S:=bD pK 259 _ aUh
noncomputable def aPo (iq ir:Nat):Nat->Option Sum:=dM (dM aGq 186 (aL aB 100 (tE iq ir))) 154 (orB aGq 154 (aL aB 100 Vd))
theorem aBz (iq ir:Nat):∀ f S,aPo iq ir f=some S->∀ Γ:Env,Γ.aR=aB->aI Tryz.prog Γ f S:=bD (bD Xa 186 _ (Cg iq ir)) 154 _ (IX Xa 154 _ aEz)
noncomputable def pD (lt:Bool) (iq ir:Nat):Nat->Option Sum:=Ez (aPo iq ir) 209 [lt]
theorem nR (lt:Bool) (iq ir:Nat):∀ f S,pD lt iq ir f=some S->∀ Γ:Env,Γ.aR=aB->aI Tryz.prog Γ f S:=nS (aBz iq ir) 209 _
def qQ:List SV:=[.ptr 61 true 0,.ptr 61 true 0,.ptr 62 true 0]
def Dz:List SV:=[.int true .u64 18446744073709551611,.int true .u64 18446744073709551615,.int true .u64 3,.int true .u64 0,.int true .u64 0,.int true .u64 0,.int true .u64 0,.int true .u64 0]
def mdT (n cap:Nat) (ws:List SV):aZ:=fun l=>look l [(61,.own [.bool true false,.aH 63 true 0 n cap] 146),(62,.own [.bool true false,.aH 66 true 0 3 8] 146),(63,.own ws 196),(66,.own Dz 196),(18,.fN [.int true .i64 40])]
noncomputable def Bm (lt:Bool) (iq ir n cap:Nat) (ws:List SV):Option bJ:=aJ (env (pD lt iq ir) 22) Tryz.f138 true [] 400 qQ (mdT n cap ws) 100 100
namespace M
def s0 (a:Int):Int:=dI .u64 a 62
def s1 (a b:Int):Int:=kN .u64 (dI .u64 b 62) (bZ .u64 a 2)
def s2 (a:Int):Int:=bZ .u64 a 2
def t0 (x:Int):Int:=kN .u64 (bZ .u64 (w0 x) 62) (dI .u64 (w1 x) 2)
def t1 (x:Int):Int:=kN .u64 (bZ .u64 (w1 x) 62) (dI .u64 (w2 x) 2)
def t2 (x:Int):Int:=kN .u64 (bZ .u64 (w2 x) 62) 0
def x3 (a0 a1 a2:Int):Int:=n4 (s0 a0) (s1 a0 a1) (s1 a1 a2) (s2 a2)
def h4 (a0 a1 a2 a3:Int):Int:=n4 (s1 a0 a1) (s1 a1 a2) (s1 a2 a3) (s2 a3)
def x4 (a0 a1 a2 a3:Int):Int:=r5 (s0 a0) (s1 a0 a1) (s1 a1 a2) (s1 a2 a3) (s2 a3)
end M
theorem aKh (a0:Int) :
 Bm true 0 0 1 6 (wc [a0,0,0,0,0,0]) =
 some {val:=.ptr 61 true 0,wr:=[(61,.own [.bool true false,.aH 63 true 0 1 6] 146),(63,.own [.int false .u64 a0,.int false .u64 0,.int false .u64 0,.int false .u64 0,.int false .u64 0,.int false .u64 0] 196)]}:=by kernel_rfl
theorem aKg (a0 a1:Int) :
 Bm true 0 0 2 6 (wc [a0,a1,0,0,0,0]) =
 some {val:=.ptr 61 true 0,wr:=[(61,.own [.bool true false,.aH 63 true 0 2 6] 146),(63,.own [.int false .u64 a0,.int false .u64 a1,.int false .u64 0,.int false .u64 0,.int false .u64 0,.int false .u64 0] 196)]}:=by kernel_rfl
theorem aKf (a0 a1:Int) :
 Bm true 0 0 2 7 (wc [a0,a1,0,0,0,0,0]) =
 some {val:=.ptr 61 true 0,wr:=[(61,.own [.bool true false,.aH 63 true 0 2 7] 146),(63,.own [.int false .u64 a0,.int false .u64 a1,.int false .u64 0,.int false .u64 0,.int false .u64 0,.int false .u64 0,.int false .u64 0] 196)]}:=by kernel_rfl
theorem aKe (a0 a1 a2:Int) :
 Bm true 0 0 3 7 (wc [a0,a1,a2,0,0,0,0]) =
 some {bK:=[decide (M.cmp (M.n3 a0 a1 a2) 1361129467683753853853498429727072845819<0)=true,M.U a0,M.U a1,M.U a2,M.U 18446744073709551611,M.U 18446744073709551615,M.U 3,[a0,a1,a2,0,0,0,0]=[a0,a1,a2,0,0,0,0],([18446744073709551611,18446744073709551615,3,0,0,0,0,0]:List Int)=[18446744073709551611,18446744073709551615,3,0,0,0,0,0]],val:=.ptr 61 true 0,wr:=[(61,.own [.bool true false,.aH 63 true 0 3 7] 146),(63,.own [.int false .u64 a0,.int false .u64 a1,.int false .u64 a2,.int false .u64 0,.int false .u64 0,.int false .u64 0,.int false .u64 0] 196)]}:=by kernel_rfl
theorem aKd (a0 a1 a2:Int) :
 Bm true 0 0 3 8 (wc [a0,a1,a2,0,0,0,0,0]) =
 some {bK:=[decide (M.cmp (M.n3 a0 a1 a2) 1361129467683753853853498429727072845819<0)=true,M.U a0,M.U a1,M.U a2,M.U 18446744073709551611,M.U 18446744073709551615,M.U 3,[a0,a1,a2,0,0,0,0,0]=[a0,a1,a2,0,0,0,0,0],([18446744073709551611,18446744073709551615,3,0,0,0,0,0]:List Int)=[18446744073709551611,18446744073709551615,3,0,0,0,0,0]],val:=.ptr 61 true 0,wr:=[(61,.own [.bool true false,.aH 63 true 0 3 8] 146),(63,.own [.int false .u64 a0,.int false .u64 a1,.int false .u64 a2,.int false .u64 0,.int false .u64 0,.int false .u64 0,.int false .u64 0,.int false .u64 0] 196)]}:=by kernel_rfl
theorem aSm {c ir:Nat} (hc:c=7\/c=8) (hr:ir<=3) (a0 a1 a2:Int):Bm false 1 ir 3 c (wc ([a0,a1,a2]++List.replicate (c-3) 0))=some { bK:=[M.nl [M.t0 (M.x3 a0 a1 a2%M.DD),M.t1 (M.x3 a0 a1 a2%M.DD),M.t2 (M.x3 a0 a1 a2%M.DD),0]=ir,[M.t0 (M.x3 a0 a1 a2%M.DD),M.t1 (M.x3 a0 a1 a2%M.DD),M.t2 (M.x3 a0 a1 a2%M.DD)]++List.replicate (c-3) 0=[M.t0 (M.x3 a0 a1 a2%M.DD),M.t1 (M.x3 a0 a1 a2%M.DD),M.t2 (M.x3 a0 a1 a2%M.DD)]++List.replicate (c-3) 0,M.nl [M.x3 a0 a1 a2/M.DD]=1,[M.x3 a0 a1 a2/M.DD]=[M.x3 a0 a1 a2/M.DD],M.U (M.s0 a0),M.U (M.s1 a0 a1),M.U (M.s1 a1 a2),M.U (M.s2 a2),M.s2 a2<9223372036854775808,3=3,([0]:List Int)=[0],[M.s0 a0,M.s1 a0 a1,M.s1 a1 a2,M.s2 a2]++List.replicate (c-4) 0=[M.s0 a0,M.s1 a0 a1,M.s1 a1 a2,M.s2 a2]++List.replicate (c-4) 0,decide (M.cmp (M.n3 a0 a1 a2) 1361129467683753853853498429727072845819<0)=false,M.U a0,M.U a1,M.U a2,M.U 18446744073709551611,M.U 18446744073709551615,M.U 3,[a0,a1,a2]++List.replicate (c-3) 0=[a0,a1,a2]++List.replicate (c-3) 0,([18446744073709551611,18446744073709551615,3,0,0,0,0,0]:List Int)=[18446744073709551611,18446744073709551615,3,0,0,0,0,0]],val:=.ptr 61 true 0,wr:=[(61,.own [.bool true false,.aH 63 true 0 ir c] 146),(63,.own (wc ([M.t0 (M.x3 a0 a1 a2%M.DD),M.t1 (M.x3 a0 a1 a2%M.DD),M.t2 (M.x3 a0 a1 a2%M.DD)]++List.replicate (c-3) 0)) 196)] }:=by rcases hc with rfl | rfl <;> rcases (by omega:ir=0\/ir=1\/ir=2\/ir=3) with rfl | rfl | rfl | rfl <;> kernel_rfl
theorem aSl {c iq ir:Nat} (hc:c=8\/c=9) (hq:iq=1\/iq=2) (hr:ir<=3) (a0 a1 a2 a3:Int):Bm false iq ir 4 c (wc ([a0,a1,a2,a3]++List.replicate (c-4) 0))=some { bK:=[M.nl [M.t0 (M.x4 a0 a1 a2 a3%M.DD),M.t1 (M.x4 a0 a1 a2 a3%M.DD),M.t2 (M.x4 a0 a1 a2 a3%M.DD),0,0]=ir,[M.t0 (M.x4 a0 a1 a2 a3%M.DD),M.t1 (M.x4 a0 a1 a2 a3%M.DD),M.t2 (M.x4 a0 a1 a2 a3%M.DD),0]++List.replicate (c-4) 0=[M.t0 (M.x4 a0 a1 a2 a3%M.DD),M.t1 (M.x4 a0 a1 a2 a3%M.DD),M.t2 (M.x4 a0 a1 a2 a3%M.DD),0]++List.replicate (c-4) 0,M.nl [M.x4 a0 a1 a2 a3/M.DD,M.h4 a0 a1 a2 a3/M.DD]=iq,[M.x4 a0 a1 a2 a3/M.DD,M.h4 a0 a1 a2 a3/M.DD,0,0,0,0]=[M.x4 a0 a1 a2 a3/M.DD,M.h4 a0 a1 a2 a3/M.DD,0,0,0,0],M.U (M.s0 a0),M.U (M.s1 a0 a1),M.U (M.s1 a1 a2),M.U (M.s1 a2 a3),M.U (M.s2 a3),M.s2 a3<9223372036854775808,3=3,([0,0,0,0,0,0]:List Int)=[0,0,0,0,0,0],[M.s0 a0,M.s1 a0 a1,M.s1 a1 a2,M.s1 a2 a3,M.s2 a3]++List.replicate (c-5) 0=[M.s0 a0,M.s1 a0 a1,M.s1 a1 a2,M.s1 a2 a3,M.s2 a3]++List.replicate (c-5) 0],val:=.ptr 61 true 0,wr:=[(61,.own [.bool true false,.aH 63 true 0 ir c] 146),(63,.own (wc ([M.t0 (M.x4 a0 a1 a2 a3%M.DD),M.t1 (M.x4 a0 a1 a2 a3%M.DD),M.t2 (M.x4 a0 a1 a2 a3%M.DD),0]++List.replicate (c-4) 0)) 196)] }:=by rcases hc with rfl | rfl <;> rcases hq with rfl | rfl <;> rcases (by omega:ir=0\/ir=1\/ir=2\/ir=3) with rfl | rfl | rfl | rfl <;> kernel_rfl
def jO:SB->SB->Prop
 | .own cs t,.own ds t'=>t=t'/\∀ V,aG V ds=aG V cs
 | B,C=>B=C
def xC:List SB->List SB->Prop
 | [],[]=>True
 | B::r,C::t=>jO B C/\xC r t
 | _,_=>False
def oL:List (Nat × SB)->List (Nat × SB)->Prop
 | [],[]=>True
 | (l,B)::r,(k,C)::t=>l=k/\jO B C/\oL r t
 | _,_=>False
theorem cC (B:SB):jO B B:=by cases B <;> simp [jO]
theorem kW {B C:SB} (h:jO B C) (V:aY) (w:World) (l:Nat):(okB V w l B->okB V w l C)/\C.aM V l=B.aM V l/\C.owned=B.owned:=by
 cases B with
 | own cs t=>
   cases C with
   | own ds t'=>
     obtain ⟨rfl,hd⟩:=h
     exact ⟨fun ⟨us,hu,hr⟩=>⟨us,(hd V).trans hu,hr⟩,rfl,rfl⟩
   | _=>simp [jO] at h
 | _=>simp only [jO] at h;subst h;exact ⟨id,rfl,rfl⟩
theorem Gk {B C:SB} (h:jO B C) {w0:World} {M:Nat->Prop} {V:aY} {l:Nat} (hB:kR w0 M V l B):kR w0 M V l C:=by
 cases B with
 | own cs t=>
   cases C with
   | own ds t'=>trivial
   | _=>simp [jO] at h
 | _=>simp only [jO] at h;subst h;exact hB
theorem pO {l:Nat}:∀ {r t:List (Nat × SB)},oL r t->(look l r=none/\look l t=none)\/∃ B C,look l r=some B/\look l t=some C/\jO B C
 | [],[],_=>.inl ⟨rfl,rfl⟩
 | [],(k,C)::t,h=>by simp [oL] at h
 | (k,B)::r,[],h=>by simp [oL] at h
 | (k,B)::r,(k',C)::t,h=>by
   obtain ⟨rfl,h1,h2⟩:=h
   by_cases e:k=l
   .subst e;exact .inr ⟨B,C,aF _ _ _,aF _ _ _,h1⟩
   .rw [aD e,aD e];exact pO h2
theorem Di:∀ {r t:List SB} (lab:Nat),xC r t->oL (fO lab r) (fO lab t)
 | [],[],_,_=>trivial
 | [],_::_,_,h=>by simp [xC] at h
 | _::_,[],_,h=>by simp [xC] at h
 | B::r,C::t,lab,h=>⟨rfl,h.1,Di (lab+1) h.2⟩
theorem wH:∀ {r t r' t':List (Nat × SB)},oL r t->oL r' t'->oL (r++r') (t++t')
 | [],[],_,_,_,h=>h
 | [],_::_,_,_,h,_=>by simp [oL] at h
 | _::_,[],_,_,h,_=>by simp [oL] at h
 | (_,_)::_,(_,_)::_,_,_,h,h'=>⟨h.1,h.2.1,wH h.2.2 h'⟩
theorem aE.re {P:Program} {Γ Γ':Env} {f:FuncId} {vs:List SV} {T:aZ} {lab F:Nat} {e e':bJ} (h:aE P Γ f vs T lab F e) (hg:Γ'.aR=Γ.aR) (he:∀ V,den V e.val=den V e'.val) (hn:xC e.new e'.new) (hw:oL e.wr e'.wr):aE P Γ' f vs T lab F e':=by
 intro w0 M V T2 w xs aK Hx Xy hf hF hx o a K Q hK
 refine h w0 M V T2 w xs aK Hx (fun n l hl=>Xy n l (by rw [hg];exact hl)) hf hF hx o a K Q fun V' x w' h1 h2 h3=>hK V' x w' h1 ((he V').symm.trans h2) ?_
 have kF:oL (e.eG lab) (e'.eG lab):=wH hw (Di lab hn)
 have src:∀ l B,eE T2 lab e' l=some B->∃ C,eE T2 lab e l=some C/\jO C B:=by
  intro l B hl
  unfold eE at hl |-
  rcases pO (l:=l) kF with ⟨e1,e2⟩ | ⟨C,D,e1,e2,e3⟩
  .rw [e2] at hl;rw [e1];exact ⟨B,hl,cC B⟩
  .rw [e2] at hl;cases hl;rw [e1];exact ⟨C,rfl,e3⟩
 refine ⟨fun l B hl=>?_,fun l B l' B' n dD hl rL ho hb iD=>?_,fun l B n hl ho hb=>?_,h3.frame,fun l B hl=>?_⟩
 .obtain ⟨C,hC,hs⟩:=src l B hl
  exact (kW hs V' w' l).1 (h3.ok l C hC)
 .obtain ⟨C,hC,hs⟩:=src l B hl
  obtain ⟨C',SI,Dv⟩:=src l' B' rL
  obtain ⟨_,b1,b2⟩:=kW hs V' w' l
  obtain ⟨_,b1',b2'⟩:=kW Dv V' w' l'
  exact h3.jN l C l' C' n dD hC SI (b2 ▸ ho) (b1 ▸ hb) (b1' ▸ iD)
 .obtain ⟨C,hC,hs⟩:=src l B hl
  obtain ⟨_,b1,b2⟩:=kW hs V' w' l
  exact h3.perm l C n hC (b2 ▸ ho) (b1 ▸ hb)
 .obtain ⟨C,hC,hs⟩:=src l B hl
  exact Gk hs (h3.sM l C hC)
namespace M
def bA:Int:=1361129467683753853853498429727072845819
theorem IA:DD=4611686018427387904*bA:=by decide
theorem CQ {k y i:Nat} (hy:y<2^i) (hk:k*2^i+y<18446744073709551616):kN .u64 ((k*2^i:Nat):Int) (y:Int)=((k*2^i+y:Nat):Int):=by
 have h:=bits_or_u64_nat (k*2^i) y (by omega) (by omega)
 have e:k*2^i ||| y=k*2^i+y:=by
  rw [<- Nat.shiftLeft_eq]
  exact (Nat.shiftLeft_add_eq_or_of_lt hy k).symm
 rw [e] at h
 exact h
theorem CR (x y:Int):kN .u64 x y=kN .u64 y x:=by unfold kN;rw [BitVec.or_comm]
theorem aDt (a:Int):dI .u64 a 62=ul (a*4611686018427387904):=by unfold dI;rw [bP];rfl
theorem aNz (a:Int):dI .u64 a 2=ul (a*4):=by unfold dI;rw [bP];rfl
theorem EX (a:Int):bZ .u64 a 62=a/4611686018427387904:=by
 show Int.fdiv a 4611686018427387904=_
 rw [Int.fdiv_eq_ediv_of_nonneg _ (by decide)]
theorem TF (a:Int):bZ .u64 a 2=a/4:=by
 show Int.fdiv a 4=_
 rw [Int.fdiv_eq_ediv_of_nonneg _ (by decide)]
theorem FI (a:Int):s0 a=a%4*4611686018427387904:=by unfold s0;rw [aDt];unfold ul;omega
theorem FH (a:Int):s2 a=a/4:=TF a
theorem aOl (k y:Int) (hk:0<=k) (hk4:k<4) (fG:0<=y) (hy:y<4611686018427387904):kN .u64 (k*4611686018427387904) y=k*4611686018427387904+y:=by
 obtain ⟨k,rfl⟩:=Int.eq_ofNat_of_zero_le hk
 obtain ⟨y,rfl⟩:=Int.eq_ofNat_of_zero_le fG
 have e:(k:Int)*4611686018427387904=((k*2^62:Nat):Int):=by rw [Int.natCast_mul];rfl
 have RJ:(2:Nat)^62=4611686018427387904:=rfl
 rw [e,CQ (by omega) (by omega)]
 omega
theorem or2 (k y:Int) (hk:0<=k) (hk4:k<4611686018427387904) (fG:0<=y) (hy:y<4):kN .u64 (k*4) y=k*4+y:=by
 obtain ⟨k,rfl⟩:=Int.eq_ofNat_of_zero_le hk
 obtain ⟨y,rfl⟩:=Int.eq_ofNat_of_zero_le fG
 have e:(k:Int)*4=((k*2^2:Nat):Int):=by rw [Int.natCast_mul];rfl
 have RJ:(2:Nat)^2=4:=rfl
 rw [e,CQ (by omega) (by omega)]
 omega
theorem Fq {a b:Int} (ha:U a):s1 a b=b%4*4611686018427387904+a/4:=by
 have:=ha.1;have:=ha.2
 unfold s1
 rw [aDt,TF]
 have e:ul (b*4611686018427387904)=b%4*4611686018427387904:=by unfold ul;omega
 rw [e]
 exact aOl (b%4) (a/4) (by omega) (by omega) (by omega) (by omega)
theorem aQv (x:Int):t0 x=w0 x/4611686018427387904+w1 x%4611686018427387904*4:=by
 obtain ⟨h0,h1,h2⟩:=w_U x
 have:=h0.1;have:=h0.2;have:=h1.1;have:=h1.2
 unfold t0
 rw [EX,aNz,CR]
 have e:ul (w1 x*4)=w1 x%4611686018427387904*4:=by unfold ul;omega
 rw [e,or2 (w1 x%4611686018427387904) (w0 x/4611686018427387904) (by omega) (by omega) (by omega) (by omega)]
 omega
theorem aQu (x:Int):t1 x=w1 x/4611686018427387904+w2 x%4611686018427387904*4:=by
 obtain ⟨h0,h1,h2⟩:=w_U x
 have:=h1.1;have:=h1.2;have:=h2.1;have:=h2.2
 unfold t1
 rw [EX,aNz,CR]
 have e:ul (w2 x*4)=w2 x%4611686018427387904*4:=by unfold ul;omega
 rw [e,or2 (w2 x%4611686018427387904) (w1 x/4611686018427387904) (by omega) (by omega) (by omega) (by omega)]
 omega
theorem aQt (x:Int):t2 x=w2 x/4611686018427387904:=by
 obtain ⟨h0,h1,h2⟩:=w_U x
 have:=h2.1;have:=h2.2
 unfold t2
 have:=aOl 0 (w2 x/4611686018427387904) (by omega) (by omega) (by omega) (by omega)
 rw [Int.zero_mul] at this
 rw [EX,CR,this]
 omega
theorem IH {R:Int} (h0:0<=R) (h1:R<bA):t0 (4611686018427387904*R)=w0 R/\t1 (4611686018427387904*R)=w1 R/\t2 (4611686018427387904*R)=w2 R:=by
 have Ee:R<1361129467683753853853498429727072845819:=h1
 rw [aQv,aQu,aQt]
 unfold w0 w1 w2
 refine ⟨?_,?_,?_⟩ <;> omega
theorem aDm {a0 a1 a2:Int} (h0:U a0) (h1:U a1) (h2:U a2):x3 a0 a1 a2=4611686018427387904*n3 a0 a1 a2:=by
 have:=h0.1;have:=h0.2;have:=h1.1;have:=h1.2;have:=h2.1;have:=h2.2
 unfold x3
 rw [FI,Fq h0,Fq h1,FH]
 unfold n4 n3
 omega
theorem aEv {a0 a1 a2 a3:Int} (h0:U a0) (h1:U a1) (h2:U a2) (h3:U a3):s0 a0+18446744073709551616*h4 a0 a1 a2 a3=4611686018427387904*n4 a0 a1 a2 a3:=by
 have:=h0.1;have:=h0.2;have:=h1.1;have:=h1.2;have:=h2.1;have:=h2.2;have:=h3.1;have:=h3.2
 unfold h4
 rw [FI,Fq h0,Fq h1,Fq h2,FH]
 unfold n4
 omega
theorem JJ (n:Int):4611686018427387904*n%DD=4611686018427387904*(n%bA):=by
 rw [IA];exact Int.mul_emod_mul_of_pos _ _ (by decide)
theorem aNb (n:Int):4611686018427387904*n/DD=n/bA:=by
 rw [IA];exact Int.mul_ediv_mul_of_pos _ _ (by decide)
theorem aHo {a0 a1 a2:Int} (h0:U a0) (h1:U a1) (h2:U a2):x3 a0 a1 a2%DD=4611686018427387904*(n3 a0 a1 a2%bA):=by
 rw [aDm h0 h1 h2,JJ]
theorem aHp {a0 a1 a2:Int} (h0:U a0) (h1:U a1) (h2:U a2):x3 a0 a1 a2/DD=n3 a0 a1 a2/bA:=by
 rw [aDm h0 h1 h2,aNb]
theorem aDl {a0 a1 a2 a3:Int}:x4 a0 a1 a2 a3=s0 a0+18446744073709551616*(h4 a0 a1 a2 a3%DD):=aDz
theorem aHm {a0 a1 a2 a3:Int} (h0:U a0) (h1:U a1) (h2:U a2) (h3:U a3):x4 a0 a1 a2 a3%DD=4611686018427387904*(n4 a0 a1 a2 a3%bA):=by
 rw [<- JJ,<- aEv h0 h1 h2 h3,aDl]
 rw [Int.add_emod,Int.mul_emod,Int.emod_emod_of_dvd _ (Int.dvd_refl DD),<- Int.mul_emod,<- Int.add_emod]
theorem aHn {a0 a1 a2 a3:Int} (h0:U a0) (h1:U a1) (h2:U a2) (h3:U a3) (hp:bA<=n4 a0 a1 a2 a3) (hz:h4 a0 a1 a2 a3/DD=0):x4 a0 a1 a2 a3/DD≠0:=by
 have hh:=aEv h0 h1 h2 h3
 have hx:=aDl (a0:=a0) (a1:=a1) (a2:=a2) (a3:=a3)
 have hd:=IA
 have e1:=Int.emod_add_mul_ediv (h4 a0 a1 a2 a3) DD
 rw [hz] at e1
 have e2:h4 a0 a1 a2 a3%DD=h4 a0 a1 a2 a3:=by omega
 rw [e2,hh] at hx
 intro e
 have e3:=Int.emod_lt_of_pos (x4 a0 a1 a2 a3) Sc
 have e4:=Int.emod_add_mul_ediv (x4 a0 a1 a2 a3) DD
 rw [e] at e4
 omega
theorem sU {a:Int} (h:U a):U (s0 a)/\U (s2 a)/\s2 a<9223372036854775808:=by
 have:=h.1;have:=h.2
 rw [FI,FH]
 unfold U
 omega
theorem s1U {a b:Int} (h:U a):U (s1 a b):=by
 have:=h.1;have:=h.2
 rw [Fq h]
 unfold U
 omega
theorem aDw (n:Int):0<=n%bA/\n%bA<bA:=⟨Int.emod_nonneg _ (by decide),Int.emod_lt_of_pos _ (by decide)⟩
def ln (R:Int):Nat:=nl [w0 R,w1 R,w2 R]
theorem gH:∀ l:List Int,nl (l++[0])=nl l
 | []=>rfl
 | x::r=>by simp only [List.cons_append,nl,gH r]
theorem nl4 (a b c:Int):nl [a,b,c,0]=nl [a,b,c]:=gH [a,b,c]
theorem nl5 (a b c:Int):nl [a,b,c,0,0]=nl [a,b,c]:=(gH [a,b,c,0]).trans (nl4 a b c)
theorem aEk (R:Int):ln R<=3:=FZ _
theorem Rt {x y:Int}:decide (cmp x y<0)=decide (x<y):=by
 unfold cmp
 by_cases h:x<y
 .rw [if_pos h];simp [h]
 .rw [if_neg h];split <;> simp [h]
end M
open M in
theorem Sq {a0:Int} (h0:U a0) (hz:a0≠0):aE Tryz.prog Γv 138 qQ (mdT 1 6 (wc [a0,0,0,0,0,0])) 100 100
 { val:=.ptr 61 true 0,wr:=[(61,.own [.bool true false,.aH 63 false 0 (ln (a0%bA)) 6] 146),(63,.own (wc [w0 (a0%bA),w1 (a0%bA),w2 (a0%bA),0,0,0]) 196)] }:=by
 have:=h0.1;have:=h0.2
 have hs:aI Tryz.prog (env (pD true 0 0) 22) 138 (aJ (env (pD true 0 0) 22) Tryz.f138 true [] 400):=aN (bQ _ 22) (bW _ (nR true 0 0) 22) mix Tryz.func138 (by kernel_rfl) true [] 400
 have hR:a0%bA=a0:=Int.emod_eq_of_lt (by omega) (by unfold bA;omega)
 have e0:w0 (a0)=a0:=by unfold w0;omega
 have e1:w1 (a0)=0:=by unfold w1;omega
 have e2:w2 (a0)=0:=by unfold w2;omega
 have hl:ln (a0)=1:=by unfold ln;rw [e0,e1,e2];simp only [nl,if_true,if_neg hz]
 rw [hR,e0,e1,e2,hl]
 refine (hs.call (aKh a0) ?_).re rfl (fun _=>rfl) trivial ⟨rfl,⟨rfl,fun _=>rfl⟩,rfl,⟨rfl,fun _=>rfl⟩,trivial⟩
 simp
open M in
theorem Sp {a0 a1:Int} (h0:U a0) (h1:U a1) (hz:a1≠0):aE Tryz.prog Γv 138 qQ (mdT 2 6 (wc [a0,a1,0,0,0,0])) 100 100
 { val:=.ptr 61 true 0,wr:=[(61,.own [.bool true false,.aH 63 false 0 (ln ((a0+18446744073709551616*a1)%bA)) 6] 146),(63,.own (wc [w0 ((a0+18446744073709551616*a1)%bA),w1 ((a0+18446744073709551616*a1)%bA),w2 ((a0+18446744073709551616*a1)%bA),0,0,0]) 196)] }:=by
 have:=h0.1;have:=h0.2;have:=h1.1;have:=h1.2
 have hs:aI Tryz.prog (env (pD true 0 0) 22) 138 (aJ (env (pD true 0 0) 22) Tryz.f138 true [] 400):=aN (bQ _ 22) (bW _ (nR true 0 0) 22) mix Tryz.func138 (by kernel_rfl) true [] 400
 have hR:(a0+18446744073709551616*a1)%bA=(a0+18446744073709551616*a1):=Int.emod_eq_of_lt (by omega) (by unfold bA;omega)
 have e0:w0 ((a0+18446744073709551616*a1))=a0:=by unfold w0;omega
 have e1:w1 ((a0+18446744073709551616*a1))=a1:=by unfold w1;omega
 have e2:w2 ((a0+18446744073709551616*a1))=0:=by unfold w2;omega
 have hl:ln ((a0+18446744073709551616*a1))=2:=by unfold ln;rw [e0,e1,e2];simp only [nl,if_true,if_neg hz]
 rw [hR,e0,e1,e2,hl]
 refine (hs.call (aKg a0 a1) ?_).re rfl (fun _=>rfl) trivial ⟨rfl,⟨rfl,fun _=>rfl⟩,rfl,⟨rfl,fun _=>rfl⟩,trivial⟩
 simp
open M in
theorem So {a0 a1:Int} (h0:U a0) (h1:U a1) (hz:a1≠0):aE Tryz.prog Γv 138 qQ (mdT 2 7 (wc [a0,a1,0,0,0,0,0])) 100 100
 { val:=.ptr 61 true 0,wr:=[(61,.own [.bool true false,.aH 63 false 0 (ln ((a0+18446744073709551616*a1)%bA)) 7] 146),(63,.own (wc [w0 ((a0+18446744073709551616*a1)%bA),w1 ((a0+18446744073709551616*a1)%bA),w2 ((a0+18446744073709551616*a1)%bA),0,0,0,0]) 196)] }:=by
 have:=h0.1;have:=h0.2;have:=h1.1;have:=h1.2
 have hs:aI Tryz.prog (env (pD true 0 0) 22) 138 (aJ (env (pD true 0 0) 22) Tryz.f138 true [] 400):=aN (bQ _ 22) (bW _ (nR true 0 0) 22) mix Tryz.func138 (by kernel_rfl) true [] 400
 have hR:(a0+18446744073709551616*a1)%bA=(a0+18446744073709551616*a1):=Int.emod_eq_of_lt (by omega) (by unfold bA;omega)
 have e0:w0 ((a0+18446744073709551616*a1))=a0:=by unfold w0;omega
 have e1:w1 ((a0+18446744073709551616*a1))=a1:=by unfold w1;omega
 have e2:w2 ((a0+18446744073709551616*a1))=0:=by unfold w2;omega
 have hl:ln ((a0+18446744073709551616*a1))=2:=by unfold ln;rw [e0,e1,e2];simp only [nl,if_true,if_neg hz]
 rw [hR,e0,e1,e2,hl]
 refine (hs.call (aKf a0 a1) ?_).re rfl (fun _=>rfl) trivial ⟨rfl,⟨rfl,fun _=>rfl⟩,rfl,⟨rfl,fun _=>rfl⟩,trivial⟩
 simp
open M in
theorem Sn {a0 a1 a2:Int} (h0:U a0) (h1:U a1) (h2:U a2) (hz:a2≠0) (hp:n3 a0 a1 a2<bA):aE Tryz.prog Γv 138 qQ (mdT 3 7 (wc [a0,a1,a2,0,0,0,0])) 100 100
 { val:=.ptr 61 true 0,wr:=[(61,.own [.bool true false,.aH 63 false 0 (ln (n3 a0 a1 a2%bA)) 7] 146),(63,.own (wc [w0 (n3 a0 a1 a2%bA),w1 (n3 a0 a1 a2%bA),w2 (n3 a0 a1 a2%bA),0,0,0,0]) 196)] }:=by
 have:=h0.1;have:=h0.2;have:=h1.1;have:=h1.2;have:=h2.1;have:=h2.2
 have hs:aI Tryz.prog (env (pD true 0 0) 22) 138 (aJ (env (pD true 0 0) 22) Tryz.f138 true [] 400):=aN (bQ _ 22) (bW _ (nR true 0 0) 22) mix Tryz.func138 (by kernel_rfl) true [] 400
 have hR:n3 a0 a1 a2%bA=n3 a0 a1 a2:=Int.emod_eq_of_lt (by unfold n3;omega) (by exact hp)
 have e0:w0 (n3 a0 a1 a2)=a0:=by unfold w0 n3;omega
 have e1:w1 (n3 a0 a1 a2)=a1:=by unfold w1 n3;omega
 have e2:w2 (n3 a0 a1 a2)=a2:=by unfold w2 n3;omega
 have hl:ln (n3 a0 a1 a2)=3:=by unfold ln;rw [e0,e1,e2];simp only [nl,if_true,if_neg hz]
 rw [hR,e0,e1,e2,hl]
 refine (hs.call (aKe a0 a1 a2) ?_).re rfl (fun _=>rfl) trivial ⟨rfl,⟨rfl,fun _=>rfl⟩,rfl,⟨rfl,fun _=>rfl⟩,trivial⟩
 refine aA ?_
 simp only [sh,bX,Rt,and_true,true_and,h0,h1,h2]
 exact ⟨decide_eq_true hp,⟨by decide,by decide⟩,⟨by decide,by decide⟩,⟨by decide,by decide⟩⟩
open M in
theorem Sm {a0 a1 a2:Int} (h0:U a0) (h1:U a1) (h2:U a2) (hz:a2≠0) (hp:n3 a0 a1 a2<bA):aE Tryz.prog Γv 138 qQ (mdT 3 8 (wc [a0,a1,a2,0,0,0,0,0])) 100 100
 { val:=.ptr 61 true 0,wr:=[(61,.own [.bool true false,.aH 63 false 0 (ln (n3 a0 a1 a2%bA)) 8] 146),(63,.own (wc [w0 (n3 a0 a1 a2%bA),w1 (n3 a0 a1 a2%bA),w2 (n3 a0 a1 a2%bA),0,0,0,0,0]) 196)] }:=by
 have:=h0.1;have:=h0.2;have:=h1.1;have:=h1.2;have:=h2.1;have:=h2.2
 have hs:aI Tryz.prog (env (pD true 0 0) 22) 138 (aJ (env (pD true 0 0) 22) Tryz.f138 true [] 400):=aN (bQ _ 22) (bW _ (nR true 0 0) 22) mix Tryz.func138 (by kernel_rfl) true [] 400
 have hR:n3 a0 a1 a2%bA=n3 a0 a1 a2:=Int.emod_eq_of_lt (by unfold n3;omega) (by exact hp)
 have e0:w0 (n3 a0 a1 a2)=a0:=by unfold w0 n3;omega
 have e1:w1 (n3 a0 a1 a2)=a1:=by unfold w1 n3;omega
 have e2:w2 (n3 a0 a1 a2)=a2:=by unfold w2 n3;omega
 have hl:ln (n3 a0 a1 a2)=3:=by unfold ln;rw [e0,e1,e2];simp only [nl,if_true,if_neg hz]
 rw [hR,e0,e1,e2,hl]
 refine (hs.call (aKd a0 a1 a2) ?_).re rfl (fun _=>rfl) trivial ⟨rfl,⟨rfl,fun _=>rfl⟩,rfl,⟨rfl,fun _=>rfl⟩,trivial⟩
 refine aA ?_
 simp only [sh,bX,Rt,and_true,true_and,h0,h1,h2]
 exact ⟨decide_eq_true hp,⟨by decide,by decide⟩,⟨by decide,by decide⟩,⟨by decide,by decide⟩⟩
open M in
theorem Gt {c:Nat} (hc:c=7\/c=8) {a0 a1 a2:Int} (h0:U a0) (h1:U a1) (h2:U a2) (hp:bA<=n3 a0 a1 a2):aE Tryz.prog Γv 138 qQ (mdT 3 c (wc ([a0,a1,a2]++List.replicate (c-3) 0))) 100 100
 { val:=.ptr 61 true 0,wr:=[(61,.own [.bool true false,.aH 63 false 0 (ln (n3 a0 a1 a2%bA)) c] 146),(63,.own (wc ([w0 (n3 a0 a1 a2%bA),w1 (n3 a0 a1 a2%bA),w2 (n3 a0 a1 a2%bA)]++List.replicate (c-3) 0)) 196)] }:=by
 have hs:∀ iq ir,aI Tryz.prog (env (pD false iq ir) 22) 138 (aJ (env (pD false iq ir) 22) Tryz.f138 true [] 400):=fun iq ir=>aN (bQ _ 22) (bW _ (nR false iq ir) 22) mix Tryz.func138 (by kernel_rfl) true [] 400
 obtain ⟨r0,r1⟩:=aDw (n3 a0 a1 a2)
 obtain ⟨b0,b1,b2⟩:=IH r0 r1
 obtain ⟨v0,v1,v2⟩:=sU h0
 obtain ⟨_,v3,v4⟩:=sU h2
 have hm:=aHo h0 h1 h2
 have hq:x3 a0 a1 a2/DD≠0:=by
  rw [aHp h0 h1 h2]
  have:=Int.emod_add_mul_ediv (n3 a0 a1 a2) bA
  intro e
  rw [e] at this
  omega
 have zM:nl [x3 a0 a1 a2/DD]=1:=by simp only [nl,if_neg hq]
 refine ((hs 1 _).call (aSm hc (aEk (n3 a0 a1 a2%bA)) a0 a1 a2) (aA ?_)).re rfl (fun _=>rfl) trivial ⟨rfl,⟨rfl,fun _=>rfl⟩,rfl,⟨rfl,fun _=>by rw [hm,b0,b1,b2]⟩,trivial⟩
 simp only [sh,bX,hm,b0,b1,b2,nl4,ln,zM,and_true,true_and,h0,h1,h2,v0,v3,v4,s1U h0,s1U h1,Rt]
 exact ⟨decide_eq_false (by show ¬ n3 a0 a1 a2<bA;omega),⟨by decide,by decide⟩,⟨by decide,by decide⟩,⟨by decide,by decide⟩⟩
open M in
theorem Gs {c:Nat} (hc:c=8\/c=9) {a0 a1 a2 a3:Int} (h0:U a0) (h1:U a1) (h2:U a2) (h3:U a3) (hp:bA<=n4 a0 a1 a2 a3):aE Tryz.prog Γv 138 qQ (mdT 4 c (wc ([a0,a1,a2,a3]++List.replicate (c-4) 0))) 100 100
 { val:=.ptr 61 true 0,wr:=[(61,.own [.bool true false,.aH 63 false 0 (ln (n4 a0 a1 a2 a3%bA)) c] 146),(63,.own (wc ([w0 (n4 a0 a1 a2 a3%bA),w1 (n4 a0 a1 a2 a3%bA),w2 (n4 a0 a1 a2 a3%bA),0]++List.replicate (c-4) 0)) 196)] }:=by
 have hs:∀ iq ir,aI Tryz.prog (env (pD false iq ir) 22) 138 (aJ (env (pD false iq ir) 22) Tryz.f138 true [] 400):=fun iq ir=>aN (bQ _ 22) (bW _ (nR false iq ir) 22) mix Tryz.func138 (by kernel_rfl) true [] 400
 obtain ⟨r0,r1⟩:=aDw (n4 a0 a1 a2 a3)
 obtain ⟨b0,b1,b2⟩:=IH r0 r1
 obtain ⟨v0,v1,v2⟩:=sU h0
 obtain ⟨_,v3,v4⟩:=sU h3
 have hm:=aHm h0 h1 h2 h3
 have zM:nl [x4 a0 a1 a2 a3/DD,h4 a0 a1 a2 a3/DD]=1\/nl [x4 a0 a1 a2 a3/DD,h4 a0 a1 a2 a3/DD]=2:=by
  by_cases hz:h4 a0 a1 a2 a3/DD=0
  .exact .inl (by simp only [nl,hz,if_true,if_neg (aHn h0 h1 h2 h3 hp hz)])
  .exact .inr (by simp only [nl,if_neg hz])
 refine ((hs _ _).call (aSl hc zM (aEk (n4 a0 a1 a2 a3%bA)) a0 a1 a2 a3) (aA ?_)).re rfl (fun _=>rfl) trivial ⟨rfl,⟨rfl,fun _=>rfl⟩,rfl,⟨rfl,fun _=>by rw [hm,b0,b1,b2]⟩,trivial⟩
 simp only [sh,bX,hm,b0,b1,b2,nl5,ln,and_true,true_and,h0,h1,h2,h3,v0,v3,v4,s1U h0,s1U h1,s1U h2]
end Go.Proofs.YticicdfijghigaaGreatDoor.Sx
