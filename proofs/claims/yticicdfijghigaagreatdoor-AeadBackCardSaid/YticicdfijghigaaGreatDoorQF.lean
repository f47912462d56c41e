/- Plain Lean for the fast stream: bytes turned by a row of bytes; four blocks at once. -/
import Derived.KernelRfl
import Derived.Lib.Mul64
import Derived.Laws.Bits64b
import Derived.Test.YticicdfijghigaaGreatDoorQE
open Go
set_option maxRecDepth 100000
namespace Go.Proofs.YticicdfijghigaaGreatDoor.Sx
namespace Q
def rZ (off n:Nat) (f:Nat->Int) (xs:List Int):List Int:=
 (List.range xs.length).map fun m=>if off<=m/\m<off+n then gO .u8 (xs.getD m 0) (f (m-off)) else xs.getD m 0
theorem uU (key nonce:List Int) (c:Int) (off n:Nat) (xs:List Int):cG key nonce c off n xs=rZ off n (zE key nonce c) xs:=rfl
theorem gU (off n:Nat) (f:Nat->Int) (xs:List Int):(rZ off n f xs).length=xs.length:=by simp [rZ]
def Z (off n:Nat) (P:Nat->Bool) (f:Nat->Int) (xs:List Int):List Int:=
 (List.range xs.length).map fun m=>if off<=m/\m<off+n/\P (m-off)=true then gO .u8 (xs.getD m 0) (f (m-off)) else xs.getD m 0
theorem Nz (off n:Nat) (P:Nat->Bool) (f:Nat->Int) (xs:List Int):(Z off n P f xs).length=xs.length:=by simp [Z]
theorem aUr (off n:Nat) (P:Nat->Bool) (f:Nat->Int) (xs:List Int) {m:Nat} (h:m<xs.length):(Z off n P f xs).getD m 0=if off<=m/\m<off+n/\P (m-off)=true then gO .u8 (xs.getD m 0) (f (m-off)) else xs.getD m 0:=by
 simp [Z,List.getD_eq_getElem?_getD,h]
theorem lP {off n:Nat} {P P':Nat->Bool} (f:Nat->Int) (xs:List Int) (h:∀ m,m<n->P m=P' m):Z off n P f xs=Z off n P' f xs:=by
 unfold Z
 refine List.map_congr_left fun m _=>?_
 by_cases hm:off<=m/\m<off+n
 .rw [h (m-off) (by omega)]
 .rw [if_neg (fun q=>hm ⟨q.1,q.2.1⟩),if_neg (fun q=>hm ⟨q.1,q.2.1⟩)]
theorem KH (off n:Nat) (f:Nat->Int) (xs:List Int):Z off n (fun _=>false) f xs=xs:=by
 apply List.ext_getElem
 .simp [Z]
 .intro i h1 h2
  simp [Z,List.getD_eq_getElem?_getD,h2]
theorem aFe (off n:Nat) (f:Nat->Int) (xs:List Int):Z off n (fun _=>true) f xs=rZ off n f xs:=by
 unfold Z rZ
 refine List.map_congr_left fun m _=>?_
 simp only [and_true]
theorem aFd {off n q:Nat} {P:Nat->Bool} {f:Nat->Int} {xs:List Int} (hq:q<n) (hx:off+q<xs.length) (hP:P q=false) :
 (Z off n P f xs).set (off+q) (gO .u8 ((Z off n P f xs).getD (off+q) 0) (f q))=Z off n (fun m=>P m||m==q) f xs:=by
 apply List.ext_getElem
 .simp [Z]
 .intro i h1 h2
  have hl:i<xs.length:=by simpa [Z] using h2
  rw [List.getElem_set]
  split
  .rename_i e
   subst e
   rw [aUr _ _ _ _ _ hx,if_neg (by rw [Nat.add_sub_cancel_left,hP];simp)]
   simp only [Z,List.getElem_map,List.getElem_range,Nat.add_sub_cancel_left]
   rw [if_pos ⟨by omega,by omega,by simp⟩]
  .rename_i e
   simp only [Z,List.getElem_map,List.getElem_range]
   by_cases hc:off<=i/\i<off+n
   .have:(i-off==q)=false:=by simp;omega
    simp only [this,Bool.or_false]
   .rw [if_neg (fun q=>hc ⟨q.1,q.2.1⟩),if_neg (fun q=>hc ⟨q.1,q.2.1⟩)]
theorem xR (v:List Int) (a b c d:Nat):(B.qr v a b c d).length=v.length:=by simp [B.qr]
theorem Hj (v:List Int):(B.dr v).length=v.length:=by simp [B.dr,xR]
theorem jD (k:Nat) (v:List Int):(lane k v).length=16:=by simp [lane]
theorem wC (k:Nat) (v:List Int) {i:Nat} (h:i<16):(lane k v).getD i 0=v.getD (4*i+k) 0:=by simp [lane,List.getD_eq_getElem?_getD,h]
theorem wA (a b c d:List Int) {i:Nat} (hi:i<16):(zD a b c d).getD (4*i+0) 0=a.getD i 0/\(zD a b c d).getD (4*i+1) 0=b.getD i 0/\(zD a b c d).getD (4*i+2) 0=c.getD i 0/\(zD a b c d).getD (4*i+3) 0=d.getD i 0:=by
 have g:∀ j,j<64->(zD a b c d).getD j 0=Gb a b c d j:=fun j hj=>by simp [zD,List.getD_eq_getElem?_getD,hj]
 refine ⟨?_,?_,?_,?_⟩
 .rw [g _ (by omega)];unfold Gb;rw [show (4*i+0)%4=0 by omega,show (4*i+0)/4=i by omega];rfl
 .rw [g _ (by omega)];unfold Gb;rw [show (4*i+1)%4=1 by omega,show (4*i+1)/4=i by omega];rfl
 .rw [g _ (by omega)];unfold Gb;rw [show (4*i+2)%4=2 by omega,show (4*i+2)/4=i by omega];rfl
 .rw [g _ (by omega)];unfold Gb;rw [show (4*i+3)%4=3 by omega,show (4*i+3)/4=i by omega];rfl
theorem Ck {a b:List Int} (ha:a.length=16) (hb:b.length=16) (h:∀ i,i<16->a.getD i 0=b.getD i 0):a=b:=by
 apply List.ext_getElem (by omega)
 intro i h1 h2
 have:=h i (by omega)
 rw [List.getD_eq_getElem?_getD,List.getD_eq_getElem?_getD,List.getElem?_eq_getElem h1,List.getElem?_eq_getElem h2] at this
 simpa using this
theorem Zu {a b c d:List Int} (ha:a.length=16) (hb:b.length=16) (hc:c.length=16) (hd:d.length=16) :
 lane 0 (zD a b c d)=a/\lane 1 (zD a b c d)=b/\lane 2 (zD a b c d)=c/\lane 3 (zD a b c d)=d:=by
 refine ⟨Ck (jD _ _) ha fun i hi=>?_,Ck (jD _ _) hb fun i hi=>?_,Ck (jD _ _) hc fun i hi=>?_,Ck (jD _ _) hd fun i hi=>?_⟩ <;> rw [wC _ _ hi]
 .exact (wA a b c d hi).1
 .exact (wA a b c d hi).2.1
 .exact (wA a b c d hi).2.2.1
 .exact (wA a b c d hi).2.2.2
theorem LV (v:List Int) {k:Nat} (hk:k<4):lane k (dr4 v)=B.dr (lane k v):=by
 have l:∀ k,(B.dr (lane k v)).length=16:=fun k=>by rw [Hj,jD]
 have h:=Zu (l 0) (l 1) (l 2) (l 3)
 rcases (by omega:k=0\/k=1\/k=2\/k=3) with rfl | rfl | rfl | rfl
 .exact h.1
 .exact h.2.1
 .exact h.2.2.1
 .exact h.2.2.2
def it (v:List Int):Nat->List Int
 | 0=>v
 | n+1=>dr4 (it v n)
theorem Ha (v:List Int) (hv:v.length=64):∀ n,(it v n).length=64
 | 0=>hv
 | n+1=>by simp [it,dr4,zD]
theorem Sl (n:Nat):∀ v:List Int,B.rounds n (B.dr v)=B.dr (B.rounds n v):=by
 induction n with
 | zero=>intro v;rfl
 | succ n ih=>intro v;rw [B.rounds,ih,B.rounds,ih]
theorem Wt (v:List Int) {k:Nat} (hk:k<4):∀ n,lane k (it v n)=B.rounds n (lane k v)
 | 0=>rfl
 | n+1=>by rw [it,LV _ hk,Wt v hk n,B.rounds,Sl]
def st4 (s:List Int) (k:Nat):List Int:=s.set 12 (IntKind.u32.wrap (s.getD 12 0+(k:Int)))
theorem Ty (s:List Int):(jI s).length=64:=by simp [jI]
theorem LW {s:List Int} (hs:s.length=16) {k:Nat} (hk:k<4):lane k (jI s)=st4 s k:=by
 have g:∀ j,j<64->(jI s).getD j 0=HY s j:=fun j hj=>by simp [jI,List.getD_eq_getElem?_getD,hj]
 refine Ck (jD _ _) (by simp [st4,hs]) fun i hi=>?_
 rw [wC _ _ hi,g _ (by omega)]
 unfold HY
 rw [show (4*i+k)/4=i by omega,show (4*i+k)%4=k by omega,IntWalk.u32_in (k:Int) (by omega)]
 unfold st4
 by_cases h:i=12
 .subst h
  simp [List.getD_eq_getElem?_getD,hs]
 .have e:Nat.beq i 12=false:=by
   cases hb:Nat.beq i 12 with
   | false=>rfl
   | true=>exact absurd (cH hb) h
  rw [e]
  simp only [List.getD_eq_getElem?_getD]
  rw [List.getElem?_set_ne (by omega)]
def jA (s:List Int) (m:Nat):Int:=(B.out (B.rounds 10 (st4 s (m/64))) (st4 s (m/64))).getD (m%64) 0
theorem YS (v w:List Int) {j:Nat} (h:j<64):(B.out v w).getD j 0=IntKind.u8.wrap (bZ .u32 (IntKind.u32.wrap (v.getD (j/4) 0+w.getD (j/4) 0)) (IntKind.i64.wrap (8*(j%4:Nat)))):=by
 simp [B.out,List.getD_eq_getElem?_getD,h]
theorem aNk {s:List Int} (hs:s.length=16) {i k n:Nat} (hi:i<16) (hk:k<4) (hn:n<4):byt (it (jI s) 10) (jI s) i k n=jA s (64*k+4*i+n):=by
 unfold jA
 rw [show (64*k+4*i+n)/64=k by omega,show (64*k+4*i+n)%64=4*i+n by omega,YS _ _ (by omega),show (4*i+n)/4=i by omega,show (4*i+n)%4=n by omega]
 rw [<- LW hs hk,<- Wt _ hk,wC _ _ hi,wC _ _ hi,IntWalk.i64_in _ (by omega)]
 unfold byt wd
 rw [Int.toNat_natCast,Int.toNat_natCast,show 0+i*4+k*1+0=4*i+k by omega]
theorem aEn {i k n:Nat} (hi:i<16) (hk:k<4) (hn:n<4):ix i k n=((64*k+4*i+n:Nat):Int):=by
 unfold ix
 rw [IntWalk.i64_in (64*(k:Int)) (by omega),IntWalk.i64_in (4*(i:Int)) (by omega),IntWalk.i64_in (64*(k:Int)+4*(i:Int)) (by omega),IntWalk.i64_in _ (by omega)]
 omega
theorem aFc (off:Nat) {i k n:Nat} (hi:i<16) (hk:k<4) (hn:n<4):ad off i k n=off+(64*k+4*i+n):=by
 unfold ad
 rw [aEn hi hk hn,Int.toNat_natCast,Nat.mul_one]
def dn (i k:Nat) (m:Nat):Bool:=decide (m%64/4<i\/(m%64/4=i/\m/64<k))
theorem Oa (off:Nat) (v w:List Int) (i k:Int) (xs:List Int):∀ n,(X off v w i k xs n).length=xs.length
 | 0=>rfl
 | n+1=>by rw [X,List.length_set,Oa off v w i k xs n]
theorem X_Z {s xs:List Int} (hs:s.length=16) {off i k:Nat} (hi:i<16) (hk:k<4) (hx:off+256<=xs.length):∀ n,n<=4 ->
 X off (it (jI s) 10) (jI s) i k (Z off 256 (dn i k) (jA s) xs) n=Z off 256 (fun m=>dn i k m||decide (64*k+4*i<=m/\m<64*k+4*i+n)) (jA s) xs
 | 0,_=>by
   rw [X]
   refine lP _ _ fun m _=>?_
   have:decide (64*k+4*i<=m/\m<64*k+4*i+0)=false:=decide_eq_false (by omega)
   rw [this,Bool.or_false]
 | n+1,hn=>by
   rw [X,X_Z hs hi hk hx n (by omega),aFc off hi hk (by omega),Nat.add_zero,aNk hs hi hk (by omega),aFd (by omega) (by omega) (by simp [dn];omega)]
   refine lP _ _ fun m hm=>?_
   rw [Bool.or_assoc]
   congr 1
   rw [Bool.eq_iff_iff]
   simp only [Bool.or_eq_true,decide_eq_true_eq,beq_iff_eq]
   omega
theorem bBv {s xs:List Int} (hs:s.length=16) {off i k:Nat} (hi:i<16) (hk:k<4) (hx:off+256<=xs.length) :
 X off (it (jI s) 10) (jI s) i k (Z off 256 (dn i k) (jA s) xs) 4=Z off 256 (dn i (k+1)) (jA s) xs:=by
 rw [X_Z hs hi hk hx 4 (by omega)]
 refine lP _ _ fun m hm=>?_
 unfold dn
 rw [Bool.eq_iff_iff]
 simp only [Bool.or_eq_true,decide_eq_true_eq]
 omega
theorem aCu (off i:Nat) (f:Nat->Int) (xs:List Int):Z off 256 (dn i 4) f xs=Z off 256 (dn (i+1) 0) f xs:=lP _ _ fun m hm=>by
 unfold dn
 rw [Bool.eq_iff_iff]
 simp only [decide_eq_true_eq]
 omega
theorem bAq (off:Nat) (f:Nat->Int) (xs:List Int):Z off 256 (dn 0 0) f xs=xs:=by
 rw [lP (P':=fun _=>false) _ _ fun m hm=>by unfold dn;exact decide_eq_false (by omega)]
 exact KH _ _ _ _
theorem aUm (off:Nat) (f:Nat->Int) (xs:List Int):Z off 256 (dn 16 0) f xs=rZ off 256 f xs:=by
 rw [lP (P':=fun _=>true) _ _ fun m hm=>by unfold dn;exact decide_eq_true (by omega)]
 exact aFe _ _ _ _
end Q
def Ds (m:Int) (v:List Int):Prop:=∀ x∈v,0<=x/\x<=m
theorem Ds.get {m:Int} {v:List Int} (h:Ds m v) (hm:0<=m) (i:Nat):0<=v.getD i 0/\v.getD i 0<=m:=by
 rw [List.getD_eq_getElem?_getD]
 cases hv:v[i]? with
 | none=>exact ⟨Int.le_refl _,hm⟩
 | some x=>exact h x (List.mem_of_getElem? hv)
namespace M
def cy (xs:List Int):Nat->Int
 | 0=>0
 | i+1=>(cy xs i+xs.getD i 0)/256
 termination_by c
 decreasing_by omega
def val:List Int->Int
 | []=>0
 | x::r=>x+256*val r
end M
namespace M
def h (xs:List Int) (i:Nat):Int:=xs.getD i 0/4+xs.getD (i+1) 0%4*64
end M
namespace M
end M
namespace M
def vs (f:Nat->Int):Nat->Int
 | 0=>0
 | n+1=>f 0+256*vs (fun i=>f (i+1)) n
theorem Cr {f g:Nat->Int}:∀ {n:Nat},(∀ i,i<n->f i=g i)->vs f n=vs g n
 | 0,_=>rfl
 | n+1,h=>by
   unfold vs
   rw [h 0 (by omega),Cr (f:=fun i=>f (i+1)) (g:=fun i=>g (i+1)) fun i hi=>h (i+1) (by omega)]
theorem Cc (f:Nat->Int) (m:Nat):∀ n:Nat,vs f (n+m)=vs f n+256^n*vs (fun i=>f (n+i)) m:=by
 intro n
 induction n generalizing f with
 | zero=>simp [vs]
 | succ n ih=>
   rw [show n+1+m=(n+m)+1 from by omega,vs,vs,ih]
   rw [show (fun i=>f (n+i+1))=fun i=>f (n+1+i) from by funext i;congr 1;omega,Int.pow_succ]
   rw [Int.mul_add,Int.mul_comm (256^n) 256,Int.mul_assoc]
   omega
theorem Vp {f:Nat->Int}:∀ {n:Nat},(∀ i,i<n->f i=0)->vs f n=0
 | 0,_=>rfl
 | n+1,h=>by
   unfold vs
   rw [h 0 (by omega),Vp (f:=fun i=>f (i+1)) fun i hi=>h (i+1) (by omega)]
   rfl
theorem xP {f:Nat->Int}:∀ {n:Nat},(∀ i,i<n->0<=f i)->0<=vs f n
 | 0,_=>Int.le_refl _
 | n+1,h=>by
   have h1:=h 0 (by omega)
   have h2:=xP (f:=fun i=>f (i+1)) (n:=n) fun i hi=>h (i+1) (by omega)
   unfold vs
   omega
theorem zV (f:Nat->Int) (n:Nat):vs f (n+1)=vs f n+256^n*f n:=by
 rw [Cc f 1 n];simp [vs]
def V (xs:List Int):Int:=vs (fun i=>xs.getD i 0) xs.length
theorem aQe (xs:List Int) (n:Nat) (h:xs.length<=n):vs (fun i=>xs.getD i 0) n=V xs:=by
 obtain ⟨m,rfl⟩:∃ m,n=xs.length+m:=⟨n-xs.length,by omega⟩
 rw [Cc]
 have:vs (fun i=>xs.getD (xs.length+i) 0) m=0:=Vp fun i _=>by
  rw [List.getD_eq_getElem?_getD,List.getElem?_eq_none (by omega)];rfl
 rw [this];unfold V;omega
theorem QM (a b:List Int):V (a++b)=V a+256^a.length*V b:=by
 unfold V
 rw [List.length_append,Cc]
 congr 1
 .exact Cr fun i hi=>by simp [List.getD_eq_getElem?_getD,List.getElem?_append,hi]
 .congr 1
  exact Cr fun i _=>by rw [List.getD_eq_getElem?_getD,List.getD_eq_getElem?_getD,List.getElem?_append_right (Nat.le_add_right _ _),Nat.add_sub_cancel_left]
theorem tL (x:Int) (r:List Int):V (x::r)=x+256*V r:=by
 unfold V
 rw [List.length_cons,vs]
 simp
theorem Ca:V []=0:=rfl
end M
namespace M
def p:Int:=1361129467683753853853498429727072845819
def num (n:Int):List Int:=(List.range 17).map fun i=>n/256^i%256
theorem Wl (n:Int) {i:Nat} (h:i<17):(num n).getD i 0=n/256^i%256:=by simp [num,List.getD_eq_getElem?_getD,h]
theorem Pq {d:List Int} (hd:Ds 255 d) (h:V d<1361129467683753853853498429727072845824):V d=d.getD 0 0+256*vs (fun i=>d.getD (i+1) 0) 16:=by
 have ha:∀ i,0<=d.getD i 0/\d.getD i 0<=255:=hd.get (by omega)
 have e:=Cc (fun i=>d.getD i 0) d.length 17
 rw [Nat.add_comm,aQe d (d.length+17) (by omega)] at e
 have h2:=xP (f:=fun i=>d.getD (17+i) 0) (n:=d.length) fun i _=>(ha _).1
 have h3:=xP (f:=fun i=>d.getD i 0) (n:=17) fun i _=>(ha _).1
 rw [show ((256:Int)^17)=87112285931760246646623899502532662132736 from rfl] at e
 have:vs (fun i=>d.getD (17+i) 0) d.length=0:=by omega
 rw [this] at e
 rw [e,vs]
 omega
end M
namespace M
end M
namespace M
def Ln (a b:List Int):List Int:=(List.range 17).map fun j=>IntKind.i64.wrap (a.getD j 0+b.getD j 0)
end M
namespace M
def Iz (b:List Int) (i:Nat):Int:=match i%4 with
 | 3=>(IntKind.i64.wrap (b.getD i 0)).tmod 16
 | 0=>match i with
   | 0=>IntKind.i64.wrap (b.getD i 0)
   | _=>IntKind.i64.wrap (IntKind.i64.wrap (b.getD i 0)-(IntKind.i64.wrap (b.getD i 0)).tmod 4)
 | _=>IntKind.i64.wrap (b.getD i 0)
def Rx (b:List Int):List Int:=(List.range 16).map (Iz b)
def sc (a s:List Int):Nat->Int
 | 0=>0
 | i+1=>IntKind.i64.wrap ((IntKind.i64.wrap (IntKind.i64.wrap (sc a s i+a.getD i 0)+IntKind.i64.wrap (s.getD i 0))).tdiv 256)
def Pw (a s:List Int):List Int:=(List.range 16).map fun i=>IntKind.u8.wrap ((IntKind.i64.wrap (IntKind.i64.wrap (sc a s i+a.getD i 0)+IntKind.i64.wrap (s.getD i 0))).tmod 256)
end M
namespace M
def tE (a b:List Int) (i:Nat):Nat->List Int->List Int
 | 0,d=>d
 | k+1,d=>(tE a b i k d).set (i+k) (IntKind.i64.wrap ((tE a b i k d).getD (i+k) 0+IntKind.i64.wrap (a.getD i 0*b.getD k 0)))
def mulL (a b:List Int):Nat->List Int
 | 0=>List.replicate 33 0
 | i+1=>tE a b i 17 (mulL a b i)
end M
namespace R
def plus (x y:Int):Int:=(IntKind.i64.wrap (x+y)).tmod 4294967296
def SX (x u:Int):Int:=IntKind.i64.wrap ((IntKind.i64.wrap (x*u)).tmod 4294967296+IntKind.i64.wrap ((IntKind.i64.wrap (x*u)).tdiv 4294967296))
def qr (v:List Int) (a b c d:Nat):List Int:=
 let v:=v.set a (plus (v.getD a 0) (v.getD b 0))
 let v:=v.set d (SX (gO .i64 (v.getD d 0) (v.getD a 0)) 65536)
 let v:=v.set c (plus (v.getD c 0) (v.getD d 0))
 let v:=v.set b (SX (gO .i64 (v.getD b 0) (v.getD c 0)) 4096)
 let v:=v.set a (plus (v.getD a 0) (v.getD b 0))
 let v:=v.set d (SX (gO .i64 (v.getD d 0) (v.getD a 0)) 256)
 let v:=v.set c (plus (v.getD c 0) (v.getD d 0))
 v.set b (SX (gO .i64 (v.getD b 0) (v.getD c 0)) 128)
end R
namespace R
def word (l:List Int) (i:Nat):Int:=IntKind.i64.wrap (IntKind.i64.wrap (IntKind.i64.wrap (IntKind.i64.wrap (l.getD (4*i) 0)+IntKind.i64.wrap (256*IntKind.i64.wrap (l.getD (4*i+1) 0)))+IntKind.i64.wrap (65536*IntKind.i64.wrap (l.getD (4*i+2) 0)))+IntKind.i64.wrap (16777216*IntKind.i64.wrap (l.getD (4*i+3) 0)))
def aSz (key nonce:List Int) (c:Int):List Int:=(List.range 8).map (word key)++[IntKind.i64.wrap c]++(List.range 3).map (word nonce)
def init (key nonce:List Int) (c:Int):List Int:=[1634760805,857760878,2036477234,1797285236]++aSz key nonce c
def dr (v:List Int):List Int:=
 qr (qr (qr (qr (qr (qr (qr (qr v 0 4 8 12) 1 5 9 13) 2 6 10 14) 3 7 11 15) 0 5 10 15) 1 6 11 12) 2 7 8 13) 3 4 9 14
def KC (x:Int):Nat->Int
 | 0=>IntKind.u8.wrap (x.tmod 256)
 | n+1=>KC (IntKind.i64.wrap (x.tdiv 256)) n
def out (v w:List Int):List Int:=(List.range 64).map fun j=>KC ((IntKind.i64.wrap (v.getD (j/4) 0+w.getD (j/4) 0)).tmod 4294967296) (j%4)
def rounds:Nat->List Int->List Int
 | 0,v=>v
 | n+1,v=>dr (rounds n v)
end R
theorem Wu (Γ:Env) (hg:Γ.aR=aB):aH Tryz.prog Γ 157 bCc:=by
 refine aW hg fun vs T c hd hc=>?_
 unfold aUz at hd
 split at hd
 case h_2=>cases hd
 split at hd
 case h_2=>cases hd
 cases hd
 exact aNv _ _ _ (hc _ (by simp)) (hc _ (by simp)) Γ hg
theorem R.xR (v:List Int) (a b c d:Nat):(R.qr v a b c d).length=v.length:=by simp [R.qr]
theorem R.Hj (v:List Int):(R.dr v).length=v.length:=by simp [R.dr,R.xR]
def R.block (key nonce:List Int) (c:Int):List Int:=R.out (R.rounds 10 (R.init key nonce c)) (R.init key nonce c)
def W (x:Int):Prop:=0<=x/\x<4294967296
theorem W.nat {x:Int} (h:W x):∃ a:Nat,x=a/\a<4294967296:=⟨x.toNat,by unfold W at h;omega,by unfold W at h;omega⟩
def Ws (v:List Int):Prop:=∀ x∈v,W x
theorem Ws.get {v:List Int} (h:Ws v) (i:Nat):W (v.getD i 0):=by
 rw [List.getD_eq_getElem?_getD]
 cases hv:v[i]? with
 | none=>exact ⟨by decide,by decide⟩
 | some x=>exact h x (List.mem_of_getElem? hv)
theorem Ws.set {v:List Int} (h:Ws v) (i:Nat) {x:Int} (hx:W x):Ws (v.set i x):=by
 intro y hy
 rcases List.mem_or_eq_of_mem_set hy with hy | hy
 .exact h y hy
 .subst hy;exact hx
def Bt (x:Int):Prop:=0<=x/\x<256
def bR (v:List Int):Prop:=∀ x∈v,Bt x
theorem bR.get {v:List Int} (h:bR v) (i:Nat):Bt (v.getD i 0):=by
 rw [List.getD_eq_getElem?_getD]
 cases hv:v[i]? with
 | none=>exact ⟨by decide,by decide⟩
 | some x=>exact h x (List.mem_of_getElem? hv)
theorem Bt.nat {x:Int} (h:Bt x):∃ a:Nat,x=a/\a<256:=⟨x.toNat,by unfold Bt at h;omega,by unfold Bt at h;omega⟩
namespace M
theorem aHr (n:Int):∀ k:Nat,vs (fun i=>n/256^i%256) k=n%256^k:=by
 intro k
 induction k with
 | zero=>simp [vs,Int.emod_one]
 | succ k ih=>
   rw [zV,ih,Int.pow_succ]
   have c:(0:Int)<256^k:=Int.pow_pos (by omega)
   have h1:=Int.emod_add_mul_ediv n (256^k)
   have h2:=Int.emod_nonneg n (show (256:Int)^k≠0 by omega)
   have h3:=Int.emod_lt_of_pos n c
   have h4:=Int.emod_add_mul_ediv (n/256^k) 256
   have h5:=Int.emod_nonneg (n/256^k) (show (256:Int)≠0 by omega)
   have h6:=Int.emod_lt_of_pos (n/256^k) (show (0:Int)<256 by omega)
   generalize n/256^k%256=s at *
   generalize n/256^k/256=q at *
   generalize n%256^k=r at *
   have e:n=(r+256^k*s)+256^k*256*q:=by
    rw [<- h1,<- h4,Int.mul_add,Int.mul_assoc];omega
   have l:r+256^k*s<256^k*256:=by
    have:256^k*s<=256^k*255:=Int.mul_le_mul_of_nonneg_left (by omega) (Int.le_of_lt c)
    omega
   have l0:0<=r+256^k*s:=by
    have:0<=256^k*s:=Int.mul_nonneg (Int.le_of_lt c) h5
    omega
   have:n%(256^k*256)=r+256^k*s:=by
    rw [e,Int.add_mul_emod_self_left,Int.emod_eq_of_lt l0 l]
   exact this.symm
end M
theorem bR.Ds {b:List Int} (h:bR b):Ds 255 b:=fun x hx=>by have:=h x hx;unfold Bt at this;omega
namespace M
end M
end Go.Proofs.YticicdfijghigaaGreatDoor.Sx
section
namespace Go.Proofs.YticicdfijghigaaGreatDoor.Sx
end Go.Proofs.YticicdfijghigaaGreatDoor.Sx
end
namespace Go.Proofs.YticicdfijghigaaGreatDoor.Sx
namespace M
def aN (data:List Int) (i:Int) (m:Nat):List Int:=((List.range m).map fun j:Nat=>data.getD (IntKind.i64.wrap (i+(j:Int))).toNat 0)++1::List.replicate (16-m) 0
end M
namespace M
def lo (key:List Int):List Int:=(List.range 16).map fun j=>key.getD j 0
def hi (key:List Int):List Int:=(List.range 16).map fun j=>key.getD (16+j) 0
def cl (key:List Int):List Int:=Rx (lo key)++[0]
def acc (r:Int) (data:List Int):Nat->Int
 | 0=>0
 | j+1=>((acc r data j+V (aN data (16*(j:Int)) (min 16 (data.length-16*j))))*r)%p
def tag (key data:List Int):List Int:=Pw (num (acc (V (cl key)) data ((data.length+15)/16))) (hi key)
theorem aDe {data:List Int} (hd:bR data) (i:Int) (m:Nat):bR (aN data i m):=by
 intro x hx
 simp only [aN,List.mem_append,List.mem_map,List.mem_cons,List.mem_replicate] at hx
 rcases hx with ⟨j,_,rfl⟩ | rfl | ⟨_,rfl⟩
 .exact hd.get _
 .exact ⟨by decide,by decide⟩
 .exact ⟨by decide,by decide⟩
end M
namespace M
def U (x:Int):Prop:=0<=x/\x<18446744073709551616
def uh (n:Int):Int:=n/18446744073709551616
def ul (n:Int):Int:=n%18446744073709551616
theorem dU (n:Int):U (ul n):=by unfold U ul;omega
theorem uJ {n:Int} (h:U n):ul n=n:=by unfold U at h;unfold ul;omega
theorem eN {x y:Int} (hx:U x) (hy:U y):0<=x*y/\x*y<=340282366920938463426481119284349108225:=by
 refine ⟨Int.mul_nonneg hx.1 hy.1,?_⟩
 have h1:=hx.2
 have h2:=hy.2
 exact Int.le_trans (Int.mul_le_mul (show x<=18446744073709551615 by omega) (show y<=18446744073709551615 by omega) hy.1 (by decide)) (by decide)
theorem bP (n:Int):IntKind.u64.wrap n=ul n:=by rw [IntKind.wrap_u64];rfl
end M
theorem aSp (x y:Int) :
 aJ (env gC 3) Tryz.f199 true [] 400 [.int false .u64 x,.int false .u64 y] (fun _=>none) 100 100 =
 sh (32:Int) fun z2=>
 sh (4294967295:Int) fun z1=>
 sh (IntKind.u64.wrap (IntKind.u64.wrap (bZ IntKind.u64 x z2*bU IntKind.u64 y z1)+bZ IntKind.u64 (IntKind.u64.wrap (bU IntKind.u64 x z1*bU IntKind.u64 y z1)) z2)) fun z0=>
 some {val:=SV.eL [SV.int false IntKind.u64 (IntKind.u64.wrap (IntKind.u64.wrap (IntKind.u64.wrap (bZ IntKind.u64 x z2*bZ IntKind.u64 y z2)+bZ IntKind.u64 z0 z2)+bZ IntKind.u64 (IntKind.u64.wrap (bU IntKind.u64 z0 z1+IntKind.u64.wrap (bU IntKind.u64 x z1*bZ IntKind.u64 y z2))) z2)),SV.int false IntKind.u64 (IntKind.u64.wrap (x*y))]}:=by kernel_rfl
namespace M
theorem aHa (a:Nat) (ha:a<18446744073709551616):bU .u64 (a:Int) 4294967295=((a%4294967296:Nat):Int):=by
 have h:=bits_and_u64_nat a 4294967295 ha (by omega)
 have e:a &&& 4294967295=a%4294967296:=Nat.and_two_pow_sub_one_eq_mod a 32
 rw [e] at h
 exact h
theorem aVn (a:Nat):bZ .u64 (a:Int) 32=((a/4294967296:Nat):Int):=by
 show Int.fdiv (a:Int) 4294967296=_
 rw [Int.fdiv_eq_ediv_of_nonneg _ (by decide)]
 omega
theorem aXp (a b:Nat):(a:Int)*(b:Int)=((a*b:Nat):Int):=(Int.natCast_mul a b).symm
theorem bBh (a b:Nat):(a:Int)+(b:Int)=((a+b:Nat):Int):=(Int.natCast_add a b).symm
theorem yG (a:Nat) (ha:a<18446744073709551616):IntKind.u64.wrap (a:Int)=(a:Int):=by rw [IntKind.wrap_u64];omega
set_option maxHeartbeats 1000000 in
theorem ZJ {x y:Int} (hx:U x) (hy:U y):(IntKind.u64.wrap
 (IntKind.u64.wrap
  (IntKind.u64.wrap (bZ IntKind.u64 x (32:Int)*bZ IntKind.u64 y (32:Int)) +
   bZ IntKind.u64
    (IntKind.u64.wrap
     (IntKind.u64.wrap (bZ IntKind.u64 x (32:Int)*bU IntKind.u64 y (4294967295:Int)) +
      bZ IntKind.u64 (IntKind.u64.wrap (bU IntKind.u64 x (4294967295:Int)*bU IntKind.u64 y (4294967295:Int))) (32:Int)))
    (32:Int)) +
  bZ IntKind.u64
   (IntKind.u64.wrap
    (bU IntKind.u64
     (IntKind.u64.wrap
      (IntKind.u64.wrap (bZ IntKind.u64 x (32:Int)*bU IntKind.u64 y (4294967295:Int)) +
       bZ IntKind.u64 (IntKind.u64.wrap (bU IntKind.u64 x (4294967295:Int)*bU IntKind.u64 y (4294967295:Int))) (32:Int)))
     (4294967295:Int) +
     IntKind.u64.wrap (bU IntKind.u64 x (4294967295:Int)*bZ IntKind.u64 y (32:Int))))
   (32:Int)))=uh (x*y):=by
 obtain ⟨x,rfl⟩:=Int.eq_ofNat_of_zero_le hx.1
 obtain ⟨y,rfl⟩:=Int.eq_ofNat_of_zero_le hy.1
 have hx:x<18446744073709551616:=by have:=hx.2;omega
 have hy:y<18446744073709551616:=by have:=hy.2;omega
 obtain ⟨bd,bt,bw,hhi⟩:=Lib.mul64_hi x y hx hy
 have ba:=Lib.half_mul_le (a:=x/4294967296) (b:=y/4294967296) (by omega) (by omega)
 have bb:=Lib.half_mul_le (a:=x/4294967296) (b:=y%4294967296) (by omega) (by omega)
 have bc:=Lib.half_mul_le (a:=x%4294967296) (b:=y/4294967296) (by omega) (by omega)
 have ba':x/4294967296*(y/4294967296)<18446744073709551616:=by omega
 have bb':x/4294967296*(y%4294967296)<18446744073709551616:=by omega
 have bc':x%4294967296*(y/4294967296)<18446744073709551616:=by omega
 have bh1:x/4294967296*(y/4294967296)+(x/4294967296*(y%4294967296)+x%4294967296*(y%4294967296)/4294967296)/4294967296<18446744073709551616:=by omega
 have bh:x/4294967296*(y/4294967296)+(x/4294967296*(y%4294967296)+x%4294967296*(y%4294967296)/4294967296)/4294967296+((x/4294967296*(y%4294967296)+x%4294967296*(y%4294967296)/4294967296)%4294967296+x%4294967296*(y/4294967296))/4294967296<18446744073709551616:=by omega
 simp only [aHa x hx,aHa y hy,aVn,aXp,bBh,yG _ bd,yG _ bb',yG _ bt,aHa _ bt,yG _ bc',yG _ bw,yG _ ba',yG _ bh1,yG _ bh]
 rw [hhi]
 unfold uh
 omega
end M
def Qz (vs:List SV) (_:aZ):Option Canon:=match vs with
 | [.int _ .u64 x,.int _ .u64 y]=>some { eR:=[.int false .u64 x,.int false .u64 y],T0:=[],vl:=[],e0:={ val:=.eL [.int false .u64 (M.uh (x*y)),.int false .u64 (M.ul (x*y))] },conds:=[M.U x,M.U y] }
 | _=>none
theorem aKj (Γ:Env) (hg:Γ.aR=aB):aH Tryz.prog Γ 199 (aK aB 100 Qz):=by
 refine aW hg fun vs T c hd hc=>?_
 unfold Qz at hd
 split at hd
 case h_2=>cases hd
 rename_i x _ y
 cases hd
 have hx:M.U x:=hc _ (by simp)
 have hy:M.U y:=hc _ (by simp)
 have hs:aH Tryz.prog (env gC 3) 199 (aJ (env gC 3) Tryz.f199 true [] 400):=
  aM (bQ gC 3) (mY 3) mix Tryz.func199 (by kernel_rfl) true [] 400
 refine (hs.call (aSp _ _) (by simp)).words (by rw [hg];rfl) (fun _=>rfl) (fun _ _ h=>by cases h) (fun V=>?_) rfl rfl
 simp only [den,aE,M.ZJ hx hy]
 simp only [M.bP]
def Yy (f:Nat):Option Sum:=match Nat.beq f 199 with
 | true=>some (aK aB 100 Qz)
 | false=>gC f
theorem Xf (f:Nat) (S:Sum) (h:Yy f=some S) (Γ:Env) (hg:Γ.aR=aB):aH Tryz.prog Γ f S:=by
 unfold Yy at h
 split at h
 .rename_i e;cases h;rw [cH e];exact aKj Γ hg
 .exact tJ f S h Γ
noncomputable def Kv:Env:=env Yy 8
theorem Vl:cK Tryz.prog Kv:=bW Yy Xf 8
theorem Vk:cA Tryz.prog Kv:=bQ Yy 8
theorem bBi (x y c:Int) :
 aJ Kv Tryz.f195 true [] 400 [.int false .u64 x,.int false .u64 y,.int false .u64 c] (fun _=>none) 100 100 =
 sh (18446744073709551616:Int) fun z0=>
 some {bM:=[(0:Int)<=x/\(0:Int)<=y/\(0:Int)<=c/\c<=(1:Int)],val:=SV.eL [SV.int false IntKind.u64 ((x+y+c)%z0),SV.int false IntKind.u64 ((x+y+c)/z0)]}:=by kernel_rfl
theorem aWb (x y c:Int) :
 aJ Kv Tryz.f187 true [] 400 [.int false .u64 x,.int false .u64 y,.int false .u64 c] (fun _=>none) 100 100 =
 sh (18446744073709551616:Nat) fun z0=>
 sh (0:Int) fun z1=>
 some {bM:=[z1<=x/\z1<=y/\z1<=c/\c<=(1:Int)],val:=SV.eL [SV.int false IntKind.u64 (↑((x.toNat+z0-y.toNat-c.toNat)%z0):Int),SV.int false IntKind.u64 (if x<y+c then (1:Int) else z1)]}:=by kernel_rfl
def M.ub (n:Int):Int := -(n/18446744073709551616)
def M.K (c:Int):Prop:=0<=c/\c<=1
def addDec (vs:List SV) (_:aZ):Option Canon:=match vs with
 | [.int _ .u64 x,.int _ .u64 y,.int _ .u64 c]=>some { eR:=[.int false .u64 x,.int false .u64 y,.int false .u64 c],T0:=[],vl:=[],e0:={ val:=.eL [.int false .u64 (M.ul (x+y+c)),.int false .u64 (M.uh (x+y+c))] },conds:=[M.U x,M.U y,M.K c] }
 | _=>none
def Qo (vs:List SV) (_:aZ):Option Canon:=match vs with
 | [.int _ .u64 x,.int _ .u64 y,.int _ .u64 c]=>some { eR:=[.int false .u64 x,.int false .u64 y,.int false .u64 c],T0:=[],vl:=[],e0:={ val:=.eL [.int false .u64 (M.ul (x-y-c)),.int false .u64 (M.ub (x-y-c))] },conds:=[M.U x,M.U y,M.K c] }
 | _=>none
theorem aUq (Γ:Env) (hg:Γ.aR=aB):aH Tryz.prog Γ 195 (aK aB 100 addDec):=by
 refine aW hg fun vs T c hd hc=>?_
 unfold addDec at hd
 split at hd
 case h_2=>cases hd
 rename_i x _ y _ c
 cases hd
 have hx:M.U x:=hc _ (by simp)
 have hy:M.U y:=hc _ (by simp)
 have hk:M.K c:=hc _ (by simp)
 have hs:aH Tryz.prog Kv 195 (aJ Kv Tryz.f195 true [] 400):=aM Vk Vl mix Tryz.func195 (by kernel_rfl) true [] 400
 exact (hs.call (bBi _ _ _) (aA (by simp only [sh,bX,and_true];exact ⟨hx.1,hy.1,hk.1,hk.2⟩))).words (by rw [hg];rfl) (fun _=>rfl) (fun _ _ h=>by cases h) (fun V=>rfl) rfl rfl
theorem aRs (Γ:Env) (hg:Γ.aR=aB):aH Tryz.prog Γ 187 (aK aB 100 Qo):=by
 refine aW hg fun vs T c hd hc=>?_
 unfold Qo at hd
 split at hd
 case h_2=>cases hd
 rename_i x _ y _ c
 cases hd
 have hx:M.U x:=hc _ (by simp)
 have hy:M.U y:=hc _ (by simp)
 have hk:M.K c:=hc _ (by simp)
 have hs:aH Tryz.prog Kv 187 (aJ Kv Tryz.f187 true [] 400):=aM Vk Vl mix Tryz.func187 (by kernel_rfl) true [] 400
 refine (hs.call (aWb _ _ _) (aA (by simp only [sh,bX,and_true];exact ⟨hx.1,hy.1,hk.1,hk.2⟩))).words (by rw [hg];rfl) (fun _=>rfl) (fun _ _ h=>by cases h) (fun V=>?_) rfl rfl
 have h1:=hx.1
 have h2:=hx.2
 have h3:=hy.1
 have h4:=hy.2
 have h5:=hk.1
 have h6:=hk.2
 have e1:(((x.toNat+18446744073709551616-y.toNat-c.toNat)%18446744073709551616:Nat):Int)=M.ul (x-y-c):=by unfold M.ul;omega
 have e2:(if x<y+c then (1:Int) else 0)=M.ub (x-y-c):=by unfold M.ub;split <;> omega
 rw [e1,e2]
def Yx (f:Nat):Option Sum:=match Nat.beq f 195 with
 | true=>some (aK aB 100 addDec)
 | false=>match Nat.beq f 187 with
   | true=>some (aK aB 100 Qo)
   | false=>Yy f
theorem Xe (f:Nat) (S:Sum) (h:Yx f=some S) (Γ:Env) (hg:Γ.aR=aB):aH Tryz.prog Γ f S:=by
 unfold Yx at h
 split at h
 .rename_i e;cases h;rw [cH e];exact aUq Γ hg
 split at h
 .rename_i e;cases h;rw [cH e];exact aRs Γ hg
 .exact Xf f S h Γ hg
noncomputable def wZ:Env:=env Yx 8
theorem Jc:cK Tryz.prog wZ:=bW Yx Xe 8
theorem Jb:cA Tryz.prog wZ:=bQ Yx 8
theorem aUp (x y c:Int) :
 aJ wZ Tryz.f264 true [] 400 [.int false .u64 x,.int false .u64 y,.int false .u64 c] (fun _=>none) 100 100 =
 sh (0:Int) fun z1=>
 sh (M.ul (x*y)+c+z1) fun z0=>
 some {bM:=[M.U (M.ul (x*y)),M.U c,M.K z1,M.ul (x*y)=M.ul (x*y),c=c,z1=z1,M.U x,M.U y,x=x,y=y],val:=SV.eL [SV.int false IntKind.u64 (IntKind.u64.wrap (M.uh (x*y)+M.uh z0)),SV.int false IntKind.u64 (M.ul z0)]}:=by kernel_rfl
theorem aUi (x y:Int) :
 aJ wZ Tryz.f285 true [false,false] 400 [.int false .u64 x,.int false .u64 y,.int true .u64 18446744073709551615,.int true .u64 1] (fun _=>none) 100 100 =
 sh (18446744073709551615:Int) fun z4=>
 sh (1:Int) fun z7=>
 sh (z7*x) fun z2=>
 sh (0:Int) fun z5=>
 sh (M.ul z2+y+z5) fun z6=>
 sh (M.uh z2+x+M.uh z6) fun z1=>
 sh (z4*M.ul z1) fun z0=>
 sh (y-M.ul z0-z5) fun z3=>
 some {bM:=[decide (M.ul z3>=z4)=false,(M.ul (x-M.uh z0-M.ub z3) != z5)=false,M.U x,M.U (M.uh z0),M.K (M.ub z3),x=x,M.uh z0=M.uh z0,M.ub z3=M.ub z3,M.U y,M.U (M.ul z0),M.K z5,y=y,M.ul z0=M.ul z0,z5=z5,M.U z4,M.U (M.ul z1),z4=z4,M.ul z1=M.ul z1,M.U (M.uh z2),M.U x,M.K (M.uh z6),M.uh z2=M.uh z2,x=x,M.uh z6=M.uh z6,M.U (M.ul z2),M.U y,M.K z5,M.ul z2=M.ul z2,y=y,z5=z5,M.U z7,M.U x,z7=z7,x=x],val:=SV.eL [SV.int false IntKind.u64 (M.ul z1),SV.int false IntKind.u64 (bZ IntKind.u64 (M.ul z3) z5)]}:=by kernel_rfl
theorem aUh (x y:Int) :
 aJ wZ Tryz.f285 true [false,true] 400 [.int false .u64 x,.int false .u64 y,.int true .u64 18446744073709551615,.int true .u64 1] (fun _=>none) 100 100 =
 sh (18446744073709551615:Int) fun z2=>
 sh (1:Int) fun z7=>
 sh (z7*x) fun z3=>
 sh (0:Int) fun z5=>
 sh (M.ul z3+y+z5) fun z6=>
 sh (M.uh z3+x+M.uh z6) fun z1=>
 sh (z2*M.ul z1) fun z0=>
 sh (y-M.ul z0-z5) fun z4=>
 some {bM:=[decide (M.ul z4>=z2)=true,(M.ul (x-M.uh z0-M.ub z4) != z5)=false,M.U x,M.U (M.uh z0),M.K (M.ub z4),x=x,M.uh z0=M.uh z0,M.ub z4=M.ub z4,M.U y,M.U (M.ul z0),M.K z5,y=y,M.ul z0=M.ul z0,z5=z5,M.U z2,M.U (M.ul z1),z2=z2,M.ul z1=M.ul z1,M.U (M.uh z3),M.U x,M.K (M.uh z6),M.uh z3=M.uh z3,x=x,M.uh z6=M.uh z6,M.U (M.ul z3),M.U y,M.K z5,M.ul z3=M.ul z3,y=y,z5=z5,M.U z7,M.U x,z7=z7,x=x],val:=SV.eL [SV.int false IntKind.u64 (IntKind.u64.wrap (M.ul z1+z7)),SV.int false IntKind.u64 (bZ IntKind.u64 (IntKind.u64.wrap (M.ul z4-z2)) z5)]}:=by kernel_rfl
theorem aUg (x y:Int) :
 aJ wZ Tryz.f285 true [false,false] 400 [.int false .u64 x,.int false .u64 y,.int true .u64 9223372036854775808,.int true .u64 18446744073709551615] (fun _=>none) 100 100 =
 sh (9223372036854775808:Int) fun z4=>
 sh (18446744073709551615:Int) fun z5=>
 sh (z5*x) fun z1=>
 sh (0:Int) fun z6=>
 sh (M.ul z1+y+z6) fun z7=>
 sh (M.uh z1+x+M.uh z7) fun z2=>
 sh (z4*M.ul z2) fun z0=>
 sh (y-M.ul z0-z6) fun z3=>
 some {bM:=[decide (M.ul z3>=z4)=false,(M.ul (x-M.uh z0-M.ub z3) != z6)=false,M.U x,M.U (M.uh z0),M.K (M.ub z3),x=x,M.uh z0=M.uh z0,M.ub z3=M.ub z3,M.U y,M.U (M.ul z0),M.K z6,y=y,M.ul z0=M.ul z0,z6=z6,M.U z4,M.U (M.ul z2),z4=z4,M.ul z2=M.ul z2,M.U (M.uh z1),M.U x,M.K (M.uh z7),M.uh z1=M.uh z1,x=x,M.uh z7=M.uh z7,M.U (M.ul z1),M.U y,M.K z6,M.ul z1=M.ul z1,y=y,z6=z6,M.U z5,M.U x,z5=z5,x=x],val:=SV.eL [SV.int false IntKind.u64 (M.ul z2),SV.int false IntKind.u64 (bZ IntKind.u64 (M.ul z3) z6)]}:=by kernel_rfl
theorem aUf (x y:Int) :
 aJ wZ Tryz.f285 true [false,true] 400 [.int false .u64 x,.int false .u64 y,.int true .u64 9223372036854775808,.int true .u64 18446744073709551615] (fun _=>none) 100 100 =
 sh (9223372036854775808:Int) fun z3=>
 sh (18446744073709551615:Int) fun z5=>
 sh (z5*x) fun z1=>
 sh (0:Int) fun z6=>
 sh (M.ul z1+y+z6) fun z7=>
 sh (M.uh z1+x+M.uh z7) fun z2=>
 sh (z3*M.ul z2) fun z0=>
 sh (y-M.ul z0-z6) fun z4=>
 some {bM:=[decide (M.ul z4>=z3)=true,(M.ul (x-M.uh z0-M.ub z4) != z6)=false,M.U x,M.U (M.uh z0),M.K (M.ub z4),x=x,M.uh z0=M.uh z0,M.ub z4=M.ub z4,M.U y,M.U (M.ul z0),M.K z6,y=y,M.ul z0=M.ul z0,z6=z6,M.U z3,M.U (M.ul z2),z3=z3,M.ul z2=M.ul z2,M.U (M.uh z1),M.U x,M.K (M.uh z7),M.uh z1=M.uh z1,x=x,M.uh z7=M.uh z7,M.U (M.ul z1),M.U y,M.K z6,M.ul z1=M.ul z1,y=y,z6=z6,M.U z5,M.U x,z5=z5,x=x],val:=SV.eL [SV.int false IntKind.u64 (IntKind.u64.wrap (M.ul z2+(1:Int))),SV.int false IntKind.u64 (bZ IntKind.u64 (IntKind.u64.wrap (M.ul z4-z3)) z6)]}:=by kernel_rfl
def Sa (vs:List SV) (_:aZ):Option Canon:=match vs with
 | [.int _ .u64 x,.int _ .u64 y,.int _ .u64 c]=>some { eR:=[.int false .u64 x,.int false .u64 y,.int false .u64 c],T0:=[],vl:=[],e0:={ val:=.eL [.int false .u64 (M.uh (x*y+c)),.int false .u64 (M.ul (x*y+c))] },conds:=[M.U x,M.U y,M.U c] }
 | _=>none
theorem aNn (Γ:Env) (hg:Γ.aR=aB):aH Tryz.prog Γ 264 (aK aB 100 Sa):=by
 refine aW hg fun vs T c hd hc=>?_
 unfold Sa at hd
 split at hd
 case h_2=>cases hd
 rename_i x _ y _ c
 cases hd
 have hx:M.U x:=hc _ (by simp)
 have hy:M.U y:=hc _ (by simp)
 have hk:M.U c:=hc _ (by simp)
 have hs:aH Tryz.prog wZ 264 (aJ wZ Tryz.f264 true [] 400):=aM Jb Jc mix Tryz.func264 (by kernel_rfl) true [] 400
 refine (hs.call (aUp _ _ _) (aA (by simp only [sh,bX,and_true,true_and];exact ⟨M.dU _,hk,⟨by decide,by decide⟩,hx,hy⟩))).words (by rw [hg];rfl) (fun _=>rfl) (fun _ _ h=>by cases h) (fun V=>?_) rfl rfl
 have h0:=M.eN hx hy
 have h1:=hk.1
 have h2:=hk.2
 rw [M.bP]
 have e1:M.ul (M.uh (x*y)+M.uh (M.ul (x*y)+c+0))=M.uh (x*y+c):=by unfold M.ul M.uh;omega
 have e2:M.ul (M.ul (x*y)+c+0)=M.ul (x*y+c):=by unfold M.ul;omega
 rw [e1,e2]
def M.dq (d x y:Int):Int:=(x*18446744073709551616+y)/d
def M.dr (d x y:Int):Int:=(x*18446744073709551616+y)%d
def HR (vs:List SV) (_:aZ):Option Canon:=match vs with
 | [.int _ .u64 x,.int _ .u64 y,.int true .u64 d,.int true .u64 m]=>match Lm d 18446744073709551615&&Lm m 1 with
   | true=>some { eR:=[.int false .u64 x,.int false .u64 y,.int true .u64 18446744073709551615,.int true .u64 1],T0:=[],vl:=[],e0:={ val:=.eL [.int false .u64 (M.dq 18446744073709551615 x y),.int false .u64 (M.dr 18446744073709551615 x y)] },conds:=[M.U x,M.U y,x<18446744073709551615] }
   | false=>match Lm d 9223372036854775808&&Lm m 18446744073709551615 with
     | true=>some { eR:=[.int false .u64 x,.int false .u64 y,.int true .u64 9223372036854775808,.int true .u64 18446744073709551615],T0:=[],vl:=[],e0:={ val:=.eL [.int false .u64 (M.dq 9223372036854775808 x y),.int false .u64 (M.dr 9223372036854775808 x y)] },conds:=[M.U x,M.U y,x<9223372036854775808] }
     | false=>none
 | _=>none
set_option maxHeartbeats 2000000 in
theorem QC {x y:Int} (hx:M.U x) (hy:M.U y) (hd:x<18446744073709551615) (Γ:Env) (hg:Γ.aR=aB):aF Tryz.prog Γ 285 [.int false .u64 x,.int false .u64 y,.int true .u64 18446744073709551615,.int true .u64 1] (fun l=>look l []) 100 100 { val:=.eL [.int false .u64 (M.dq 18446744073709551615 x y),.int false .u64 (M.dr 18446744073709551615 x y)] }:=by
 have h1:=hx.1
 have h3:=hy.1
 have h4:=hy.2
 have q1:M.ul (M.uh (1*x)+x+M.uh (M.ul (1*x)+y+0))=x+(x+y)/18446744073709551616:=by unfold M.ul M.uh;omega
 have q2:M.uh (1*x)=0:=by unfold M.uh;omega
 have q3:M.uh (M.ul (1*x)+y+0)=(x+y)/18446744073709551616:=by unfold M.uh M.ul;omega
 obtain ⟨c,hc⟩:∃ c,c=(x+y)/18446744073709551616:=⟨_,rfl⟩
 rw [<- hc] at q1 q3
 have c0:c=0\/c=1:=by omega
 have q4:M.ul (18446744073709551615*(x+c))=if x+c=0 then 0 else 18446744073709551616-(x+c):=by unfold M.ul;split <;> omega
 have q5:M.uh (18446744073709551615*(x+c))=if x+c=0 then 0 else x+c-1:=by unfold M.uh;split <;> omega
 have hs:∀ hs,aH Tryz.prog wZ 285 (aJ wZ Tryz.f285 true hs 400):=fun hs=>aM Jb Jc mix Tryz.func285 (by kernel_rfl) true hs 400
 by_cases hh:x+y=18446744073709551615
 .refine ((hs _).call (aUh x y) (aA ?_)).words (by rw [hg];rfl) (fun _=>rfl) (fun _ _ h=>by cases h) (fun V=>?_) rfl rfl
  .simp only [q1]
   simp only [q4,q5]
   simp only [sh,bX,q2,q3,and_true,true_and,decide_eq_true_eq,bne_eq_false_iff_eq]
   unfold M.U M.K M.ub M.ul
   and_intros <;> (try split) <;> omega
  .simp only [q1]
   simp only [q4]
   have e1:IntKind.u64.wrap (x+c+1)=M.dq 18446744073709551615 x y:=by rw [M.bP];unfold M.ul M.dq;omega
   have e2:∀ z,bZ .u64 z 0=z:=fun z=>by show Int.fdiv z 1=z;simp
   rw [e1,e2,M.bP]
   congr 1
   unfold M.ul M.dr
   simp
   split <;> omega
 .refine ((hs _).call (aUi x y) (aA ?_)).words (by rw [hg];rfl) (fun _=>rfl) (fun _ _ h=>by cases h) (fun V=>?_) rfl rfl
  .simp only [q1]
   simp only [q4,q5]
   simp only [sh,bX,q2,q3,and_true,true_and,decide_eq_false_iff_not,bne_eq_false_iff_eq]
   unfold M.U M.K M.ub M.ul
   and_intros <;> (try split) <;> omega
  .simp only [q1]
   simp only [q4]
   have e1:x+c=M.dq 18446744073709551615 x y:=by unfold M.dq;omega
   have e2:∀ z,bZ .u64 z 0=z:=fun z=>by show Int.fdiv z 1=z;simp
   rw [e1,e2]
   congr 1
   rw [<- e1]
   unfold M.ul M.dr
   simp
   split <;> omega
set_option maxHeartbeats 2000000 in
theorem QB {x y:Int} (hx:M.U x) (hy:M.U y) (hd:x<9223372036854775808) (Γ:Env) (hg:Γ.aR=aB):aF Tryz.prog Γ 285 [.int false .u64 x,.int false .u64 y,.int true .u64 9223372036854775808,.int true .u64 18446744073709551615] (fun l=>look l []) 100 100 { val:=.eL [.int false .u64 (M.dq 9223372036854775808 x y),.int false .u64 (M.dr 9223372036854775808 x y)] }:=by
 have h1:=hx.1
 have h3:=hy.1
 have h4:=hy.2
 obtain ⟨t1,e1⟩:∃ t1,t1=M.uh (18446744073709551615*x):=⟨_,rfl⟩
 obtain ⟨c,e3⟩:∃ c,c=M.uh (M.ul (18446744073709551615*x)+y+0):=⟨_,rfl⟩
 have b1:t1=if x=0 then 0 else x-1:=by rw [e1];unfold M.uh;split <;> omega
 have b3:c=if x=0 then 0 else if y<x then 0 else 1:=by rw [e3];unfold M.uh M.ul;split <;> (try split) <;> omega
 obtain ⟨q,eq⟩:∃ q,q=M.ul (t1+x+c):=⟨_,rfl⟩
 have bq:q=if x=0 then 0 else if y<x then 2*x-1 else 2*x:=by rw [eq,b1,b3];unfold M.ul;split <;> (try split) <;> omega
 have hs:∀ hs,aH Tryz.prog wZ 285 (aJ wZ Tryz.f285 true hs 400):=fun hs=>aM Jb Jc mix Tryz.func285 (by kernel_rfl) true hs 400
 have sh:∀ z,bZ .u64 z 0=z:=fun z=>by show Int.fdiv z 1=z;simp
 by_cases hh:M.dq 9223372036854775808 x y=q+1
 .refine ((hs _).call (aUf x y) (aA ?_)).words (by rw [hg];rfl) (fun _=>rfl) (fun _ _ h=>by cases h) (fun V=>?_) rfl rfl
  .simp only [<- e1,<- e3]
   simp only [<- eq]
   simp only [sh,bX,and_true,true_and,decide_eq_true_eq,bne_eq_false_iff_eq]
   unfold M.dq at hh
   unfold M.U M.K M.ub M.ul M.uh
   split at bq
   .and_intros <;> omega
   split at bq
   .and_intros <;> omega
   .and_intros <;> omega
  .simp only [<- e1,<- e3]
   simp only [<- eq,sh]
   have g1:IntKind.u64.wrap (q+1)=M.dq 9223372036854775808 x y:=by
    rw [M.bP,hh]
    unfold M.ul
    split at bq <;> (try split at bq) <;> omega
   rw [g1,M.bP]
   have g2:M.ul (M.ul (y-M.ul (9223372036854775808*q)-0)-9223372036854775808)=M.dr 9223372036854775808 x y:=by
    unfold M.dq at hh
    unfold M.ul M.dr
    split at bq <;> (try split at bq) <;> omega
   rw [g2]
 .have hq:M.dq 9223372036854775808 x y=q:=by
   revert hh
   unfold M.dq
   split at bq <;> (try split at bq) <;> omega
  refine ((hs _).call (aUg x y) (aA ?_)).words (by rw [hg];rfl) (fun _=>rfl) (fun _ _ h=>by cases h) (fun V=>?_) rfl rfl
  .simp only [<- e1,<- e3]
   simp only [<- eq]
   simp only [sh,bX,and_true,true_and,decide_eq_false_iff_not,bne_eq_false_iff_eq]
   unfold M.dq at hq
   unfold M.U M.K M.ub M.ul M.uh
   split at bq
   .and_intros <;> omega
   split at bq
   .and_intros <;> omega
   .and_intros <;> omega
  .simp only [<- e1,<- e3]
   simp only [<- eq,sh,hq]
   have g2:M.ul (y-M.ul (9223372036854775808*q)-0)=M.dr 9223372036854775808 x y:=by
    unfold M.dq at hq
    unfold M.ul M.dr
    split at bq <;> (try split at bq) <;> omega
   rw [g2]
theorem aUj (Γ:Env) (hg:Γ.aR=aB):aH Tryz.prog Γ 285 (aK aB 100 HR):=by
 refine aW hg fun vs T c hd hc=>?_
 unfold HR at hd
 split at hd
 case h_2=>cases hd
 rename_i x _ y d m
 split at hd
 .cases hd
  exact QC (hc _ (by simp)) (hc _ (by simp)) (hc _ (by simp)) Γ hg
 split at hd
 .cases hd
  exact QB (hc _ (by simp)) (hc _ (by simp)) (hc _ (by simp)) Γ hg
 .cases hd
def exB (f:Nat):Option Sum:=match Nat.beq f 264 with
 | true=>some (aK aB 100 Sa)
 | false=>match Nat.beq f 285 with
   | true=>some (aK aB 100 HR)
   | false=>Yx f
theorem JY (f:Nat) (S:Sum) (h:exB f=some S) (Γ:Env) (hg:Γ.aR=aB):aH Tryz.prog Γ f S:=by
 unfold exB at h
 split at h
 .rename_i e;cases h;rw [cH e];exact aNn Γ hg
 split at h
 .rename_i e;cases h;rw [cH e];exact aUj Γ hg
 .exact Xe f S h Γ hg
noncomputable def Γb:Env:=env exB 8
theorem aHh:cK Tryz.prog Γb:=bW exB JY 8
theorem aHg:cA Tryz.prog Γb:=bQ exB 8
theorem aZq (a b c d:Int) :
 aJ Γb Tryz.f286 true [true] 400 [.int false .u64 a,.int false .u64 b,.int false .u64 c,.int false .u64 d] (fun _=>none) 100 100 =
 some {bM:=[decide (a>c)=true],val:=SV.bool true true}:=by kernel_rfl
theorem aZp (a b c d:Int) :
 aJ Γb Tryz.f286 true [false,true] 400 [.int false .u64 a,.int false .u64 b,.int false .u64 c,.int false .u64 d] (fun _=>none) 100 100 =
 some {bM:=[(a==c)=true,decide (a>c)=false],val:=SV.bool false (decide (b>d))}:=by kernel_rfl
theorem aZo (a b c d:Int) :
 aJ Γb Tryz.f286 true [false,false] 400 [.int false .u64 a,.int false .u64 b,.int false .u64 c,.int false .u64 d] (fun _=>none) 100 100 =
 some {bM:=[(a==c)=false,decide (a>c)=false],val:=SV.bool true false}:=by kernel_rfl
def M.gt (a b c d:Int):Bool:=decide (c*18446744073709551616+d<a*18446744073709551616+b)
def GW (vs:List SV) (_:aZ):Option Canon:=match vs with
 | [.int _ .u64 a,.int _ .u64 b,.int _ .u64 c,.int _ .u64 d]=>some { eR:=[.int false .u64 a,.int false .u64 b,.int false .u64 c,.int false .u64 d],T0:=[],vl:=[],e0:={ val:=.bool false (M.gt a b c d) },conds:=[M.U b,M.U d] }
 | _=>none
theorem aTu (Γ:Env) (hg:Γ.aR=aB):aH Tryz.prog Γ 286 (aK aB 100 GW):=by
 refine aW hg fun vs T c hd hc=>?_
 unfold GW at hd
 split at hd
 case h_2=>cases hd
 rename_i a _ b _ c _ d
 cases hd
 have hb:M.U b:=hc _ (by simp)
 have hd:M.U d:=hc _ (by simp)
 have b1:=hb.1
 have b2:=hb.2
 have d1:=hd.1
 have d2:=hd.2
 have hs:∀ hs,aH Tryz.prog Γb 286 (aJ Γb Tryz.f286 true hs 400):=fun hs=>aM aHg aHh mix Tryz.func286 (by kernel_rfl) true hs 400
 by_cases h1:a>c
 .refine ((hs _).call (aZq a b c d) (aA ?_)).words (by rw [hg];rfl) (fun _=>rfl) (fun _ _ h=>by cases h) (fun V=>?_) rfl rfl
  .simp only [sh,bX,and_true,decide_eq_true_eq,h1]
  .have:M.gt a b c d=true:=by unfold M.gt;exact decide_eq_true (by omega)
   rw [this];rfl
 by_cases h2:a=c
 .refine ((hs _).call (aZp a b c d) (aA ?_)).words (by rw [hg];rfl) (fun _=>rfl) (fun _ _ h=>by cases h) (fun V=>?_) rfl rfl
  .simp only [sh,bX,and_true,beq_iff_eq,decide_eq_false_iff_not];exact ⟨h2,h1⟩
  .have:M.gt a b c d=decide (b>d):=by unfold M.gt;rw [decide_eq_decide];omega
   rw [this]
 .refine ((hs _).call (aZo a b c d) (aA ?_)).words (by rw [hg];rfl) (fun _=>rfl) (fun _ _ h=>by cases h) (fun V=>?_) rfl rfl
  .simp only [sh,bX,and_true,beq_eq_false_iff_ne,decide_eq_false_iff_not];exact ⟨h2,h1⟩
  .have:M.gt a b c d=false:=by unfold M.gt;exact decide_eq_false (by omega)
   rw [this];rfl
def Ye (f:Nat):Option Sum:=match Nat.beq f 286 with
 | true=>some (aK aB 100 GW)
 | false=>exB f
theorem JX (f:Nat) (S:Sum) (h:Ye f=some S) (Γ:Env) (hg:Γ.aR=aB):aH Tryz.prog Γ f S:=by
 unfold Ye at h
 split at h
 .rename_i e;cases h;rw [cH e];exact aTu Γ hg
 .exact JY f S h Γ hg
noncomputable def Γv:Env:=env Ye 8
theorem lD:cK Tryz.prog Γv:=bW Ye JX 8
theorem lC:cA Tryz.prog Γv:=bQ Ye 8
def Bk (nu cu nq cq:Nat):List SV:=[.aG 61 true 0 nq cq,.ptr 62 true 0,.aG 63 true 0 nu cu,.cP 64 0 3 0]
def Hs (v:List SV) (us qs:List SV):aZ:=fun l=>look l [(61,.own qs 196),(62,.own [.raw (.pointer none)] 306),(63,.own us 196),(64,.row 1 v 196)]
def fF:List SV:=[.int true .u64 13835058055282163712,.int true .u64 18446744073709551614,.int true .u64 18446744073709551615]
def wc (xs:List Int):List SV:=xs.map (.int false .u64)
noncomputable def Bz (v us qs:List SV) (nu cu nq cq:Nat):Option pU:=gZ Γv (bH 100 (Hs v us qs)) 100 Tryz.f259.ntmps [8] 100 400 (.go (codeOf Tryz.f259)) [] (zM (Bk nu cu nq cq) 100)
noncomputable def xJ:Code:=match Bz fF (wc [0,0,0,0]) (wc [0]) 4 4 1 1 with
 | some { cf:=.go (.loop c),.. }=>c
 | _=>.skip
noncomputable def Ez:List Fr:=match Bz fF (wc [0,0,0,0]) (wc [0]) 4 4 1 1 with
 | some r=>r.fr
 | _=>[]
def jL (nu cu nq cq m:Nat) (d rec:Int) (ujn:SV) (j:Int):List (Nat × SV):=[(0,.aG 61 true 0 nq cq),(2,.aG 63 true 0 nu cu),(3,.cP 64 0 3 0),(8,.int true .i64 3),(9,.int true .i64 m),(10,.cP 100 0 4 0),(11,.int true .u64 d),(12,.int true .u64 rec),(13,ujn),(14,.int true .i64 j)]
def jK (hs us qs:List SV):List (Nat × SB):=[(100,.row 1 hs 196),(61,.own qs 196),(63,.own us 196)]
def jM:List SV:=[.fn (.func 243) [.ptr 62 true 0,.int true .i64 0] []]
noncomputable def fX (v eY eZ:List SV) (nu cu nq cq m:Nat) (d rec:Int) (j j':Int) (ujn aVe:SV) (us us' qs qs' hs Dz:List SV) (h:List Bool):Option (Cf × List Fr × List Prop):=
 yT 100 (bH 100 (Hs v eY eZ)) [] (jL nu cu nq cq m d rec aVe j') (jK Dz us' qs') 101 [61,63] jM (gZ Γv (bH 100 (Hs v eY eZ)) 100 Tryz.f259.ntmps [8] 100 400 (.go xJ) [] ((cB (jL nu cu nq cq m d rec ujn j) (jK hs us qs) 101 [61,63] jM).hint h))
noncomputable def Mi (v eY eZ:List SV) (nu cu nq cq m:Nat) (d rec:Int) (ujn:SV) (us qs hs:List SV):Option bJ:=
 Lj Γv (Hs v eY eZ) 100 100 Tryz.f259 (gZ Γv (bH 100 (Hs v eY eZ)) 100 Tryz.f259.ntmps [8] 100 400 (.at (.exit 0)) Ez ((cB (jL nu cu nq cq m d rec ujn (-1)) (jK hs us qs) 101 [61,63] jM).hint []))
structure CK where
 nu:Nat
 cu:Nat
 nq:Nat
 cq:Nat
 m:Nat
def DvP (hs:List Bool) (ob:Int->Int->Int->Int->Int->Int->Int->Int->Int->List Prop) (uo:Int->Int->Int->Int->List Int) (qo:Int->Int->Int) (c:CK) (j j':Int) (pre post qa qb:List Int):Prop:=
 ∀ (eY eZ:List SV) (u0 u1 u2 u3 v0 v1 v2 v3 q0 q1 h0 h1 h2 h3 g0 g1 g2 g3:Int),
   fX fF eY eZ c.nu c.cu c.nq c.cq c.m 18446744073709551615 1 j j' (.int false .u64 u3) (.int false .u64 v2) (wc (pre++[u0,u1,u2,u3]++post)) (wc (pre++[v0,v1,v2,v3]++post)) (wc (qa++[q0]++qb)) (wc (qa++[q1]++qb)) (wc [h0,h1,h2,h3]) (wc [g0,g1,g2,g3]) hs =
    some (.at .normal,[],ob u0 u1 u2 u3 v2 g0 g1 g2 g3++[qa++[qo u2 u3]++qb=qa++[q1]++qb,pre++uo u0 u1 u2 u3++post=pre++[v0,v1,v2,v3]++post])
def aEh (u0 u1 u2 u3 v2 g0 g1 g2 g3:Int):List Prop:=
 sh (13835058055282163713:Int) fun z4=>
 sh (4611686018427387904:Int) fun z3=>
 sh (0:Int) fun z6=>
 sh (u0-z3-z6) fun iJ=>
 sh (u1-z4-M.ub iJ) fun z0=>
 sh (18446744073709551614:Int) fun z1=>
 sh (18446744073709551615:Int) fun z2=>
 sh (u2-z1-M.ub z0) fun z5=>
 sh (18446744073709551613:Int) fun z7=>
 sh (13835058055282163711:Int) fun z8=>
 sh (13835058055282163712:Int) fun z9=>
 [(M.ub (u3-z1-M.ub z5) != z6)=false,M.U u3,M.U z1,M.K (M.ub z5),u3=u3,z1=z1,M.ub z5=M.ub z5,M.U u2,M.U z1,M.K (M.ub z0),u2=u2,z1=z1,M.ub z0=M.ub z0,M.U u1,M.U z4,M.K (M.ub iJ),u1=u1,z4=z4,M.ub iJ=M.ub iJ,M.U u0,M.U z3,M.K z6,u0=u0,z3=z3,z6=z6,M.U z2,M.U z2,M.U z7,z2=z2,z2=z2,z7=z7,M.U z1,M.U z2,M.U z8,z1=z1,z2=z2,z8=z8,M.U z9,M.U z2,M.U z6,z9=z9,z2=z2,z6=z6,(u3 != z2)=false,(3:Nat)=(3:Nat),(4:Nat)=(4:Nat),M.ul z5=v2,z3=g0,z4=g1,z1=g2,z1=g3]
def aDo (u0 u1 u2 u3:Int):List Int:=[M.ul (u0-(4611686018427387904:Int)-(0:Int)),M.ul (u1-(13835058055282163713:Int)-M.ub (u0-(4611686018427387904:Int)-(0:Int))),M.ul (u2-(18446744073709551614:Int)-M.ub (u1-(13835058055282163713:Int)-M.ub (u0-(4611686018427387904:Int)-(0:Int)))),M.ul (u3-(18446744073709551614:Int)-M.ub (u2-(18446744073709551614:Int)-M.ub (u1-(13835058055282163713:Int)-M.ub (u0-(4611686018427387904:Int)-(0:Int)))))]
def aEb (u2 u3:Int):Int:=(18446744073709551615:Int)
abbrev yO:=DvP [false,false] aEh aDo aEb
def FW (u0 u1 u2 u3 v2 g0 g1 g2 g3:Int):List Prop:=
 sh (18446744073709551614:Int) fun z4=>
 sh (18446744073709551615:Int) fun z1=>
 sh (13835058055282163712:Int) fun z8=>
 sh (0:Int) fun iJ=>
 sh (z8*M.dq z1 u3 u2+iJ) fun z2=>
 sh (z4*M.dq z1 u3 u2+M.uh z2) fun z0=>
 sh (z1*M.dq z1 u3 u2+M.uh z0) fun z5=>
 sh (u0-M.ul z2-iJ) fun z6=>
 sh (u1-M.ul z0-M.ub z6) fun z9=>
 sh (u2-M.ul z5-M.ub z9) fun z3=>
 sh (M.dq z1 u3 u2*z4) fun z7=>
 sh (M.dq z1 u3 u2) fun iQ=>
 [(M.ub (u3-M.uh z5-M.ub z3) != iJ)=false,M.U u3,M.U (M.uh z5),M.K (M.ub z3),u3=u3,M.uh z5=M.uh z5,M.ub z3=M.ub z3,M.U u2,M.U (M.ul z5),M.K (M.ub z9),u2=u2,M.ul z5=M.ul z5,M.ub z9=M.ub z9,M.U u1,M.U (M.ul z0),M.K (M.ub z6),u1=u1,M.ul z0=M.ul z0,M.ub z6=M.ub z6,M.U u0,M.U (M.ul z2),M.K iJ,u0=u0,M.ul z2=M.ul z2,iJ=iJ,M.U z1,M.U iQ,M.U (M.uh z0),z1=z1,M.dq z1 u3 u2=M.dq z1 u3 u2,M.uh z0=M.uh z0,M.U z4,M.U iQ,M.U (M.uh z2),z4=z4,M.dq z1 u3 u2=M.dq z1 u3 u2,M.uh z2=M.uh z2,M.U z8,M.U iQ,M.U iJ,z8=z8,M.dq z1 u3 u2=M.dq z1 u3 u2,iJ=iJ,M.gt (M.uh z7) (M.ul z7) (M.dr z1 u3 u2) u1=false,M.U (M.ul z7),M.U u1,M.uh z7=M.uh z7,M.ul z7=M.ul z7,M.dr z1 u3 u2=M.dr z1 u3 u2,u1=u1,M.U iQ,M.U z4,M.dq z1 u3 u2=M.dq z1 u3 u2,z4=z4,M.U u3,M.U u2,u3<z1,u3=u3,u2=u2,(u3 != z1)=true,(3:Nat)=(3:Nat),(4:Nat)=(4:Nat),M.ul z3=v2,M.ul z2=g0,M.ul z0=g1,M.ul z5=g2,M.uh z5=g3]
def EP (u0 u1 u2 u3:Int):List Int:=
 sh (18446744073709551615:Int) fun z2=>
 sh ((13835058055282163712:Int)*M.dq z2 u3 u2+(0:Int)) fun z1=>
 sh ((18446744073709551614:Int)*M.dq z2 u3 u2+M.uh z1) fun z0=>
 sh (z2*M.dq z2 u3 u2+M.uh z0) fun z5=>
 sh (u0-M.ul z1-(0:Int)) fun z4=>
 sh (u1-M.ul z0-M.ub z4) fun z6=>
 sh (u2-M.ul z5-M.ub z6) fun z3=>
 [M.ul z4,M.ul z6,M.ul z3,M.ul (u3-M.uh z5-M.ub z3)]
def FM (u2 u3:Int):Int:=M.dq (18446744073709551615:Int) u3 u2
abbrev uP:=DvP [true,false,false] FW EP FM
def JE (u0 u1 u2 u3 v2 g0 g1 g2 g3:Int):List Prop:=
 sh (18446744073709551614:Int) fun z5=>
 sh (18446744073709551615:Int) fun z3=>
 sh (M.dq z3 u3 u2-(1:Int)) fun z1=>
 sh (13835058055282163712:Int) fun z9=>
 sh (0:Int) fun iQ=>
 sh (z9*IntKind.u64.wrap z1+iQ) fun z2=>
 sh (z5*IntKind.u64.wrap z1+M.uh z2) fun z0=>
 sh (z3*IntKind.u64.wrap z1+M.uh z0) fun z4=>
 sh (u0-M.ul z2-iQ) fun iJ=>
 sh (u1-M.ul z0-M.ub iJ) fun z6=>
 sh (M.dq z3 u3 u2*z5) fun z7=>
 sh (u2-M.ul z4-M.ub z6) fun z8=>
 sh (IntKind.u64.wrap z1) fun sF=>
 [(M.ub (u3-M.uh z4-M.ub z8) != iQ)=false,M.U u3,M.U (M.uh z4),M.K (M.ub z8),u3=u3,M.uh z4=M.uh z4,M.ub z8=M.ub z8,M.U u2,M.U (M.ul z4),M.K (M.ub z6),u2=u2,M.ul z4=M.ul z4,M.ub z6=M.ub z6,M.U u1,M.U (M.ul z0),M.K (M.ub iJ),u1=u1,M.ul z0=M.ul z0,M.ub iJ=M.ub iJ,M.U u0,M.U (M.ul z2),M.K iQ,u0=u0,M.ul z2=M.ul z2,iQ=iQ,M.U z3,M.U sF,M.U (M.uh z0),z3=z3,IntKind.u64.wrap z1=IntKind.u64.wrap z1,M.uh z0=M.uh z0,M.U z5,M.U sF,M.U (M.uh z2),z5=z5,IntKind.u64.wrap z1=IntKind.u64.wrap z1,M.uh z2=M.uh z2,M.U z9,M.U sF,M.U iQ,z9=z9,IntKind.u64.wrap z1=IntKind.u64.wrap z1,iQ=iQ,decide (IntKind.u64.wrap (M.dr z3 u3 u2+z3)<z3)=true,M.gt (M.uh z7) (M.ul z7) (M.dr z3 u3 u2) u1=true,M.U (M.ul z7),M.U u1,M.uh z7=M.uh z7,M.ul z7=M.ul z7,M.dr z3 u3 u2=M.dr z3 u3 u2,u1=u1,M.U (M.dq z3 u3 u2),M.U z5,M.dq z3 u3 u2=M.dq z3 u3 u2,z5=z5,M.U u3,M.U u2,u3<z3,u3=u3,u2=u2,(u3 != z3)=true,(3:Nat)=(3:Nat),(4:Nat)=(4:Nat),M.ul z8=v2,M.ul z2=g0,M.ul z0=g1,M.ul z4=g2,M.uh z4=g3]
def ID (u0 u1 u2 u3:Int):List Int:=
 sh (18446744073709551615:Int) fun z5=>
 sh (M.dq z5 u3 u2-(1:Int)) fun z3=>
 sh ((13835058055282163712:Int)*IntKind.u64.wrap z3+(0:Int)) fun z1=>
 sh ((18446744073709551614:Int)*IntKind.u64.wrap z3+M.uh z1) fun z0=>
 sh (z5*IntKind.u64.wrap z3+M.uh z0) fun z2=>
 sh (u0-M.ul z1-(0:Int)) fun z6=>
 sh (u1-M.ul z0-M.ub z6) fun z4=>
 sh (u2-M.ul z2-M.ub z4) fun z7=>
 [M.ul z6,M.ul z4,M.ul z7,M.ul (u3-M.uh z2-M.ub z7)]
def IU (u2 u3:Int):Int:=IntKind.u64.wrap (M.dq (18446744073709551615:Int) u3 u2-(1:Int))
abbrev qU:=DvP [true,true,true,false] JE ID IU
def Wj (u0 u1 u2 u3 v2 g0 g1 g2 g3:Int):List Prop:=
 sh (18446744073709551614:Int) fun z4=>
 sh (18446744073709551615:Int) fun z1=>
 sh (M.dq z1 u3 u2-(1:Int)) fun z6=>
 sh (13835058055282163712:Int) fun z9=>
 sh (0:Int) fun sF=>
 sh (z9*IntKind.u64.wrap z6+sF) fun z2=>
 sh (z4*IntKind.u64.wrap z6+M.uh z2) fun z0=>
 sh (z1*IntKind.u64.wrap z6+M.uh z0) fun z3=>
 sh (u0-M.ul z2-sF) fun iJ=>
 sh (u1-M.ul z0-M.ub iJ) fun z5=>
 sh (M.dq z1 u3 u2*z4) fun z7=>
 sh (u2-M.ul z3-M.ub z5) fun z8=>
 sh (M.dr z1 u3 u2+z1) fun iQ=>
 sh (IntKind.u64.wrap z6) fun Ou=>
 sh (M.uh z7-(1:Int)) fun CL=>
 sh (M.ul z7-z4) fun QO=>
 sh (IntKind.u64.wrap QO) fun nL=>
 [(M.ub (u3-M.uh z3-M.ub z8) != sF)=false,M.U u3,M.U (M.uh z3),M.K (M.ub z8),u3=u3,M.uh z3=M.uh z3,M.ub z8=M.ub z8,M.U u2,M.U (M.ul z3),M.K (M.ub z5),u2=u2,M.ul z3=M.ul z3,M.ub z5=M.ub z5,M.U u1,M.U (M.ul z0),M.K (M.ub iJ),u1=u1,M.ul z0=M.ul z0,M.ub iJ=M.ub iJ,M.U u0,M.U (M.ul z2),M.K sF,u0=u0,M.ul z2=M.ul z2,sF=sF,M.U z1,M.U Ou,M.U (M.uh z0),z1=z1,IntKind.u64.wrap z6=IntKind.u64.wrap z6,M.uh z0=M.uh z0,M.U z4,M.U Ou,M.U (M.uh z2),z4=z4,IntKind.u64.wrap z6=IntKind.u64.wrap z6,M.uh z2=M.uh z2,M.U z9,M.U Ou,M.U sF,z9=z9,IntKind.u64.wrap z6=IntKind.u64.wrap z6,sF=sF,M.gt (IntKind.u64.wrap CL) nL (IntKind.u64.wrap iQ) u1=false,M.U nL,M.U u1,IntKind.u64.wrap CL=IntKind.u64.wrap CL,IntKind.u64.wrap QO=IntKind.u64.wrap QO,IntKind.u64.wrap iQ=IntKind.u64.wrap iQ,u1=u1,decide (z4>M.ul z7)=true,decide (IntKind.u64.wrap iQ<z1)=false,M.gt (M.uh z7) (M.ul z7) (M.dr z1 u3 u2) u1=true,M.U (M.ul z7),M.U u1,M.uh z7=M.uh z7,M.ul z7=M.ul z7,M.dr z1 u3 u2=M.dr z1 u3 u2,u1=u1,M.U (M.dq z1 u3 u2),M.U z4,M.dq z1 u3 u2=M.dq z1 u3 u2,z4=z4,M.U u3,M.U u2,u3<z1,u3=u3,u2=u2,(u3 != z1)=true,(3:Nat)=(3:Nat),(4:Nat)=(4:Nat),M.ul z8=v2,M.ul z2=g0,M.ul z0=g1,M.ul z3=g2,M.uh z3=g3]
def Vq (u0 u1 u2 u3:Int):List Int:=
 sh (18446744073709551615:Int) fun z5=>
 sh (M.dq z5 u3 u2-(1:Int)) fun z3=>
 sh ((13835058055282163712:Int)*IntKind.u64.wrap z3+(0:Int)) fun z1=>
 sh ((18446744073709551614:Int)*IntKind.u64.wrap z3+M.uh z1) fun z0=>
 sh (z5*IntKind.u64.wrap z3+M.uh z0) fun z2=>
 sh (u0-M.ul z1-(0:Int)) fun z6=>
 sh (u1-M.ul z0-M.ub z6) fun z4=>
 sh (u2-M.ul z2-M.ub z4) fun z7=>
 [M.ul z6,M.ul z4,M.ul z7,M.ul (u3-M.uh z2-M.ub z7)]
def Vz (u2 u3:Int):Int:=IntKind.u64.wrap (M.dq (18446744073709551615:Int) u3 u2-(1:Int))
abbrev nT:=DvP [true,true,false,true,false,false] Wj Vq Vz
def Wk (u0 u1 u2 u3 v2 g0 g1 g2 g3:Int):List Prop:=
 sh (18446744073709551614:Int) fun z4=>
 sh (18446744073709551615:Int) fun z1=>
 sh (M.dq z1 u3 u2-(1:Int)) fun z6=>
 sh (13835058055282163712:Int) fun z9=>
 sh (0:Int) fun sF=>
 sh (z9*IntKind.u64.wrap z6+sF) fun z2=>
 sh (z4*IntKind.u64.wrap z6+M.uh z2) fun z0=>
 sh (z1*IntKind.u64.wrap z6+M.uh z0) fun z3=>
 sh (u0-M.ul z2-sF) fun iJ=>
 sh (u1-M.ul z0-M.ub iJ) fun z5=>
 sh (M.dq z1 u3 u2*z4) fun z7=>
 sh (u2-M.ul z3-M.ub z5) fun z8=>
 sh (M.dr z1 u3 u2+z1) fun iQ=>
 sh (IntKind.u64.wrap z6) fun Ou=>
 sh (M.ul z7-z4) fun CL=>
 sh (IntKind.u64.wrap CL) fun QO=>
 [(M.ub (u3-M.uh z3-M.ub z8) != sF)=false,M.U u3,M.U (M.uh z3),M.K (M.ub z8),u3=u3,M.uh z3=M.uh z3,M.ub z8=M.ub z8,M.U u2,M.U (M.ul z3),M.K (M.ub z5),u2=u2,M.ul z3=M.ul z3,M.ub z5=M.ub z5,M.U u1,M.U (M.ul z0),M.K (M.ub iJ),u1=u1,M.ul z0=M.ul z0,M.ub iJ=M.ub iJ,M.U u0,M.U (M.ul z2),M.K sF,u0=u0,M.ul z2=M.ul z2,sF=sF,M.U z1,M.U Ou,M.U (M.uh z0),z1=z1,IntKind.u64.wrap z6=IntKind.u64.wrap z6,M.uh z0=M.uh z0,M.U z4,M.U Ou,M.U (M.uh z2),z4=z4,IntKind.u64.wrap z6=IntKind.u64.wrap z6,M.uh z2=M.uh z2,M.U z9,M.U Ou,M.U sF,z9=z9,IntKind.u64.wrap z6=IntKind.u64.wrap z6,sF=sF,M.gt (M.uh z7) QO (IntKind.u64.wrap iQ) u1=false,M.U QO,M.U u1,M.uh z7=M.uh z7,IntKind.u64.wrap CL=IntKind.u64.wrap CL,IntKind.u64.wrap iQ=IntKind.u64.wrap iQ,u1=u1,decide (z4>M.ul z7)=false,decide (IntKind.u64.wrap iQ<z1)=false,M.gt (M.uh z7) (M.ul z7) (M.dr z1 u3 u2) u1=true,M.U (M.ul z7),M.U u1,M.uh z7=M.uh z7,M.ul z7=M.ul z7,M.dr z1 u3 u2=M.dr z1 u3 u2,u1=u1,M.U (M.dq z1 u3 u2),M.U z4,M.dq z1 u3 u2=M.dq z1 u3 u2,z4=z4,M.U u3,M.U u2,u3<z1,u3=u3,u2=u2,(u3 != z1)=true,(3:Nat)=(3:Nat),(4:Nat)=(4:Nat),M.ul z8=v2,M.ul z2=g0,M.ul z0=g1,M.ul z3=g2,M.uh z3=g3]
def Vr (u0 u1 u2 u3:Int):List Int:=
 sh (18446744073709551615:Int) fun z5=>
 sh (M.dq z5 u3 u2-(1:Int)) fun z3=>
 sh ((13835058055282163712:Int)*IntKind.u64.wrap z3+(0:Int)) fun z1=>
 sh ((18446744073709551614:Int)*IntKind.u64.wrap z3+M.uh z1) fun z0=>
 sh (z5*IntKind.u64.wrap z3+M.uh z0) fun z2=>
 sh (u0-M.ul z1-(0:Int)) fun z6=>
 sh (u1-M.ul z0-M.ub z6) fun z4=>
 sh (u2-M.ul z2-M.ub z4) fun z7=>
 [M.ul z6,M.ul z4,M.ul z7,M.ul (u3-M.uh z2-M.ub z7)]
def Wa (u2 u3:Int):Int:=IntKind.u64.wrap (M.dq (18446744073709551615:Int) u3 u2-(1:Int))
abbrev nU:=DvP [true,true,false,false,false,false] Wk Vr Wa
def aEg (u0 u1 u2 u3 v2 g0 g1 g2 g3:Int):List Prop:=
 sh (18446744073709551614:Int) fun z4=>
 sh (18446744073709551615:Int) fun z2=>
 sh (13835058055282163712:Int) fun z3=>
 sh (0:Int) fun iQ=>
 sh (z3*M.dq z2 u3 u2+iQ) fun z7=>
 sh (z4*M.dq z2 u3 u2+M.uh z7) fun z0=>
 sh (u0-M.ul z7-iQ) fun z1=>
 sh (z2*M.dq z2 u3 u2+M.uh z0) fun z6=>
 sh (u1-M.ul z0-M.ub z1) fun z8=>
 sh (u2-M.ul z6-M.ub z8) fun z5=>
 sh (M.ul z1+z3+iQ) fun z9=>
 sh (M.dq z2 u3 u2*z4) fun iJ=>
 sh (M.ul z8+z4+M.uh z9) fun sF=>
 sh (M.dq z2 u3 u2) fun Ou=>
 [M.U (M.ul z5),M.U z2,M.K (M.uh sF),M.ul z5=M.ul z5,z2=z2,M.uh sF=M.uh sF,M.U (M.ul z8),M.U z4,M.K (M.uh z9),M.ul z8=M.ul z8,z4=z4,M.uh z9=M.uh z9,M.U (M.ul z1),M.U z3,M.K iQ,M.ul z1=M.ul z1,z3=z3,iQ=iQ,(M.ub (u3-M.uh z6-M.ub z5) != iQ)=true,M.U u3,M.U (M.uh z6),M.K (M.ub z5),u3=u3,M.uh z6=M.uh z6,M.ub z5=M.ub z5,M.U u2,M.U (M.ul z6),M.K (M.ub z8),u2=u2,M.ul z6=M.ul z6,M.ub z8=M.ub z8,M.U u1,M.U (M.ul z0),M.K (M.ub z1),u1=u1,M.ul z0=M.ul z0,M.ub z1=M.ub z1,M.U u0,M.U (M.ul z7),M.K iQ,u0=u0,M.ul z7=M.ul z7,iQ=iQ,M.U z2,M.U Ou,M.U (M.uh z0),z2=z2,M.dq z2 u3 u2=M.dq z2 u3 u2,M.uh z0=M.uh z0,M.U z4,M.U Ou,M.U (M.uh z7),z4=z4,M.dq z2 u3 u2=M.dq z2 u3 u2,M.uh z7=M.uh z7,M.U z3,M.U Ou,M.U iQ,z3=z3,M.dq z2 u3 u2=M.dq z2 u3 u2,iQ=iQ,M.gt (M.uh iJ) (M.ul iJ) (M.dr z2 u3 u2) u1=false,M.U (M.ul iJ),M.U u1,M.uh iJ=M.uh iJ,M.ul iJ=M.ul iJ,M.dr z2 u3 u2=M.dr z2 u3 u2,u1=u1,M.U Ou,M.U z4,M.dq z2 u3 u2=M.dq z2 u3 u2,z4=z4,M.U u3,M.U u2,u3<z2,u3=u3,u2=u2,(u3 != z2)=true,(3:Nat)=(3:Nat),(4:Nat)=(4:Nat),M.ul (M.ul z5+z2+M.uh sF)=v2,M.ul z7=g0,M.ul z0=g1,M.ul z6=g2,M.uh z6=g3]
def aDn (u0 u1 u2 u3:Int):List Int:=
 sh (13835058055282163712:Int) fun z9=>
 sh (18446744073709551615:Int) fun z3=>
 sh (z9*M.dq z3 u3 u2+(0:Int)) fun z0=>
 sh (18446744073709551614:Int) fun iJ=>
 sh (iJ*M.dq z3 u3 u2+M.uh z0) fun z1=>
 sh (z3*M.dq z3 u3 u2+M.uh z1) fun z8=>
 sh (u0-M.ul z0-(0:Int)) fun z7=>
 sh (u1-M.ul z1-M.ub z7) fun iQ=>
 sh (u2-M.ul z8-M.ub iQ) fun z5=>
 sh (M.ul z7+z9+(0:Int)) fun z6=>
 sh (M.ul iQ+iJ+M.uh z6) fun z4=>
 sh (M.ul z5+z3+M.uh z4) fun z2=>
 [M.ul z6,M.ul z4,M.ul z2,IntKind.u64.wrap (M.ul (u3-M.uh z8-M.ub z5)+M.uh z2)]
def aEa (u2 u3:Int):Int:=IntKind.u64.wrap (M.dq (18446744073709551615:Int) u3 u2-(1:Int))
abbrev yN:=DvP [true,false,true] aEg aDn aEa
def aOo (u1 u2 u3 v3 g0 g1 g2 g3:Int):List Prop:=
 sh (18446744073709551614:Int) fun z3=>
 sh (18446744073709551615:Int) fun z1=>
 sh (0:Int) fun z4=>
 sh (13835058055282163712:Int) fun z8=>
 sh (z8*M.dq z1 z4 u3+z4) fun z2=>
 sh (z3*M.dq z1 z4 u3+M.uh z2) fun z0=>
 sh (z1*M.dq z1 z4 u3+M.uh z0) fun z5=>
 sh (u1-M.ul z2-z4) fun z9=>
 sh (u2-M.ul z0-M.ub z9) fun z6=>
 sh (M.dq z1 z4 u3*z3) fun z7=>
 sh (M.dq z1 z4 u3) fun iJ=>
 sh (u3-M.ul z5-M.ub z6) fun iQ=>
 [(M.dq z1 z4 u3==z4)=true,(M.ub iQ != z4)=false,M.U u3,M.U (M.ul z5),M.K (M.ub z6),u3=u3,M.ul z5=M.ul z5,M.ub z6=M.ub z6,M.U u2,M.U (M.ul z0),M.K (M.ub z9),u2=u2,M.ul z0=M.ul z0,M.ub z9=M.ub z9,M.U u1,M.U (M.ul z2),M.K z4,u1=u1,M.ul z2=M.ul z2,z4=z4,(M.uh z5==z4)=true,M.U z1,M.U iJ,M.U (M.uh z0),z1=z1,M.dq z1 z4 u3=M.dq z1 z4 u3,M.uh z0=M.uh z0,M.U z3,M.U iJ,M.U (M.uh z2),z3=z3,M.dq z1 z4 u3=M.dq z1 z4 u3,M.uh z2=M.uh z2,M.U z8,M.U iJ,M.U z4,z8=z8,M.dq z1 z4 u3=M.dq z1 z4 u3,z4=z4,M.gt (M.uh z7) (M.ul z7) (M.dr z1 z4 u3) u2=false,M.U (M.ul z7),M.U u2,M.uh z7=M.uh z7,M.ul z7=M.ul z7,M.dr z1 z4 u3=M.dr z1 z4 u3,u2=u2,M.U iJ,M.U z3,M.dq z1 z4 u3=M.dq z1 z4 u3,z3=z3,M.U z4,M.U u3,z4<z1,z4=z4,u3=u3,(3:Nat)=(3:Nat),(4:Nat)=(4:Nat),M.ul iQ=v3,M.ul z2=g0,M.ul z0=g1,M.ul z5=g2,M.uh z5=g3]
def aNy (u1 u2 u3:Int):List Int:=
 sh (18446744073709551615:Int) fun z2=>
 sh (0:Int) fun z4=>
 sh ((13835058055282163712:Int)*M.dq z2 z4 u3+z4) fun z0=>
 sh ((18446744073709551614:Int)*M.dq z2 z4 u3+M.uh z0) fun z1=>
 sh (u1-M.ul z0-z4) fun z3=>
 sh (u2-M.ul z1-M.ub z3) fun z5=>
 [M.ul z3,M.ul z5,M.ul (u3-M.ul (z2*M.dq z2 z4 u3+M.uh z1)-M.ub z5)]
def DvT (c:CK) (j j':Int) (pre post qs:List Int):Prop:=
 ∀ (eY eZ:List SV) (u1 u2 u3 v1 v2 v3 h0 h1 h2 h3 g0 g1 g2 g3:Int),
   fX fF eY eZ c.nu c.cu c.nq c.cq c.m 18446744073709551615 1 j j' (.int true .u64 0) (.int false .u64 v3) (wc (pre++[u1,u2,u3]++post)) (wc (pre++[v1,v2,v3]++post)) (wc qs) (wc qs) (wc [h0,h1,h2,h3]) (wc [g0,g1,g2,g3]) [false,true,false,true] =
    some (.at .normal,[],aOo u1 u2 u3 v3 g0 g1 g2 g3++[qs=qs,pre++aNy u1 u2 u3++post=pre++[v1,v2,v3]++post])
theorem aKx:yO ⟨4,7,1,1,1⟩ 0 (-1) [] [0,0,0] [] []:=fun eY eZ u0 u1 u2 u3 v0 v1 v2 v3 q0 q1 h0 h1 h2 h3 g0 g1 g2 g3=>by kernel_rfl
theorem aKw:uP ⟨4,7,1,1,1⟩ 0 (-1) [] [0,0,0] [] []:=fun eY eZ u0 u1 u2 u3 v0 v1 v2 v3 q0 q1 h0 h1 h2 h3 g0 g1 g2 g3=>by kernel_rfl
theorem aAp:qU ⟨4,7,1,1,1⟩ 0 (-1) [] [0,0,0] [] []:=fun eY eZ u0 u1 u2 u3 v0 v1 v2 v3 q0 q1 h0 h1 h2 h3 g0 g1 g2 g3=>by kernel_rfl
theorem MF:nT ⟨4,7,1,1,1⟩ 0 (-1) [] [0,0,0] [] []:=fun eY eZ u0 u1 u2 u3 v0 v1 v2 v3 q0 q1 h0 h1 h2 h3 g0 g1 g2 g3=>by kernel_rfl
theorem MG:nU ⟨4,7,1,1,1⟩ 0 (-1) [] [0,0,0] [] []:=fun eY eZ u0 u1 u2 u3 v0 v1 v2 v3 q0 q1 h0 h1 h2 h3 g0 g1 g2 g3=>by kernel_rfl
theorem aKv:yN ⟨4,7,1,1,1⟩ 0 (-1) [] [0,0,0] [] []:=fun eY eZ u0 u1 u2 u3 v0 v1 v2 v3 q0 q1 h0 h1 h2 h3 g0 g1 g2 g3=>by kernel_rfl
theorem aTd (u0 q0:Int):DvT ⟨4,7,1,1,1⟩ 1 0 [u0] [0,0,0] [q0]:=fun eY eZ u1 u2 u3 v1 v2 v3 h0 h1 h2 h3 g0 g1 g2 g3=>by kernel_rfl
theorem aKu:yO ⟨4,8,1,1,1⟩ 0 (-1) [] [0,0,0,0] [] []:=fun eY eZ u0 u1 u2 u3 v0 v1 v2 v3 q0 q1 h0 h1 h2 h3 g0 g1 g2 g3=>by kernel_rfl
theorem aKt:uP ⟨4,8,1,1,1⟩ 0 (-1) [] [0,0,0,0] [] []:=fun eY eZ u0 u1 u2 u3 v0 v1 v2 v3 q0 q1 h0 h1 h2 h3 g0 g1 g2 g3=>by kernel_rfl
theorem aAo:qU ⟨4,8,1,1,1⟩ 0 (-1) [] [0,0,0,0] [] []:=fun eY eZ u0 u1 u2 u3 v0 v1 v2 v3 q0 q1 h0 h1 h2 h3 g0 g1 g2 g3=>by kernel_rfl
theorem MD:nT ⟨4,8,1,1,1⟩ 0 (-1) [] [0,0,0,0] [] []:=fun eY eZ u0 u1 u2 u3 v0 v1 v2 v3 q0 q1 h0 h1 h2 h3 g0 g1 g2 g3=>by kernel_rfl
theorem ME:nU ⟨4,8,1,1,1⟩ 0 (-1) [] [0,0,0,0] [] []:=fun eY eZ u0 u1 u2 u3 v0 v1 v2 v3 q0 q1 h0 h1 h2 h3 g0 g1 g2 g3=>by kernel_rfl
theorem aKs:yN ⟨4,8,1,1,1⟩ 0 (-1) [] [0,0,0,0] [] []:=fun eY eZ u0 u1 u2 u3 v0 v1 v2 v3 q0 q1 h0 h1 h2 h3 g0 g1 g2 g3=>by kernel_rfl
theorem aTc (u0 q0:Int):DvT ⟨4,8,1,1,1⟩ 1 0 [u0] [0,0,0,0] [q0]:=fun eY eZ u1 u2 u3 v1 v2 v3 h0 h1 h2 h3 g0 g1 g2 g3=>by kernel_rfl
theorem aAn (z0 y0:Int):yO ⟨5,8,2,6,2⟩ 1 0 [z0] [0,0,0] [y0] [0,0,0,0]:=fun eY eZ u0 u1 u2 u3 v0 v1 v2 v3 q0 q1 h0 h1 h2 h3 g0 g1 g2 g3=>by kernel_rfl
theorem aAm (z0 y0:Int):uP ⟨5,8,2,6,2⟩ 1 0 [z0] [0,0,0] [y0] [0,0,0,0]:=fun eY eZ u0 u1 u2 u3 v0 v1 v2 v3 q0 q1 h0 h1 h2 h3 g0 g1 g2 g3=>by kernel_rfl
theorem MC (z0 y0:Int):qU ⟨5,8,2,6,2⟩ 1 0 [z0] [0,0,0] [y0] [0,0,0,0]:=fun eY eZ u0 u1 u2 u3 v0 v1 v2 v3 q0 q1 h0 h1 h2 h3 g0 g1 g2 g3=>by kernel_rfl
theorem AB (z0 y0:Int):nT ⟨5,8,2,6,2⟩ 1 0 [z0] [0,0,0] [y0] [0,0,0,0]:=fun eY eZ u0 u1 u2 u3 v0 v1 v2 v3 q0 q1 h0 h1 h2 h3 g0 g1 g2 g3=>by kernel_rfl
theorem AD (z0 y0:Int):nU ⟨5,8,2,6,2⟩ 1 0 [z0] [0,0,0] [y0] [0,0,0,0]:=fun eY eZ u0 u1 u2 u3 v0 v1 v2 v3 q0 q1 h0 h1 h2 h3 g0 g1 g2 g3=>by kernel_rfl
theorem aAl (z0 y0:Int):yN ⟨5,8,2,6,2⟩ 1 0 [z0] [0,0,0] [y0] [0,0,0,0]:=fun eY eZ u0 u1 u2 u3 v0 v1 v2 v3 q0 q1 h0 h1 h2 h3 g0 g1 g2 g3=>by kernel_rfl
theorem aAk (y1:Int):yO ⟨5,8,2,6,2⟩ 0 (-1) [] [0,0,0,0] [] [y1,0,0,0,0]:=fun eY eZ u0 u1 u2 u3 v0 v1 v2 v3 q0 q1 h0 h1 h2 h3 g0 g1 g2 g3=>by kernel_rfl
theorem aAj (y1:Int):uP ⟨5,8,2,6,2⟩ 0 (-1) [] [0,0,0,0] [] [y1,0,0,0,0]:=fun eY eZ u0 u1 u2 u3 v0 v1 v2 v3 q0 q1 h0 h1 h2 h3 g0 g1 g2 g3=>by kernel_rfl
theorem MB (y1:Int):qU ⟨5,8,2,6,2⟩ 0 (-1) [] [0,0,0,0] [] [y1,0,0,0,0]:=fun eY eZ u0 u1 u2 u3 v0 v1 v2 v3 q0 q1 h0 h1 h2 h3 g0 g1 g2 g3=>by kernel_rfl
theorem Zz (y1:Int):nT ⟨5,8,2,6,2⟩ 0 (-1) [] [0,0,0,0] [] [y1,0,0,0,0]:=fun eY eZ u0 u1 u2 u3 v0 v1 v2 v3 q0 q1 h0 h1 h2 h3 g0 g1 g2 g3=>by kernel_rfl
theorem AA (y1:Int):nU ⟨5,8,2,6,2⟩ 0 (-1) [] [0,0,0,0] [] [y1,0,0,0,0]:=fun eY eZ u0 u1 u2 u3 v0 v1 v2 v3 q0 q1 h0 h1 h2 h3 g0 g1 g2 g3=>by kernel_rfl
theorem aAi (y1:Int):yN ⟨5,8,2,6,2⟩ 0 (-1) [] [0,0,0,0] [] [y1,0,0,0,0]:=fun eY eZ u0 u1 u2 u3 v0 v1 v2 v3 q0 q1 h0 h1 h2 h3 g0 g1 g2 g3=>by kernel_rfl
theorem aTb (z0 u0 q0 q1:Int):DvT ⟨5,8,2,6,2⟩ 2 1 [z0,u0] [0,0,0] [q0,q1,0,0,0,0]:=fun eY eZ u1 u2 u3 v1 v2 v3 h0 h1 h2 h3 g0 g1 g2 g3=>by kernel_rfl
theorem aAh (z0 y0:Int):yO ⟨5,9,2,6,2⟩ 1 0 [z0] [0,0,0,0] [y0] [0,0,0,0]:=fun eY eZ u0 u1 u2 u3 v0 v1 v2 v3 q0 q1 h0 h1 h2 h3 g0 g1 g2 g3=>by kernel_rfl
theorem aAg (z0 y0:Int):uP ⟨5,9,2,6,2⟩ 1 0 [z0] [0,0,0,0] [y0] [0,0,0,0]:=fun eY eZ u0 u1 u2 u3 v0 v1 v2 v3 q0 q1 h0 h1 h2 h3 g0 g1 g2 g3=>by kernel_rfl
theorem MA (z0 y0:Int):qU ⟨5,9,2,6,2⟩ 1 0 [z0] [0,0,0,0] [y0] [0,0,0,0]:=fun eY eZ u0 u1 u2 u3 v0 v1 v2 v3 q0 q1 h0 h1 h2 h3 g0 g1 g2 g3=>by kernel_rfl
theorem Zx (z0 y0:Int):nT ⟨5,9,2,6,2⟩ 1 0 [z0] [0,0,0,0] [y0] [0,0,0,0]:=fun eY eZ u0 u1 u2 u3 v0 v1 v2 v3 q0 q1 h0 h1 h2 h3 g0 g1 g2 g3=>by kernel_rfl
theorem Zy (z0 y0:Int):nU ⟨5,9,2,6,2⟩ 1 0 [z0] [0,0,0,0] [y0] [0,0,0,0]:=fun eY eZ u0 u1 u2 u3 v0 v1 v2 v3 q0 q1 h0 h1 h2 h3 g0 g1 g2 g3=>by kernel_rfl
theorem aAf (z0 y0:Int):yN ⟨5,9,2,6,2⟩ 1 0 [z0] [0,0,0,0] [y0] [0,0,0,0]:=fun eY eZ u0 u1 u2 u3 v0 v1 v2 v3 q0 q1 h0 h1 h2 h3 g0 g1 g2 g3=>by kernel_rfl
theorem aAe (y1:Int):yO ⟨5,9,2,6,2⟩ 0 (-1) [] [0,0,0,0,0] [] [y1,0,0,0,0]:=fun eY eZ u0 u1 u2 u3 v0 v1 v2 v3 q0 q1 h0 h1 h2 h3 g0 g1 g2 g3=>by kernel_rfl
theorem aAd (y1:Int):uP ⟨5,9,2,6,2⟩ 0 (-1) [] [0,0,0,0,0] [] [y1,0,0,0,0]:=fun eY eZ u0 u1 u2 u3 v0 v1 v2 v3 q0 q1 h0 h1 h2 h3 g0 g1 g2 g3=>by kernel_rfl
theorem LZ (y1:Int):qU ⟨5,9,2,6,2⟩ 0 (-1) [] [0,0,0,0,0] [] [y1,0,0,0,0]:=fun eY eZ u0 u1 u2 u3 v0 v1 v2 v3 q0 q1 h0 h1 h2 h3 g0 g1 g2 g3=>by kernel_rfl
theorem Zv (y1:Int):nT ⟨5,9,2,6,2⟩ 0 (-1) [] [0,0,0,0,0] [] [y1,0,0,0,0]:=fun eY eZ u0 u1 u2 u3 v0 v1 v2 v3 q0 q1 h0 h1 h2 h3 g0 g1 g2 g3=>by kernel_rfl
theorem Zw (y1:Int):nU ⟨5,9,2,6,2⟩ 0 (-1) [] [0,0,0,0,0] [] [y1,0,0,0,0]:=fun eY eZ u0 u1 u2 u3 v0 v1 v2 v3 q0 q1 h0 h1 h2 h3 g0 g1 g2 g3=>by kernel_rfl
theorem aAc (y1:Int):yN ⟨5,9,2,6,2⟩ 0 (-1) [] [0,0,0,0,0] [] [y1,0,0,0,0]:=fun eY eZ u0 u1 u2 u3 v0 v1 v2 v3 q0 q1 h0 h1 h2 h3 g0 g1 g2 g3=>by kernel_rfl
theorem aTa (z0 u0 q0 q1:Int):DvT ⟨5,9,2,6,2⟩ 2 1 [z0,u0] [0,0,0,0] [q0,q1,0,0,0,0]:=fun eY eZ u1 u2 u3 v1 v2 v3 h0 h1 h2 h3 g0 g1 g2 g3=>by kernel_rfl
namespace M
def wd (i:Nat) (n:Int):Int:=n/18446744073709551616^i%18446744073709551616
def n4 (a b c d:Int):Int:=a+18446744073709551616*(b+18446744073709551616*(c+18446744073709551616*d))
def D:Int:=6277101735386680763835789423207666416102355444464034512895-23058430092136939519+0
structure Dig (d0 d1 d2 q u0 u1 u2 u3:Int) (c0 c1 p0 p1 p2 p3 b0 b1 b2 b3 s0 s1 s2 s3:Int):Prop where
 SA:M.ul (d0*q+0)=p0
 Ar:M.uh (d0*q+0)=c0
 CW:M.ul (d1*q+c0)=p1
 DE:M.uh (d1*q+c0)=c1
 RE:M.ul (d2*q+c1)=p2
 hp3:M.uh (d2*q+c1)=p3
 Fq:M.ul (u0-p0-0)=s0
 Eh:M.ub (u0-p0-0)=b0
 fQ:M.ul (u1-p1-b0)=s1
 qH:M.ub (u1-p1-b0)=b1
 rY:M.ul (u2-p2-b1)=s2
 lA:M.ub (u2-p2-b1)=b2
 hs3:M.ul (u3-p3-b2)=s3
 RJ:M.ub (u3-p3-b2)=b3
theorem xK (d0 d1 d2 q u0 u1 u2 u3:Int):∃ c0 c1 p0 p1 p2 p3 b0 b1 b2 b3 s0 s1 s2 s3,Dig d0 d1 d2 q u0 u1 u2 u3 c0 c1 p0 p1 p2 p3 b0 b1 b2 b3 s0 s1 s2 s3:=
 ⟨_,_,_,_,_,_,_,_,_,_,_,_,_,_,rfl,rfl,rfl,rfl,rfl,rfl,rfl,rfl,rfl,rfl,rfl,rfl,rfl,rfl⟩
theorem mT (n:Int):M.ul n+18446744073709551616*M.uh n=n:=by unfold ul uh;omega
theorem Um (n:Int):M.ul n-18446744073709551616*M.ub n=n:=by unfold ul ub;omega
theorem Av {d q c:Int} (hd:U d) (hq:U q) (hc:U c):U (uh (d*q+c)):=by
 have h:=eN hd hq
 have:=hc.1
 have:=hc.2
 unfold U uh
 omega
theorem SU {a b c:Int} (ha:U a) (hb:U b) (hc:K c):K (ub (a-b-c)):=by
 have:=ha.1;have:=ha.2;have:=hb.1;have:=hb.2;have:=hc.1;have:=hc.2
 unfold K ub
 omega
structure aQi (c0 c1 p0 p1 p2 p3 b0 b1 b2 b3 s0 s1 s2 s3:Int):Prop where
 c0:U c0
 c1:U c1
 p0:U p0
 p1:U p1
 p2:U p2
 p3:U p3
 b0:K b0
 b1:K b1
 b2:K b2
 b3:K b3
 s0:U s0
 s1:U s1
 s2:U s2
 s3:U s3
theorem U0:U 0:=⟨by decide,by decide⟩
theorem K0:K 0:=⟨by decide,by decide⟩
theorem Dig.u {d0 d1 d2 q u0 u1 u2 u3 c0 c1 p0 p1 p2 p3 b0 b1 b2 b3 s0 s1 s2 s3:Int} (h:Dig d0 d1 d2 q u0 u1 u2 u3 c0 c1 p0 p1 p2 p3 b0 b1 b2 b3 s0 s1 s2 s3)
 (e0:U d0) (e1:U d1) (e2:U d2) (hq:U q) (w0:U u0) (w1:U u1) (w2:U u2) (w3:U u3):aQi c0 c1 p0 p1 p2 p3 b0 b1 b2 b3 s0 s1 s2 s3:=by
 have k0:U c0:=by rw [<- h.Ar];exact Av e0 hq U0
 have k1:U c1:=by rw [<- h.DE];exact Av e1 hq k0
 have r0:U p0:=by rw [<- h.SA];exact dU _
 have r1:U p1:=by rw [<- h.CW];exact dU _
 have r2:U p2:=by rw [<- h.RE];exact dU _
 have r3:U p3:=by rw [<- h.hp3];exact Av e2 hq k1
 have x0:K b0:=by rw [<- h.Eh];exact SU w0 r0 K0
 have x1:K b1:=by rw [<- h.qH];exact SU w1 r1 x0
 have x2:K b2:=by rw [<- h.lA];exact SU w2 r2 x1
 have x3:K b3:=by rw [<- h.RJ];exact SU w3 r3 x2
 exact ⟨k0,k1,r0,r1,r2,r3,x0,x1,x2,x3,by rw [<- h.Fq];exact dU _,by rw [<- h.fQ];exact dU _,by rw [<- h.rY];exact dU _,by rw [<- h.hs3];exact dU _⟩
theorem Dig.sum {d0 d1 d2 q u0 u1 u2 u3 c0 c1 p0 p1 p2 p3 b0 b1 b2 b3 s0 s1 s2 s3:Int} (h:Dig d0 d1 d2 q u0 u1 u2 u3 c0 c1 p0 p1 p2 p3 b0 b1 b2 b3 s0 s1 s2 s3) :
 n4 s0 s1 s2 s3-18446744073709551616*(18446744073709551616*(18446744073709551616*(18446744073709551616*b3))) =
  n4 u0 u1 u2 u3-(d0*q+18446744073709551616*(d1*q+18446744073709551616*(d2*q))):=by
 have a0:=mT (d0*q+0)
 have a1:=mT (d1*q+c0)
 have a2:=mT (d2*q+c1)
 have z0:=Um (u0-p0-0)
 have z1:=Um (u1-p1-b0)
 have z2:=Um (u2-p2-b1)
 have z3:=Um (u3-p3-b2)
 rw [h.SA,h.Ar] at a0
 rw [h.CW,h.DE] at a1
 rw [h.RE,h.hp3] at a2
 rw [h.Fq,h.Eh] at z0
 rw [h.fQ,h.qH] at z1
 rw [h.rY,h.lA] at z2
 rw [h.hs3,h.RJ] at z3
 generalize d0*q=x0 at *
 generalize d1*q=x1 at *
 generalize d2*q=x2 at *
 unfold n4
 omega
def DD:Int:=n4 13835058055282163712 18446744073709551614 18446744073709551615 0
def w0 (n:Int):Int:=n%18446744073709551616
def w1 (n:Int):Int:=n/18446744073709551616%18446744073709551616
def w2 (n:Int):Int:=n/340282366920938463463374607431768211456%18446744073709551616
theorem aNx {a b c d:Int} (ha:U a) (hb:U b) (hc:U c):w0 (n4 a b c d)=a/\w1 (n4 a b c d)=b/\w2 (n4 a b c d)=c:=by
 have:=ha.1;have:=ha.2;have:=hb.1;have:=hb.2;have:=hc.1;have:=hc.2
 unfold w0 w1 w2 n4
 omega
abbrev aQh (q u0 u1 u2 u3:Int):=Dig 13835058055282163712 18446744073709551614 18446744073709551615 q u0 u1 u2 u3
theorem Dig.fits {q u0 u1 u2 u3 c0 c1 p0 p1 p2 p3 b0 b1 b2 b3 s0 s1 s2 s3:Int} (h:aQh q u0 u1 u2 u3 c0 c1 p0 p1 p2 p3 b0 b1 b2 b3 s0 s1 s2 s3)
 (hu:aQi c0 c1 p0 p1 p2 p3 b0 b1 b2 b3 s0 s1 s2 s3) (hq:q=n4 u0 u1 u2 u3/DD) :
 b3=0/\s0=w0 (n4 u0 u1 u2 u3%DD)/\s1=w1 (n4 u0 u1 u2 u3%DD)/\s2=w2 (n4 u0 u1 u2 u3%DD)/\s3=0:=by
 have hs:=h.sum
 obtain ⟨n,hn⟩:∃ n,n=n4 u0 u1 u2 u3:=⟨_,rfl⟩
 rw [<- hn] at hs hq |-
 have e:n-(13835058055282163712*q+18446744073709551616*(18446744073709551614*q+18446744073709551616*(18446744073709551615*q)))=n%DD:=by
  rw [hq]
  unfold DD n4
  omega
 rw [e] at hs
 have r0:0<=n%DD:=Int.emod_nonneg _ (by decide)
 have r1:n%DD<DD:=Int.emod_lt_of_pos _ (by decide)
 obtain ⟨r,hr⟩:∃ r,r=n%DD:=⟨_,rfl⟩
 rw [<- hr] at hs r0 r1 |-
 have rb:r<6277101735386680763835789423207666416102355444464034512896:=by
  refine Int.lt_of_lt_of_le r1 (by decide)
 have x0:=hu.b3.1
 have x1:=hu.b3.2
 have y0:=hu.s0.1
 have y1:=hu.s0.2
 have y2:=hu.s1.1
 have y3:=hu.s1.2
 have y4:=hu.s2.1
 have y5:=hu.s2.2
 have y6:=hu.s3.1
 have y7:=hu.s3.2
 have hb:b3=0:=by unfold n4 at hs;omega
 have h3:s3=0:=by unfold n4 at hs;omega
 rw [hb] at hs
 have Dz:r=n4 s0 s1 s2 s3:=by omega
 have:=aNx (d:=s3) hu.s0 hu.s1 hu.s2
 rw [Dz]
 exact ⟨hb,this.1.symm,this.2.1.symm,this.2.2.symm,h3⟩
end M
open M in
theorem aRx {c:CK} {j j':Int} {pre post qa qb:List Int} (P:uP c j j' pre post qa qb) (eY eZ:List SV) (q0 h0 h1 h2 h3:Int) {u0 u1 u2 u3:Int} (a0:U u0) (a1:U u1) (a2:U u2) (a3:U u3) (hc:u3+u2<18446744073709551615) :
 ∃ g0 g1 g2 g3 ps,fX fF eY eZ c.nu c.cu c.nq c.cq c.m 18446744073709551615 1 j j' (.int false .u64 u3) (.int false .u64 (w2 (n4 u0 u1 u2 u3%DD))) (wc (pre++[u0,u1,u2,u3]++post))
   (wc (pre++[w0 (n4 u0 u1 u2 u3%DD),w1 (n4 u0 u1 u2 u3%DD),w2 (n4 u0 u1 u2 u3%DD),0]++post)) (wc (qa++[q0]++qb)) (wc (qa++[n4 u0 u1 u2 u3/DD]++qb)) (wc [h0,h1,h2,h3]) (wc [g0,g1,g2,g3]) [true,false,false]=some (.at .normal,[],ps)/\∀ q∈ps,q:=by
 have z0:=a0.1;have z1:=a0.2;have z2:=a1.1;have z3:=a1.2;have z4:=a2.1;have z5:=a2.2;have z6:=a3.1;have z7:=a3.2
 have e0:U 13835058055282163712:=⟨by decide,by decide⟩
 have e1:U 18446744073709551614:=⟨by decide,by decide⟩
 have e2:U 18446744073709551615:=⟨by decide,by decide⟩
 have aq:U (u3):=by unfold U;omega
 obtain ⟨c0,c1,p0,p1,p2,p3,b0,b1,b2,b3,s0,s1,s2,s3,H⟩:=xK 13835058055282163712 18446744073709551614 18446744073709551615 (u3) u0 u1 u2 u3
 have hu:=H.u e0 e1 e2 aq a0 a1 a2 a3
 have hq:u3=n4 u0 u1 u2 u3/DD:=by unfold DD n4;omega
 obtain ⟨f3,k0,k1,k2,k3⟩:=H.fits hu hq
 have hQ:dq 18446744073709551615 u3 u2=u3:=by unfold dq;omega
 have hR:dr 18446744073709551615 u3 u2=u3+u2:=by unfold dr;omega
 refine ⟨p0,p1,p2,p3,_,P eY eZ u0 u1 u2 u3 _ _ _ _ q0 _ h0 h1 h2 h3 _ _ _ _,aA ?_⟩
 simp only [sh,FW,EP,FM,List.cons_append,List.nil_append,hQ,hR,bX,H.SA,H.Ar,H.CW,H.DE,H.RE,H.hp3,H.Fq,H.Eh,H.fQ,H.qH,H.rY,H.lA,H.hs3,H.RJ,f3,<- k0,<- k1,<- k2,k3,<- hq,hu.c0,hu.c1,hu.p0,hu.p1,hu.p2,hu.p3,hu.b0,hu.b1,hu.b2,U0,K0,e0,e1,e2,a0,a1,a2,a3,and_true,true_and,aq]
 exact ⟨rfl,by unfold gt uh ul;exact decide_eq_false (by omega),dU _,by omega,bne_iff_ne.2 (by omega)⟩
open M in
theorem aRw {c:CK} {j j':Int} {pre post qa qb:List Int} (P:uP c j j' pre post qa qb) (eY eZ:List SV) (q0 h0 h1 h2 h3:Int) {u0 u1 u2 u3:Int} (a0:U u0) (a1:U u1) (a2:U u2) (a3:U u3) (hd:u3<18446744073709551615) (hc:18446744073709551615<=u3+u2) (hn:gt (uh ((u3+1)*18446744073709551614)) (ul ((u3+1)*18446744073709551614)) (u3+u2-18446744073709551615) u1=false) (hq:u3+1=n4 u0 u1 u2 u3/DD) :
 ∃ g0 g1 g2 g3 ps,fX fF eY eZ c.nu c.cu c.nq c.cq c.m 18446744073709551615 1 j j' (.int false .u64 u3) (.int false .u64 (w2 (n4 u0 u1 u2 u3%DD))) (wc (pre++[u0,u1,u2,u3]++post))
   (wc (pre++[w0 (n4 u0 u1 u2 u3%DD),w1 (n4 u0 u1 u2 u3%DD),w2 (n4 u0 u1 u2 u3%DD),0]++post)) (wc (qa++[q0]++qb)) (wc (qa++[n4 u0 u1 u2 u3/DD]++qb)) (wc [h0,h1,h2,h3]) (wc [g0,g1,g2,g3]) [true,false,false]=some (.at .normal,[],ps)/\∀ q∈ps,q:=by
 have z0:=a0.1;have z1:=a0.2;have z2:=a1.1;have z3:=a1.2;have z4:=a2.1;have z5:=a2.2;have z6:=a3.1;have z7:=a3.2
 have e0:U 13835058055282163712:=⟨by decide,by decide⟩
 have e1:U 18446744073709551614:=⟨by decide,by decide⟩
 have e2:U 18446744073709551615:=⟨by decide,by decide⟩
 have aq:U (u3+1):=by unfold U;omega
 obtain ⟨c0,c1,p0,p1,p2,p3,b0,b1,b2,b3,s0,s1,s2,s3,H⟩:=xK 13835058055282163712 18446744073709551614 18446744073709551615 (u3+1) u0 u1 u2 u3
 have hu:=H.u e0 e1 e2 aq a0 a1 a2 a3
 have hq:u3+1=n4 u0 u1 u2 u3/DD:=by exact hq
 obtain ⟨f3,k0,k1,k2,k3⟩:=H.fits hu hq
 have hQ:dq 18446744073709551615 u3 u2=u3+1:=by unfold dq;omega
 have hR:dr 18446744073709551615 u3 u2=u3+u2-18446744073709551615:=by unfold dr;omega
 refine ⟨p0,p1,p2,p3,_,P eY eZ u0 u1 u2 u3 _ _ _ _ q0 _ h0 h1 h2 h3 _ _ _ _,aA ?_⟩
 simp only [sh,FW,EP,FM,List.cons_append,List.nil_append,hQ,hR,bX,H.SA,H.Ar,H.CW,H.DE,H.RE,H.hp3,H.Fq,H.Eh,H.fQ,H.qH,H.rY,H.lA,H.hs3,H.RJ,f3,<- k0,<- k1,<- k2,k3,<- hq,hu.c0,hu.c1,hu.p0,hu.p1,hu.p2,hu.p3,hu.b0,hu.b1,hu.b2,U0,K0,e0,e1,e2,a0,a1,a2,a3,and_true,true_and,aq]
 exact ⟨rfl,hn,dU _,hd,bne_iff_ne.2 (by omega)⟩
open M in
theorem aJq {c:CK} {j j':Int} {pre post qa qb:List Int} (P:qU c j j' pre post qa qb) (eY eZ:List SV) (q0 h0 h1 h2 h3:Int) {u0 u1 u2 u3:Int} (a0:U u0) (a1:U u1) (a2:U u2) (a3:U u3) (hd:u3<18446744073709551615) (hc:18446744073709551615<=u3+u2) (hn:gt (uh ((u3+1)*18446744073709551614)) (ul ((u3+1)*18446744073709551614)) (u3+u2-18446744073709551615) u1=true) (hv:18446744073709551616<=u3+u2) :
 ∃ g0 g1 g2 g3 ps,fX fF eY eZ c.nu c.cu c.nq c.cq c.m 18446744073709551615 1 j j' (.int false .u64 u3) (.int false .u64 (w2 (n4 u0 u1 u2 u3%DD))) (wc (pre++[u0,u1,u2,u3]++post))
   (wc (pre++[w0 (n4 u0 u1 u2 u3%DD),w1 (n4 u0 u1 u2 u3%DD),w2 (n4 u0 u1 u2 u3%DD),0]++post)) (wc (qa++[q0]++qb)) (wc (qa++[n4 u0 u1 u2 u3/DD]++qb)) (wc [h0,h1,h2,h3]) (wc [g0,g1,g2,g3]) [true,true,true,false]=some (.at .normal,[],ps)/\∀ q∈ps,q:=by
 have z0:=a0.1;have z1:=a0.2;have z2:=a1.1;have z3:=a1.2;have z4:=a2.1;have z5:=a2.2;have z6:=a3.1;have z7:=a3.2
 have e0:U 13835058055282163712:=⟨by decide,by decide⟩
 have e1:U 18446744073709551614:=⟨by decide,by decide⟩
 have e2:U 18446744073709551615:=⟨by decide,by decide⟩
 have aq:U (u3):=by unfold U;omega
 obtain ⟨c0,c1,p0,p1,p2,p3,b0,b1,b2,b3,s0,s1,s2,s3,H⟩:=xK 13835058055282163712 18446744073709551614 18446744073709551615 (u3) u0 u1 u2 u3
 have hu:=H.u e0 e1 e2 aq a0 a1 a2 a3
 have hW:IntKind.u64.wrap (u3+1-1)=u3:=by rw [bP];unfold ul;omega
 have hq:u3=n4 u0 u1 u2 u3/DD:=by have Oy:=hn;unfold gt uh ul at Oy;have:=of_decide_eq_true Oy;unfold DD n4;omega
 obtain ⟨f3,k0,k1,k2,k3⟩:=H.fits hu hq
 have hQ:dq 18446744073709551615 u3 u2=u3+1:=by unfold dq;omega
 have hR:dr 18446744073709551615 u3 u2=u3+u2-18446744073709551615:=by unfold dr;omega
 refine ⟨p0,p1,p2,p3,_,P eY eZ u0 u1 u2 u3 _ _ _ _ q0 _ h0 h1 h2 h3 _ _ _ _,aA ?_⟩
 simp only [sh,JE,ID,IU,List.cons_append,List.nil_append,hQ,hR,hW,bX,H.SA,H.Ar,H.CW,H.DE,H.RE,H.hp3,H.Fq,H.Eh,H.fQ,H.qH,H.rY,H.lA,H.hs3,H.RJ,f3,<- k0,<- k1,<- k2,k3,<- hq,hu.c0,hu.c1,hu.p0,hu.p1,hu.p2,hu.p3,hu.b0,hu.b1,hu.b2,U0,K0,e0,e1,e2,a0,a1,a2,a3,and_true,true_and,aq]
 exact ⟨rfl,decide_eq_true (by rw [bP];unfold ul;omega),hn,dU _,⟨by omega,by omega⟩,hd,bne_iff_ne.2 (by omega)⟩
open M in
theorem YO {c:CK} {j j':Int} {pre post qa qb:List Int} (P:nT c j j' pre post qa qb) (eY eZ:List SV) (q0 h0 h1 h2 h3:Int) {u0 u1 u2 u3:Int} (a0:U u0) (a1:U u1) (a2:U u2) (a3:U u3) (hd:u3<18446744073709551615) (hc:18446744073709551615<=u3+u2) (hn:gt (uh ((u3+1)*18446744073709551614)) (ul ((u3+1)*18446744073709551614)) (u3+u2-18446744073709551615) u1=true) (hv:u3+u2=18446744073709551615) (hb:ul ((u3+1)*18446744073709551614)<18446744073709551614) :
 ∃ g0 g1 g2 g3 ps,fX fF eY eZ c.nu c.cu c.nq c.cq c.m 18446744073709551615 1 j j' (.int false .u64 u3) (.int false .u64 (w2 (n4 u0 u1 u2 u3%DD))) (wc (pre++[u0,u1,u2,u3]++post))
   (wc (pre++[w0 (n4 u0 u1 u2 u3%DD),w1 (n4 u0 u1 u2 u3%DD),w2 (n4 u0 u1 u2 u3%DD),0]++post)) (wc (qa++[q0]++qb)) (wc (qa++[n4 u0 u1 u2 u3/DD]++qb)) (wc [h0,h1,h2,h3]) (wc [g0,g1,g2,g3]) [true,true,false,true,false,false]=some (.at .normal,[],ps)/\∀ q∈ps,q:=by
 have z0:=a0.1;have z1:=a0.2;have z2:=a1.1;have z3:=a1.2;have z4:=a2.1;have z5:=a2.2;have z6:=a3.1;have z7:=a3.2
 have e0:U 13835058055282163712:=⟨by decide,by decide⟩
 have e1:U 18446744073709551614:=⟨by decide,by decide⟩
 have e2:U 18446744073709551615:=⟨by decide,by decide⟩
 have aq:U (u3):=by unfold U;omega
 obtain ⟨c0,c1,p0,p1,p2,p3,b0,b1,b2,b3,s0,s1,s2,s3,H⟩:=xK 13835058055282163712 18446744073709551614 18446744073709551615 (u3) u0 u1 u2 u3
 have hu:=H.u e0 e1 e2 aq a0 a1 a2 a3
 have hW:IntKind.u64.wrap (u3+1-1)=u3:=by rw [bP];unfold ul;omega
 have hq:u3=n4 u0 u1 u2 u3/DD:=by have Oy:=hn;unfold gt uh ul at Oy;have:=of_decide_eq_true Oy;unfold DD n4;omega
 obtain ⟨f3,k0,k1,k2,k3⟩:=H.fits hu hq
 have hQ:dq 18446744073709551615 u3 u2=u3+1:=by unfold dq;omega
 have hR:dr 18446744073709551615 u3 u2=u3+u2-18446744073709551615:=by unfold dr;omega
 refine ⟨p0,p1,p2,p3,_,P eY eZ u0 u1 u2 u3 _ _ _ _ q0 _ h0 h1 h2 h3 _ _ _ _,aA ?_⟩
 simp only [sh,Wj,Vq,Vz,List.cons_append,List.nil_append,hQ,hR,hW,bX,H.SA,H.Ar,H.CW,H.DE,H.RE,H.hp3,H.Fq,H.Eh,H.fQ,H.qH,H.rY,H.lA,H.hs3,H.RJ,f3,<- k0,<- k1,<- k2,k3,<- hq,hu.c0,hu.c1,hu.p0,hu.p1,hu.p2,hu.p3,hu.b0,hu.b1,hu.b2,U0,K0,e0,e1,e2,a0,a1,a2,a3,and_true,true_and,aq]
 exact ⟨rfl,by
  have hx:(uh ((u3+1)*18446744073709551614)=u3/\ul ((u3+1)*18446744073709551614)=18446744073709551616-2*u3-2/\2*u3+2<=18446744073709551616)\/(uh ((u3+1)*18446744073709551614)=u3-1/\ul ((u3+1)*18446744073709551614)=36893488147419103232-2*u3-2/\18446744073709551616<2*u3+2):=by unfold uh ul;omega
  simp only [bP]
  rcases hx with ⟨x1,x2,x3⟩ | ⟨x1,x2,x3⟩
  .rw [x1,x2];rw [x2] at hb;unfold gt ul;exact decide_eq_false (by omega)
  .rw [x1,x2];rw [x2] at hb;unfold gt ul;exact decide_eq_false (by omega),by rw [bP];exact dU _,decide_eq_true hb,decide_eq_false (by rw [bP];unfold ul;omega),hn,dU _,⟨by omega,by omega⟩,hd,bne_iff_ne.2 (by omega)⟩
open M in
theorem YP {c:CK} {j j':Int} {pre post qa qb:List Int} (P:nU c j j' pre post qa qb) (eY eZ:List SV) (q0 h0 h1 h2 h3:Int) {u0 u1 u2 u3:Int} (a0:U u0) (a1:U u1) (a2:U u2) (a3:U u3) (hd:u3<18446744073709551615) (hc:18446744073709551615<=u3+u2) (hn:gt (uh ((u3+1)*18446744073709551614)) (ul ((u3+1)*18446744073709551614)) (u3+u2-18446744073709551615) u1=true) (hv:u3+u2=18446744073709551615) (hb:¬ ul ((u3+1)*18446744073709551614)<18446744073709551614) :
 ∃ g0 g1 g2 g3 ps,fX fF eY eZ c.nu c.cu c.nq c.cq c.m 18446744073709551615 1 j j' (.int false .u64 u3) (.int false .u64 (w2 (n4 u0 u1 u2 u3%DD))) (wc (pre++[u0,u1,u2,u3]++post))
   (wc (pre++[w0 (n4 u0 u1 u2 u3%DD),w1 (n4 u0 u1 u2 u3%DD),w2 (n4 u0 u1 u2 u3%DD),0]++post)) (wc (qa++[q0]++qb)) (wc (qa++[n4 u0 u1 u2 u3/DD]++qb)) (wc [h0,h1,h2,h3]) (wc [g0,g1,g2,g3]) [true,true,false,false,false,false]=some (.at .normal,[],ps)/\∀ q∈ps,q:=by
 have z0:=a0.1;have z1:=a0.2;have z2:=a1.1;have z3:=a1.2;have z4:=a2.1;have z5:=a2.2;have z6:=a3.1;have z7:=a3.2
 have e0:U 13835058055282163712:=⟨by decide,by decide⟩
 have e1:U 18446744073709551614:=⟨by decide,by decide⟩
 have e2:U 18446744073709551615:=⟨by decide,by decide⟩
 have aq:U (u3):=by unfold U;omega
 obtain ⟨c0,c1,p0,p1,p2,p3,b0,b1,b2,b3,s0,s1,s2,s3,H⟩:=xK 13835058055282163712 18446744073709551614 18446744073709551615 (u3) u0 u1 u2 u3
 have hu:=H.u e0 e1 e2 aq a0 a1 a2 a3
 have hW:IntKind.u64.wrap (u3+1-1)=u3:=by rw [bP];unfold ul;omega
 have hq:u3=n4 u0 u1 u2 u3/DD:=by have Oy:=hn;unfold gt uh ul at Oy;have:=of_decide_eq_true Oy;unfold DD n4;omega
 obtain ⟨f3,k0,k1,k2,k3⟩:=H.fits hu hq
 have hQ:dq 18446744073709551615 u3 u2=u3+1:=by unfold dq;omega
 have hR:dr 18446744073709551615 u3 u2=u3+u2-18446744073709551615:=by unfold dr;omega
 refine ⟨p0,p1,p2,p3,_,P eY eZ u0 u1 u2 u3 _ _ _ _ q0 _ h0 h1 h2 h3 _ _ _ _,aA ?_⟩
 simp only [sh,Wk,Vr,Wa,List.cons_append,List.nil_append,hQ,hR,hW,bX,H.SA,H.Ar,H.CW,H.DE,H.RE,H.hp3,H.Fq,H.Eh,H.fQ,H.qH,H.rY,H.lA,H.hs3,H.RJ,f3,<- k0,<- k1,<- k2,k3,<- hq,hu.c0,hu.c1,hu.p0,hu.p1,hu.p2,hu.p3,hu.b0,hu.b1,hu.b2,U0,K0,e0,e1,e2,a0,a1,a2,a3,and_true,true_and,aq]
 exact ⟨rfl,by
  have hx:(uh ((u3+1)*18446744073709551614)=u3/\ul ((u3+1)*18446744073709551614)=18446744073709551616-2*u3-2/\2*u3+2<=18446744073709551616)\/(uh ((u3+1)*18446744073709551614)=u3-1/\ul ((u3+1)*18446744073709551614)=36893488147419103232-2*u3-2/\18446744073709551616<2*u3+2):=by unfold uh ul;omega
  simp only [bP]
  rcases hx with ⟨x1,x2,x3⟩ | ⟨x1,x2,x3⟩
  .rw [x1,x2];rw [x2] at hb;unfold gt ul;exact decide_eq_false (by omega)
  .rw [x1,x2];rw [x2] at hb;unfold gt ul;exact decide_eq_false (by omega),by rw [bP];exact dU _,decide_eq_false hb,decide_eq_false (by rw [bP];unfold ul;omega),hn,dU _,⟨by omega,by omega⟩,hd,bne_iff_ne.2 (by omega)⟩
open M in
theorem aRv {c:CK} {j j':Int} {pre post qa qb:List Int} (P:yN c j j' pre post qa qb) (eY eZ:List SV) (q0 h0 h1 h2 h3:Int) {u0 u1 u2 u3:Int} (a0:U u0) (a1:U u1) (a2:U u2) (a3:U u3) (hd:u3<18446744073709551615) (hc:18446744073709551615<=u3+u2) (hn:gt (uh ((u3+1)*18446744073709551614)) (ul ((u3+1)*18446744073709551614)) (u3+u2-18446744073709551615) u1=false) (hq:u3=n4 u0 u1 u2 u3/DD) :
 ∃ g0 g1 g2 g3 ps,fX fF eY eZ c.nu c.cu c.nq c.cq c.m 18446744073709551615 1 j j' (.int false .u64 u3) (.int false .u64 (w2 (n4 u0 u1 u2 u3%DD))) (wc (pre++[u0,u1,u2,u3]++post))
   (wc (pre++[w0 (n4 u0 u1 u2 u3%DD),w1 (n4 u0 u1 u2 u3%DD),w2 (n4 u0 u1 u2 u3%DD),0]++post)) (wc (qa++[q0]++qb)) (wc (qa++[n4 u0 u1 u2 u3/DD]++qb)) (wc [h0,h1,h2,h3]) (wc [g0,g1,g2,g3]) [true,false,true]=some (.at .normal,[],ps)/\∀ q∈ps,q:=by
 have z0:=a0.1;have z1:=a0.2;have z2:=a1.1;have z3:=a1.2;have z4:=a2.1;have z5:=a2.2;have z6:=a3.1;have z7:=a3.2
 have e0:U 13835058055282163712:=⟨by decide,by decide⟩
 have e1:U 18446744073709551614:=⟨by decide,by decide⟩
 have e2:U 18446744073709551615:=⟨by decide,by decide⟩
 have aq:U (u3+1):=by unfold U;omega
 obtain ⟨c0,c1,p0,p1,p2,p3,b0,b1,b2,b3,s0,s1,s2,s3,H⟩:=xK 13835058055282163712 18446744073709551614 18446744073709551615 (u3+1) u0 u1 u2 u3
 have hu:=H.u e0 e1 e2 aq a0 a1 a2 a3
 have hW:IntKind.u64.wrap (u3+1-1)=u3:=by rw [bP];unfold ul;omega
 have hQ:dq 18446744073709551615 u3 u2=u3+1:=by unfold dq;omega
 have hR:dr 18446744073709551615 u3 u2=u3+u2-18446744073709551615:=by unfold dr;omega
 have hs:=H.sum
 obtain ⟨n,hn4⟩:∃ n,n=n4 u0 u1 u2 u3:=⟨_,rfl⟩
 rw [<- hn4] at hs hq |-
 obtain ⟨r,hr⟩:∃ r,r=n%DD:=⟨_,rfl⟩
 have e:n-(13835058055282163712*(u3+1)+18446744073709551616*(18446744073709551614*(u3+1)+18446744073709551616*(18446744073709551615*(u3+1))))=r-DD:=by
  rw [hr]
  unfold DD n4
  unfold DD n4 at hq
  omega
 rw [e] at hs
 have r0:0<=r:=by rw [hr];exact Int.emod_nonneg _ (by decide)
 have r1:r<DD:=by rw [hr];exact Int.emod_lt_of_pos _ (by decide)
 rw [<- hr]
 refine ⟨p0,p1,p2,p3,_,P eY eZ u0 u1 u2 u3 _ _ _ _ q0 _ h0 h1 h2 h3 _ _ _ _,aA ?_⟩
 simp only [sh,aEg,aDn,aEa,List.cons_append,List.nil_append,hQ,hR,hW,bX,H.SA,H.Ar,H.CW,H.DE,H.RE,H.hp3,H.Fq,H.Eh,H.fQ,H.qH,H.rY,H.lA,H.hs3,H.RJ,<- hq,hu.c0,hu.c1,hu.p0,hu.p1,hu.p2,hu.p3,hu.b0,hu.b1,hu.b2,hu.s0,hu.s1,hu.s2,U0,K0,e0,e1,e2,a0,a1,a2,a3,aq,and_true,true_and]
 obtain ⟨t0,ht0⟩:∃ t,t=ul (s0+13835058055282163712+0):=⟨_,rfl⟩
 obtain ⟨g0,zS⟩:∃ t,t=uh (s0+13835058055282163712+0):=⟨_,rfl⟩
 rw [<- ht0,<- zS]
 obtain ⟨t1,ht1⟩:∃ t,t=ul (s1+18446744073709551614+g0):=⟨_,rfl⟩
 obtain ⟨g1,hg1⟩:∃ t,t=uh (s1+18446744073709551614+g0):=⟨_,rfl⟩
 rw [<- ht1,<- hg1]
 obtain ⟨t2,Ph⟩:∃ t,t=ul (s2+18446744073709551615+g1):=⟨_,rfl⟩
 obtain ⟨g2,hg2⟩:∃ t,t=uh (s2+18446744073709551615+g1):=⟨_,rfl⟩
 rw [<- Ph,<- hg2,bP]
 obtain ⟨t3,ht3⟩:∃ t,t=ul (s3+g2):=⟨_,rfl⟩
 obtain ⟨g3,hg3⟩:∃ t,t=uh (s3+g2):=⟨_,rfl⟩
 rw [<- ht3]
 have m0:=mT (s0+13835058055282163712+0)
 have m1:=mT (s1+18446744073709551614+g0)
 have m2:=mT (s2+18446744073709551615+g1)
 have m3:=mT (s3+g2)
 rw [<- ht0,<- zS] at m0
 rw [<- ht1,<- hg1] at m1
 rw [<- Ph,<- hg2] at m2
 rw [<- ht3,<- hg3] at m3
 have v0:U t0:=by rw [ht0];exact dU _
 have v1:U t1:=by rw [ht1];exact dU _
 have v2:U t2:=by rw [Ph];exact dU _
 have v3:U t3:=by rw [ht3];exact dU _
 have q1:=hu.s0.1;have q2:=hu.s0.2;have q3:=hu.s1.1;have q4:=hu.s1.2
 have q5:=hu.s2.1;have q6:=hu.s2.2;have q7:=hu.s3.1;have q8:=hu.s3.2
 have y0:=v0.1;have y1:=v0.2;have y2:=v1.1;have y3:=v1.2;have y4:=v2.1;have y5:=v2.2;have y6:=v3.1;have y7:=v3.2
 have l1:=hu.b3.1;have l2:=hu.b3.2
 have kg0:K g0:=by unfold K;omega
 have kg1:K g1:=by have:=kg0.1;have:=kg0.2;unfold K;omega
 have hDD:DD=6277101735386680763835789423207666416079297014371897573376:=by decide
 rw [hDD] at hs r1
 have hb:b3=1:=by unfold n4 at hs;omega
 have ht:r=n4 t0 t1 t2 t3:=by unfold n4 at hs |-;omega
 have h3:t3=0:=by unfold n4 at ht;omega
 have W:=aNx (d:=t3) v0 v1 v2
 rw [<- ht] at W
 rw [W.1,W.2.1,W.2.2,h3,hb]
 exact ⟨kg1,kg0,rfl,hn,dU _,hd,bne_iff_ne.2 (by omega),rfl,rfl⟩
open M in
theorem aRy {c:CK} {j j':Int} {pre post qa qb:List Int} (P:yO c j j' pre post qa qb) (eY eZ:List SV) (q0 h0 h1 h2 h3:Int) {u0 u1 u2 u3:Int} (a0:U u0) (a1:U u1) (a2:U u2) (hc:u3=18446744073709551615) (hl:n4 u0 u1 u2 u3<18446744073709551616*DD) :
 ∃ g0 g1 g2 g3 ps,fX fF eY eZ c.nu c.cu c.nq c.cq c.m 18446744073709551615 1 j j' (.int false .u64 u3) (.int false .u64 (w2 (n4 u0 u1 u2 u3%DD))) (wc (pre++[u0,u1,u2,u3]++post))
   (wc (pre++[w0 (n4 u0 u1 u2 u3%DD),w1 (n4 u0 u1 u2 u3%DD),w2 (n4 u0 u1 u2 u3%DD),0]++post)) (wc (qa++[q0]++qb)) (wc (qa++[n4 u0 u1 u2 u3/DD]++qb)) (wc [h0,h1,h2,h3]) (wc [g0,g1,g2,g3]) [false,false]=some (.at .normal,[],ps)/\∀ q∈ps,q:=by
 have a3:U u3:=by unfold U;omega
 have z0:=a0.1;have z1:=a0.2;have z2:=a1.1;have z3:=a1.2;have z4:=a2.1;have z5:=a2.2;have z6:=a3.1;have z7:=a3.2
 have e0:U 13835058055282163712:=⟨by decide,by decide⟩
 have e1:U 18446744073709551614:=⟨by decide,by decide⟩
 have e2:U 18446744073709551615:=⟨by decide,by decide⟩
 have H:aQh 18446744073709551615 u0 u1 u2 u3 13835058055282163711 18446744073709551613 4611686018427387904 13835058055282163713 18446744073709551614 18446744073709551614 _ _ _ _ _ _ _ _:=⟨by decide,by decide,by decide,by decide,by decide,by decide,rfl,rfl,rfl,rfl,rfl,rfl,rfl,rfl⟩
 have hu:=H.u e0 e1 e2 e2 a0 a1 a2 a3
 have hq:18446744073709551615=n4 u0 u1 u2 u3/DD:=by unfold DD n4 at *;omega
 obtain ⟨f3,k0,k1,k2,k3⟩:=H.fits hu hq
 refine ⟨4611686018427387904,13835058055282163713,18446744073709551614,18446744073709551614,_,P eY eZ u0 u1 u2 u3 _ _ _ _ q0 _ h0 h1 h2 h3 _ _ _ _,aA ?_⟩
 simp only [sh,aEh,aDo,aEb,List.cons_append,List.nil_append,bX,f3,k0,k1,k2,k3,<- hq,hu.b0,hu.b1,hu.b2,U0,K0,e0,e1,e2,a0,a1,a2,a3,and_true,true_and]
 exact ⟨rfl,⟨by decide,by decide⟩,⟨by decide,by decide⟩,⟨by decide,by decide⟩,⟨by decide,by decide⟩,by rw [hc];decide⟩
structure aUx (c:CK) (j j':Int) (pre post qa qb:List Int):Prop where
 p0:yO c j j' pre post qa qb
 p1:uP c j j' pre post qa qb
 p2a:qU c j j' pre post qa qb
 aWq:nT c j j' pre post qa qb
 aWr:nU c j j' pre post qa qb
 p4:yN c j j' pre post qa qb
open M in
theorem oQ {c:CK} {j j':Int} {pre post qa qb:List Int} (P:aUx c j j' pre post qa qb) (eY eZ:List SV) (q0 h0 h1 h2 h3:Int) {u0 u1 u2 u3:Int} (a0:U u0) (a1:U u1) (a2:U u2) (a3:U u3) (hl:n4 u0 u1 u2 u3<18446744073709551616*DD) :
 ∃ hs g0 g1 g2 g3 ps,fX fF eY eZ c.nu c.cu c.nq c.cq c.m 18446744073709551615 1 j j' (.int false .u64 u3) (.int false .u64 (w2 (n4 u0 u1 u2 u3%DD))) (wc (pre++[u0,u1,u2,u3]++post))
   (wc (pre++[w0 (n4 u0 u1 u2 u3%DD),w1 (n4 u0 u1 u2 u3%DD),w2 (n4 u0 u1 u2 u3%DD),0]++post)) (wc (qa++[q0]++qb)) (wc (qa++[n4 u0 u1 u2 u3/DD]++qb)) (wc [h0,h1,h2,h3]) (wc [g0,g1,g2,g3]) hs=some (.at .normal,[],ps)/\∀ q∈ps,q:=by
 have z0:=a0.1;have z1:=a0.2;have z2:=a1.1;have z3:=a1.2;have z4:=a2.1;have z5:=a2.2;have z6:=a3.1;have z7:=a3.2
 by_cases hc:u3=18446744073709551615
 .exact ⟨_,aRy P.p0 eY eZ q0 h0 h1 h2 h3 a0 a1 a2 hc hl⟩
 have hd:u3<18446744073709551615:=by omega
 by_cases Ei:u3+u2<18446744073709551615
 .exact ⟨_,aRx P.p1 eY eZ q0 h0 h1 h2 h3 a0 a1 a2 a3 Ei⟩
 have EA:18446744073709551615<=u3+u2:=by omega
 cases hn:gt (uh ((u3+1)*18446744073709551614)) (ul ((u3+1)*18446744073709551614)) (u3+u2-18446744073709551615) u1 with
 | true=>
   by_cases hv:u3+u2=18446744073709551615
   .by_cases hb:ul ((u3+1)*18446744073709551614)<18446744073709551614
    .exact ⟨_,YO P.aWq eY eZ q0 h0 h1 h2 h3 a0 a1 a2 a3 hd EA hn hv hb⟩
    .exact ⟨_,YP P.aWr eY eZ q0 h0 h1 h2 h3 a0 a1 a2 a3 hd EA hn hv hb⟩
   .exact ⟨_,aJq P.p2a eY eZ q0 h0 h1 h2 h3 a0 a1 a2 a3 hd EA hn (by omega)⟩
 | false=>
   by_cases hq:u3+1=n4 u0 u1 u2 u3/DD
   .exact ⟨_,aRw P.p1 eY eZ q0 h0 h1 h2 h3 a0 a1 a2 a3 hd EA hn hq⟩
   .exact ⟨_,aRv P.p4 eY eZ q0 h0 h1 h2 h3 a0 a1 a2 a3 hd EA hn (by revert hq;unfold DD n4;omega)⟩
namespace M
theorem sN {n:Int} (h:U n):ub n=0:=by unfold U at h;unfold ub;omega
theorem ul0:ul 0=0:=by decide
theorem Km:uh 0=0:=by decide
end M
open M in
theorem Iy {c:CK} {j j':Int} {pre post qs:List Int} (P:DvT c j j' pre post qs) (eY eZ:List SV) (h0 h1 h2 h3:Int) {u1 u2 u3:Int} (a1:U u1) (a2:U u2) (a3:U u3) (hd:u3<18446744073709551615) :
 ∃ ps,fX fF eY eZ c.nu c.cu c.nq c.cq c.m 18446744073709551615 1 j j' (.int true .u64 0) (.int false .u64 u3) (wc (pre++[u1,u2,u3]++post)) (wc (pre++[u1,u2,u3]++post)) (wc qs) (wc qs) (wc [h0,h1,h2,h3]) (wc [0,0,0,0]) [false,true,false,true]=some (.at .normal,[],ps)/\∀ q∈ps,q:=by
 have z2:=a1.1;have z3:=a1.2;have z4:=a2.1;have z5:=a2.2;have z6:=a3.1;have z7:=a3.2
 have e0:U 13835058055282163712:=⟨by decide,by decide⟩
 have e1:U 18446744073709551614:=⟨by decide,by decide⟩
 have e2:U 18446744073709551615:=⟨by decide,by decide⟩
 have hQ:dq 18446744073709551615 0 u3=0:=by unfold dq;omega
 have hR:dr 18446744073709551615 0 u3=u3:=by unfold dr;omega
 have hg:gt 0 0 u3 u2=false:=by unfold gt;exact decide_eq_false (by omega)
 refine ⟨_,P eY eZ u1 u2 u3 _ _ _ h0 h1 h2 h3 _ _ _ _,aA ?_⟩
 simp only [sh,aOo,aNy,List.cons_append,List.nil_append,hQ,hR,bX,Int.mul_zero,Int.zero_mul,Int.add_zero,Int.sub_zero,ul0,Km,sN a1,sN a2,sN a3,uJ a1,uJ a2,uJ a3,hg,U0,K0,e0,e1,e2,a1,a2,a3,and_true,true_and]
 and_intros <;> first | rfl | decide
theorem aMz (u0 u1 u2 u3 q0 h0 h1 h2 h3:Int) :
 (yT 100 (bH 100 (Hs fF (wc [u0,u1,u2,u3,0,0,0]) (wc [q0]))) [] (jL 4 7 1 1 1 18446744073709551615 1 (.int true .u64 0) 1) (jK (wc [h0,h1,h2,h3]) (wc [u0,u1,u2,u3,0,0,0]) (wc [q0])) 101 [61,63] jM (Bz fF (wc [u0,u1,u2,u3,0,0,0]) (wc [q0]) 4 7 1 1)) =
 sh (0:Int) fun z0=>
 some (.go (.loop xJ),Ez,[(3:Nat)=(3:Nat),(4:Nat)=(4:Nat),(11259375:Int)=h0,z0=h1,z0=h2,z0=h3,[q0]=[q0],[u0,u1,u2,u3,z0,z0,z0]=[u0,u1,u2,u3,z0,z0,z0]]):=by kernel_rfl
theorem aMx (x0 x1 x2 x3 y0 u0 u1 u2 u3 q0 h0 h1 h2 h3:Int) :
 fX fF (wc [x0,x1,x2,x3,0,0,0]) (wc [y0]) 4 7 1 1 1 18446744073709551615 1 (-1) (-1) (.int false .u64 u2) (.int false .u64 u2) (wc [u0,u1,u2,u3,0,0,0]) (wc [u0,u1,u2,u3,0,0,0]) (wc [q0]) (wc [q0]) (wc [h0,h1,h2,h3]) (wc [h0,h1,h2,h3]) [] =
 sh (0:Int) fun z0=>
 some (Cf.at (Ex.exit 0),[],[(3:Nat)=(3:Nat),(4:Nat)=(4:Nat),u2=u2,h0=h0,h1=h1,h2=h2,h3=h3,[q0]=[q0],[u0,u1,u2,u3,z0,z0,z0]=[u0,u1,u2,u3,z0,z0,z0]]):=by kernel_rfl
theorem aMy (x0 x1 x2 x3 y0 u0 u1 u2 u3 q0 h0 h1 h2 h3:Int) :
 Mi fF (wc [x0,x1,x2,x3,0,0,0]) (wc [y0]) 4 7 1 1 1 18446744073709551615 1 (.int false .u64 u2) (wc [u0,u1,u2,u3,0,0,0]) (wc [q0]) (wc [h0,h1,h2,h3]) =
 some {val:=SV.eL [],wr:=[(61,SB.own [SV.int false IntKind.u64 q0] 196),(63,SB.own [SV.int false IntKind.u64 u0,SV.int false IntKind.u64 u1,SV.int false IntKind.u64 u2,SV.int false IntKind.u64 u3,SV.int false IntKind.u64 (0:Int),SV.int false IntKind.u64 (0:Int),SV.int false IntKind.u64 (0:Int)] 196)]}:=by kernel_rfl
theorem aMw (u0 u1 u2 u3 q0 h0 h1 h2 h3:Int) :
 (yT 100 (bH 100 (Hs fF (wc [u0,u1,u2,u3,0,0,0,0]) (wc [q0]))) [] (jL 4 8 1 1 1 18446744073709551615 1 (.int true .u64 0) 1) (jK (wc [h0,h1,h2,h3]) (wc [u0,u1,u2,u3,0,0,0,0]) (wc [q0])) 101 [61,63] jM (Bz fF (wc [u0,u1,u2,u3,0,0,0,0]) (wc [q0]) 4 8 1 1)) =
 sh (0:Int) fun z0=>
 some (.go (.loop xJ),Ez,[(3:Nat)=(3:Nat),(4:Nat)=(4:Nat),(11259375:Int)=h0,z0=h1,z0=h2,z0=h3,[q0]=[q0],[u0,u1,u2,u3,z0,z0,z0,z0]=[u0,u1,u2,u3,z0,z0,z0,z0]]):=by kernel_rfl
theorem aMu (x0 x1 x2 x3 y0 u0 u1 u2 u3 q0 h0 h1 h2 h3:Int) :
 fX fF (wc [x0,x1,x2,x3,0,0,0,0]) (wc [y0]) 4 8 1 1 1 18446744073709551615 1 (-1) (-1) (.int false .u64 u2) (.int false .u64 u2) (wc [u0,u1,u2,u3,0,0,0,0]) (wc [u0,u1,u2,u3,0,0,0,0]) (wc [q0]) (wc [q0]) (wc [h0,h1,h2,h3]) (wc [h0,h1,h2,h3]) [] =
 sh (0:Int) fun z0=>
 some (Cf.at (Ex.exit 0),[],[(3:Nat)=(3:Nat),(4:Nat)=(4:Nat),u2=u2,h0=h0,h1=h1,h2=h2,h3=h3,[q0]=[q0],[u0,u1,u2,u3,z0,z0,z0,z0]=[u0,u1,u2,u3,z0,z0,z0,z0]]):=by kernel_rfl
theorem aMv (x0 x1 x2 x3 y0 u0 u1 u2 u3 q0 h0 h1 h2 h3:Int) :
 Mi fF (wc [x0,x1,x2,x3,0,0,0,0]) (wc [y0]) 4 8 1 1 1 18446744073709551615 1 (.int false .u64 u2) (wc [u0,u1,u2,u3,0,0,0,0]) (wc [q0]) (wc [h0,h1,h2,h3]) =
 sh (0:Int) fun z0=>
 some {val:=SV.eL [],wr:=[(61,SB.own [SV.int false IntKind.u64 q0] 196),(63,SB.own [SV.int false IntKind.u64 u0,SV.int false IntKind.u64 u1,SV.int false IntKind.u64 u2,SV.int false IntKind.u64 u3,SV.int false IntKind.u64 z0,SV.int false IntKind.u64 z0,SV.int false IntKind.u64 z0,SV.int false IntKind.u64 z0] 196)]}:=by kernel_rfl
theorem aMt (u0 u1 u2 u3 u4 q0 q1 h0 h1 h2 h3:Int) :
 (yT 100 (bH 100 (Hs fF (wc [u0,u1,u2,u3,u4,0,0,0]) (wc [q0,q1,0,0,0,0]))) [] (jL 5 8 2 6 2 18446744073709551615 1 (.int true .u64 0) 2) (jK (wc [h0,h1,h2,h3]) (wc [u0,u1,u2,u3,u4,0,0,0]) (wc [q0,q1,0,0,0,0])) 101 [61,63] jM (Bz fF (wc [u0,u1,u2,u3,u4,0,0,0]) (wc [q0,q1,0,0,0,0]) 5 8 2 6)) =
 sh (0:Int) fun z0=>
 some (.go (.loop xJ),Ez,[(3:Nat)=(3:Nat),(4:Nat)=(4:Nat),(11259375:Int)=h0,z0=h1,z0=h2,z0=h3,[q0,q1,z0,z0,z0,z0]=[q0,q1,z0,z0,z0,z0],[u0,u1,u2,u3,u4,z0,z0,z0]=[u0,u1,u2,u3,u4,z0,z0,z0]]):=by kernel_rfl
theorem aMr (x0 x1 x2 x3 x4 y0 y1 u0 u1 u2 u3 u4 q0 q1 h0 h1 h2 h3:Int) :
 fX fF (wc [x0,x1,x2,x3,x4,0,0,0]) (wc [y0,y1,0,0,0,0]) 5 8 2 6 2 18446744073709551615 1 (-1) (-1) (.int false .u64 u2) (.int false .u64 u2) (wc [u0,u1,u2,u3,u4,0,0,0]) (wc [u0,u1,u2,u3,u4,0,0,0]) (wc [q0,q1,0,0,0,0]) (wc [q0,q1,0,0,0,0]) (wc [h0,h1,h2,h3]) (wc [h0,h1,h2,h3]) [] =
 sh (0:Int) fun z0=>
 some (Cf.at (Ex.exit 0),[],[(3:Nat)=(3:Nat),(4:Nat)=(4:Nat),u2=u2,h0=h0,h1=h1,h2=h2,h3=h3,[q0,q1,z0,z0,z0,z0]=[q0,q1,z0,z0,z0,z0],[u0,u1,u2,u3,u4,z0,z0,z0]=[u0,u1,u2,u3,u4,z0,z0,z0]]):=by kernel_rfl
theorem aMs (x0 x1 x2 x3 x4 y0 y1 u0 u1 u2 u3 u4 q0 q1 h0 h1 h2 h3:Int) :
 Mi fF (wc [x0,x1,x2,x3,x4,0,0,0]) (wc [y0,y1,0,0,0,0]) 5 8 2 6 2 18446744073709551615 1 (.int false .u64 u2) (wc [u0,u1,u2,u3,u4,0,0,0]) (wc [q0,q1,0,0,0,0]) (wc [h0,h1,h2,h3]) =
 sh (0:Int) fun z0=>
 some {val:=SV.eL [],wr:=[(61,SB.own [SV.int false IntKind.u64 q0,SV.int false IntKind.u64 q1,SV.int false IntKind.u64 z0,SV.int false IntKind.u64 z0,SV.int false IntKind.u64 z0,SV.int false IntKind.u64 z0] 196),(63,SB.own [SV.int false IntKind.u64 u0,SV.int false IntKind.u64 u1,SV.int false IntKind.u64 u2,SV.int false IntKind.u64 u3,SV.int false IntKind.u64 u4,SV.int false IntKind.u64 z0,SV.int false IntKind.u64 z0,SV.int false IntKind.u64 z0] 196)]}:=by kernel_rfl
theorem aMq (u0 u1 u2 u3 u4 q0 q1 h0 h1 h2 h3:Int) :
 (yT 100 (bH 100 (Hs fF (wc [u0,u1,u2,u3,u4,0,0,0,0]) (wc [q0,q1,0,0,0,0]))) [] (jL 5 9 2 6 2 18446744073709551615 1 (.int true .u64 0) 2) (jK (wc [h0,h1,h2,h3]) (wc [u0,u1,u2,u3,u4,0,0,0,0]) (wc [q0,q1,0,0,0,0])) 101 [61,63] jM (Bz fF (wc [u0,u1,u2,u3,u4,0,0,0,0]) (wc [q0,q1,0,0,0,0]) 5 9 2 6)) =
 sh (0:Int) fun z0=>
 some (.go (.loop xJ),Ez,[(3:Nat)=(3:Nat),(4:Nat)=(4:Nat),(11259375:Int)=h0,z0=h1,z0=h2,z0=h3,[q0,q1,z0,z0,z0,z0]=[q0,q1,z0,z0,z0,z0],[u0,u1,u2,u3,u4,z0,z0,z0,z0]=[u0,u1,u2,u3,u4,z0,z0,z0,z0]]):=by kernel_rfl
theorem aMo (x0 x1 x2 x3 x4 y0 y1 u0 u1 u2 u3 u4 q0 q1 h0 h1 h2 h3:Int) :
 fX fF (wc [x0,x1,x2,x3,x4,0,0,0,0]) (wc [y0,y1,0,0,0,0]) 5 9 2 6 2 18446744073709551615 1 (-1) (-1) (.int false .u64 u2) (.int false .u64 u2) (wc [u0,u1,u2,u3,u4,0,0,0,0]) (wc [u0,u1,u2,u3,u4,0,0,0,0]) (wc [q0,q1,0,0,0,0]) (wc [q0,q1,0,0,0,0]) (wc [h0,h1,h2,h3]) (wc [h0,h1,h2,h3]) [] =
 sh (0:Int) fun z0=>
 some (Cf.at (Ex.exit 0),[],[(3:Nat)=(3:Nat),(4:Nat)=(4:Nat),u2=u2,h0=h0,h1=h1,h2=h2,h3=h3,[q0,q1,z0,z0,z0,z0]=[q0,q1,z0,z0,z0,z0],[u0,u1,u2,u3,u4,z0,z0,z0,z0]=[u0,u1,u2,u3,u4,z0,z0,z0,z0]]):=by kernel_rfl
theorem aMp (x0 x1 x2 x3 x4 y0 y1 u0 u1 u2 u3 u4 q0 q1 h0 h1 h2 h3:Int) :
 Mi fF (wc [x0,x1,x2,x3,x4,0,0,0,0]) (wc [y0,y1,0,0,0,0]) 5 9 2 6 2 18446744073709551615 1 (.int false .u64 u2) (wc [u0,u1,u2,u3,u4,0,0,0,0]) (wc [q0,q1,0,0,0,0]) (wc [h0,h1,h2,h3]) =
 sh (0:Int) fun z0=>
 some {val:=SV.eL [],wr:=[(61,SB.own [SV.int false IntKind.u64 q0,SV.int false IntKind.u64 q1,SV.int false IntKind.u64 z0,SV.int false IntKind.u64 z0,SV.int false IntKind.u64 z0,SV.int false IntKind.u64 z0] 196),(63,SB.own [SV.int false IntKind.u64 u0,SV.int false IntKind.u64 u1,SV.int false IntKind.u64 u2,SV.int false IntKind.u64 u3,SV.int false IntKind.u64 u4,SV.int false IntKind.u64 z0,SV.int false IntKind.u64 z0,SV.int false IntKind.u64 z0,SV.int false IntKind.u64 z0] 196)]}:=by kernel_rfl
namespace M
def r5 (u0 u1 u2 u3 u4:Int):Int:=n4 u0 (w0 (n4 u1 u2 u3 u4%DD)) (w1 (n4 u1 u2 u3 u4%DD)) (w2 (n4 u1 u2 u3 u4%DD))
theorem aUy:DD<6277101735386680763835789423207666416102355444464034512896:=by decide
theorem Sf:0<DD:=by decide
theorem w_U (n:Int):U (w0 n)/\U (w1 n)/\U (w2 n):=by unfold U w0 w1 w2;omega
theorem Uw {a b c d:Int} (ha:U a) (hb:U b) (hc:U c) (hd:d<9223372036854775808):n4 a b c d<18446744073709551616*DD:=by
 have:=ha.2;have:=hb.2;have:=hc.2
 unfold n4 DD n4
 omega
theorem aXg {r:Int} (h0:0<=r) (h1:r<DD):n4 (w0 r) (w1 r) (w2 r) 0=r:=by
 have:=aUy
 unfold n4 w0 w1 w2
 omega
theorem aDz {u0 u1 u2 u3 u4:Int}:r5 u0 u1 u2 u3 u4=u0+18446744073709551616*(n4 u1 u2 u3 u4%DD):=by
 have h0:0<=n4 u1 u2 u3 u4%DD:=Int.emod_nonneg _ (by decide)
 have h1:n4 u1 u2 u3 u4%DD<DD:=Int.emod_lt_of_pos _ Sf
 have h:=aXg h0 h1
 unfold r5
 generalize n4 u1 u2 u3 u4%DD=r at *
 unfold n4 at *
 omega
theorem aDy {u0 u1 u2 u3 u4:Int} (ha:U u0):r5 u0 u1 u2 u3 u4<18446744073709551616*DD:=by
 rw [aDz]
 have h1:n4 u1 u2 u3 u4%DD<DD:=Int.emod_lt_of_pos _ Sf
 have:=ha.2
 omega
end M
open M in
set_option maxHeartbeats 2000000 in
theorem BQ {u0 u1 u2 u3:Int} (y0:Int) (a0:U u0) (a1:U u1) (a2:U u2) (a3:U u3) (hd:u3<9223372036854775808) :
 aF Tryz.prog Γv 259 (Bk 4 7 1 1) (Hs fF (wc [u0,u1,u2,u3,0,0,0]) (wc [y0])) 100 100 { val:=.eL [],wr:=[(61,.own (wc [n4 u0 u1 u2 u3/DD]) 196),(63,.own (wc [w0 (n4 u0 u1 u2 u3%DD),w1 (n4 u0 u1 u2 u3%DD),w2 (n4 u0 u1 u2 u3%DD),0,0,0,0]) 196)] }:=by
 have hl:=Uw a0 a1 a2 hd
 refine gR lC lD Tryz.func259 (by kernel_rfl) rfl (Nat.le_of_ble_eq_true (by kernel_rfl)) rfl [] ?_
 intro w0' Mx V0 Q hb H
 have aT:=lC
 have aX:=lD
 refine G.yT aT aX mix hb [] (aMz u0 u1 u2 u3 y0 11259375 0 0 0) (aA (by simp only [sh,bX,and_true])) ?_
 have fin:∀ h0 h1 h2 h3,G Tryz.prog Γv w0' Mx (bH 100 (Hs fF (wc [u0,u1,u2,u3,0,0,0]) (wc [y0]))) Tryz.f259.ntmps 100 V0 (.at (.exit 0)) Ez
  (cB (jL 4 7 1 1 1 18446744073709551615 1 (.int false .u64 (w2 (n4 u0 u1 u2 u3%DD))) (-1)) (jK (wc [h0,h1,h2,h3]) (wc [w0 (n4 u0 u1 u2 u3%DD),w1 (n4 u0 u1 u2 u3%DD),w2 (n4 u0 u1 u2 u3%DD),0,0,0,0]) (wc [n4 u0 u1 u2 u3/DD])) 101 [61,63] jM) Q:=fun h0 h1 h2 h3=>
  G.fin aT aX mix [] H (aMy u0 u1 u2 u3 y0 _ _ _ _ _ h0 h1 h2 h3) (by simp) rfl rfl rfl
 refine G.loop (fun r s=>(r=2/\s=cB (jL 4 7 1 1 1 18446744073709551615 1 (.int true .u64 0) 1) (jK (wc [11259375,0,0,0]) (wc [u0,u1,u2,u3,0,0,0]) (wc [y0])) 101 [61,63] jM)
  \/ (r=1/\s=cB (jL 4 7 1 1 1 18446744073709551615 1 (.int false .u64 u3) 0) (jK (wc [0,0,0,0]) (wc [u0,u1,u2,u3,0,0,0]) (wc [y0])) 101 [61,63] jM)
  \/ (r=0/\∃ h0 h1 h2 h3,s=cB (jL 4 7 1 1 1 18446744073709551615 1 (.int false .u64 (w2 (n4 u0 u1 u2 u3%DD))) (-1)) (jK (wc [h0,h1,h2,h3]) (wc [w0 (n4 u0 u1 u2 u3%DD),w1 (n4 u0 u1 u2 u3%DD),w2 (n4 u0 u1 u2 u3%DD),0,0,0,0]) (wc [n4 u0 u1 u2 u3/DD])) 101 [61,63] jM)) (r0:=2) (.inl ⟨rfl,rfl⟩) ?_
 rintro r s (⟨rfl,rfl⟩ | ⟨rfl,rfl⟩ | ⟨rfl,h0,h1,h2,h3,rfl⟩)
 .obtain ⟨ps,e,hp⟩:=Iy (aTd u0 y0) (wc [u0,u1,u2,u3,0,0,0]) (wc [y0]) 11259375 0 0 0 a1 a2 a3 (by omega)
  exact G.lF aT aX mix hb _ e hp 1 (by omega) (.inr (.inl ⟨rfl,rfl⟩))
 .obtain ⟨hs,g0,g1,g2,g3,ps,e,hp⟩:=oQ ⟨aKx,aKw,aAp,MF,MG,aKv⟩ (wc [u0,u1,u2,u3,0,0,0]) (wc [y0]) y0 0 0 0 0 a0 a1 a2 a3 hl
  exact G.lF aT aX mix hb _ e hp 0 (by omega) (.inr (.inr ⟨rfl,g0,g1,g2,g3,rfl⟩))
 .exact G.yT aT aX mix hb [] (aMx u0 u1 u2 u3 y0 _ _ _ _ _ h0 h1 h2 h3) (aA (by simp only [sh,bX,and_true])) (G.leave (fun h=>by cases h) (fin h0 h1 h2 h3))
open M in
set_option maxHeartbeats 2000000 in
theorem BP {u0 u1 u2 u3:Int} (y0:Int) (a0:U u0) (a1:U u1) (a2:U u2) (a3:U u3) (hd:u3<9223372036854775808) :
 aF Tryz.prog Γv 259 (Bk 4 8 1 1) (Hs fF (wc [u0,u1,u2,u3,0,0,0,0]) (wc [y0])) 100 100 { val:=.eL [],wr:=[(61,.own (wc [n4 u0 u1 u2 u3/DD]) 196),(63,.own (wc [w0 (n4 u0 u1 u2 u3%DD),w1 (n4 u0 u1 u2 u3%DD),w2 (n4 u0 u1 u2 u3%DD),0,0,0,0,0]) 196)] }:=by
 have hl:=Uw a0 a1 a2 hd
 refine gR lC lD Tryz.func259 (by kernel_rfl) rfl (Nat.le_of_ble_eq_true (by kernel_rfl)) rfl [] ?_
 intro w0' Mx V0 Q hb H
 have aT:=lC
 have aX:=lD
 refine G.yT aT aX mix hb [] (aMw u0 u1 u2 u3 y0 11259375 0 0 0) (aA (by simp only [sh,bX,and_true])) ?_
 have fin:∀ h0 h1 h2 h3,G Tryz.prog Γv w0' Mx (bH 100 (Hs fF (wc [u0,u1,u2,u3,0,0,0,0]) (wc [y0]))) Tryz.f259.ntmps 100 V0 (.at (.exit 0)) Ez
  (cB (jL 4 8 1 1 1 18446744073709551615 1 (.int false .u64 (w2 (n4 u0 u1 u2 u3%DD))) (-1)) (jK (wc [h0,h1,h2,h3]) (wc [w0 (n4 u0 u1 u2 u3%DD),w1 (n4 u0 u1 u2 u3%DD),w2 (n4 u0 u1 u2 u3%DD),0,0,0,0,0]) (wc [n4 u0 u1 u2 u3/DD])) 101 [61,63] jM) Q:=fun h0 h1 h2 h3=>
  G.fin aT aX mix [] H (aMv u0 u1 u2 u3 y0 _ _ _ _ _ h0 h1 h2 h3) (by simp) rfl rfl rfl
 refine G.loop (fun r s=>(r=2/\s=cB (jL 4 8 1 1 1 18446744073709551615 1 (.int true .u64 0) 1) (jK (wc [11259375,0,0,0]) (wc [u0,u1,u2,u3,0,0,0,0]) (wc [y0])) 101 [61,63] jM)
  \/ (r=1/\s=cB (jL 4 8 1 1 1 18446744073709551615 1 (.int false .u64 u3) 0) (jK (wc [0,0,0,0]) (wc [u0,u1,u2,u3,0,0,0,0]) (wc [y0])) 101 [61,63] jM)
  \/ (r=0/\∃ h0 h1 h2 h3,s=cB (jL 4 8 1 1 1 18446744073709551615 1 (.int false .u64 (w2 (n4 u0 u1 u2 u3%DD))) (-1)) (jK (wc [h0,h1,h2,h3]) (wc [w0 (n4 u0 u1 u2 u3%DD),w1 (n4 u0 u1 u2 u3%DD),w2 (n4 u0 u1 u2 u3%DD),0,0,0,0,0]) (wc [n4 u0 u1 u2 u3/DD])) 101 [61,63] jM)) (r0:=2) (.inl ⟨rfl,rfl⟩) ?_
 rintro r s (⟨rfl,rfl⟩ | ⟨rfl,rfl⟩ | ⟨rfl,h0,h1,h2,h3,rfl⟩)
 .obtain ⟨ps,e,hp⟩:=Iy (aTc u0 y0) (wc [u0,u1,u2,u3,0,0,0,0]) (wc [y0]) 11259375 0 0 0 a1 a2 a3 (by omega)
  exact G.lF aT aX mix hb _ e hp 1 (by omega) (.inr (.inl ⟨rfl,rfl⟩))
 .obtain ⟨hs,g0,g1,g2,g3,ps,e,hp⟩:=oQ ⟨aKu,aKt,aAo,MD,ME,aKs⟩ (wc [u0,u1,u2,u3,0,0,0,0]) (wc [y0]) y0 0 0 0 0 a0 a1 a2 a3 hl
  exact G.lF aT aX mix hb _ e hp 0 (by omega) (.inr (.inr ⟨rfl,g0,g1,g2,g3,rfl⟩))
 .exact G.yT aT aX mix hb [] (aMu u0 u1 u2 u3 y0 _ _ _ _ _ h0 h1 h2 h3) (aA (by simp only [sh,bX,and_true])) (G.leave (fun h=>by cases h) (fin h0 h1 h2 h3))
open M in
set_option maxHeartbeats 4000000 in
theorem BO {u0 u1 u2 u3 u4:Int} (y0 y1:Int) (a0:U u0) (a1:U u1) (a2:U u2) (a3:U u3) (a4:U u4) (hd:u4<9223372036854775808) :
 aF Tryz.prog Γv 259 (Bk 5 8 2 6) (Hs fF (wc [u0,u1,u2,u3,u4,0,0,0]) (wc [y0,y1,0,0,0,0])) 100 100 { val:=.eL [],wr:=[(61,.own (wc [r5 u0 u1 u2 u3 u4/DD,n4 u1 u2 u3 u4/DD,0,0,0,0]) 196),(63,.own (wc [w0 (r5 u0 u1 u2 u3 u4%DD),w1 (r5 u0 u1 u2 u3 u4%DD),w2 (r5 u0 u1 u2 u3 u4%DD),0,0,0,0,0]) 196)] }:=by
 have hl:=Uw a1 a2 a3 hd
 obtain ⟨b0,b1,b2⟩:=w_U (n4 u1 u2 u3 u4%DD)
 refine gR lC lD Tryz.func259 (by kernel_rfl) rfl (Nat.le_of_ble_eq_true (by kernel_rfl)) rfl [] ?_
 intro w0' Mx V0 Q hb H
 have aT:=lC
 have aX:=lD
 refine G.yT aT aX mix hb [] (aMt u0 u1 u2 u3 u4 y0 y1 11259375 0 0 0) (aA (by simp only [sh,bX,and_true])) ?_
 have fin:∀ h0 h1 h2 h3,G Tryz.prog Γv w0' Mx (bH 100 (Hs fF (wc [u0,u1,u2,u3,u4,0,0,0]) (wc [y0,y1,0,0,0,0]))) Tryz.f259.ntmps 100 V0 (.at (.exit 0)) Ez
  (cB (jL 5 8 2 6 2 18446744073709551615 1 (.int false .u64 (w2 (r5 u0 u1 u2 u3 u4%DD))) (-1)) (jK (wc [h0,h1,h2,h3]) (wc [w0 (r5 u0 u1 u2 u3 u4%DD),w1 (r5 u0 u1 u2 u3 u4%DD),w2 (r5 u0 u1 u2 u3 u4%DD),0,0,0,0,0]) (wc [r5 u0 u1 u2 u3 u4/DD,n4 u1 u2 u3 u4/DD,0,0,0,0])) 101 [61,63] jM) Q:=fun h0 h1 h2 h3=>
  G.fin aT aX mix [] H (aMs u0 u1 u2 u3 u4 y0 y1 _ _ _ _ _ _ _ h0 h1 h2 h3) (by simp) rfl rfl rfl
 refine G.loop (fun r s=>(r=3/\s=cB (jL 5 8 2 6 2 18446744073709551615 1 (.int true .u64 0) 2) (jK (wc [11259375,0,0,0]) (wc [u0,u1,u2,u3,u4,0,0,0]) (wc [y0,y1,0,0,0,0])) 101 [61,63] jM)
  \/ (r=2/\s=cB (jL 5 8 2 6 2 18446744073709551615 1 (.int false .u64 u4) 1) (jK (wc [0,0,0,0]) (wc [u0,u1,u2,u3,u4,0,0,0]) (wc [y0,y1,0,0,0,0])) 101 [61,63] jM)
  \/ (r=1/\∃ h0 h1 h2 h3,s=cB (jL 5 8 2 6 2 18446744073709551615 1 (.int false .u64 (w2 (n4 u1 u2 u3 u4%DD))) 0) (jK (wc [h0,h1,h2,h3]) (wc [u0,w0 (n4 u1 u2 u3 u4%DD),w1 (n4 u1 u2 u3 u4%DD),w2 (n4 u1 u2 u3 u4%DD),0,0,0,0]) (wc [y0,n4 u1 u2 u3 u4/DD,0,0,0,0])) 101 [61,63] jM)
  \/ (r=0/\∃ h0 h1 h2 h3,s=cB (jL 5 8 2 6 2 18446744073709551615 1 (.int false .u64 (w2 (r5 u0 u1 u2 u3 u4%DD))) (-1)) (jK (wc [h0,h1,h2,h3]) (wc [w0 (r5 u0 u1 u2 u3 u4%DD),w1 (r5 u0 u1 u2 u3 u4%DD),w2 (r5 u0 u1 u2 u3 u4%DD),0,0,0,0,0]) (wc [r5 u0 u1 u2 u3 u4/DD,n4 u1 u2 u3 u4/DD,0,0,0,0])) 101 [61,63] jM)) (r0:=3) (.inl ⟨rfl,rfl⟩) ?_
 rintro r s (⟨rfl,rfl⟩ | ⟨rfl,rfl⟩ | ⟨rfl,h0,h1,h2,h3,rfl⟩ | ⟨rfl,h0,h1,h2,h3,rfl⟩)
 .obtain ⟨ps,e,hp⟩:=Iy (aTb u0 u1 y0 y1) (wc [u0,u1,u2,u3,u4,0,0,0]) (wc [y0,y1,0,0,0,0]) 11259375 0 0 0 a2 a3 a4 (by omega)
  exact G.lF aT aX mix hb _ e hp 2 (by omega) (.inr (.inl ⟨rfl,rfl⟩))
 .obtain ⟨hs,g0,g1,g2,g3,ps,e,hp⟩:=oQ ⟨aAn u0 y0,aAm u0 y0,MC u0 y0,AB u0 y0,AD u0 y0,aAl u0 y0⟩ (wc [u0,u1,u2,u3,u4,0,0,0]) (wc [y0,y1,0,0,0,0]) y1 0 0 0 0 a1 a2 a3 a4 hl
  exact G.lF aT aX mix hb _ e hp 1 (by omega) (.inr (.inr (.inl ⟨rfl,g0,g1,g2,g3,rfl⟩)))
 .obtain ⟨hs,g0,g1,g2,g3,ps,e,hp⟩:=oQ ⟨aAk (n4 u1 u2 u3 u4/DD),aAj (n4 u1 u2 u3 u4/DD),MB (n4 u1 u2 u3 u4/DD),Zz (n4 u1 u2 u3 u4/DD),AA (n4 u1 u2 u3 u4/DD),aAi (n4 u1 u2 u3 u4/DD)⟩ (wc [u0,u1,u2,u3,u4,0,0,0]) (wc [y0,y1,0,0,0,0]) y0 h0 h1 h2 h3 a0 b0 b1 b2 (aDy a0)
  exact G.lF aT aX mix hb _ e hp 0 (by omega) (.inr (.inr (.inr ⟨rfl,g0,g1,g2,g3,rfl⟩)))
 .exact G.yT aT aX mix hb [] (aMr u0 u1 u2 u3 u4 y0 y1 _ _ _ _ _ _ _ h0 h1 h2 h3) (aA (by simp only [sh,bX,and_true])) (G.leave (fun h=>by cases h) (fin h0 h1 h2 h3))
open M in
set_option maxHeartbeats 4000000 in
theorem BN {u0 u1 u2 u3 u4:Int} (y0 y1:Int) (a0:U u0) (a1:U u1) (a2:U u2) (a3:U u3) (a4:U u4) (hd:u4<9223372036854775808) :
 aF Tryz.prog Γv 259 (Bk 5 9 2 6) (Hs fF (wc [u0,u1,u2,u3,u4,0,0,0,0]) (wc [y0,y1,0,0,0,0])) 100 100 { val:=.eL [],wr:=[(61,.own (wc [r5 u0 u1 u2 u3 u4/DD,n4 u1 u2 u3 u4/DD,0,0,0,0]) 196),(63,.own (wc [w0 (r5 u0 u1 u2 u3 u4%DD),w1 (r5 u0 u1 u2 u3 u4%DD),w2 (r5 u0 u1 u2 u3 u4%DD),0,0,0,0,0,0]) 196)] }:=by
 have hl:=Uw a1 a2 a3 hd
 obtain ⟨b0,b1,b2⟩:=w_U (n4 u1 u2 u3 u4%DD)
 refine gR lC lD Tryz.func259 (by kernel_rfl) rfl (Nat.le_of_ble_eq_true (by kernel_rfl)) rfl [] ?_
 intro w0' Mx V0 Q hb H
 have aT:=lC
 have aX:=lD
 refine G.yT aT aX mix hb [] (aMq u0 u1 u2 u3 u4 y0 y1 11259375 0 0 0) (aA (by simp only [sh,bX,and_true])) ?_
 have fin:∀ h0 h1 h2 h3,G Tryz.prog Γv w0' Mx (bH 100 (Hs fF (wc [u0,u1,u2,u3,u4,0,0,0,0]) (wc [y0,y1,0,0,0,0]))) Tryz.f259.ntmps 100 V0 (.at (.exit 0)) Ez
  (cB (jL 5 9 2 6 2 18446744073709551615 1 (.int false .u64 (w2 (r5 u0 u1 u2 u3 u4%DD))) (-1)) (jK (wc [h0,h1,h2,h3]) (wc [w0 (r5 u0 u1 u2 u3 u4%DD),w1 (r5 u0 u1 u2 u3 u4%DD),w2 (r5 u0 u1 u2 u3 u4%DD),0,0,0,0,0,0]) (wc [r5 u0 u1 u2 u3 u4/DD,n4 u1 u2 u3 u4/DD,0,0,0,0])) 101 [61,63] jM) Q:=fun h0 h1 h2 h3=>
  G.fin aT aX mix [] H (aMp u0 u1 u2 u3 u4 y0 y1 _ _ _ _ _ _ _ h0 h1 h2 h3) (by simp) rfl rfl rfl
 refine G.loop (fun r s=>(r=3/\s=cB (jL 5 9 2 6 2 18446744073709551615 1 (.int true .u64 0) 2) (jK (wc [11259375,0,0,0]) (wc [u0,u1,u2,u3,u4,0,0,0,0]) (wc [y0,y1,0,0,0,0])) 101 [61,63] jM)
  \/ (r=2/\s=cB (jL 5 9 2 6 2 18446744073709551615 1 (.int false .u64 u4) 1) (jK (wc [0,0,0,0]) (wc [u0,u1,u2,u3,u4,0,0,0,0]) (wc [y0,y1,0,0,0,0])) 101 [61,63] jM)
  \/ (r=1/\∃ h0 h1 h2 h3,s=cB (jL 5 9 2 6 2 18446744073709551615 1 (.int false .u64 (w2 (n4 u1 u2 u3 u4%DD))) 0) (jK (wc [h0,h1,h2,h3]) (wc [u0,w0 (n4 u1 u2 u3 u4%DD),w1 (n4 u1 u2 u3 u4%DD),w2 (n4 u1 u2 u3 u4%DD),0,0,0,0,0]) (wc [y0,n4 u1 u2 u3 u4/DD,0,0,0,0])) 101 [61,63] jM)
  \/ (r=0/\∃ h0 h1 h2 h3,s=cB (jL 5 9 2 6 2 18446744073709551615 1 (.int false .u64 (w2 (r5 u0 u1 u2 u3 u4%DD))) (-1)) (jK (wc [h0,h1,h2,h3]) (wc [w0 (r5 u0 u1 u2 u3 u4%DD),w1 (r5 u0 u1 u2 u3 u4%DD),w2 (r5 u0 u1 u2 u3 u4%DD),0,0,0,0,0,0]) (wc [r5 u0 u1 u2 u3 u4/DD,n4 u1 u2 u3 u4/DD,0,0,0,0])) 101 [61,63] jM)) (r0:=3) (.inl ⟨rfl,rfl⟩) ?_
 rintro r s (⟨rfl,rfl⟩ | ⟨rfl,rfl⟩ | ⟨rfl,h0,h1,h2,h3,rfl⟩ | ⟨rfl,h0,h1,h2,h3,rfl⟩)
 .obtain ⟨ps,e,hp⟩:=Iy (aTa u0 u1 y0 y1) (wc [u0,u1,u2,u3,u4,0,0,0,0]) (wc [y0,y1,0,0,0,0]) 11259375 0 0 0 a2 a3 a4 (by omega)
  exact G.lF aT aX mix hb _ e hp 2 (by omega) (.inr (.inl ⟨rfl,rfl⟩))
 .obtain ⟨hs,g0,g1,g2,g3,ps,e,hp⟩:=oQ ⟨aAh u0 y0,aAg u0 y0,MA u0 y0,Zx u0 y0,Zy u0 y0,aAf u0 y0⟩ (wc [u0,u1,u2,u3,u4,0,0,0,0]) (wc [y0,y1,0,0,0,0]) y1 0 0 0 0 a1 a2 a3 a4 hl
  exact G.lF aT aX mix hb _ e hp 1 (by omega) (.inr (.inr (.inl ⟨rfl,g0,g1,g2,g3,rfl⟩)))
 .obtain ⟨hs,g0,g1,g2,g3,ps,e,hp⟩:=oQ ⟨aAe (n4 u1 u2 u3 u4/DD),aAd (n4 u1 u2 u3 u4/DD),LZ (n4 u1 u2 u3 u4/DD),Zv (n4 u1 u2 u3 u4/DD),Zw (n4 u1 u2 u3 u4/DD),aAc (n4 u1 u2 u3 u4/DD)⟩ (wc [u0,u1,u2,u3,u4,0,0,0,0]) (wc [y0,y1,0,0,0,0]) y0 h0 h1 h2 h3 a0 b0 b1 b2 (aDy a0)
  exact G.lF aT aX mix hb _ e hp 0 (by omega) (.inr (.inr (.inr ⟨rfl,g0,g1,g2,g3,rfl⟩)))
 .exact G.yT aT aX mix hb [] (aMo u0 u1 u2 u3 u4 y0 y1 _ _ _ _ _ _ _ h0 h1 h2 h3) (aA (by simp only [sh,bX,and_true])) (G.leave (fun h=>by cases h) (fin h0 h1 h2 h3))
theorem aH.aR {P:Program} {Γ Γ':Env} {f:FuncId} {S:Sum} (h:aH P Γ f S) (hg:Γ'.aR=Γ.aR):aH P Γ' f S:=
 fun vs T lab F e he ho w0 M V T2 w xs aL hT Yb=>h vs T lab F e he ho w0 M V T2 w xs aL hT (fun n l hl=>Yb n l (by rw [hg];exact hl))
namespace M
def nl:List Int->Nat
 | []=>0
 | x::r=>match nl r with
   | 0=>if x=0 then 0 else 1
   | k+1=>k+2
end M
def nmT (ws:List SV):aZ:=fun l=>look l [(63,.own ws 196)]
noncomputable def Fz (n cap:Nat) (ws:List SV) (h:List Bool):Option bJ:=aJ Γv Tryz.f186 true h 400 [.aG 63 true 0 n cap] (nmT ws) 100 100
namespace M
theorem GA:∀ l:List Int,nl l<=l.length
 | []=>Nat.le_refl _
 | x::r=>by
   have:=GA r
   simp only [nl,List.length_cons]
   split
   .split <;> omega
   .omega
end M
def nmH (n:Nat):Nat->List Bool
 | 0=>List.replicate n true
 | k+1=>List.replicate (n-(k+1)) true++[false]
def nmO (ws:List Int):Nat->List Prop
 | 0=>ws.map fun a=>(a==0)=true
 | k+1=>((ws.getD k 0==0)=false)::(ws.drop (k+1)).map fun a=>(a==0)=true
theorem JF:∀ ws:List Int,∀ q∈nmO ws (M.nl ws),q
 | [],q,h=>by cases h
 | x::r,q,h=>by
   have ih:=JF r
   unfold M.nl at h
   cases hn:M.nl r with
   | zero=>
     rw [hn] at h ih
     simp only at h
     by_cases hx:x=0
     .rw [if_pos hx] at h
      rcases List.mem_cons.1 h with rfl | h
      .simpa using hx
      .exact ih q h
     .rw [if_neg hx] at h
      rcases List.mem_cons.1 h with rfl | h
      .simpa using hx
      .exact ih q h
   | succ k=>
     rw [hn] at h ih
     exact ih q h
theorem nm1 {cap:Nat} (hc:cap=1\/cap=1) (zs:List SV) (a0:Int) (k:Nat) (hk:k<=1):Fz 1 cap (wc [a0]++zs) (nmH 1 k)=some { bM:=nmO [a0] k,val:=.aG 63 true 0 k cap }:=by
 rcases hc with rfl | rfl <;> rcases (by omega:k=0\/k=1) with rfl | rfl <;> kernel_rfl
theorem nm2 {cap:Nat} (hc:cap=6\/cap=6) (zs:List SV) (a0 a1:Int) (k:Nat) (hk:k<=2):Fz 2 cap (wc [a0,a1]++zs) (nmH 2 k)=some { bM:=nmO [a0,a1] k,val:=.aG 63 true 0 k cap }:=by
 rcases hc with rfl | rfl <;> rcases (by omega:k=0\/k=1\/k=2) with rfl | rfl | rfl <;> kernel_rfl
theorem nm3 {cap:Nat} (hc:cap=7\/cap=7) (zs:List SV) (a0 a1 a2:Int) (k:Nat) (hk:k<=3):Fz 3 cap (wc [a0,a1,a2]++zs) (nmH 3 k)=some { bM:=nmO [a0,a1,a2] k,val:=.aG 63 true 0 k cap }:=by
 rcases hc with rfl | rfl <;> rcases (by omega:k=0\/k=1\/k=2\/k=3) with rfl | rfl | rfl | rfl <;> kernel_rfl
theorem nm4 {cap:Nat} (hc:cap=7\/cap=8) (zs:List SV) (a0 a1 a2 a3:Int) (k:Nat) (hk:k<=4):Fz 4 cap (wc [a0,a1,a2,a3]++zs) (nmH 4 k)=some { bM:=nmO [a0,a1,a2,a3] k,val:=.aG 63 true 0 k cap }:=by
 rcases hc with rfl | rfl <;> rcases (by omega:k=0\/k=1\/k=2\/k=3\/k=4) with rfl | rfl | rfl | rfl | rfl <;> kernel_rfl
theorem nm5 {cap:Nat} (hc:cap=8\/cap=9) (zs:List SV) (a0 a1 a2 a3 a4:Int) (k:Nat) (hk:k<=5):Fz 5 cap (wc [a0,a1,a2,a3,a4]++zs) (nmH 5 k)=some { bM:=nmO [a0,a1,a2,a3,a4] k,val:=.aG 63 true 0 k cap }:=by
 rcases hc with rfl | rfl <;> rcases (by omega:k=0\/k=1\/k=2\/k=3\/k=4\/k=5) with rfl | rfl | rfl | rfl | rfl | rfl <;> kernel_rfl
theorem pI {n cap:Nat} {ws:List Int} {zs:List SV} (h:∀ k,k<=ws.length->Fz n cap (wc ws++zs) (nmH n k)=some { bM:=nmO ws k,val:=.aG 63 true 0 k cap }):aF Tryz.prog Γv 186 [.aG 63 true 0 n cap] (nmT (wc ws++zs)) 100 100 { val:=.aG 63 false 0 (M.nl ws) cap }:=
 ((aM lC lD mix Tryz.func186 (by kernel_rfl) true _ 400).call (h _ (M.GA ws)) (JF ws)).words rfl (fun _=>rfl) (fun _ _ h=>h) (fun _=>rfl) rfl rfl
def FZ (vs:List SV) (T:aZ):Option Canon:=match vs with
 | [.aG l true 0 n cap]=>match T l with
   | some (.own cs 196)=>match cX .u64 cs with
     | some [a0]=>match Nat.beq n 1&&Nat.beq cap 1 with
       | true=>some { eR:=[.aG 63 true 0 1 1],T0:=[(63,.own (wc [a0]) 196)],vl:=[(63,.lab l 0)],e0:={ val:=.aG 63 false 0 (M.nl [a0]) 1,wr:=[(63,.own (wc [a0]) 196)] } }
       | false=>none
     | some [a0,a1,_,_,_,_]=>match Nat.beq n 2&&Nat.beq cap 6 with
       | true=>some { eR:=[.aG 63 true 0 2 6],T0:=[(63,.own (wc [a0,a1,0,0,0,0]) 196)],vl:=[(63,.lab l 0)],e0:={ val:=.aG 63 false 0 (M.nl [a0,a1]) 6,wr:=[(63,.own (wc [a0,a1,0,0,0,0]) 196)] } }
       | false=>none
     | some [a0,a1,a2,a3,_,_,_]=>match Nat.beq cap 7 with
       | true=>match Nat.beq n 4 with
         | true=>some { eR:=[.aG 63 true 0 4 7],T0:=[(63,.own (wc [a0,a1,a2,a3,0,0,0]) 196)],vl:=[(63,.lab l 0)],e0:={ val:=.aG 63 false 0 (M.nl [a0,a1,a2,a3]) 7,wr:=[(63,.own (wc [a0,a1,a2,a3,0,0,0]) 196)] } }
         | false=>match Nat.beq n 3 with
           | true=>some { eR:=[.aG 63 true 0 3 7],T0:=[(63,.own (wc [a0,a1,a2,0,0,0,0]) 196)],vl:=[(63,.lab l 0)],e0:={ val:=.aG 63 false 0 (M.nl [a0,a1,a2]) 7,wr:=[(63,.own (wc [a0,a1,a2,0,0,0,0]) 196)] } }
           | false=>none
       | false=>none
     | some [a0,a1,a2,a3,a4,_,_,_]=>match Nat.beq cap 8 with
       | true=>match Nat.beq n 4 with
         | true=>some { eR:=[.aG 63 true 0 4 8],T0:=[(63,.own (wc [a0,a1,a2,a3,0,0,0,0]) 196)],vl:=[(63,.lab l 0)],e0:={ val:=.aG 63 false 0 (M.nl [a0,a1,a2,a3]) 8,wr:=[(63,.own (wc [a0,a1,a2,a3,0,0,0,0]) 196)] } }
         | false=>match Nat.beq n 5 with
           | true=>some { eR:=[.aG 63 true 0 5 8],T0:=[(63,.own (wc [a0,a1,a2,a3,a4,0,0,0]) 196)],vl:=[(63,.lab l 0)],e0:={ val:=.aG 63 false 0 (M.nl [a0,a1,a2,a3,a4]) 8,wr:=[(63,.own (wc [a0,a1,a2,a3,a4,0,0,0]) 196)] } }
           | false=>none
       | false=>none
     | some [a0,a1,a2,a3,a4,_,_,_,_]=>match Nat.beq n 5&&Nat.beq cap 9 with
       | true=>some { eR:=[.aG 63 true 0 5 9],T0:=[(63,.own (wc [a0,a1,a2,a3,a4,0,0,0,0]) 196)],vl:=[(63,.lab l 0)],e0:={ val:=.aG 63 false 0 (M.nl [a0,a1,a2,a3,a4]) 9,wr:=[(63,.own (wc [a0,a1,a2,a3,a4,0,0,0,0]) 196)] } }
       | false=>none
     | _=>none
   | _=>none
 | _=>none
theorem aEi (Γ:Env) (hg:Γ.aR=aB) {vs:List SV} {T:aZ} {c:Canon} (hd:FZ vs T=some c):aF Tryz.prog Γ 186 c.eR (fun l=>look l c.T0) 100 100 c.e0:=by
 unfold FZ at hd
 split at hd
 case h_2=>cases hd
 split at hd
 case h_2=>cases hd
 split at hd
 case h_6=>cases hd
 .split at hd
  case h_2=>cases hd
  cases hd
  exact ((pI (ws:=[_]) (zs:=wc []) (nm1 (.inl rfl) _ _)).bE 63 _ rfl (by decide)).words (by rw [hg];rfl) (fun _=>rfl) (fun _ _ h=>h) (fun _=>rfl) rfl rfl
 .split at hd
  case h_2=>cases hd
  cases hd
  exact ((pI (ws:=[_,_]) (zs:=wc [0,0,0,0]) (nm2 (.inl rfl) _ _ _)).bE 63 _ rfl (by decide)).words (by rw [hg];rfl) (fun _=>rfl) (fun _ _ h=>h) (fun _=>rfl) rfl rfl
 .split at hd
  case h_2=>cases hd
  split at hd
  .cases hd
   exact ((pI (ws:=[_,_,_,_]) (zs:=wc [0,0,0]) (nm4 (.inl rfl) _ _ _ _ _)).bE 63 _ rfl (by decide)).words (by rw [hg];rfl) (fun _=>rfl) (fun _ _ h=>h) (fun _=>rfl) rfl rfl
  .split at hd
   case h_2=>cases hd
   cases hd
   exact ((pI (ws:=[_,_,_]) (zs:=wc [0,0,0,0]) (nm3 (.inl rfl) _ _ _ _)).bE 63 _ rfl (by decide)).words (by rw [hg];rfl) (fun _=>rfl) (fun _ _ h=>h) (fun _=>rfl) rfl rfl
 .split at hd
  case h_2=>cases hd
  split at hd
  .cases hd
   exact ((pI (ws:=[_,_,_,_]) (zs:=wc [0,0,0,0]) (nm4 (.inr rfl) _ _ _ _ _)).bE 63 _ rfl (by decide)).words (by rw [hg];rfl) (fun _=>rfl) (fun _ _ h=>h) (fun _=>rfl) rfl rfl
  .split at hd
   case h_2=>cases hd
   cases hd
   exact ((pI (ws:=[_,_,_,_,_]) (zs:=wc [0,0,0]) (nm5 (.inl rfl) _ _ _ _ _ _)).bE 63 _ rfl (by decide)).words (by rw [hg];rfl) (fun _=>rfl) (fun _ _ h=>h) (fun _=>rfl) rfl rfl
 .split at hd
  case h_2=>cases hd
  cases hd
  exact ((pI (ws:=[_,_,_,_,_]) (zs:=wc [0,0,0,0]) (nm5 (.inr rfl) _ _ _ _ _ _)).bE 63 _ rfl (by decide)).words (by rw [hg];rfl) (fun _=>rfl) (fun _ _ h=>h) (fun _=>rfl) rfl rfl
def tD (iq ir:Nat) (vs:List SV) (T:aZ):Option Canon:=match FZ vs T with
 | some c=>match c.eR,c.e0.val with
   | [.aG _ _ _ n _],.aG 63 false 0 k cap=>match Nat.ble n 2 with
     | true=>some { c with e0:={ c.e0 with val:=.aG 63 true 0 iq cap },conds:=[k=iq] }
     | false=>some { c with e0:={ c.e0 with val:=.aG 63 true 0 ir cap },conds:=[k=ir] }
   | _,_=>none
 | none=>none
theorem Cj (iq ir:Nat) (Γ:Env) (hg:Γ.aR=aB):aH Tryz.prog Γ 186 (aK aB 100 (tD iq ir)):=by
 refine aW hg fun vs T c hd hc=>?_
 unfold tD at hd
 split at hd
 case h_2=>cases hd
 rename_i c0 h0
 split at hd
 case h_2=>cases hd
 rename_i hv
 split at hd
 .cases hd
  have hk:=hc _ cM
  refine (aEi Γ hg h0).words rfl (fun _=>rfl) (fun _ _ h=>h) (fun V=>?_) rfl rfl
  rw [hv,hk];rfl
 .cases hd
  have hk:=hc _ cM
  refine (aEi Γ hg h0).words rfl (fun _=>rfl) (fun _ _ h=>h) (fun V=>?_) rfl rfl
  rw [hv,hk];rfl
def aGz (c c':Nat):List SV:=[.aG 61 true 0 3 c,.aG 62 true 0 3 c']
def cmT (xs ys:List Int):aZ:=fun l=>look l [(61,.nM .u64 xs),(62,.nM .u64 ys)]
noncomputable def yL (c c':Nat) (xs ys:List Int) (h:List Bool):Option bJ:=aJ Γv Tryz.f154 true h 400 (aGz c c') (cmT xs ys) 100 100
theorem bAy (c c':Nat) (x0 x1 x2 y0 y1 y2:Int) (xs ys:List Int) :
 yL c c' (x0::x1::x2::xs) (y0::y1::y2::ys) [false,true] =
 sh (x0::x1::x2::xs) fun z0=>
 sh (y0::y1::y2::ys) fun z1=>
 sh (2:Nat) fun z2=>
 sh (0:Int) fun z3=>
 sh (3:Nat) fun z4=>
 some {bM:=[decide (z0.getD z2 z3<z1.getD z2 z3)=true,z4<=z1.length,z4<=z0.length,(z0.getD z2 z3==z1.getD z2 z3)=false,z4<=z1.length,z4<=z0.length],val:=SV.int true IntKind.i64 (Int.negSucc 0)}:=by kernel_rfl
theorem bAx (c c':Nat) (x0 x1 x2 y0 y1 y2:Int) (xs ys:List Int) :
 yL c c' (x0::x1::x2::xs) (y0::y1::y2::ys) [false,false,true] =
 sh (x0::x1::x2::xs) fun z0=>
 sh (y0::y1::y2::ys) fun z1=>
 sh (2:Nat) fun z2=>
 sh (0:Int) fun z3=>
 sh (3:Nat) fun z4=>
 some {bM:=[decide (z0.getD z2 z3>z1.getD z2 z3)=true,z4<=z1.length,z4<=z0.length,decide (z0.getD z2 z3<z1.getD z2 z3)=false,z4<=z1.length,z4<=z0.length,(z0.getD z2 z3==z1.getD z2 z3)=false,z4<=z1.length,z4<=z0.length],val:=SV.int true IntKind.i64 (1:Int)}:=by kernel_rfl
theorem bAw (c c':Nat) (x0 x1 x2 y0 y1 y2:Int) (xs ys:List Int) :
 yL c c' (x0::x1::x2::xs) (y0::y1::y2::ys) [true,false,true] =
 sh (x0::x1::x2::xs) fun z0=>
 sh (y0::y1::y2::ys) fun z1=>
 sh (0:Int) fun z2=>
 sh (2:Nat) fun z3=>
 sh (1:Nat) fun z4=>
 some {bM:=[decide (z0.getD z4 z2<z1.getD z4 z2)=true,z3<=z1.length,z3<=z0.length,(z0.getD z4 z2==z1.getD z4 z2)=false,z3<=z1.length,z3<=z0.length,(z0.getD z3 z2==z1.getD z3 z2)=true,(3:Nat)<=z1.length,(3:Nat)<=z0.length],val:=SV.int true IntKind.i64 (Int.negSucc 0)}:=by kernel_rfl
theorem bAv (c c':Nat) (x0 x1 x2 y0 y1 y2:Int) (xs ys:List Int) :
 yL c c' (x0::x1::x2::xs) (y0::y1::y2::ys) [true,false,false,true] =
 sh (x0::x1::x2::xs) fun z0=>
 sh (y0::y1::y2::ys) fun z1=>
 sh (0:Int) fun z2=>
 sh (2:Nat) fun z3=>
 sh (1:Nat) fun z4=>
 some {bM:=[decide (z0.getD z4 z2>z1.getD z4 z2)=true,z3<=z1.length,z3<=z0.length,decide (z0.getD z4 z2<z1.getD z4 z2)=false,z3<=z1.length,z3<=z0.length,(z0.getD z4 z2==z1.getD z4 z2)=false,z3<=z1.length,z3<=z0.length,(z0.getD z3 z2==z1.getD z3 z2)=true,(3:Nat)<=z1.length,(3:Nat)<=z0.length],val:=SV.int true IntKind.i64 (1:Int)}:=by kernel_rfl
theorem bAu (c c':Nat) (x0 x1 x2 y0 y1 y2:Int) (xs ys:List Int) :
 yL c c' (x0::x1::x2::xs) (y0::y1::y2::ys) [true,true,true] =
 sh (x0::x1::x2::xs) fun z0=>
 sh (y0::y1::y2::ys) fun z1=>
 sh (0:Int) fun z2=>
 sh (1:Nat) fun z3=>
 sh (2:Nat) fun z4=>
 some {bM:=[decide (z0.getD (0:Nat) z2<z1.getD (0:Nat) z2)=true,z3<=z1.length,z3<=z0.length,(z0.getD z3 z2==z1.getD z3 z2)=true,z4<=z1.length,z4<=z0.length,(z0.getD z4 z2==z1.getD z4 z2)=true,(3:Nat)<=z1.length,(3:Nat)<=z0.length],val:=SV.int true IntKind.i64 (Int.negSucc 0)}:=by kernel_rfl
theorem bAt (c c':Nat) (x0 x1 x2 y0 y1 y2:Int) (xs ys:List Int) :
 yL c c' (x0::x1::x2::xs) (y0::y1::y2::ys) [true,true,false,true] =
 sh (x0::x1::x2::xs) fun z0=>
 sh (y0::y1::y2::ys) fun z1=>
 sh (0:Int) fun z2=>
 sh (1:Nat) fun z3=>
 sh (0:Nat) fun z4=>
 sh (2:Nat) fun z5=>
 some {bM:=[decide (z0.getD z4 z2>z1.getD z4 z2)=true,z3<=z1.length,z3<=z0.length,decide (z0.getD z4 z2<z1.getD z4 z2)=false,z3<=z1.length,z3<=z0.length,(z0.getD z3 z2==z1.getD z3 z2)=true,z5<=z1.length,z5<=z0.length,(z0.getD z5 z2==z1.getD z5 z2)=true,(3:Nat)<=z1.length,(3:Nat)<=z0.length],val:=SV.int true IntKind.i64 (1:Int)}:=by kernel_rfl
theorem bAs (c c':Nat) (x0 x1 x2 y0 y1 y2:Int) (xs ys:List Int) :
 yL c c' (x0::x1::x2::xs) (y0::y1::y2::ys) [true,true,false,false] =
 sh (x0::x1::x2::xs) fun z0=>
 sh (y0::y1::y2::ys) fun z1=>
 sh (0:Int) fun z2=>
 sh (1:Nat) fun z3=>
 sh (0:Nat) fun z4=>
 sh (2:Nat) fun z5=>
 some {bM:=[decide (z0.getD z4 z2>z1.getD z4 z2)=false,z3<=z1.length,z3<=z0.length,decide (z0.getD z4 z2<z1.getD z4 z2)=false,z3<=z1.length,z3<=z0.length,(z0.getD z3 z2==z1.getD z3 z2)=true,z5<=z1.length,z5<=z0.length,(z0.getD z5 z2==z1.getD z5 z2)=true,(3:Nat)<=z1.length,(3:Nat)<=z0.length],val:=SV.int true IntKind.i64 z2}:=by kernel_rfl
namespace M
def cmp (x y:Int):Int:=if x<y then -1 else if y<x then 1 else 0
def n3 (a b c:Int):Int:=a+18446744073709551616*(b+18446744073709551616*c)
end M
def GN:SB->Option (IntKind × List Int)
 | .ints k xs _=>some (k,xs)
 | .own cs _=>yI cs
 | .fP cs=>yI cs
 | .nM k xs=>some (k,xs)
 | _=>none
def Vf (vs:List SV) (T:aZ):Option Canon:=match vs with
 | [.aG l _ 0 3 c,.aG l' _ 0 3 c']=>match (T l).bind GN,(T l').bind GN with
   | some (.u64,x0::x1::x2::xs),some (.u64,y0::y1::y2::ys)=>some { eR:=aGz c c',T0:=[(61,.nM .u64 (x0::x1::x2::xs)),(62,.nM .u64 (y0::y1::y2::ys))],vl:=[(61,.lab l 0),(62,.lab l' 0)],e0:={ val:=.int false .i64 (M.cmp (M.n3 x0 x1 x2) (M.n3 y0 y1 y2)) },conds:=[M.U x0,M.U x1,M.U x2,M.U y0,M.U y1,M.U y2] }
   | _,_=>none
 | _=>none
theorem aEz (Γ:Env) (hg:Γ.aR=aB):aH Tryz.prog Γ 154 (aK aB 100 Vf):=by
 refine aW hg fun vs T c hd hc=>?_
 unfold Vf at hd
 split at hd
 case h_2=>cases hd
 split at hd
 case h_2=>cases hd
 rename_i c _ _ c' _ _ x0 x1 x2 xs y0 y1 y2 ys _ _
 cases hd
 have a0:M.U x0:=hc _ (by simp)
 have a1:M.U x1:=hc _ (by simp)
 have a2:M.U x2:=hc _ (by simp)
 have b0:M.U y0:=hc _ (by simp)
 have b1:M.U y1:=hc _ (by simp)
 have b2:M.U y2:=hc _ (by simp)
 have:=a0.1;have:=a0.2;have:=a1.1;have:=a1.2;have:=a2.1;have:=a2.2
 have:=b0.1;have:=b0.2;have:=b1.1;have:=b1.2;have:=b2.1;have:=b2.2
 have hs:∀ hs,aH Tryz.prog Γv 154 (aJ Γv Tryz.f154 true hs 400):=fun hs=>aM lC lD mix Tryz.func154 (by kernel_rfl) true hs 400
 have fin:∀ {hs:List Bool} {ob:List Prop} {s:Bool} {r:Int},yL c c' (x0::x1::x2::xs) (y0::y1::y2::ys) hs=some { bM:=ob,val:=.int s .i64 r }->(∀ q∈ob,q)->M.cmp (M.n3 x0 x1 x2) (M.n3 y0 y1 y2)=r ->
  aF Tryz.prog Γ 154 (aGz c c') (fun l=>look l [(61,.nM .u64 (x0::x1::x2::xs)),(62,.nM .u64 (y0::y1::y2::ys))]) 100 100 { val:=.int false .i64 (M.cmp (M.n3 x0 x1 x2) (M.n3 y0 y1 y2)) }:=by
  intro h ob s r e ho hr
  exact ((hs h).call e ho).words (by rw [hg];rfl) (fun _=>rfl) (fun _ _ h=>h) (fun V=>by simp only [den,hr]) rfl rfl
 rcases Int.lt_trichotomy x2 y2 with h | rfl | h
 .exact fin (bAy c c' x0 x1 x2 y0 y1 y2 xs ys) (aA (by simp [bX];omega)) (by unfold M.cmp M.n3;rw [if_pos (by omega)];rfl)
 .rcases Int.lt_trichotomy x1 y1 with h | rfl | h
  .exact fin (bAw c c' x0 x1 x2 y0 y1 x2 xs ys) (aA (by simp [bX];omega)) (by unfold M.cmp M.n3;rw [if_pos (by omega)];rfl)
  .rcases Int.lt_trichotomy x0 y0 with h | rfl | h
   .exact fin (bAu c c' x0 x1 x2 y0 x1 x2 xs ys) (aA (by simp [bX];omega)) (by unfold M.cmp M.n3;rw [if_pos (by omega)];rfl)
   .exact fin (bAs c c' x0 x1 x2 x0 x1 x2 xs ys) (aA (by simp [bX])) (by unfold M.cmp M.n3;rw [if_neg (by omega),if_neg (by omega)])
   .exact fin (bAt c c' x0 x1 x2 y0 x1 x2 xs ys) (aA (by simp [bX];omega)) (by unfold M.cmp M.n3;rw [if_neg (by omega),if_pos (by omega)])
  .exact fin (bAv c c' x0 x1 x2 y0 y1 x2 xs ys) (aA (by simp [bX];omega)) (by unfold M.cmp M.n3;rw [if_neg (by omega),if_pos (by omega)])
 .exact fin (bAx c c' x0 x1 x2 y0 y1 y2 xs ys) (aA (by simp [bX];omega)) (by unfold M.cmp M.n3;rw [if_neg (by omega),if_pos (by omega)])
noncomputable def Fe (ex:Nat->Option Sum) (f0:Nat) (hs:List Bool) (f:Nat):Option Sum:=match Nat.beq f f0 with
 | true=>match Tryz.prog.funcs[f0]? with
   | some fn=>some (aJ (env ex 22) fn true hs 400)
   | none=>none
 | false=>ex f
theorem nS {ex:Nat->Option Sum} (hex:∀ f S,ex f=some S->∀ Γ:Env,Γ.aR=aB->aH Tryz.prog Γ f S) (f0:Nat) (hs:List Bool):∀ f S,Fe ex f0 hs f=some S->∀ Γ:Env,Γ.aR=aB->aH Tryz.prog Γ f S:=by
 intro f S h Γ hg
 unfold Fe at h
 split at h
 .rename_i e
  rw [cH e]
  split at h
  .rename_i fn uB
   cases h
   exact (aM (bQ ex 22) (bW ex hex 22) mix uB (names f0 fn uB) true hs 400).aR (by rw [hg];rfl)
  .cases h
 .exact hex f S h Γ hg
noncomputable def dM (ex:Nat->Option Sum) (f0:Nat) (S0:Sum) (f:Nat):Option Sum:=match Nat.beq f f0 with
 | true=>some S0
 | false=>ex f
theorem bD {ex:Nat->Option Sum} (hex:∀ f S,ex f=some S->∀ Γ:Env,Γ.aR=aB->aH Tryz.prog Γ f S) (f0:Nat) (S0:Sum) (h0:∀ Γ:Env,Γ.aR=aB->aH Tryz.prog Γ f0 S0):∀ f S,dM ex f0 S0 f=some S->∀ Γ:Env,Γ.aR=aB->aH Tryz.prog Γ f S:=by
 intro f S h Γ hg
 unfold dM at h
 split at h
 .rename_i e;cases h;rw [cH e];exact h0 Γ hg
 .exact hex f S h Γ hg
noncomputable def orB (ex:Nat->Option Sum) (f0:Nat) (S0:Sum):Sum:=match Tryz.prog.funcs[f0]? with
 | some fn=>orS S0 (aJ (env ex 22) fn true [] 400)
 | none=>S0
theorem IY {ex:Nat->Option Sum} (hex:∀ f S,ex f=some S->∀ Γ:Env,Γ.aR=aB->aH Tryz.prog Γ f S) (f0:Nat) (S0:Sum) (h0:∀ Γ:Env,Γ.aR=aB->aH Tryz.prog Γ f0 S0):∀ Γ:Env,Γ.aR=aB->aH Tryz.prog Γ f0 (orB ex f0 S0):=by
 intro Γ hg
 unfold orB
 split
 .rename_i fn uB
  exact IX (h0 Γ hg) ((aM (bQ ex 22) (bW ex hex 22) mix uB (names f0 fn uB) true [] 400).aR (by rw [hg];rfl))
 .exact h0 Γ hg
theorem wE {i:Nat} (h:i<1000000):IntKind.i64.wrap ((i:Int)+1)=((i+1:Nat):Int):=by rw [IntWalk.i64_in _ (by omega)];omega
theorem VR {xs b:List Int} {t:TypeId} {off:Nat} (hb:b.length=64) (hx:off+64<=xs.length) :
 aF Tryz.prog qN 81 (aFg off b) (uA xs t) 100 100 { val:=.eL [],wr:=[(60,.ints .u8 (Q.rZ off 64 (b.getD · 0) xs) t)] }:=by
 have aT:=uQ
 have aX:=uR
 refine gR aT aX Tryz.func81 (by kernel_rfl) rfl (Nat.le_of_ble_eq_true (by kernel_rfl)) rfl [] ?_
 intro w0 M V0 Q' eE H
 refine G.fM aT aX mix eE [] (aVi xs xs b b t off off 0) (aA ?_) ?_
 .exact ⟨rfl,rfl,⟨rfl,rfl⟩,⟨rfl,rfl⟩,trivial⟩
 refine G.loop (fun r s=>∃ i:Nat,i<=64/\r=64-i/\s=cB (Pv off i) (Pu (Q.Z off 64 (fun m=>decide (m<i)) (b.getD · 0) xs) b t) 101 [60] []) (r0:=64) ⟨0,by omega,rfl,?_⟩ ?_
 .rw [Q.lP (P':=fun _=>false) _ _ fun m _=>decide_eq_false (by omega),Q.KH];rfl
 rintro r s ⟨i,hi,rfl,rfl⟩
 have hl:=Q.Nz off 64 (fun m=>decide (m<i)) (b.getD · 0) xs
 by_cases h:i<64
 .refine G.lE aT aX mix eE [true] (aVh xs _ (Q.Z off 64 (fun m=>decide (m<i+1)) (b.getD · 0) xs) b b t off off i ((i+1:Nat):Int)) (aA ?_) (64-(i+1)) (by omega) ⟨i+1,by omega,rfl,rfl⟩
  have e1:off+(i:Int).toNat*1=off+i:=by omega
  refine ⟨by rw [hl];omega,by omega,by rw [hb];omega,by omega,by rw [hl];omega,by omega,decide_eq_true (by omega),rfl,wE (by omega),⟨?_,rfl⟩,⟨rfl,rfl⟩,trivial⟩
  rw [e1,Nat.add_zero,show 0+(i:Int).toNat*1+0=i by omega]
  rw [show b.getD i 0=(fun j=>b.getD j 0) i from rfl,Q.aFd h (by omega) (decide_eq_false (by omega))]
  refine Q.lP _ _ fun m hm=>?_
  rw [Bool.eq_iff_iff]
  simp only [Bool.or_eq_true,decide_eq_true_eq,beq_iff_eq]
  omega
 .have e:i=64:=by omega
  subst e
  refine G.fM aT aX mix eE [false] (aVg xs _ (Q.Z off 64 (fun m=>decide (m<64)) (b.getD · 0) xs) b b t off off (64:Nat) (64:Nat)) (aA ?_) (G.leave (by simp) ?_)
  .exact ⟨decide_eq_false (by omega),rfl,rfl,⟨rfl,rfl⟩,⟨rfl,rfl⟩,trivial⟩
  refine G.qR (cl:=[]) aT aX mix [] H (aVf xs _ b t off (64:Nat)) iG rfl rfl ?_
  rw [Q.lP (P':=fun _=>true) _ _ fun m hm=>decide_eq_true (by omega),Q.aFe]
theorem aBk {xs s:List Int} {t:TypeId} {off:Nat} (hs:s.length=16) (hx:off+256<=xs.length) :
 aF Tryz.prog qN 80 (UO off s) (uA xs t) 100 100 { val:=.eL [],wr:=[(60,.ints .u8 (Q.rZ off 256 (Q.jA s) xs) t)] }:=by
 have aT:=uQ
 have aX:=uR
 have UM:=Q.Ty s
 refine gR aT aX Tryz.func80 (by kernel_rfl) rfl (Nat.le_of_ble_eq_true (by kernel_rfl)) rfl [] ?_
 intro w0 M V0 Q' eE H
 refine G.fM aT aX mix eE [] (bAf xs xs s (Q.jI s) (Q.jI s) t off off 0) (aA ?_) ?_
 .exact ⟨rfl,rfl,⟨rfl,rfl⟩,⟨rfl,rfl⟩,(eD UM).symm,trivial⟩
 refine G.loop (fun r s'=>∃ i:Nat,i<=10/\r=10-i/\s'=cB (Lf off i) (Ld xs (Q.jI s) (Q.it (Q.jI s) i) t) 102 [60] []) (r0:=10) ⟨0,by omega,rfl,rfl⟩ ?_
 rintro r s' ⟨i,hi,rfl,rfl⟩
 by_cases h:i<10
 .refine G.lE aT aX mix eE [true] (bAe xs xs xs (Q.jI s) (Q.it (Q.jI s) i) (Q.jI s) (Q.it (Q.jI s) (i+1)) t off off i ((i+1:Nat):Int)) (aA ?_) (10-(i+1)) (by omega) ⟨i+1,by omega,rfl,rfl⟩
  exact ⟨decide_eq_true (by omega),rfl,wE (by omega),⟨rfl,rfl⟩,⟨rfl,rfl⟩,(eD (Q.Ha _ UM (i+1))).symm,trivial⟩
 have e:i=10:=by omega
 subst e
 clear hi h
 have hv:=Q.Ha _ UM 10
 refine G.fM aT aX mix eE [false] (bAd xs xs xs (Q.jI s) (Q.it (Q.jI s) 10) (Q.jI s) (Q.it (Q.jI s) 10) t off off (10:Nat) (10:Nat)) (aA ?_) (G.leave (by simp) ?_)
 .exact ⟨decide_eq_false (by omega),rfl,rfl,⟨rfl,rfl⟩,⟨rfl,rfl⟩,rfl,trivial⟩
 refine G.fM aT aX mix eE [] (bAc xs xs xs (Q.jI s) (Q.it (Q.jI s) 10) (Q.jI s) (Q.it (Q.jI s) 10) t off off (10:Nat) 0) (aA ?_) ?_
 .exact ⟨rfl,rfl,⟨rfl,rfl⟩,⟨rfl,rfl⟩,⟨eD hv,rfl⟩,trivial⟩
 refine G.loop (fun r s'=>∃ i:Nat,i<=16/\r=16-i/\s'=cB (Le off i) (sS (Q.Z off 256 (Q.dn i 0) (Q.jA s) xs) (Q.jI s) (Q.it (Q.jI s) 10) t) 102 [60] []) (r0:=16) ⟨0,by omega,rfl,by rw [Q.bAq];rfl⟩ ?_
 rintro r s' ⟨i,hi,rfl,rfl⟩
 by_cases h:i<16
 .refine G.fM aT aX mix eE [true] (aZz xs _ (Q.Z off 256 (Q.dn i 0) (Q.jA s) xs) (Q.jI s) (Q.it (Q.jI s) 10) (Q.jI s) (Q.it (Q.jI s) 10) t off off i i 0) (aA ?_) ?_
  .exact ⟨decide_eq_true (by omega),rfl,rfl,rfl,rfl,⟨rfl,rfl⟩,⟨rfl,rfl⟩,⟨rfl,rfl⟩,trivial⟩
  refine G.loop (fun r s'=>∃ k:Nat,k<=4/\r=4-k/\s'=cB (Qe off i k) (sS (Q.Z off 256 (Q.dn i k) (Q.jA s) xs) (Q.jI s) (Q.it (Q.jI s) 10) t) 102 [60] []) (r0:=4) ⟨0,by omega,rfl,rfl⟩ ?_
  rintro r s' ⟨k,hk,rfl,rfl⟩
  have hl:=Q.Nz off 256 (Q.dn i k) (Q.jA s) xs
  by_cases h4:k<4
  .refine G.lE aT aX mix eE [true] (aZy xs _ (Q.Z off 256 (Q.dn i (k+1)) (Q.jA s) xs) (Q.jI s) (Q.it (Q.jI s) 10) (Q.jI s) (Q.it (Q.jI s) 10) t off off i i k ((k+1:Nat):Int)) ?_ (4-(k+1)) (by omega) ⟨k+1,by omega,rfl,rfl⟩
   have ho:∀ n,n<=4->∀ r:List Prop,(∀ q∈r,q)->∀ q∈Q.ob off (Q.it (Q.jI s) 10) (Q.jI s) i k (Q.Z off 256 (Q.dn i k) (Q.jA s) xs) n r,q:=by
    intro n
    induction n with
    | zero=>intro _ r hr;exact hr
    | succ n ih=>
      intro hn r hr
      have e1:=Q.aFc off h h4 (n:=n) (by omega)
      have e2:=Q.aEn h h4 (n:=n) (by omega)
      have e3:=Q.Oa off (Q.it (Q.jI s) 10) (Q.jI s) i k (Q.Z off 256 (Q.dn i k) (Q.jA s) xs) n
      rw [Q.ob,e1,e2,e3,hl]
      exact aO (by omega) (aO (by omega) (aO (by omega) (aO (by omega) (ih (by omega) r hr))))
   refine ho 4 (Nat.le_refl 4) _ (aA ?_)
   refine ⟨by rw [UM];omega,by omega,by omega,by rw [hv];omega,by omega,by omega,decide_eq_true (by omega),rfl,rfl,rfl,wE (by omega),⟨Q.bBv hs h h4 hx,rfl⟩,⟨rfl,rfl⟩,⟨rfl,rfl⟩,trivial⟩
  .have e:k=4:=by omega
   subst e
   refine G.fM aT aX mix eE [false] (aZx xs _ (Q.Z off 256 (Q.dn i 4) (Q.jA s) xs) (Q.jI s) (Q.it (Q.jI s) 10) (Q.jI s) (Q.it (Q.jI s) 10) t off off i i (4:Nat) (4:Nat)) (aA ?_) (G.leave (by simp) ?_)
   .exact ⟨decide_eq_false (by omega),rfl,rfl,rfl,rfl,⟨rfl,rfl⟩,⟨rfl,rfl⟩,⟨rfl,rfl⟩,trivial⟩
   refine G.lE aT aX mix eE [] (aZw xs _ (Q.Z off 256 (Q.dn (i+1) 0) (Q.jA s) xs) (Q.jI s) (Q.it (Q.jI s) 10) (Q.jI s) (Q.it (Q.jI s) 10) t off off i ((i+1:Nat):Int) (4:Nat)) (aA ?_) (16-(i+1)) (by omega) ⟨i+1,by omega,rfl,rfl⟩
   exact ⟨rfl,wE (by omega),⟨Q.aCu _ _ _ _,rfl⟩,⟨rfl,rfl⟩,⟨rfl,rfl⟩,trivial⟩
 .have e:i=16:=by omega
  subst e
  refine G.fM aT aX mix eE [false] (bAb xs _ (Q.Z off 256 (Q.dn 16 0) (Q.jA s) xs) (Q.jI s) (Q.it (Q.jI s) 10) (Q.jI s) (Q.it (Q.jI s) 10) t off off (16:Nat) (16:Nat)) (aA ?_) (G.leave (by simp) ?_)
  .exact ⟨decide_eq_false (by omega),rfl,rfl,⟨rfl,rfl⟩,⟨rfl,rfl⟩,⟨rfl,rfl⟩,trivial⟩
  refine G.qR (cl:=[]) aT aX mix [] H (bAa xs _ (Q.jI s) (Q.it (Q.jI s) 10) t off (16:Nat)) iG rfl rfl ?_
  rw [Q.aUm]
namespace Q
def one (s:List Int):List Int:=B.out (B.rounds 10 s) s
def x4 (off:Nat) (s xs:List Int):List Int:=rZ off 256 (jA s) xs
def tn (off:Nat) (b xs:List Int):List Int:=rZ off 64 (b.getD · 0) xs
end Q
theorem WC (V:aY) (key nonce:List Int) (c:Int):den V (.agg (siV key nonce c))=den V (.ai .u32 (B.init key nonce c)):=rfl
theorem VZ (key nonce:List Int) (c:Int) (hk:key.length=32) (hn:nonce.length=12) (Γ:Env) (hg:Γ.aR=aB) :
 aF Tryz.prog Γ 76 [.ai .u8 key,.int false .u32 c,.ai .u8 nonce] Dx 100 100 { val:=.ai .u32 (B.init key nonce c) }:=by
 have hs:aH Tryz.prog (env gC 4) 76 (aJ (env gC 4) Tryz.f76 true [] 400):=aM (bQ gC 4) (mY 4) mix Tryz.func76 (by kernel_rfl) true [] 400
 refine (hs.call (aHy key nonce c) iG).words (by rw [hg];rfl) (fun V=>?_) (fun _ _ h=>h) (fun V=>WC V _ _ _) rfl rfl
 simp only [aE,bI V hk,bI V hn]
theorem LF (s:List Int) (hl:s.length=16) (Γ:Env) (hg:Γ.aR=aB):aF Tryz.prog Γ 82 [.ai .u32 s] Dx 100 100 { val:=.ai .u8 (Q.one s) }:=by
 have hs:aH Tryz.prog (env gC 4) 82 (aJ (env gC 4) Tryz.f82 true [] 400):=aM (bQ gC 4) (mY 4) mix Tryz.func82 (by kernel_rfl) true [] 400
 have h:=hs.call (YV s) iG
 rw [eD hl] at h
 refine h.words (by rw [hg];rfl) (fun V=>?_) (fun _ _ h=>h) (fun V=>nE V _ _) rfl rfl
 simp only [aE,bI V hl]
theorem LY (s b:Bool) (Γ:Env) (hg:Γ.aR=aB):aF Tryz.prog Γ 77 [.raw (.pointer none),.bool s b] Dx 100 100 { val:=.bool s b }:=by
 have hs:aH Tryz.prog (env gC 2) 77 (aJ (env gC 2) Tryz.f77 true [] 400):=aM (bQ gC 2) (mY 2) mix Tryz.func77 (by kernel_rfl) true [] 400
 have h1:aJ (env gC 2) Tryz.f77 true [] 400 [.raw (.pointer none),.bool true true] (fun _=>none) 100 100=some { val:=.bool true true }:=by kernel_rfl
 have h2:aJ (env gC 2) Tryz.f77 true [] 400 [.raw (.pointer none),.bool true false] (fun _=>none) 100 100=some { val:=.bool true false }:=by kernel_rfl
 cases b with
 | true=>exact (hs.call h1 iG).words (by rw [hg];rfl) (fun _=>rfl) (fun _ _ h=>by cases h) (fun _=>rfl) rfl rfl
 | false=>exact (hs.call h2 iG).words (by rw [hg];rfl) (fun _=>rfl) (fun _ _ h=>by cases h) (fun _=>rfl) rfl rfl
def tG (vs:List SV) (_:aZ):Option Canon:=match vs with
 | [.raw (.pointer none),.bool s b]=>some { eR:=[.raw (.pointer none),.bool s b],T0:=[],vl:=[],e0:={ val:=.bool s b } }
 | _=>none
theorem Cm (Γ:Env) (hg:Γ.aR=aB):aH Tryz.prog Γ 77 (aK aB 100 tG):=by
 refine aW hg fun vs T c hd hc=>?_
 unfold tG at hd
 split at hd
 case h_2=>cases hd
 cases hd
 exact LY _ _ Γ hg
def EV (si:List Int->List Int->Int->List Int) (vs:List SV) (_:aZ):Option Canon:=match vs with
 | [ks,.int _ .u32 c,ns]=>match cJ ks,cJ ns with
   | some (.u8,k),some (.u8,n)=>some { eR:=[.ai .u8 k,.int false .u32 c,.ai .u8 n],T0:=[],vl:=[],e0:={ val:=.ai .u32 (si k n c) },conds:=[si k n c=B.init k n c,k.length=32,n.length=12] }
   | _,_=>none
 | _=>none
theorem aHx (si:List Int->List Int->Int->List Int) (Γ:Env) (hg:Γ.aR=aB):aH Tryz.prog Γ 76 (aK aB 100 (EV si)):=by
 refine aW hg fun vs T c hd hc=>?_
 unfold EV at hd
 split at hd
 case h_2=>cases hd
 split at hd
 case h_2=>cases hd
 cases hd
 have e:=hc _ cM
 rw [e]
 exact VZ _ _ _ (hc _ (List.mem_cons_of_mem _ cM)) (hc _ (List.mem_cons_of_mem _ (List.mem_cons_of_mem _ cM))) Γ hg
def Qv (on:List Int->List Int) (vs:List SV) (_:aZ):Option Canon:=match vs with
 | [v]=>match cJ v with
   | some (.u32,s)=>some { eR:=[.ai .u32 s],T0:=[],vl:=[],e0:={ val:=.ai .u8 (on s) },conds:=[on s=Q.one s,s.length=16] }
   | _=>none
 | _=>none
theorem aJs (on:List Int->List Int) (Γ:Env) (hg:Γ.aR=aB):aH Tryz.prog Γ 82 (aK aB 100 (Qv on)):=by
 refine aW hg fun vs T c hd hc=>?_
 unfold Qv at hd
 split at hd
 case h_2=>cases hd
 split at hd
 case h_2=>cases hd
 cases hd
 have e:=hc _ cM
 have h:=LF _ (hc _ (List.mem_cons_of_mem _ cM)) Γ hg
 rw [<- e] at h
 exact h
def GX (x4:Nat->List Int->List Int->List Int) (vs:List SV) (T:aZ):Option Canon:=match vs with
 | [v,.ptr l _ off]=>match cJ v,T l with
   | some (.u32,s),some B=>match Bu B with
     | some (.u8,xs,t)=>some { eR:=[.ai .u32 s,.ptr 60 false off],T0:=[(60,.ints .u8 xs t)],vl:=[(60,.lab l 0)],e0:={ val:=.eL [],wr:=[(60,.ints .u8 (x4 off s xs) t)] },conds:=[x4 off s xs=Q.x4 off s xs,s.length=16,off+256<=xs.length] }
     | _=>none
   | _,_=>none
 | _=>none
theorem aLh (x4:Nat->List Int->List Int->List Int) (Γ:Env) (hg:Γ.aR=aB):aH Tryz.prog Γ 80 (aK aB 100 (GX x4)):=by
 refine aW hg fun vs T c hd hc=>?_
 unfold GX at hd
 split at hd
 case h_2=>cases hd
 split at hd
 case h_2=>cases hd
 split at hd
 case h_2=>cases hd
 cases hd
 have e:=hc _ cM
 have hl:=hc _ (List.mem_cons_of_mem _ cM)
 rw [e]
 exact (aBk hl (hc _ (List.mem_cons_of_mem _ (List.mem_cons_of_mem _ cM)))).words (by rw [hg];rfl) (fun V=>by simp only [UO,aE,bI V hl]) (fun _ _ h=>h) (fun _=>rfl) rfl rfl
def ER (tn:Nat->List Int->List Int->List Int) (vs:List SV) (T:aZ):Option Canon:=match vs with
 | [.ptr l _ off,v]=>match cJ v,T l with
   | some (.u8,b),some B=>match Bu B with
     | some (.u8,xs,t)=>some { eR:=[.ptr 60 false off,.ai .u8 b],T0:=[(60,.ints .u8 xs t)],vl:=[(60,.lab l 0)],e0:={ val:=.eL [],wr:=[(60,.ints .u8 (tn off b xs) t)] },conds:=[tn off b xs=Q.tn off b xs,b.length=64,off+64<=xs.length] }
     | _=>none
   | _,_=>none
 | _=>none
theorem aHu (tn:Nat->List Int->List Int->List Int) (Γ:Env) (hg:Γ.aR=aB):aH Tryz.prog Γ 81 (aK aB 100 (ER tn)):=by
 refine aW hg fun vs T c hd hc=>?_
 unfold ER at hd
 split at hd
 case h_2=>cases hd
 split at hd
 case h_2=>cases hd
 split at hd
 case h_2=>cases hd
 cases hd
 have e:=hc _ cM
 rw [e]
 exact (VR (hc _ (List.mem_cons_of_mem _ cM)) (hc _ (List.mem_cons_of_mem _ (List.mem_cons_of_mem _ cM)))).words (by rw [hg];rfl) (fun _=>rfl) (fun _ _ h=>h) (fun _=>rfl) rfl rfl
noncomputable def aPo (si:List Int->List Int->Int->List Int) (x4 tn:Nat->List Int->List Int->List Int) (on:List Int->List Int):Nat->Option Sum:=
 dM (dM (dM (dM (dM gC 77 (aK aB 100 tG)) 76 (aK aB 100 (EV si))) 82 (aK aB 100 (Qv on))) 80 (aK aB 100 (GX x4))) 81 (aK aB 100 (ER tn))
theorem gM:∀ f S,gC f=some S->∀ Γ:Env,Γ.aR=aB->aH Tryz.prog Γ f S:=fun f S h Γ _=>tJ f S h Γ
theorem aBy (si:List Int->List Int->Int->List Int) (x4 tn:Nat->List Int->List Int->List Int) (on:List Int->List Int):∀ f S,aPo si x4 tn on f=some S->∀ Γ:Env,Γ.aR=aB->aH Tryz.prog Γ f S:=
 bD (bD (bD (bD (bD gM 77 _ Cm) 76 _ (aHx si)) 82 _ (aJs on)) 80 _ (aLh x4)) 81 _ (aHu tn)
namespace P
def W (n:Int):Int:=IntKind.u64.wrap n
def sh (n:Int):Int:=bZ .u64 n 26
def lo (n:Int):Int:=bU .u64 n 67108863
def c1 (x:List Int):Int:=W (x.getD 1 0+sh (x.getD 0 0))
def c2 (x:List Int):Int:=W (x.getD 2 0+sh (c1 x))
def c3 (x:List Int):Int:=W (x.getD 3 0+sh (c2 x))
def c4 (x:List Int):Int:=W (x.getD 4 0+sh (c3 x))
def pass (x:List Int):List Int:=[W (lo (x.getD 0 0)+W (5*sh (c4 x))),lo (c1 x),lo (c2 x),lo (c3 x),lo (c4 x)]
def settled (x:List Int):List Int:=pass (pass x)
theorem nG (x:List Int):(settled x).length=5:=rfl
def word (a b c d:Int):Int:=kN .u64 (kN .u64 (kN .u64 (W a) (dI .u64 (W b) 8)) (dI .u64 (W c) 16)) (dI .u64 (W d) 24)
def kB (b:List Int):List Int:=[lo (word (b.getD 0 0) (b.getD 1 0) (b.getD 2 0) (b.getD 3 0)),lo (bZ .u64 (word (b.getD 3 0) (b.getD 4 0) (b.getD 5 0) (b.getD 6 0)) 2),
 lo (bZ .u64 (word (b.getD 6 0) (b.getD 7 0) (b.getD 8 0) (b.getD 9 0)) 4),bZ .u64 (word (b.getD 9 0) (b.getD 10 0) (b.getD 11 0) (b.getD 12 0)) 6,word (b.getD 13 0) (b.getD 14 0) (b.getD 15 0) (b.getD 16 0)]
def num (b:List Int):List Int:=settled (kB b)
def Iz (b:List Int) (i:Nat):Int:=match i%4 with
 | 3=>bU .u8 (b.getD i 0) 15
 | 0=>match i with
   | 0=>b.getD i 0
   | _=>bU .u8 (b.getD i 0) 252
 | _=>b.getD i 0
def dQ (b:List Int):List Int:=(List.range 16).map (Iz b)++[0]
def Ln (a b:List Int):List Int:=(List.range 5).map fun j=>W (a.getD j 0+b.getD j 0)
def add (a b:List Int):List Int:=settled (Ln a b)
def tE (a b:List Int) (i:Nat):Nat->List Int->List Int
 | 0,d=>d
 | k+1,d=>(tE a b i k d).set (i+k) (W ((tE a b i k d).getD (i+k) 0+W (a.getD i 0*b.getD k 0)))
def UA (a b:List Int):Nat->List Int
 | 0=>List.replicate 10 0
 | i+1=>tE a b i 5 (UA a b i)
def mulL (a b:List Int):List Int:=(List.range 5).map fun j=>W ((UA a b 5).getD j 0+W (5*(UA a b 5).getD (j+5) 0))
def mul (a b:List Int):List Int:=settled (mulL a b)
end P
namespace P
def g0 (t:List Int):Int:=W (t.getD 0 0+5)
def g1 (t:List Int):Int:=W (t.getD 1 0+sh (g0 t))
def g2 (t:List Int):Int:=W (t.getD 2 0+sh (g1 t))
def g3 (t:List Int):Int:=W (t.getD 3 0+sh (g2 t))
def g4 (t:List Int):Int:=W (t.getD 4 0+sh (g3 t))
def pick (x a b:Int):Int:=gO .u64 b (bU .u64 (W (0-bU .u64 x 1)) (gO .u64 a b))
def xH (t:List Int):List Int:=[pick (sh (g4 t)) (lo (g0 t)) (t.getD 0 0),pick (sh (g4 t)) (lo (g1 t)) (t.getD 1 0),pick (sh (g4 t)) (lo (g2 t)) (t.getD 2 0),pick (sh (g4 t)) (lo (g3 t)) (t.getD 3 0),pick (sh (g4 t)) (lo (g4 t)) (t.getD 4 0)]
def least (a:List Int):List Int:=xH (settled a)
def low (t:List Int):Int:=kN .u64 (kN .u64 (t.getD 0 0) (dI .u64 (t.getD 1 0) 26)) (dI .u64 (t.getD 2 0) 52)
def high (t:List Int):Int:=kN .u64 (kN .u64 (bZ .u64 (t.getD 2 0) 12) (dI .u64 (t.getD 3 0) 14)) (dI .u64 (t.getD 4 0) 40)
def byteOf (x:Int) (i:Nat):Int:=IntKind.u8.wrap (bZ .u64 x (8*(i:Int)))
def lH (t:List Int):List Int:=(List.range 8).map (byteOf (low t))++((List.range 8).map (byteOf (high t))++[IntKind.u8.wrap (bZ .u64 (t.getD 4 0) 24)])
def acc (b:List Int) (k:Nat):Nat->Int
 | 0=>0
 | i+1=>kN .u64 (acc b k i) (dI .u64 (W (b.getD (k+i) 0)) (8*(i:Int)))
def ES (b s:List Int):Int:=(acc b 0 8+acc s 0 8+0)%18446744073709551616
def ET (b s:List Int):Int:=(acc b 8 8+acc s 8 8+(acc b 0 8+acc s 0 8+0)/18446744073709551616)%18446744073709551616
def aFi (b s:List Int):List Int:=(List.range 8).map (byteOf (ES b s))++(List.range 8).map (byteOf (ET b s))
end P
def P.tag (a s:List Int):List Int:=P.aFi (P.lH (P.least a)) s
structure P.MS where
 eT:List Int
 sum:List Int
 mask:List Int
 aN:List Int
 held:Nat
def P.plus (s b y:List Int):List Int:=P.mul (P.add s (P.num b)) y
namespace P
def nL:List Int:=List.replicate 16 0
def byte (S:MS) (c:Int):MS:=
 if S.held=15 then ⟨S.eT,plus S.sum (S.aN.set S.held c++[1]) S.eT,S.mask,nL,0⟩
 else ⟨S.eT,S.sum,S.mask,S.aN.set S.held c,S.held+1⟩
def put (S:MS) (d:List Int):MS:=d.foldl byte S
theorem YK (S:MS):put S []=S:=rfl
theorem lO (S:MS) (a b:List Int):put S (a++b)=put (put S a) b:=List.foldl_append
structure MS.WF (S:MS):Prop where
 b5:S.eT.length=5
 s5:S.sum.length=5
 Pd:S.mask.length=16
 Pf:S.aN.length=16
 hl:S.held<16
 z:S.aN.drop S.held=List.replicate (16-S.held) 0
theorem aDb {S:MS} (h:S.WF) (c:Int):(byte S c).WF:=by
 obtain ⟨eT,sum,mask,aN,held⟩:=S
 obtain ⟨h1,h2,h3,h4,h5,h6⟩:=h
 simp only at h1 h2 h3 h4 h5 h6
 unfold byte
 simp only
 split
 .exact ⟨h1,rfl,h3,rfl,by simp only;omega,rfl⟩
 .refine ⟨h1,h2,h3,by simpa using h4,by simp only;omega,?_⟩
  simp only
  have e:(aN.set held c).drop (held+1)=aN.drop (held+1):=by
   rw [List.drop_set];simp
  rw [e,<- List.drop_drop,h6,List.drop_replicate]
  congr 1
theorem Im {S:MS} (h:S.WF) (d:List Int):(put S d).WF:=by
 induction d generalizing S with
 | nil=>exact h
 | cons c d ih=>exact ih (aDb h c)
theorem uZ (eT sum mask:List Int):∀ (d aN:List Int) (held:Nat),aN.length=16->held+d.length<16 ->
 put ⟨eT,sum,mask,aN,held⟩ d=⟨eT,sum,mask,aN.take held++d++aN.drop (held+d.length),held+d.length⟩
 | [],aN,held,hb,_=>by simp [put]
 | c::d,aN,held,hb,hl=>by
   rw [List.length_cons] at hl
   have e:put ⟨eT,sum,mask,aN,held⟩ (c::d)=put ⟨eT,sum,mask,aN.set held c,held+1⟩ d:=by
    show put (byte _ c) d=_
    unfold byte
    rw [if_neg (by simp only;omega)]
   rw [e,uZ eT sum mask d (aN.set held c) (held+1) (by simpa using hb) (by omega)]
   have e1:(aN.set held c).take (held+1)=aN.take held++[c]:=by
    rw [List.take_set,List.take_add_one,List.getElem?_eq_getElem (show held<aN.length by omega)]
    apply List.ext_getElem
    .simp;omega
    .intro i h1 h2
     simp only [List.length_set,List.length_append,List.length_take,List.length_cons,List.length_nil] at h1 h2
     by_cases hi:i=held
     .subst hi;simp [List.getElem_append];omega
     .rw [List.getElem_set_ne (by omega)]
      have:i<held:=by simp at h1;omega
      simp [List.getElem_append]
      intro h;omega
   have e2:(aN.set held c).drop (held+1+d.length)=aN.drop (held+1+d.length):=by
    rw [List.drop_set,if_pos (by omega)]
   rw [e1,e2,List.length_cons]
   simp only [List.append_assoc,List.cons_append,List.nil_append,show held+1+d.length=held+(d.length+1) by omega]
theorem Cv (eT sum mask:List Int) (d aN:List Int) (held:Nat) (hb:aN.length=16) (hl:held+d.length=16) (hd:d≠[]) :
 put ⟨eT,sum,mask,aN,held⟩ d=⟨eT,plus sum (aN.take held++d++[1]) eT,mask,nL,0⟩:=by
 obtain ⟨a,c,rfl⟩:∃ a c,d=a++[c]:=⟨d.dropLast,d.getLast hd,(List.dropLast_concat_getLast hd).symm⟩
 rw [List.length_append,List.length_singleton] at hl
 rw [lO,uZ eT sum mask a aN held hb (by omega)]
 show byte _ c=_
 unfold byte
 rw [if_pos (by simp only;omega)]
 simp only
 have e:(aN.take held++a++aN.drop (held+a.length)).set (held+a.length) c=aN.take held++(a++[c]):=by
  have cI:(aN.take held++a).length=held+a.length:=by simp;omega
  obtain ⟨z,hz⟩:∃ z,aN.drop (held+a.length)=[z]:=by
   have:(aN.drop (held+a.length)).length=1:=by simp;omega
   match aN.drop (held+a.length),this with
   | [z],_=>exact ⟨z,rfl⟩
  rw [hz,List.set_append_right _ _ (by omega),cI,Nat.sub_self]
  simp
 rw [e]
end P
theorem aVm (x:List Int):aJ (env gC 3) Tryz.f202 true [] 1500 [.agg (cO .u64 5 x)] Dx 100 100=some { val:=.agg ((P.settled x).map (.int false .u64)) }:=by kernel_rfl
theorem VY (x:List Int) (hl:x.length=5) (Γ:Env) (hg:Γ.aR=aB):aF Tryz.prog Γ 202 [.ai .u64 x] Dx 100 100 { val:=.agg (cO .u64 5 (P.settled x)) }:=by
 have hs:aH Tryz.prog (env gC 3) 202 (aJ (env gC 3) Tryz.f202 true [] 1500):=aM (bQ gC 3) (bW gC (fun f S h Γ _=>tJ f S h Γ) 3) mix Tryz.func202 (by kernel_rfl) true [] 1500
 refine (hs.call (aVm x) (by simp)).words (by rw [hg];rfl) (fun V=>?_) (fun _ _ h=>h) (fun V=>(nE V _ _).trans (bI V rfl).symm) rfl rfl
 simp only [aE,bI V hl]
def EU (gA:List Int->List Int) (vs:List SV) (_:aZ):Option Canon:=match vs with
 | [v]=>match cJ v with
   | some (.u64,x)=>some { eR:=[.ai .u64 x],T0:=[],vl:=[],e0:={ val:=.agg (cO .u64 5 (gA x)) },conds:=[x.length=5,gA x=P.settled x] }
   | _=>none
 | _=>none
theorem aHw (gA:List Int->List Int) (Γ:Env) (hg:Γ.aR=aB):aH Tryz.prog Γ 202 (aK aB 100 (EU gA)):=by
 refine aW hg fun vs T c hd hc=>?_
 unfold EU at hd
 split at hd
 case h_2=>cases hd
 split at hd
 case h_2=>cases hd
 cases hd
 have e:=hc _ (List.mem_cons_of_mem _ cM)
 have h:=VY _ (hc _ cM) Γ hg
 rw [<- e] at h
 exact h
noncomputable def Qh (gA:List Int->List Int):Nat->Option Sum:=dM gC 202 (aK aB 100 (EU gA))
theorem aBw (gA:List Int->List Int):∀ f S,Qh gA f=some S->∀ Γ:Env,Γ.aR=aB->aH Tryz.prog Γ f S:=bD gM 202 _ (aHw gA)
def pOb (gA:List Int->List Int) (Y:List Int):List Prop:=[Y.length=5,gA Y=P.settled Y,Y=Y]
def pV (gA:List Int->List Int) (Y:List Int):SV:=.agg (cO .u64 5 (gA Y))
theorem bBc (gA:List Int->List Int) (b:List Int):aJ (env (Qh gA) 4) Tryz.f173 true [] 1500 [.agg (cO .u8 17 b)] Dx 100 100=some { bM:=pOb gA (P.kB b),val:=pV gA (P.kB b) }:=by kernel_rfl
theorem bAz (gA:List Int->List Int) (b:List Int):aJ (env (Qh gA) 4) Tryz.f126 true [] 1500 [.agg (cO .u8 16 b)] Dx 100 100=some { bM:=pOb gA (P.kB (P.dQ b)),val:=pV gA (P.kB (P.dQ b)) }:=by kernel_rfl
theorem aWp (gA:List Int->List Int) (a b:List Int):aJ (env (Qh gA) 4) Tryz.f172 true [] 1500 [.raw (.pointer none),.agg (cO .u64 5 a),.agg (cO .u64 5 b)] Dx 100 100=some { bM:=pOb gA (P.Ln a b),val:=pV gA (P.Ln a b) }:=by kernel_rfl
theorem aWn (gA:List Int->List Int) (a b:List Int):aJ (env (Qh gA) 4) Tryz.f171 true [] 1500 [.raw (.pointer none),.agg (cO .u64 5 a),.agg (cO .u64 5 b)] Dx 100 100=some { bM:=pOb gA (P.mulL a b),val:=pV gA (P.mulL a b) }:=by kernel_rfl
theorem Ci {Y:List Int} (h:Y.length=5):∀ q∈pOb P.settled Y,q:=aA (l:=pOb P.settled Y) (show _/\_/\_/\True from ⟨h,rfl,rfl,trivial⟩)
theorem Ur (V:aY) (Y:List Int):den V (pV P.settled Y)=den V (.ai .u64 (P.settled Y)):=bI V rfl
noncomputable def yW:Env:=env (Qh P.settled) 4
theorem uT:cK Tryz.prog yW:=bW _ (aBw _) 4
theorem uS:cA Tryz.prog yW:=bQ _ 4
theorem aDf (b:List Int) (hl:b.length=17) (Γ:Env) (hg:Γ.aR=aB):aF Tryz.prog Γ 173 [.ai .u8 b] Dx 100 100 { val:=.ai .u64 (P.num b) }:=by
 have hs:aH Tryz.prog yW 173 (aJ yW Tryz.f173 true [] 1500):=aM uS uT mix Tryz.func173 (by kernel_rfl) true [] 1500
 refine (hs.call (bBc _ b) (Ci rfl)).words (by rw [hg];rfl) (fun V=>?_) (fun _ _ h=>h) (fun V=>Ur V _) rfl rfl
 simp only [aE,bI V hl]
theorem QE (b:List Int) (hl:b.length=16) (Γ:Env) (hg:Γ.aR=aB):aF Tryz.prog Γ 126 [.ai .u8 b] Dx 100 100 { val:=.ai .u64 (P.num (P.dQ b)) }:=by
 have hs:aH Tryz.prog yW 126 (aJ yW Tryz.f126 true [] 1500):=aM uS uT mix Tryz.func126 (by kernel_rfl) true [] 1500
 refine (hs.call (bAz _ b) (Ci rfl)).words (by rw [hg];rfl) (fun V=>?_) (fun _ _ h=>h) (fun V=>Ur V _) rfl rfl
 simp only [aE,bI V hl]
theorem LD (a b:List Int) (ha:a.length=5) (hb:b.length=5) (Γ:Env) (hg:Γ.aR=aB):aF Tryz.prog Γ 172 [.raw (.pointer none),.ai .u64 a,.ai .u64 b] Dx 100 100 { val:=.ai .u64 (P.add a b) }:=by
 have hs:aH Tryz.prog yW 172 (aJ yW Tryz.f172 true [] 1500):=aM uS uT mix Tryz.func172 (by kernel_rfl) true [] 1500
 refine (hs.call (aWp _ a b) (Ci rfl)).words (by rw [hg];rfl) (fun V=>?_) (fun _ _ h=>h) (fun V=>Ur V _) rfl rfl
 simp only [aE,bI V ha,bI V hb]
theorem LA (a b:List Int) (ha:a.length=5) (hb:b.length=5) (Γ:Env) (hg:Γ.aR=aB):aF Tryz.prog Γ 171 [.raw (.pointer none),.ai .u64 a,.ai .u64 b] Dx 100 100 { val:=.ai .u64 (P.mul a b) }:=by
 have hs:aH Tryz.prog yW 171 (aJ yW Tryz.f171 true [] 1500):=aM uS uT mix Tryz.func171 (by kernel_rfl) true [] 1500
 refine (hs.call (aWn _ a b) (Ci rfl)).words (by rw [hg];rfl) (fun V=>?_) (fun _ _ h=>h) (fun V=>Ur V _) rfl rfl
 simp only [aE,bI V ha,bI V hb]
def agV (x:List Int):SV:=.agg (cO .u64 5 x)
def aiV (x:List Int):SV:=.ai .u64 x
def HX (be:List Int->List Int) (vs:List SV) (_:aZ):Option Canon:=match vs with
 | [v]=>match cJ v with
   | some (.u8,b)=>some { eR:=[.ai .u8 b],T0:=[],vl:=[],e0:={ val:=.ai .u64 (be b) },conds:=[b.length=17,be b=P.num b] }
   | _=>none
 | _=>none
def Ve (cp:List Int->List Int) (vs:List SV) (_:aZ):Option Canon:=match vs with
 | [v]=>match cJ v with
   | some (.u8,b)=>some { eR:=[.ai .u8 b],T0:=[],vl:=[],e0:={ val:=agV (cp b) },conds:=[b.length=16,cp b=P.num (P.dQ b)] }
   | _=>none
 | _=>none
def Us (wv:List Int->SV) (g g':List Int->List Int->List Int) (vs:List SV) (_:aZ):Option Canon:=match vs with
 | [.raw (.pointer none),v,u]=>match cJ v,cJ u with
   | some (.u64,a),some (.u64,b)=>some { eR:=[.raw (.pointer none),.ai .u64 a,.ai .u64 b],T0:=[],vl:=[],e0:={ val:=wv (g a b) },conds:=[a.length=5,b.length=5,g a b=g' a b] }
   | _,_=>none
 | _=>none
theorem aNm (be:List Int->List Int) (Γ:Env) (hg:Γ.aR=aB):aH Tryz.prog Γ 173 (aK aB 100 (HX be)):=by
 refine aW hg fun vs T c hd hc=>?_
 unfold HX at hd
 split at hd
 case h_2=>cases hd
 split at hd
 case h_2=>cases hd
 cases hd
 have e:=hc _ (List.mem_cons_of_mem _ cM)
 have h:=aDf _ (hc _ cM) Γ hg
 rw [<- e] at h
 exact h
theorem KA (cp:List Int->List Int) (Γ:Env) (hg:Γ.aR=aB):aH Tryz.prog Γ 126 (aK aB 100 (Ve cp)):=by
 refine aW hg fun vs T c hd hc=>?_
 unfold Ve at hd
 split at hd
 case h_2=>cases hd
 split at hd
 case h_2=>cases hd
 cases hd
 have e:=hc _ (List.mem_cons_of_mem _ cM)
 have h:=(QE _ (hc _ cM) Γ hg).words (e':={ val:=agV (P.num (P.dQ _)) }) rfl (fun _=>rfl) (fun _ _ h=>h) (fun V=>(bI V (P.nG _)).symm) rfl rfl
 rw [<- e] at h
 exact h
theorem aEc {wv:List Int->SV} {g':List Int->List Int->List Int} {f:Nat} (hw:∀ (V:aY) (a b:List Int),den V (.ai .u64 (g' a b))=den V (wv (g' a b))) (g:List Int->List Int->List Int)
 (hN:∀ (a b:List Int),a.length=5->b.length=5->∀ (Γ:Env),Γ.aR=aB->aF Tryz.prog Γ f [.raw (.pointer none),.ai .u64 a,.ai .u64 b] Dx 100 100 { val:=.ai .u64 (g' a b) })
 (Γ:Env) (hg:Γ.aR=aB):aH Tryz.prog Γ f (aK aB 100 (Us wv g g')):=by
 refine aW hg fun vs T c hd hc=>?_
 unfold Us at hd
 split at hd
 .split at hd
  case h_2=>cases hd
  cases hd
  have e:=hc _ (List.mem_cons_of_mem _ (List.mem_cons_of_mem _ cM))
  have h:=(hN _ _ (hc _ cM) (hc _ (List.mem_cons_of_mem _ cM)) Γ hg).words (e':={ val:=wv (g' _ _) }) rfl (fun _=>rfl) (fun _ _ h=>h) (fun V=>hw V _ _) rfl rfl
  rw [<- e] at h
  exact h
 .cases hd
noncomputable def aPn (be:List Int->List Int) (al mu:List Int->List Int->List Int):Nat->Option Sum:=dM (dM (dM (dM (dM gC 77 (aK aB 100 tG)) 173 (aK aB 100 (HX be))) 126 (aK aB 100 (Ve fun b=>P.num (P.dQ b)))) 172 (aK aB 100 (Us aiV al P.add))) 171 (aK aB 100 (Us agV mu P.mul))
theorem aBv (be:List Int->List Int) (al mu:List Int->List Int->List Int):∀ f S,aPn be al mu f=some S->∀ Γ:Env,Γ.aR=aB->aH Tryz.prog Γ f S:=
 bD (bD (bD (bD (bD gM 77 _ Cm) 173 _ (aNm be)) 126 _ (KA _)) 172 _ (aEc (fun _ _ _=>rfl) al LD)) 171 _ (aEc (fun V a b=>(bI V (P.nG _)).symm) mu LA)
theorem aWo (gA:List Int->List Int) (a:List Int):aJ (env (Qh gA) 4) Tryz.f204 true [] 1500 [.agg (cO .u64 5 a)] Dx 100 100=some { bM:=pOb gA ((List.range 5).map fun j=>a.getD j 0),val:=.agg ((P.xH (gA ((List.range 5).map fun j=>a.getD j 0))).map (.int false .u64)) }:=by kernel_rfl
theorem YN (a:List Int) (ha:a.length=5) (Γ:Env) (hg:Γ.aR=aB):aF Tryz.prog Γ 204 [.ai .u64 a] Dx 100 100 { val:=.agg (cO .u64 5 (P.least a)) }:=by
 have hs:aH Tryz.prog yW 204 (aJ yW Tryz.f204 true [] 1500):=aM uS uT mix Tryz.func204 (by kernel_rfl) true [] 1500
 have e:(List.range 5).map (fun j=>a.getD j 0)=a:=by
  match a,ha with
  | [_,_,_,_,_],_=>rfl
 have h:=aWo P.settled a
 rw [e] at h
 refine (hs.call h (Ci ha)).words (by rw [hg];rfl) (fun V=>?_) (fun _ _ h=>h) (fun V=>(nE V _ _).trans (bI V rfl).symm) rfl rfl
 simp only [aE,bI V ha]
def Ra (nI:List Int->List Int) (vs:List SV) (_:aZ):Option Canon:=match vs with
 | [v]=>match cJ v with
   | some (.u64,a)=>some { eR:=[.ai .u64 a],T0:=[],vl:=[],e0:={ val:=.agg (cO .u64 5 (nI a)) },conds:=[a.length=5,nI a=P.least a] }
   | _=>none
 | _=>none
theorem aKl (nI:List Int->List Int) (Γ:Env) (hg:Γ.aR=aB):aH Tryz.prog Γ 204 (aK aB 100 (Ra nI)):=by
 refine aW hg fun vs T c hd hc=>?_
 unfold Ra at hd
 split at hd
 case h_2=>cases hd
 split at hd
 case h_2=>cases hd
 cases hd
 have e:=hc _ (List.mem_cons_of_mem _ cM)
 have h:=YN _ (hc _ cM) Γ hg
 rw [<- e] at h
 exact h
noncomputable def US (nI:List Int->List Int):Nat->Option Sum:=dM gC 204 (aK aB 100 (Ra nI))
theorem aBu (nI:List Int->List Int):∀ f S,US nI f=some S->∀ Γ:Env,Γ.aR=aB->aH Tryz.prog Γ f S:=bD gM 204 _ (aKl nI)
def aFk (b s:List Int):List Prop:=[0<=P.acc b 8 8/\0<=P.acc s 8 8/\0<=(P.acc b 0 8+P.acc s 0 8+0)/18446744073709551616/\(P.acc b 0 8+P.acc s 0 8+0)/18446744073709551616<=1,0<=P.acc b 0 8/\0<=P.acc s 0 8/\(0:Int)<=0/\(0:Int)<=1]
def c5 (a:List Int):List Int:=(List.range 5).map fun j=>a.getD j 0
theorem aWl (nI:List Int->List Int) (a s:List Int):aJ (env (US nI) 4) Tryz.f129 true [] 3000 [.agg (cO .u64 5 a),.agg (cO .u8 16 s)] Dx 100 100 =
 some { bM:=aFk (P.lH (nI (c5 a))) s++[(c5 a).length=5,nI (c5 a)=P.least (c5 a),c5 a=c5 a],val:=.agg ((P.aFi (P.lH (nI (c5 a))) s).map (.int false .u8)) }:=by kernel_rfl
theorem P.aUs (n:Int):0<=IntKind.u64.wrap n/\IntKind.u64.wrap n<18446744073709551616:=by
 have e:IntKind.u64.wrap n=n%18446744073709551616:=rfl
 rw [e];omega
theorem P.Ai (b:List Int) (k:Nat):∀ n,0<=P.acc b k n/\P.acc b k n<18446744073709551616
 | 0=>⟨Int.le_refl 0,(by decide:(0:Int)<18446744073709551616)⟩
 | _+1=>P.aUs _
theorem WB (b s:List Int):∀ q∈aFk b s,q:=by
 have h1:=P.Ai b 0 8
 have h2:=P.Ai s 0 8
 have h3:=P.Ai b 8 8
 have h4:=P.Ai s 8 8
 refine aA (l:=aFk b s) (show _/\_/\True from ⟨⟨h3.1,h4.1,?_,?_⟩,⟨h1.1,h2.1,Int.le_refl 0,by decide⟩,trivial⟩)
 .omega
 .omega
theorem YJ (a s:List Int) (ha:a.length=5) (Dz:s.length=16) (Γ:Env) (hg:Γ.aR=aB):aF Tryz.prog Γ 129 [.ai .u64 a,.ai .u8 s] Dx 100 100 { val:=.agg (cO .u8 16 (P.tag a s)) }:=by
 have hs:aH Tryz.prog (env (US P.least) 4) 129 (aJ (env (US P.least) 4) Tryz.f129 true [] 3000):=aM (bQ _ 4) (bW _ (aBu _) 4) mix Tryz.func129 (by kernel_rfl) true [] 3000
 have e:c5 a=a:=by
  match a,ha with
  | [_,_,_,_,_],_=>rfl
 have h:=aWl P.least a s
 rw [e] at h
 refine (hs.call h (fun q hq=>(List.mem_append.1 hq).elim (WB _ _ q) (aA (l:=[a.length=5,P.least a=P.least a,a=a]) (show _/\_/\_/\True from ⟨ha,rfl,rfl,trivial⟩) q))).words (by rw [hg];rfl) (fun V=>?_) (fun _ _ h=>h) (fun V=>(nE V _ _).trans (bI V (k:=.u8) (n:=16) (xs:=P.tag a s) rfl).symm) rfl rfl
 simp only [aE,bI V ha,bI V Dz]
def Uq (vs:List SV) (_:aZ):Option Canon:=match vs with
 | [v,u]=>match cJ v,cJ u with
   | some (.u64,a),some (.u8,s)=>some { eR:=[.ai .u64 a,.ai .u8 s],T0:=[],vl:=[],e0:={ val:=.agg (cO .u8 16 (P.tag a s)) },conds:=[a.length=5,s.length=16] }
   | _,_=>none
 | _=>none
theorem IV (Γ:Env) (hg:Γ.aR=aB):aH Tryz.prog Γ 129 (aK aB 100 Uq):=by
 refine aW hg fun vs T c hd hc=>?_
 unfold Uq at hd
 split at hd
 case h_2=>cases hd
 split at hd
 case h_2=>cases hd
 cases hd
 exact YJ _ _ (hc _ (by simp)) (hc _ (by simp)) Γ hg
noncomputable def aEw (be:List Int->List Int) (al mu:List Int->List Int->List Int):Nat->Option Sum:=dM (aPn be al mu) 129 (aK aB 100 Uq)
theorem PK (be:List Int->List Int) (al mu:List Int->List Int->List Int):∀ f S,aEw be al mu f=some S->∀ Γ:Env,Γ.aR=aB->aH Tryz.prog Γ f S:=bD (aBv be al mu) 129 _ IV
theorem aF.same {P:Program} {Γ:Env} {f:FuncId} {vs:List SV} {T:aZ} {lab F l0:Nat} {B:SB} {e:bJ} (h:aF P Γ f vs T lab F e) (hT:T l0=some B) (hn:look l0 (e.eG lab)=none) :
 aF P Γ f vs T lab F { e with wr:=(l0,B)::e.wr }:=by
 intro w0 M V T2 w ys aL hT1 hg hf hF hx op a K Q hK
 refine h w0 M V T2 w ys aL hT1 hg hf hF hx op a K Q fun V' x w' h1 h2 h3=>hK V' x w' h1 h2 ?_
 have e1:eI T2 lab { e with wr:=(l0,B)::e.wr }=eI T2 lab e:=by
  funext l
  simp only [eI,bJ.eG,List.cons_append] at hn |-
  by_cases q:l=l0
  .subst q;rw [aI,hn,aL l B hT]
  .rw [aD (fun r=>q r.symm)]
 rw [e1]
 exact h3
noncomputable def DJ (be:List Int->List Int) (al mu:List Int->List Int->List Int):Env:=env (aEw be al mu) 4
theorem VG (be:List Int->List Int) (al mu:List Int->List Int->List Int):cA Tryz.prog (DJ be al mu):=bQ _ 4
theorem VH (be:List Int->List Int) (al mu:List Int->List Int->List Int):cK Tryz.prog (DJ be al mu):=bW _ (PK be al mu) 4
def mN (S:P.MS):List SV:=.raw (.pointer none)::(cO .u64 5 S.eT++(cO .u64 5 S.sum++(cO .u8 16 S.mask++(cO .u8 16 S.aN++[.int false .i64 (S.held:Int)]))))
def mnL (S:P.MS):List (Nat × SB):=[(60,.own (mN S) 182)]
def mnT (S:P.MS):aZ:=fun l=>look l (mnL S)
def mtL (S:P.MS) (d:List Int):List (Nat × SB):=[(60,.own (mN S) 182),(61,.gQ .u8 d)]
def QU (S:P.MS) (d:List Int):aZ:=fun l=>look l (mtL S d)
def Yg (b:List Int):List Int:=(List.range 17).map fun j=>b.getD j 0
def plX (be:List Int->List Int) (al mu:List Int->List Int->List Int) (S:P.MS) (s b:List Int):List Int:=mu (al (c5 s) (be (Yg b))) (c5 S.eT)
def pnO (be:List Int->List Int) (al mu:List Int->List Int->List Int) (S:P.MS) (s b:List Int):List Prop:=
 let A:=al (c5 s) (be (Yg b))
 [A.length=5,(c5 S.eT).length=5,mu A (c5 S.eT)=P.mul A (c5 S.eT),A=A,c5 S.eT=c5 S.eT,
  (c5 s).length=5,(be (Yg b)).length=5,al (c5 s) (be (Yg b))=P.add (c5 s) (be (Yg b)),c5 s=c5 s,be (Yg b)=be (Yg b),
  (Yg b).length=17,be (Yg b)=P.num (Yg b),Yg b=Yg b]
theorem aWm (be:List Int->List Int) (al mu:List Int->List Int->List Int) (S:P.MS) (s b:List Int):aJ (DJ be al mu) Tryz.f128 true [] 1500 [.ptr 60 true 0,.agg (cO .u64 5 s),.agg (cO .u8 17 b)] (mnT S) 100 100 =
 some { bM:=pnO be al mu S s b,val:=agV (plX be al mu S s b) }:=by kernel_rfl
theorem jB {a:List Int} (ha:a.length=5):c5 a=a:=by
 match a,ha with
 | [_,_,_,_,_],_=>rfl
theorem KB {a:List Int} (ha:a.length=17):Yg a=a:=by
 match a,ha with
 | [_,_,_,_,_,_,_,_,_,_,_,_,_,_,_,_,_],_=>rfl
def RW (x:SV) (S:P.MS):bJ:={ val:=x,wr:=[(60,.own (mN S) 182)] }
theorem YM (S:P.MS) (s b:List Int) (hS:S.eT.length=5) (hs5:s.length=5) (hb:b.length=17) (Γ:Env) (hg:Γ.aR=aB) :
 aF Tryz.prog Γ 128 [.ptr 60 true 0,.ai .u64 s,.ai .u8 b] (mnT S) 100 100 (RW (agV (P.plus s b S.eT)) S):=by
 have hs:aH Tryz.prog (DJ P.num P.add P.mul) 128 (aJ (DJ P.num P.add P.mul) Tryz.f128 true [] 1500):=aM (VG _ _ _) (VH _ _ _) mix Tryz.func128 (by kernel_rfl) true [] 1500
 have h:=hs.call (aWm P.num P.add P.mul S s b) (by
  rw [pnO,jB hS,jB hs5,KB hb]
  exact aA (show _/\_/\_/\_/\_/\_/\_/\_/\_/\_/\_/\_/\_/\True from ⟨rfl,hS,rfl,rfl,rfl,hs5,rfl,rfl,rfl,rfl,hb,rfl,rfl,trivial⟩))
 rw [plX,jB hS,jB hs5,KB hb] at h
 refine (h.same (l0:=60) (by simp only [mnT,mnL,aI]) rfl).words (by rw [hg];rfl) (fun V=>?_) (fun _ _ h=>h) (fun V=>rfl) rfl rfl
 simp only [aE,bI V hs5,bI V hb]
def msN (cs:List SV):Option P.MS:=match cs with
 | .raw (.pointer none)::r=>match cX .u64 (r.take 5),cX .u64 ((r.drop 5).take 5),cX .u8 ((r.drop 10).take 16),cX .u8 ((r.drop 26).take 16),r.drop 42 with
   | some b,some s,some m,some k,[.int _ .i64 h]=>some ⟨b,s,m,k,h.toNat⟩
   | _,_,_,_,_=>none
 | _=>none
def P.nf (S:P.MS):P.MS:=⟨c5 S.eT,c5 S.sum,dJ 16 S.mask,dJ 16 S.aN,(S.held:Int).toNat⟩
def FO (pl:List Int->List Int->List Int->List Int) (vs:List SV) (T:aZ):Option Canon:=match vs with
 | [.ptr l _ _,v,u]=>match T l,cJ v,cJ u with
   | some (.own cs ty),some (.u64,s),some (.u8,b)=>match Nat.beq ty 182,msN cs with
     | true,some S=>some { eR:=[.ptr 60 true 0,.ai .u64 s,.ai .u8 b],T0:=mnL S,vl:=[(60,.lab l 0)],e0:=RW (agV (pl s b S.eT)) S,conds:=[pl s b S.eT=P.plus s b S.eT,S.eT.length=5,s.length=5,b.length=17] }
     | _,_=>none
   | _,_,_=>none
 | _=>none
theorem aJp (pl:List Int->List Int->List Int->List Int) (Γ:Env) (hg:Γ.aR=aB):aH Tryz.prog Γ 128 (aK aB 100 (FO pl)):=by
 refine aW hg fun vs T c hd hc=>?_
 unfold FO at hd
 split at hd
 case h_2=>cases hd
 split at hd
 case h_2=>cases hd
 split at hd
 case h_2=>cases hd
 cases hd
 have e:=hc _ cM
 have h:=YM _ _ _ (hc _ (List.mem_cons_of_mem _ cM)) (hc _ (List.mem_cons_of_mem _ (List.mem_cons_of_mem _ cM))) (hc _ (List.mem_cons_of_mem _ (List.mem_cons_of_mem _ (List.mem_cons_of_mem _ cM)))) Γ hg
 rw [<- e] at h
 exact h
noncomputable def aGo (pl:List Int->List Int->List Int->List Int):Nat->Option Sum:=dM (dM gC 77 (aK aB 100 tG)) 128 (aK aB 100 (FO pl))
theorem Xb (pl:List Int->List Int->List Int->List Int):∀ f S,aGo pl f=some S->∀ Γ:Env,Γ.aR=aB->aH Tryz.prog Γ f S:=bD (bD gM 77 _ Cm) 128 _ (aJp pl)
def qM (b s:List Int) (mk bk:Nat->Int) (h:Int) (S':P.MS):List Prop:=
 ((List.range 5).map fun j=>b.getD j 0=S'.eT.getD j 0)++(((List.range 5).map fun j=>s.getD j 0=S'.sum.getD j 0)++(((List.range 16).map fun j=>mk j=S'.mask.getD j 0)++(((List.range 16).map fun j=>bk j=S'.aN.getD j 0)++[h=(S'.held:Int)])))
def qMS (S S':P.MS):List Prop:=qM S.eT S.sum (S.mask.getD · 0) (S.aN.getD · 0) S.held S'
def tkG (pl:List Int->List Int->List Int->List Int) (y s:List Int) (mk bk:Nat->Int) (h:Int) (N:P.MS) (b:List Int) (r:List Prop):List Prop:=
 (pl (c5 s) b (c5 y)=P.plus (c5 s) b (c5 y))::((c5 y).length=5)::((c5 s).length=5)::(b.length=17)::(c5 s=c5 s)::(b=b)::(qM y s mk bk h N++r)
def tkD (d:List Int):List Int:=(d.take 16).take ((d.take 16).length.min 16)
def SY (d:List Int):List Int:=(List.replicate 17 0).take 0++tkD d++(List.replicate 17 0).drop (0+(tkD d).length)
def tqL (d:List Int):List Int:=(SY d).set 16 1
noncomputable def Ps (pl:List Int->List Int->List Int->List Int):Env:=env (aGo pl) 4
theorem Vm (pl:List Int->List Int->List Int->List Int):cA Tryz.prog (Ps pl):=bQ _ 4
theorem Vn (pl:List Int->List Int->List Int->List Int):cK Tryz.prog (Ps pl):=bW _ (Xb pl) 4
def DK (n:Nat):List SV:=[.ptr 60 true 0,.eV 61 n]
def At (n:Nat):List (Nat × SV):=[(0,.ptr 60 true 0),(1,.eV 100 n)]
noncomputable def mwM (pl:List Int->List Int->List Int->List Int) (S:P.MS) (d:List Int) (cf:Cf) (K:List Fr) (s:St):Option pU:=gZ (Ps pl) (bH 100 (QU S d)) 100 Tryz.f84.ntmps [8] 400 3000 cf K s
def Be (S:P.MS) (d:List Int):List (Nat × SB):=[(60,.own (mN S) 182),(100,.gQ .u8 d)]
noncomputable def mwR:Option pU:=mwM (fun a _ _=>a) ⟨[],[],[],[],0⟩ [] (.go (codeOf Tryz.f84)) [] ((zM (DK 0) 100).hint [false])
noncomputable def Yn:Code:=Fb mwR
noncomputable def mwK:List Fr:=Fa mwR
def gT (h:Nat):Bool:=decide ((h:Int)>0)
def mM (d:List Int) (h:Nat):Nat:=d.length.min (16-(h:Int).toNat)
def hq (h m:Nat):Int:=IntKind.i64.wrap ((h:Int)+(m:Int))
def oM (h:Nat):Nat:=if (16:Int)=(h:Int) then 27 else 27+(h:Int).toNat*1
def spM (S:P.MS) (d:List Int) (o m:Nat):List Int:=(dJ 16 S.mask++dJ 16 S.aN).take (o-11)++d.take m++(dJ 16 S.mask++dJ 16 S.aN).drop (o-11+(d.take m).length)
def mcO (h n m:Nat) (d:List Int) (r:List Prop):List Prop:=
 (0<=(m:Int)/\(m:Int)<=(n:Int)/\(n:Int)<=(n:Int))::(11<=oM h/\oM h+(d.take m).length<=11+32)::((0:Int)<=16/\(16:Int)<=(16:Nat)/\(0:Int)<=16/\(16:Int)<=16/\0<=(h:Int)/\(h:Int)<=16) ::
  (gT h=true)::(gT h=gT h)::r
theorem aXw (pl:List Int->List Int->List Int->List Int) (S S':P.MS) (d d':List Int) (n n':Nat):fM 100 Tryz.f84.ntmps (bH 100 (QU S d)) [.ali 1] (At n') (Be S' d') 101 [60] [] (mwM pl S d (.go (codeOf Tryz.f84)) [] ((zM (DK n) 100).hint [false])) =
 some (.go (.loop Yn),mwK,(gT S.held=false)::(gT S.held=gT S.held)::(n=n')::(qMS S S'++[d=d'])):=by kernel_rfl
theorem aXv (pl:List Int->List Int->List Int->List Int) (S S':P.MS) (d d':List Int) (n n':Nat):fM 100 Tryz.f84.ntmps (bH 100 (QU S d)) [.ali 1] (At n') (Be S' d') 101 [60] [] (mwM pl S d (.go (codeOf Tryz.f84)) [] ((zM (DK n) 100).hint [true,false])) =
 some (.go (.loop Yn),mwK,((hq S.held (mM d S.held)==16)=false)::((hq S.held (mM d S.held)==16)=(hq S.held (mM d S.held)==16))::(mcO S.held n (mM d S.held) d (((n:Int).toNat-(mM d S.held:Int).toNat=n') ::
  (qM S.eT S.sum (fun j=>(spM S d (oM S.held) (mM d S.held)).getD j 0) (fun j=>(spM S d (oM S.held) (mM d S.held)).getD (16+j) 0) (hq S.held (mM d S.held)) S' ++
   [(d.drop (mM d S.held:Int).toNat).take ((n:Int).toNat-(mM d S.held:Int).toNat)=d'])))):=by kernel_rfl
def Ud (f:Nat->Int):List Int:=(List.range 16).map f
def spJ (S:P.MS) (d:List Int) (j:Nat):Int:=(spM S d (oM S.held) (mM d S.held)).getD j 0
def spN (S:P.MS) (d:List Int):P.MS:=⟨c5 S.eT,c5 S.sum,Ud (spJ S d),Ud fun j=>spJ S d (16+j),(hq S.held (mM d S.held)).toNat⟩
def DM (S:P.MS) (d:List Int):List Int:=Ud (fun j=>spJ S d (16+j))++[1]
theorem aXu (pl:List Int->List Int->List Int->List Int) (S S':P.MS) (d d':List Int) (n n':Nat):fM 100 Tryz.f84.ntmps (bH 100 (QU S d)) [.ali 1] (At n') (Be S' d') 101 [60] [] (mwM pl S d (.go (codeOf Tryz.f84)) [] ((zM (DK n) 100).hint [true,true])) =
 some (.go (.loop Yn),mwK,tkG pl S.eT S.sum (spJ S d) (fun j=>spJ S d (16+j)) (hq S.held (mM d S.held)) (spN S d) (DM S d) (((hq S.held (mM d S.held)==16)=true)::((hq S.held (mM d S.held)==16)=(hq S.held (mM d S.held)==16))::(mcO S.held n (mM d S.held) d (((n:Int).toNat-(mM d S.held:Int).toNat=n') ::
  (qM S.eT (pl (c5 S.sum) (DM S d) (c5 S.eT)) (spJ S d) (fun _=>0) 0 S' ++
   [(d.drop (mM d S.held:Int).toNat).take ((n:Int).toNat-(mM d S.held:Int).toNat)=d']))))):=by kernel_rfl
def lT (n:Nat):Bool:=decide ((n:Int)>=16)
def d16 (d:List Int):List Int:=(d.drop (0:Int).toNat).take ((16:Int).toNat-(0:Int).toNat)
theorem aXs (pl:List Int->List Int->List Int->List Int) (S0 S S':P.MS) (d0 d d':List Int) (n n':Nat):fM 100 Tryz.f84.ntmps (bH 100 (QU S0 d0)) [] (At n') (Be S' d') 101 [60] [] (mwM pl S0 d0 (.go Yn) [] ((cB (At n) (Be S d) 101 [60] []).hint [false])) =
 some (.at (.exit 0),[],(lT n=false)::(lT n=lT n)::(n=n')::(qMS S S'++[d=d'])):=by kernel_rfl
theorem aXt (pl:List Int->List Int->List Int->List Int) (S0 S S':P.MS) (d0 d d':List Int) (n n':Nat):fM 100 Tryz.f84.ntmps (bH 100 (QU S0 d0)) [] (At n') (Be S' d') 101 [60] [] (mwM pl S0 d0 (.go Yn) [] ((cB (At n) (Be S d) 101 [60] []).hint [true])) =
 some (.at .normal,[],((0:Int)<=16/\(16:Int)<=(n:Int)/\(n:Int)<=(n:Int))::tkG pl S.eT S.sum (S.mask.getD · 0) (S.aN.getD · 0) S.held (P.nf S) (tqL (d16 d)) ([(tqL (d16 d)).length=17,16<(SY (d16 d)).length,(0:Nat)<=0/\0+(tkD (d16 d)).length<=17,16<=(d16 d).length,16<=16,(0:Int)<=0/\(0:Int)<=16/\(16:Int)<=(n:Int)] ++
  (lT n=true)::(lT n=lT n)::((n:Int).toNat-(16:Int).toNat=n') ::
  (qM S.eT (pl (c5 S.sum) (tqL (d16 d)) (c5 S.eT)) (S.mask.getD · 0) (S.aN.getD · 0) S.held S' ++
   [(d.drop (16:Int).toNat).take ((n:Int).toNat-(16:Int).toNat)=d']))):=by kernel_rfl
def gP (n:Nat):Bool:=decide ((n:Int)>0)
theorem aXq (pl:List Int->List Int->List Int->List Int) (S0 S:P.MS) (d0 d:List Int) (n:Nat):sW (Ps pl) (QU S0 d0) 100 100 Tryz.f84 [] (mwM pl S0 d0 (.at (.exit 0)) mwK ((cB (At n) (Be S d) 101 [60] []).hint [false])) =
 some { RW (.eL []) S with bM:=[gP n=false,gP n=gP n] }:=by kernel_rfl
def spE (S:P.MS) (d:List Int) (j:Nat):Int:=(spM S d 27 (d.length.min 16)).getD j 0
def spF (S:P.MS) (d:List Int):P.MS:=⟨S.eT,S.sum,Ud (spE S d),Ud fun j=>spE S d (16+j),d.length.min 16⟩
theorem aXr (pl:List Int->List Int->List Int->List Int) (S0 S:P.MS) (d0 d:List Int) (n:Nat):sW (Ps pl) (QU S0 d0) 100 100 Tryz.f84 [] (mwM pl S0 d0 (.at (.exit 0)) mwK ((cB (At n) (Be S d) 101 [60] []).hint [true])) =
 some { RW (.eL []) (spF S d) with bM:=[11<=27/\27+(d.take (d.length.min 16)).length<=11+32,gP n=true,gP n=gP n] }:=by kernel_rfl
namespace P
theorem iH {n:Int} (h:0<=n/\n<18446744073709551616):W n=n:=by
 show n%18446744073709551616=n
 omega
theorem sO {n:Int}:sh n=n/67108864:=by
 show n.fdiv (2^26)=_
 rw [Int.fdiv_eq_ediv_of_nonneg _ (by decide)]
 rfl
theorem oO {n:Int} (h:0<=n/\n<18446744073709551616):lo n=n%67108864:=by
 obtain ⟨h0,h1⟩:=h
 obtain ⟨m,rfl⟩:=Int.eq_ofNat_of_zero_le h0
 have hm:m<18446744073709551616:=by omega
 show ((BitVec.ofInt 64 (m:Int) &&& BitVec.ofInt 64 67108863).toNat:Int)%18446744073709551616=_
 have e:(BitVec.ofInt 64 (m:Int) &&& BitVec.ofInt 64 67108863).toNat=m%67108864:=by
  rw [BitVec.toNat_and,BitVec.ofInt_natCast,BitVec.toNat_ofNat,Nat.mod_eq_of_lt (show m<2^64 by omega)]
  exact Nat.and_two_pow_sub_one_eq_mod m 26
 rw [e]
 omega
def L (x:List Int):Int:=x.getD 0 0+67108864*x.getD 1 0+4503599627370496*x.getD 2 0+302231454903657293676544*x.getD 3 0+20282409603651670423947251286016*x.getD 4 0
def p:Int:=1361129467683753853853498429727072845819
structure Ok (x:List Int):Prop where
 len:x.length=5
 a0:0<=x.getD 0 0/\x.getD 0 0<67108864+5
 a1:0<=x.getD 1 0/\x.getD 1 0<67108864
 a2:0<=x.getD 2 0/\x.getD 2 0<67108864
 a3:0<=x.getD 3 0/\x.getD 3 0<67108864
 a4:0<=x.getD 4 0/\x.getD 4 0<67108864
theorem Ji {x:List Int} {m:Int} (hm:m<=1152921504606846976) (h0:0<=x.getD 0 0/\x.getD 0 0<m) (h1:0<=x.getD 1 0/\x.getD 1 0<m) (h2:0<=x.getD 2 0/\x.getD 2 0<m) (h3:0<=x.getD 3 0/\x.getD 3 0<m) (h4:0<=x.getD 4 0/\x.getD 4 0<m) :
 ∃ k1 k2 k3 k4:Int,k1=x.getD 1 0+x.getD 0 0/67108864/\k2=x.getD 2 0+k1/67108864/\k3=x.getD 3 0+k2/67108864/\k4=x.getD 4 0+k3/67108864 /\
   pass x=[x.getD 0 0%67108864+5*(k4/67108864),k1%67108864,k2%67108864,k3%67108864,k4%67108864]:=by
 generalize gD:x.getD 0 0=x0 at *
 generalize gE:x.getD 1 0=x1 at *
 generalize nJ:x.getD 2 0=x2 at *
 generalize Ho:x.getD 3 0=x3 at *
 generalize hx4:x.getD 4 0=x4 at *
 have e1:c1 x=x1+x0/67108864:=by unfold c1;rw [gD,gE,sO,iH (by omega)]
 have e2:c2 x=x2+(x1+x0/67108864)/67108864:=by unfold c2;rw [nJ,e1,sO,iH (by omega)]
 have e3:c3 x=x3+(x2+(x1+x0/67108864)/67108864)/67108864:=by unfold c3;rw [Ho,e2,sO,iH (by omega)]
 have e4:c4 x=x4+(x3+(x2+(x1+x0/67108864)/67108864)/67108864)/67108864:=by unfold c4;rw [hx4,e3,sO,iH (by omega)]
 refine ⟨_,_,_,_,rfl,rfl,rfl,rfl,?_⟩
 unfold pass
 rw [gD,e1,e2,e3,e4,sO,oO (by omega),oO (by omega),oO (by omega),oO (by omega),oO (by omega),iH (n:=5*_) (by omega),iH (by omega)]
end P
namespace P
theorem Cb (a b c d e:Int):L [a,b,c,d,e]=a+67108864*b+4503599627370496*c+302231454903657293676544*d+20282409603651670423947251286016*e:=rfl
theorem Qt {x:List Int} {m:Int} (hm:m<=1152921504606846976) (h0:0<=x.getD 0 0/\x.getD 0 0<m) (h1:0<=x.getD 1 0/\x.getD 1 0<m) (h2:0<=x.getD 2 0/\x.getD 2 0<m) (h3:0<=x.getD 3 0/\x.getD 3 0<m) (h4:0<=x.getD 4 0/\x.getD 4 0<m) :
 ∃ q:Int,0<=q/\q=(x.getD 4 0+(x.getD 3 0+(x.getD 2 0+(x.getD 1 0+x.getD 0 0/67108864)/67108864)/67108864)/67108864)/67108864/\L (pass x)=L x-p*q/\(pass x).length=5/\(0<=(pass x).getD 0 0/\(pass x).getD 0 0<=67108863+5*q)/\(0<=(pass x).getD 1 0/\(pass x).getD 1 0<67108864)/\(0<=(pass x).getD 2 0/\(pass x).getD 2 0<67108864)/\(0<=(pass x).getD 3 0/\(pass x).getD 3 0<67108864)/\(0<=(pass x).getD 4 0/\(pass x).getD 4 0<67108864):=by
 obtain ⟨k1,k2,k3,k4,e1,e2,e3,e4,e⟩:=Ji hm h0 h1 h2 h3 h4
 refine ⟨k4/67108864,?_⟩
 rw [e]
 simp only [List.getD_cons_zero,List.getD_cons_succ,List.length_cons,List.length_nil,Cb]
 unfold L p
 generalize x.getD 0 0=x0 at *
 generalize x.getD 1 0=x1 at *
 generalize x.getD 2 0=x2 at *
 generalize x.getD 3 0=x3 at *
 generalize x.getD 4 0=x4 at *
 refine ⟨by omega,by rw [e4,e3,e2,e1],?_,(by first | rfl | trivial),⟨by omega,by omega⟩,⟨by omega,by omega⟩,⟨by omega,by omega⟩,⟨by omega,by omega⟩,⟨by omega,by omega⟩⟩
 have d0:=Int.emod_add_mul_ediv x0 67108864
 have d1:=Int.emod_add_mul_ediv k1 67108864
 have d2:=Int.emod_add_mul_ediv k2 67108864
 have d3:=Int.emod_add_mul_ediv k3 67108864
 have d4:=Int.emod_add_mul_ediv k4 67108864
 generalize x0%67108864=l0 at *
 generalize k1%67108864=l1 at *
 generalize k2%67108864=l2 at *
 generalize k3%67108864=l3 at *
 generalize k4%67108864=l4 at *
 generalize x0/67108864=q0 at *
 generalize k1/67108864=q1 at *
 generalize k2/67108864=q2 at *
 generalize k3/67108864=q3 at *
 generalize k4/67108864=q4 at *
 omega
theorem tN {x:List Int} {m:Int} (hm:m<=1152921504606846976) (h0:0<=x.getD 0 0/\x.getD 0 0<m) (h1:0<=x.getD 1 0/\x.getD 1 0<m) (h2:0<=x.getD 2 0/\x.getD 2 0<m) (h3:0<=x.getD 3 0/\x.getD 3 0<m) (h4:0<=x.getD 4 0/\x.getD 4 0<m) :
 Ok (settled x)/\∃ q,L (settled x)=L x-p*q:=by
 obtain ⟨q,a1,a2,a3,a4,a5,a6,a7,a8,a9⟩:=Qt hm h0 h1 h2 h3 h4
 have hq:q<=17179869440:=by omega
 obtain ⟨r,b1,b2,b3,b4,b5,b6,b7,b8,b9⟩:=Qt (x:=pass x) (m:=85966456064) (by omega) ⟨a5.1,by omega⟩ ⟨a6.1,by omega⟩ ⟨a7.1,by omega⟩ ⟨a8.1,by omega⟩ ⟨a9.1,by omega⟩
 have hr:r<=1:=by omega
 refine ⟨⟨b4,⟨b5.1,by unfold settled;omega⟩,b6,b7,b8,b9⟩,q+r,?_⟩
 show L (pass (pass x))=_
 rw [b3,a3,Int.mul_add]
 omega
end P
namespace P
theorem IS (f:Nat->Int):(List.range 5).map f=[f 0,f 1,f 2,f 3,f 4]:=rfl
theorem aNr {a b:List Int} (ha:Ok a) (hb:Ok b):Ok (add a b)/\∃ q,L (add a b)=L a+L b-p*q:=by
 obtain ⟨_,a0,a1,a2,a3,a4⟩:=ha
 obtain ⟨_,b0,b1,b2,b3,b4⟩:=hb
 have e:Ln a b=[a.getD 0 0+b.getD 0 0,a.getD 1 0+b.getD 1 0,a.getD 2 0+b.getD 2 0,a.getD 3 0+b.getD 3 0,a.getD 4 0+b.getD 4 0]:=by
  unfold Ln
  rw [IS,iH (by omega),iH (by omega),iH (by omega),iH (by omega),iH (by omega)]
 obtain ⟨h1,q,h2⟩:=tN (x:=Ln a b) (m:=1073741824) (by omega) (by rw [e];simp only [List.getD_cons_zero];omega) (by rw [e];simp only [List.getD_cons_zero,List.getD_cons_succ];omega) (by rw [e];simp only [List.getD_cons_zero,List.getD_cons_succ];omega) (by rw [e];simp only [List.getD_cons_zero,List.getD_cons_succ];omega) (by rw [e];simp only [List.getD_cons_zero,List.getD_cons_succ];omega)
 refine ⟨h1,q,?_⟩
 show L (settled (Ln a b))=_
 rw [h2,e,Cb]
 unfold L
 omega
end P
namespace P
theorem Wp {x y:Int} (hx:0<=x/\x<67108869) (hy:0<=y/\y<67108869):0<=x*y/\x*y<=4503600164241424:=by
 refine ⟨Int.mul_nonneg hx.1 hy.1,?_⟩
 have h1:x*y<=x*67108868:=Int.mul_le_mul_of_nonneg_left (by omega) hx.1
 have h2:x*67108868<=67108868*67108868:=Int.mul_le_mul_of_nonneg_right (by omega) (by decide)
 omega
def w0 (a b:Nat->Int):Int:=a 0*b 0
def w1 (a b:Nat->Int):Int:=a 0*b 1+a 1*b 0
def w2 (a b:Nat->Int):Int:=a 0*b 2+a 1*b 1+a 2*b 0
def w3 (a b:Nat->Int):Int:=a 0*b 3+a 1*b 2+a 2*b 1+a 3*b 0
def w4 (a b:Nat->Int):Int:=a 0*b 4+a 1*b 3+a 2*b 2+a 3*b 1+a 4*b 0
def w5 (a b:Nat->Int):Int:=a 1*b 4+a 2*b 3+a 3*b 2+a 4*b 1
def w6 (a b:Nat->Int):Int:=a 2*b 4+a 3*b 3+a 4*b 2
def w7 (a b:Nat->Int):Int:=a 3*b 4+a 4*b 3
def w8 (a b:Nat->Int):Int:=a 4*b 4
def B:Int:=4503600164241424
theorem aHe {a:Int} (ha:0<=a/\a<=4503600164241424):W (0+W a)=a:=by rw [iH (n:=a) (by omega),Int.zero_add,iH (by omega)]
theorem aHd {a b:Int} (ha:0<=a/\a<=4503600164241424) (hb:0<=b/\b<=4503600164241424):W (W (0+W a)+W b)=a+b:=by rw [aHe ha,iH (n:=b) (by omega),iH (by omega)]
theorem aHc {a b c:Int} (ha:0<=a/\a<=4503600164241424) (hb:0<=b/\b<=4503600164241424) (hc:0<=c/\c<=4503600164241424):W (W (W (0+W a)+W b)+W c)=a+b+c:=by rw [aHd ha hb,iH (n:=c) (by omega),iH (by omega)]
theorem aHb {a b c d:Int} (ha:0<=a/\a<=4503600164241424) (hb:0<=b/\b<=4503600164241424) (hc:0<=c/\c<=4503600164241424) (hd:0<=d/\d<=4503600164241424):W (W (W (W (0+W a)+W b)+W c)+W d)=a+b+c+d:=by rw [aHc ha hb hc,iH (n:=d) (by omega),iH (by omega)]
theorem bBk {a b c d e:Int} (ha:0<=a/\a<=4503600164241424) (hb:0<=b/\b<=4503600164241424) (hc:0<=c/\c<=4503600164241424) (hd:0<=d/\d<=4503600164241424) (he:0<=e/\e<=4503600164241424):W (W (W (W (W (0+W a)+W b)+W c)+W d)+W e)=a+b+c+d+e:=by rw [aHb ha hb hc hd,iH (n:=e) (by omega),iH (by omega)]
theorem ED {x y:Int} (hx:0<=x/\x<=22518000821207120) (hy:0<=y/\y<=22518000821207120):W (x+W (5*y))=x+5*y:=by rw [iH (n:=5*y) (by omega),iH (by omega)]
theorem aTx {x:Int} (hx:0<=x/\x<=22518000821207120):W (x+W (5*0))=x:=by rw [ED hx ⟨Int.le_refl 0,by decide⟩];omega
theorem Ok.get {a:List Int} (h:Ok a):∀ i,i<5->0<=a.getD i 0/\a.getD i 0<67108869:=by
 intro i hi
 have:=h.a0;have:=h.a1;have:=h.a2;have:=h.a3;have:=h.a4
 match i,hi with
 | 0,_=>omega
 | 1,_=>omega
 | 2,_=>omega
 | 3,_=>omega
 | 4,_=>omega
theorem TD {a b:Int} (ha:0<=a/\a<=4503600164241424) (hb:0<=b/\b<=4503600164241424):0<=a+b/\a+b<=22518000821207120:=by omega
theorem TB {a b c:Int} (ha:0<=a/\a<=4503600164241424) (hb:0<=b/\b<=4503600164241424) (hc:0<=c/\c<=4503600164241424):0<=a+b+c/\a+b+c<=22518000821207120:=by omega
theorem SZ {a b c d:Int} (ha:0<=a/\a<=4503600164241424) (hb:0<=b/\b<=4503600164241424) (hc:0<=c/\c<=4503600164241424) (hd:0<=d/\d<=4503600164241424):0<=a+b+c+d/\a+b+c+d<=22518000821207120:=by omega
theorem aNz {a b c d e:Int} (ha:0<=a/\a<=4503600164241424) (hb:0<=b/\b<=4503600164241424) (hc:0<=c/\c<=4503600164241424) (hd:0<=d/\d<=4503600164241424) (he:0<=e/\e<=4503600164241424):0<=a+b+c+d+e/\a+b+c+d+e<=22518000821207120:=by omega
theorem TE {a:Int} (ha:0<=a/\a<=4503600164241424):0<=a/\a<=22518000821207120:=by omega
theorem ZE (a b:List Int):UA a b 5=[W (0+W (a.getD 0 0*b.getD 0 0)),W (W (0+W (a.getD 0 0*b.getD 1 0))+W (a.getD 1 0*b.getD 0 0)),
 W (W (W (0+W (a.getD 0 0*b.getD 2 0))+W (a.getD 1 0*b.getD 1 0))+W (a.getD 2 0*b.getD 0 0)),
 W (W (W (W (0+W (a.getD 0 0*b.getD 3 0))+W (a.getD 1 0*b.getD 2 0))+W (a.getD 2 0*b.getD 1 0))+W (a.getD 3 0*b.getD 0 0)),
 W (W (W (W (W (0+W (a.getD 0 0*b.getD 4 0))+W (a.getD 1 0*b.getD 3 0))+W (a.getD 2 0*b.getD 2 0))+W (a.getD 3 0*b.getD 1 0))+W (a.getD 4 0*b.getD 0 0)),
 W (W (W (W (0+W (a.getD 1 0*b.getD 4 0))+W (a.getD 2 0*b.getD 3 0))+W (a.getD 3 0*b.getD 2 0))+W (a.getD 4 0*b.getD 1 0)),
 W (W (W (0+W (a.getD 2 0*b.getD 4 0))+W (a.getD 3 0*b.getD 3 0))+W (a.getD 4 0*b.getD 2 0)),
 W (W (0+W (a.getD 3 0*b.getD 4 0))+W (a.getD 4 0*b.getD 3 0)),W (0+W (a.getD 4 0*b.getD 4 0)),0]:=by kernel_rfl
theorem ZF {a b:List Int} (ha:Ok a) (hb:Ok b) :
 mulL a b=[w0 (a.getD · 0) (b.getD · 0)+5*w5 (a.getD · 0) (b.getD · 0),w1 (a.getD · 0) (b.getD · 0)+5*w6 (a.getD · 0) (b.getD · 0),w2 (a.getD · 0) (b.getD · 0)+5*w7 (a.getD · 0) (b.getD · 0),w3 (a.getD · 0) (b.getD · 0)+5*w8 (a.getD · 0) (b.getD · 0),w4 (a.getD · 0) (b.getD · 0)]:=by
 have r:∀ i k,i<5->k<5->0<=a.getD i 0*b.getD k 0/\a.getD i 0*b.getD k 0<=4503600164241424:=fun i k hi hk=>Wp (ha.get i hi) (hb.get k hk)
 have e:=ZE a b
 have q:∀ i k,i<5->k<5->0<=a.getD i 0*b.getD k 0/\a.getD i 0*b.getD k 0<=4503600164241424:=r
 have t00:=r 0 0 (by decide) (by decide);have t01:=r 0 1 (by decide) (by decide);have t02:=r 0 2 (by decide) (by decide);have t03:=r 0 3 (by decide) (by decide);have t04:=r 0 4 (by decide) (by decide)
 have t10:=r 1 0 (by decide) (by decide);have t11:=r 1 1 (by decide) (by decide);have t12:=r 1 2 (by decide) (by decide);have t13:=r 1 3 (by decide) (by decide);have t14:=r 1 4 (by decide) (by decide)
 have t20:=r 2 0 (by decide) (by decide);have t21:=r 2 1 (by decide) (by decide);have t22:=r 2 2 (by decide) (by decide);have t23:=r 2 3 (by decide) (by decide);have t24:=r 2 4 (by decide) (by decide)
 have t30:=r 3 0 (by decide) (by decide);have t31:=r 3 1 (by decide) (by decide);have t32:=r 3 2 (by decide) (by decide);have t33:=r 3 3 (by decide) (by decide);have t34:=r 3 4 (by decide) (by decide)
 have t40:=r 4 0 (by decide) (by decide);have t41:=r 4 1 (by decide) (by decide);have t42:=r 4 2 (by decide) (by decide);have t43:=r 4 3 (by decide) (by decide);have t44:=r 4 4 (by decide) (by decide)
 rw [aHe t00,aHd t01 t10,aHc t02 t11 t20,aHb t03 t12 t21 t30,bBk t04 t13 t22 t31 t40,aHb t14 t23 t32 t41,aHc t24 t33 t42,aHd t34 t43,aHe t44] at e
 unfold mulL
 rw [IS,e]
 simp only [List.getD_cons_zero,List.getD_cons_succ,w0,w1,w2,w3,w4,w5,w6,w7,w8]
 rw [ED (TE t00) (SZ t14 t23 t32 t41),ED (TD t01 t10) (TB t24 t33 t42),ED (TB t02 t11 t20) (TD t34 t43),ED (SZ t03 t12 t21 t30) (TE t44),aTx (aNz t04 t13 t22 t31 t40)]
end P
namespace P
theorem ex (c d x y:Int):(c*x)*(d*y)=(c*d)*(x*y):=by rw [Int.mul_assoc,Int.mul_left_comm x d y,<- Int.mul_assoc]
theorem aJn (a0 a1 a2 a3 a4 b0 b1 b2 b3 b4:Int) :
 (1*a0+67108864*a1+4503599627370496*a2+302231454903657293676544*a3+20282409603651670423947251286016*a4)*(1*b0+67108864*b1+4503599627370496*b2+302231454903657293676544*b3+20282409603651670423947251286016*b4) =
  (a0*b0+5*(a1*b4+a2*b3+a3*b2+a4*b1))+67108864*(a0*b1+a1*b0+5*(a2*b4+a3*b3+a4*b2))+4503599627370496*(a0*b2+a1*b1+a2*b0+5*(a3*b4+a4*b3))+302231454903657293676544*(a0*b3+a1*b2+a2*b1+a3*b0+5*(a4*b4))+20282409603651670423947251286016*(a0*b4+a1*b3+a2*b2+a3*b1+a4*b0) +
   1361129467683753853853498429727072845819*((a1*b4+a2*b3+a3*b2+a4*b1)+67108864*(a2*b4+a3*b3+a4*b2)+4503599627370496*(a3*b4+a4*b3)+302231454903657293676544*(a4*b4)):=by
 simp only [Int.add_mul,Int.mul_add]
 rw [ex 1 1 a0 b0,ex 1 67108864 a0 b1,ex 1 4503599627370496 a0 b2,ex 1 302231454903657293676544 a0 b3,ex 1 20282409603651670423947251286016 a0 b4,ex 67108864 1 a1 b0,ex 67108864 67108864 a1 b1,ex 67108864 4503599627370496 a1 b2,ex 67108864 302231454903657293676544 a1 b3,ex 67108864 20282409603651670423947251286016 a1 b4,ex 4503599627370496 1 a2 b0,ex 4503599627370496 67108864 a2 b1,ex 4503599627370496 4503599627370496 a2 b2,ex 4503599627370496 302231454903657293676544 a2 b3,ex 4503599627370496 20282409603651670423947251286016 a2 b4,ex 302231454903657293676544 1 a3 b0,ex 302231454903657293676544 67108864 a3 b1,ex 302231454903657293676544 4503599627370496 a3 b2,ex 302231454903657293676544 302231454903657293676544 a3 b3,ex 302231454903657293676544 20282409603651670423947251286016 a3 b4,ex 20282409603651670423947251286016 1 a4 b0,ex 20282409603651670423947251286016 67108864 a4 b1,ex 20282409603651670423947251286016 4503599627370496 a4 b2,ex 20282409603651670423947251286016 302231454903657293676544 a4 b3,ex 20282409603651670423947251286016 20282409603651670423947251286016 a4 b4]
 generalize a0*b0=m00
 generalize a0*b1=m01
 generalize a0*b2=m02
 generalize a0*b3=m03
 generalize a0*b4=m04
 generalize a1*b0=m10
 generalize a1*b1=m11
 generalize a1*b2=m12
 generalize a1*b3=m13
 generalize a1*b4=m14
 generalize a2*b0=m20
 generalize a2*b1=m21
 generalize a2*b2=m22
 generalize a2*b3=m23
 generalize a2*b4=m24
 generalize a3*b0=m30
 generalize a3*b1=m31
 generalize a3*b2=m32
 generalize a3*b3=m33
 generalize a3*b4=m34
 generalize a4*b0=m40
 generalize a4*b1=m41
 generalize a4*b2=m42
 generalize a4*b3=m43
 generalize a4*b4=m44
 omega
theorem aJz {a b:List Int} (ha:Ok a) (hb:Ok b):Ok (mul a b)/\∃ q,L (mul a b)=L a*L b-p*q:=by
 have r:∀ i k,i<5->k<5->0<=a.getD i 0*b.getD k 0/\a.getD i 0*b.getD k 0<=4503600164241424:=fun i k hi hk=>Wp (ha.get i hi) (hb.get k hk)
 have t00:=r 0 0 (by decide) (by decide);have t01:=r 0 1 (by decide) (by decide);have t02:=r 0 2 (by decide) (by decide);have t03:=r 0 3 (by decide) (by decide);have t04:=r 0 4 (by decide) (by decide)
 have t10:=r 1 0 (by decide) (by decide);have t11:=r 1 1 (by decide) (by decide);have t12:=r 1 2 (by decide) (by decide);have t13:=r 1 3 (by decide) (by decide);have t14:=r 1 4 (by decide) (by decide)
 have t20:=r 2 0 (by decide) (by decide);have t21:=r 2 1 (by decide) (by decide);have t22:=r 2 2 (by decide) (by decide);have t23:=r 2 3 (by decide) (by decide);have t24:=r 2 4 (by decide) (by decide)
 have t30:=r 3 0 (by decide) (by decide);have t31:=r 3 1 (by decide) (by decide);have t32:=r 3 2 (by decide) (by decide);have t33:=r 3 3 (by decide) (by decide);have t34:=r 3 4 (by decide) (by decide)
 have t40:=r 4 0 (by decide) (by decide);have t41:=r 4 1 (by decide) (by decide);have t42:=r 4 2 (by decide) (by decide);have t43:=r 4 3 (by decide) (by decide);have t44:=r 4 4 (by decide) (by decide)
 have f:∀ {x y:Int},0<=x/\x<=22518000821207120->0<=y/\y<=22518000821207120->0<=x+5*y/\x+5*y<1152921504606846976:=fun h1 h2=>by omega
 have g:∀ {x:Int},0<=x/\x<=22518000821207120->0<=x/\x<1152921504606846976:=fun h1=>by omega
 have e:=ZF ha hb
 obtain ⟨h1,q,h2⟩:=tN (x:=mulL a b) (m:=1152921504606846976) (Int.le_refl _) (by rw [e];exact f (TE t00) (SZ t14 t23 t32 t41)) (by rw [e];exact f (TD t01 t10) (TB t24 t33 t42)) (by rw [e];exact f (TB t02 t11 t20) (TD t34 t43)) (by rw [e];exact f (SZ t03 t12 t21 t30) (TE t44)) (by rw [e];exact g (aNz t04 t13 t22 t31 t40))
 refine ⟨h1,q+(w5 (a.getD · 0) (b.getD · 0)+67108864*w6 (a.getD · 0) (b.getD · 0)+4503599627370496*w7 (a.getD · 0) (b.getD · 0)+302231454903657293676544*w8 (a.getD · 0) (b.getD · 0)),?_⟩
 show L (settled (mulL a b))=_
 have hp:=aJn (a.getD 0 0) (a.getD 1 0) (a.getD 2 0) (a.getD 3 0) (a.getD 4 0) (b.getD 0 0) (b.getD 1 0) (b.getD 2 0) (b.getD 3 0) (b.getD 4 0)
 have lx:∀ x:List Int,L x=1*x.getD 0 0+67108864*x.getD 1 0+4503599627370496*x.getD 2 0+302231454903657293676544*x.getD 3 0+20282409603651670423947251286016*x.getD 4 0:=fun x=>by unfold L;rw [Int.one_mul]
 rw [h2,e,Cb,Int.mul_add,lx a,lx b,hp]
 simp only [w0,w1,w2,w3,w4,w5,w6,w7,w8,p]
 clear h1 h2 hp lx e f g r t00 t01 t02 t03 t04 t10 t11 t12 t13 t14 t20 t21 t22 t23 t24 t30 t31 t32 t33 t34 t40 t41 t42 t43 t44
 omega
end P
namespace P
def sM (x:Int):Prop:=0<=x/\x<256
theorem or_eq {x y k:Nat} (hx:x<2^k) (h:y*2^k+x<18446744073709551616):kN .u64 (x:Int) ((y*2^k:Nat):Int)=((y*2^k+x:Nat):Int):=by
 show (((BitVec.ofInt 64 (x:Int) ||| BitVec.ofInt 64 ((y*2^k:Nat):Int)).toNat:Nat):Int)%18446744073709551616=_
 have e:(BitVec.ofInt 64 (x:Int) ||| BitVec.ofInt 64 ((y*2^k:Nat):Int)).toNat=y*2^k+x:=by
  rw [BitVec.toNat_or,BitVec.ofInt_natCast,BitVec.ofInt_natCast,BitVec.toNat_ofNat,BitVec.toNat_ofNat,Nat.mod_eq_of_lt (show x<2^64 by omega),Nat.mod_eq_of_lt (show y*2^k<2^64 by omega),Nat.or_comm,<- Nat.shiftLeft_eq]
  exact (Nat.shiftLeft_add_eq_or_of_lt hx y).symm
 rw [e]
 omega
theorem aVq {y:Int} (h:sM y):dI .u64 (W y) 8=y*256:=by
 have:=h.1;have:=h.2
 rw [iH (by omega)]
 show (y*256)%18446744073709551616=_
 omega
theorem aRf {y:Int} (h:sM y):dI .u64 (W y) 16=y*65536:=by
 have:=h.1;have:=h.2
 rw [iH (by omega)]
 show (y*65536)%18446744073709551616=_
 omega
theorem aRe {y:Int} (h:sM y):dI .u64 (W y) 24=y*16777216:=by
 have:=h.1;have:=h.2
 rw [iH (by omega)]
 show (y*16777216)%18446744073709551616=_
 omega
theorem FR {x y:Int} {k:Nat} {m:Int} (hm:m=((2^k:Nat):Int)) (hk:k<=24) (hx:0<=x/\x<m) (hy:sM y):kN .u64 x (y*m)=x+y*m:=by
 obtain ⟨a,rfl⟩:=Int.eq_ofNat_of_zero_le hx.1
 obtain ⟨b,rfl⟩:=Int.eq_ofNat_of_zero_le hy.1
 have hb:=hy.2
 subst hm
 have h1:a<2^k:=by have:=hx.2;omega
 have h2:(2:Nat)^k<=2^24:=Nat.pow_le_pow_right (by decide) hk
 have h3:b*2^k<=255*2^24:=Nat.mul_le_mul (by omega) h2
 have h4:(255:Nat)*2^24+2^24<18446744073709551616:=by decide
 rw [<- Int.natCast_mul,or_eq h1 (by omega)]
 rw [Int.natCast_add];omega
theorem uV {a b c d:Int} (ha:sM a) (hb:sM b) (hc:sM c) (hd:sM d):word a b c d=a+256*b+65536*c+16777216*d:=by
 have:=ha.1;have:=ha.2;have:=hb.1;have:=hb.2;have:=hc.1;have:=hc.2
 unfold word
 rw [aVq hb,aRf hc,aRe hd,iH (by omega),FR (k:=8) (m:=256) rfl (by decide) (by omega) hb,FR (k:=16) (m:=65536) rfl (by decide) (by omega) hc,FR (k:=24) (m:=16777216) rfl (by decide) (by omega) hd]
 omega
theorem Cd (n:Int) (k:Nat) (hk:k<=64):bZ .u64 n (k:Int)=n/((2^k:Nat):Int):=by
 unfold bZ
 rw [Int.toNat_natCast,show min k IntKind.u64.bits=k from Nat.min_eq_left hk,Int.fdiv_eq_ediv_of_nonneg _ (Int.le_of_lt (Int.pow_pos (by decide))),Int.natCast_pow]
 rfl
theorem TG (n:Int):bZ .u64 n 2=n/4:=Cd n 2 (by decide)
theorem aVp (n:Int):bZ .u64 n 4=n/16:=Cd n 4 (by decide)
theorem aVo (n:Int):bZ .u64 n 6=n/64:=Cd n 6 (by decide)
def Pq (b:List Int):Int:=b.getD 0 0+256*b.getD 1 0+65536*b.getD 2 0+16777216*b.getD 3 0+4294967296*b.getD 4 0+1099511627776*b.getD 5 0+281474976710656*b.getD 6 0+72057594037927936*b.getD 7 0+18446744073709551616*b.getD 8 0+4722366482869645213696*b.getD 9 0+1208925819614629174706176*b.getD 10 0+309485009821345068724781056*b.getD 11 0+79228162514264337593543950336*b.getD 12 0+20282409603651670423947251286016*b.getD 13 0+5192296858534827628530496329220096*b.getD 14 0+1329227995784915872903807060280344576*b.getD 15 0+340282366920938463463374607431768211456*b.getD 16 0
theorem LM {b:List Int} (hb:∀ i,sM (b.getD i 0)):L (kB b)=Pq b/\(0<=(kB b).getD 0 0/\(kB b).getD 0 0<4294967296)/\(0<=(kB b).getD 1 0/\(kB b).getD 1 0<4294967296)/\(0<=(kB b).getD 2 0/\(kB b).getD 2 0<4294967296)/\(0<=(kB b).getD 3 0/\(kB b).getD 3 0<4294967296)/\(0<=(kB b).getD 4 0/\(kB b).getD 4 0<4294967296):=by
 have h0:=hb 0;have h1:=hb 1;have h2:=hb 2;have h3:=hb 3;have h4:=hb 4;have h5:=hb 5;have h6:=hb 6;have h7:=hb 7;have h8:=hb 8;have h9:=hb 9;have h10:=hb 10;have h11:=hb 11;have h12:=hb 12;have h13:=hb 13;have h14:=hb 14;have h15:=hb 15;have tZ:=hb 16
 unfold kB
 rw [uV h0 h1 h2 h3,uV h3 h4 h5 h6,uV h6 h7 h8 h9,uV h9 h10 h11 h12,uV h13 h14 h15 tZ,TG,aVp,aVo]
 unfold Pq
 unfold sM at *
 clear hb
 generalize b.getD 0 0=b0 at *
 generalize b.getD 1 0=b1 at *
 generalize b.getD 2 0=b2 at *
 generalize b.getD 3 0=b3 at *
 generalize b.getD 4 0=b4 at *
 generalize b.getD 5 0=b5 at *
 generalize b.getD 6 0=b6 at *
 generalize b.getD 7 0=b7 at *
 generalize b.getD 8 0=b8 at *
 generalize b.getD 9 0=b9 at *
 generalize b.getD 10 0=dC at *
 generalize b.getD 11 0=dB at *
 generalize b.getD 12 0=dA at *
 generalize b.getD 13 0=dH at *
 generalize b.getD 14 0=dG at *
 generalize b.getD 15 0=gN at *
 generalize b.getD 16 0=iW at *
 have l0:lo (b0+256*b1+65536*b2+16777216*b3)=b0+256*b1+65536*b2+16777216*(b3%4):=by
  rw [oO (by omega)];omega
 have l1:lo ((b3+256*b4+65536*b5+16777216*b6)/4)=b3/4+64*b4+16384*b5+4194304*(b6%16):=by
  rw [oO (by omega)];omega
 have l2:lo ((b6+256*b7+65536*b8+16777216*b9)/16)=b6/16+16*b7+4096*b8+1048576*(b9%64):=by
  rw [oO (by omega)];omega
 have l3:(b9+256*dC+65536*dB+16777216*dA)/64=b9/64+4*dC+1024*dB+262144*dA:=by omega
 rw [l0,l1,l2,l3]
 simp only [List.getD_cons_zero,List.getD_cons_succ,Cb]
 have d3:=Int.emod_add_mul_ediv b3 4
 have d6:=Int.emod_add_mul_ediv b6 16
 have d9:=Int.emod_add_mul_ediv b9 64
 refine ⟨?_,by omega,by omega,by omega,by omega,by omega⟩
 generalize b3%4=r3 at *
 generalize b3/4=q3 at *
 generalize b6%16=r6 at *
 generalize b6/16=q6 at *
 generalize b9%64=r9 at *
 generalize b9/64=q9 at *
 omega
theorem Ip {b:List Int} (hb:∀ i,sM (b.getD i 0)):Ok (num b)/\∃ q,L (num b)=Pq b-p*q:=by
 obtain ⟨h,a0,a1,a2,a3,a4⟩:=LM hb
 obtain ⟨h1,q,h2⟩:=tN (x:=kB b) (m:=4294967296) (by omega) a0 a1 a2 a3 a4
 exact ⟨h1,q,by rw [<- h];exact h2⟩
end P
namespace P
theorem Ik (x y:Int):gO .u64 x y=((BitVec.ofInt 64 x ^^^ BitVec.ofInt 64 y).toNat:Int):=by
 show ((BitVec.ofInt 64 x ^^^ BitVec.ofInt 64 y).toNat:Int)%18446744073709551616=_
 have:=(BitVec.ofInt 64 x ^^^ BitVec.ofInt 64 y).isLt
 omega
theorem KF (x y:Int):bU .u64 x y=((BitVec.ofInt 64 x &&& BitVec.ofInt 64 y).toNat:Int):=by
 show ((BitVec.ofInt 64 x &&& BitVec.ofInt 64 y).toNat:Int)%18446744073709551616=_
 have:=(BitVec.ofInt 64 x &&& BitVec.ofInt 64 y).isLt
 omega
theorem Ja (x:BitVec 64):BitVec.ofInt 64 (x.toNat:Int)=x:=by rw [BitVec.ofInt_natCast,BitVec.ofNat_toNat,BitVec.setWidth_eq]
theorem JJ {x:Int} (h:0<=x/\x<18446744073709551616):((BitVec.ofInt 64 x).toNat:Int)=x:=by
 obtain ⟨m,rfl⟩:=Int.eq_ofNat_of_zero_le h.1
 rw [BitVec.ofInt_natCast,BitVec.toNat_ofNat,Nat.mod_eq_of_lt (show m<2^64 by omega)]
theorem Lx {a b:Int} (hb:0<=b/\b<18446744073709551616):pick 0 a b=b:=by
 unfold pick
 rw [show W (0-bU .u64 0 1)=0 by decide,Ik a b,KF,Ja,show BitVec.ofInt 64 0=0#64 from rfl,BitVec.zero_and,Ik,Ja,BitVec.xor_zero]
 exact JJ hb
theorem Lw {a b:Int} (ha:0<=a/\a<18446744073709551616):pick 1 a b=a:=by
 unfold pick
 rw [show W (0-bU .u64 1 1)=18446744073709551615 by decide,Ik a b,KF,Ja,show BitVec.ofInt 64 18446744073709551615=BitVec.allOnes 64 by decide,BitVec.allOnes_and,Ik,Ja,BitVec.xor_comm (BitVec.ofInt 64 a),<- BitVec.xor_assoc,BitVec.xor_self,BitVec.zero_xor]
 exact JJ ha
structure RO (x:List Int):Prop where
 len:x.length=5
 a0:0<=x.getD 0 0/\x.getD 0 0<67108864
 a1:0<=x.getD 1 0/\x.getD 1 0<67108864
 a2:0<=x.getD 2 0/\x.getD 2 0<67108864
 a3:0<=x.getD 3 0/\x.getD 3 0<67108864
 a4:0<=x.getD 4 0/\x.getD 4 0<67108864
theorem LB {x:List Int} (h:Ok x):RO (pass x)/\∃ q,L (pass x)=L x-p*q:=by
 obtain ⟨q,_,b2,b3,b4,b5,b6,b7,b8,b9⟩:=Qt (x:=x) (m:=67108869) (by omega) h.a0 ⟨h.a1.1,by have:=h.a1.2;omega⟩ ⟨h.a2.1,by have:=h.a2.2;omega⟩ ⟨h.a3.1,by have:=h.a3.2;omega⟩ ⟨h.a4.1,by have:=h.a4.2;omega⟩
 obtain ⟨k1,k2,k3,k4,e1,e2,e3,e4,e⟩:=Ji (x:=x) (m:=67108869) (by omega) h.a0 ⟨h.a1.1,by have:=h.a1.2;omega⟩ ⟨h.a2.1,by have:=h.a2.2;omega⟩ ⟨h.a3.1,by have:=h.a3.2;omega⟩ ⟨h.a4.1,by have:=h.a4.2;omega⟩
 refine ⟨⟨b4,⟨b5.1,?_⟩,b6,b7,b8,b9⟩,q,b3⟩
 rw [e]
 simp only [List.getD_cons_zero]
 have h0:=h.a0;have h1:=h.a1;have h2:=h.a2;have h3:=h.a3;have h4:=h.a4
 omega
theorem Zp {x:List Int} (h:RO x):pass x=x:=by
 have h0:=h.a0;have h1:=h.a1;have h2:=h.a2;have h3:=h.a3;have h4:=h.a4
 obtain ⟨k1,k2,k3,k4,e1,e2,e3,e4,e⟩:=Ji (x:=x) (m:=67108864) (by omega) h0 h1 h2 h3 h4
 rw [e]
 clear e
 obtain ⟨hl,_,_,_,_,_⟩:=h
 match x,hl with
 | [x0,x1,x2,x3,x4],_=>
   simp only [List.getD_cons_zero,List.getD_cons_succ] at *
   have z0:x0/67108864=0:=Int.ediv_eq_zero_of_lt h0.1 h0.2
   rw [z0,Int.add_zero] at e1
   have z1:x1/67108864=0:=Int.ediv_eq_zero_of_lt h1.1 h1.2
   rw [e1,z1,Int.add_zero] at e2
   have z2:x2/67108864=0:=Int.ediv_eq_zero_of_lt h2.1 h2.2
   rw [e2,z2,Int.add_zero] at e3
   have z3:x3/67108864=0:=Int.ediv_eq_zero_of_lt h3.1 h3.2
   rw [e3,z3,Int.add_zero] at e4
   have z4:x4/67108864=0:=Int.ediv_eq_zero_of_lt h4.1 h4.2
   rw [e1,e2,e3,e4,z4,Int.emod_eq_of_lt h0.1 h0.2,Int.emod_eq_of_lt h1.1 h1.2,Int.emod_eq_of_lt h2.1 h2.2,Int.emod_eq_of_lt h3.1 h3.2,Int.emod_eq_of_lt h4.1 h4.2,Int.mul_zero,Int.add_zero]
theorem Og {x:List Int} (h:Ok x):RO (settled x)/\∃ q,L (settled x)=L x-p*q:=by
 obtain ⟨h1,q,h2⟩:=LB h
 have e:settled x=pass x:=Zp h1
 rw [e]
 exact ⟨h1,q,h2⟩
end P
namespace P
theorem Zt {t:List Int} (h:RO t):RO (xH t)/\L (xH t)=L t%p:=by
 have h':=h
 obtain ⟨hl,h0,h1,h2,h3,h4⟩:=h
 match t,hl with
 | [t0,t1,t2,t3,t4],_=>
   simp only [List.getD_cons_zero,List.getD_cons_succ] at h0 h1 h2 h3 h4
   have e0:g0 [t0,t1,t2,t3,t4]=t0+5:=by unfold g0;simp only [List.getD_cons_zero];rw [iH (by omega)]
   obtain ⟨q0,Pj⟩:∃ q,q=(t0+5)/67108864:=⟨_,rfl⟩
   have r0:0<=q0/\q0<=1:=by omega
   have e1:g1 [t0,t1,t2,t3,t4]=t1+q0:=by unfold g1;rw [e0,sO,<- Pj];simp only [List.getD_cons_zero,List.getD_cons_succ];rw [iH (by omega)]
   obtain ⟨q1,zP⟩:∃ q,q=(t1+q0)/67108864:=⟨_,rfl⟩
   have r1:0<=q1/\q1<=1:=by clear Pj;omega
   have e2:g2 [t0,t1,t2,t3,t4]=t2+q1:=by unfold g2;rw [e1,sO,<- zP];simp only [List.getD_cons_zero,List.getD_cons_succ];rw [iH (by clear Pj zP;omega)]
   obtain ⟨q2,Ug⟩:∃ q,q=(t2+q1)/67108864:=⟨_,rfl⟩
   have r2:0<=q2/\q2<=1:=by clear Pj zP;omega
   have e3:g3 [t0,t1,t2,t3,t4]=t3+q2:=by unfold g3;rw [e2,sO,<- Ug];simp only [List.getD_cons_zero,List.getD_cons_succ];rw [iH (by clear Pj zP Ug;omega)]
   obtain ⟨q3,RD⟩:∃ q,q=(t3+q2)/67108864:=⟨_,rfl⟩
   have r3:0<=q3/\q3<=1:=by clear Pj zP Ug;omega
   have e4:g4 [t0,t1,t2,t3,t4]=t4+q3:=by unfold g4;rw [e3,sO,<- RD];simp only [List.getD_cons_zero,List.getD_cons_succ];rw [iH (by clear Pj zP Ug RD;omega)]
   obtain ⟨q4,hq4⟩:∃ q,q=(t4+q3)/67108864:=⟨_,rfl⟩
   have r4:q4=0\/q4=1:=by clear Pj zP Ug RD;omega
   have d0:=Int.emod_add_mul_ediv (t0+5) 67108864
   have d1:=Int.emod_add_mul_ediv (t1+q0) 67108864
   have d2:=Int.emod_add_mul_ediv (t2+q1) 67108864
   have d3:=Int.emod_add_mul_ediv (t3+q2) 67108864
   have d4:=Int.emod_add_mul_ediv (t4+q3) 67108864
   rw [<- Pj] at d0
   rw [<- zP] at d1
   rw [<- Ug] at d2
   rw [<- RD] at d3
   rw [<- hq4] at d4
   have m0:=Int.emod_nonneg (t0+5) (show (67108864:Int)≠0 by decide)
   have m1:=Int.emod_nonneg (t1+q0) (show (67108864:Int)≠0 by decide)
   have m2:=Int.emod_nonneg (t2+q1) (show (67108864:Int)≠0 by decide)
   have m3:=Int.emod_nonneg (t3+q2) (show (67108864:Int)≠0 by decide)
   have m4:=Int.emod_nonneg (t4+q3) (show (67108864:Int)≠0 by decide)
   have n0:=Int.emod_lt_of_pos (t0+5) (show (0:Int)<67108864 by decide)
   have n1:=Int.emod_lt_of_pos (t1+q0) (show (0:Int)<67108864 by decide)
   have n2:=Int.emod_lt_of_pos (t2+q1) (show (0:Int)<67108864 by decide)
   have n3:=Int.emod_lt_of_pos (t3+q2) (show (0:Int)<67108864 by decide)
   have n4:=Int.emod_lt_of_pos (t4+q3) (show (0:Int)<67108864 by decide)
   have s:sh (g4 [t0,t1,t2,t3,t4])=q4:=by rw [e4,sO,hq4]
   have l0:lo (t0+5)=(t0+5)%67108864:=oO (by clear Pj zP Ug RD hq4 d0 d1 d2 d3 d4;omega)
   have l1:lo (t1+q0)=(t1+q0)%67108864:=oO (by clear Pj zP Ug RD hq4 d0 d1 d2 d3 d4;omega)
   have l2:lo (t2+q1)=(t2+q1)%67108864:=oO (by clear Pj zP Ug RD hq4 d0 d1 d2 d3 d4;omega)
   have l3:lo (t3+q2)=(t3+q2)%67108864:=oO (by clear Pj zP Ug RD hq4 d0 d1 d2 d3 d4;omega)
   have l4:lo (t4+q3)=(t4+q3)%67108864:=oO (by clear Pj zP Ug RD hq4 d0 d1 d2 d3 d4;omega)
   unfold xH
   rw [s,e0,e1,e2,e3,e4,l0,l1,l2,l3,l4]
   simp only [List.getD_cons_zero,List.getD_cons_succ]
   clear Pj zP Ug RD hq4 e0 e1 e2 e3 e4 s l0 l1 l2 l3 l4
   generalize (t0+5)%67108864=x0 at *
   generalize (t1+q0)%67108864=x1 at *
   generalize (t2+q1)%67108864=x2 at *
   generalize (t3+q2)%67108864=x3 at *
   generalize (t4+q3)%67108864=x4 at *
   have c:∀ x:Int,0<=x/\x<67108864->0<=x/\x<18446744073709551616:=fun x hx=>by clear d0 d1 d2 d3 d4;omega
   rcases r4 with rfl | rfl
   .rw [Lx (c _ h0),Lx (c _ h1),Lx (c _ h2),Lx (c _ h3),Lx (c _ h4)]
    refine ⟨h',?_⟩
    rw [Cb]
    unfold p
    rw [Int.emod_eq_of_lt (by omega) (by omega)]
   .rw [Lw (c _ ⟨m0,n0⟩),Lw (c _ ⟨m1,n1⟩),Lw (c _ ⟨m2,n2⟩),Lw (c _ ⟨m3,n3⟩),Lw (c _ ⟨m4,n4⟩)]
    refine ⟨⟨rfl,⟨m0,n0⟩,⟨m1,n1⟩,⟨m2,n2⟩,⟨m3,n3⟩,⟨m4,n4⟩⟩,?_⟩
    rw [Cb,Cb]
    unfold p
    have hd:x0+67108864*x1+4503599627370496*x2+302231454903657293676544*x3+20282409603651670423947251286016*x4=t0+67108864*t1+4503599627370496*t2+302231454903657293676544*t3+20282409603651670423947251286016*t4-1361129467683753853853498429727072845819:=by omega
    have z0:0<=x0+67108864*x1+4503599627370496*x2+302231454903657293676544*x3+20282409603651670423947251286016*x4:=by clear hd d0 d1 d2 d3 d4;omega
    have z1:t0+67108864*t1+4503599627370496*t2+302231454903657293676544*t3+20282409603651670423947251286016*t4<1361129467683753853853498429727072845824:=by clear hd d0 d1 d2 d3 d4;omega
    rw [hd] at z0 |-
    clear hd d0 d1 d2 d3 d4
    generalize t0+67108864*t1+4503599627370496*t2+302231454903657293676544*t3+20282409603651670423947251286016*t4=z at *
    have k:z=(z-1361129467683753853853498429727072845819)+1361129467683753853853498429727072845819*1:=by omega
    have e:z%1361129467683753853853498429727072845819=(z-1361129467683753853853498429727072845819)%1361129467683753853853498429727072845819:=by
     conv=>lhs;rw [k]
     rw [Int.add_mul_emod_self_left]
    rw [e,Int.emod_eq_of_lt z0 (by omega)]
theorem LN {a:List Int} (h:Ok a):RO (least a)/\L (least a)=L a%p:=by
 obtain ⟨h1,q,h2⟩:=Og h
 obtain ⟨h3,h4⟩:=Zt h1
 refine ⟨h3,?_⟩
 show L (xH (settled a))=_
 rw [h4,h2,Int.sub_eq_add_neg,<- Int.mul_neg,Int.add_mul_emod_self_left]
end P
namespace P
theorem Ce {y:Int} (k:Nat) (hk:k<=64):dI .u64 y (k:Int)=(y*((2^k:Nat):Int))%18446744073709551616:=by
 unfold dI
 rw [Int.toNat_natCast,show min k IntKind.u64.bits=k from Nat.min_eq_left hk]
 show (y*2^k)%18446744073709551616=_
 rw [Int.natCast_pow];rfl
theorem aRd (y:Int):dI .u64 y 26=(y*67108864)%18446744073709551616:=Ce 26 (by decide)
theorem aRb (y:Int):dI .u64 y 52=(y*4503599627370496)%18446744073709551616:=Ce 52 (by decide)
theorem aRg (y:Int):dI .u64 y 14=(y*16384)%18446744073709551616:=Ce 14 (by decide)
theorem aRc (y:Int):dI .u64 y 40=(y*1099511627776)%18446744073709551616:=Ce 40 (by decide)
theorem aRa (n:Int):bZ .u64 n 12=n/4096:=Cd n 12 (by decide)
theorem Ly {x y:Int} {k:Nat} {m:Int} (hm:m=((2^k:Nat):Int)) (hx:0<=x/\x<m) (hy:0<=y) (h:y*m+x<18446744073709551616):kN .u64 x (y*m)=x+y*m:=by
 obtain ⟨a,rfl⟩:=Int.eq_ofNat_of_zero_le hx.1
 obtain ⟨b,rfl⟩:=Int.eq_ofNat_of_zero_le hy
 subst hm
 have h1:a<2^k:=by have:=hx.2;omega
 rw [<- Int.natCast_mul] at h |-
 rw [or_eq h1 (by omega),Int.natCast_add];omega
theorem aKk {t:List Int} (h:RO t):low t=t.getD 0 0+67108864*t.getD 1 0+4503599627370496*(t.getD 2 0%4096):=by
 obtain ⟨_,h0,h1,h2,_,_⟩:=h
 unfold low
 generalize t.getD 0 0=t0 at *
 generalize t.getD 1 0=t1 at *
 generalize t.getD 2 0=t2 at *
 rw [aRd,aRb,show (t1*67108864)%18446744073709551616=t1*67108864 by omega,show (t2*4503599627370496)%18446744073709551616=(t2%4096)*4503599627370496 by omega,
  Ly (k:=26) (m:=67108864) rfl h0 h1.1 (by omega),Ly (k:=52) (m:=4503599627370496) rfl (by omega) (by omega) (by omega)]
 omega
theorem aAq {t:List Int} (h:RO t):high t=t.getD 2 0/4096+16384*t.getD 3 0+1099511627776*(t.getD 4 0%16777216):=by
 obtain ⟨_,_,_,h2,h3,h4⟩:=h
 unfold high
 generalize t.getD 2 0=t2 at *
 generalize t.getD 3 0=t3 at *
 generalize t.getD 4 0=t4 at *
 rw [aRa,aRg,aRc,show (t3*16384)%18446744073709551616=t3*16384 by omega,show (t4*1099511627776)%18446744073709551616=(t4%16777216)*1099511627776 by omega,
  Ly (k:=14) (m:=16384) rfl (by omega) h3.1 (by omega),Ly (k:=40) (m:=1099511627776) rfl (by omega) (by omega) (by omega)]
 omega
theorem Mq {t:List Int} (h:RO t):low t+18446744073709551616*high t=L t%340282366920938463463374607431768211456/\(0<=low t/\low t<18446744073709551616)/\(0<=high t/\high t<18446744073709551616):=by
 rw [aKk h,aAq h]
 obtain ⟨_,h0,h1,h2,h3,h4⟩:=h
 unfold L
 generalize t.getD 0 0=t0 at *
 generalize t.getD 1 0=t1 at *
 generalize t.getD 2 0=t2 at *
 generalize t.getD 3 0=t3 at *
 generalize t.getD 4 0=t4 at *
 refine ⟨?_,by omega,by omega⟩
 have d2:=Int.emod_add_mul_ediv t2 4096
 have d4:=Int.emod_add_mul_ediv t4 16777216
 have m2:=Int.emod_nonneg t2 (show (4096:Int)≠0 by decide)
 have n2:=Int.emod_lt_of_pos t2 (show (0:Int)<4096 by decide)
 have m4:=Int.emod_nonneg t4 (show (16777216:Int)≠0 by decide)
 have n4:=Int.emod_lt_of_pos t4 (show (0:Int)<16777216 by decide)
 have q2:0<=t2/4096/\t2/4096<16384:=by omega
 generalize t2%4096=r2 at *
 generalize t2/4096=s2 at *
 generalize t4%16777216=r4 at *
 generalize t4/16777216=s4 at *
 have e:t0+67108864*t1+4503599627370496*t2+302231454903657293676544*t3+20282409603651670423947251286016*t4=(t0+67108864*t1+4503599627370496*r2+18446744073709551616*(s2+16384*t3+1099511627776*r4))+340282366920938463463374607431768211456*s4:=by omega
 rw [e,Int.add_mul_emod_self_left,Int.emod_eq_of_lt (by omega) (by omega)]
end P
namespace P
def S (b:List Int) (k:Nat):Nat->Int
 | 0=>0
 | n+1=>S b k n+b.getD (k+n) 0*((256^n:Nat):Int)
theorem Mk {b:List Int} (hb:∀ i,sM (b.getD i 0)) (k:Nat):∀ n,0<=S b k n/\S b k n<((256^n:Nat):Int)
 | 0=>⟨Int.le_refl 0,(by decide:(0:Int)<((256^0:Nat):Int))⟩
 | n+1=>by
   obtain ⟨h1,h2⟩:=Mk hb k n
   have hy:=hb (k+n)
   have hp:(0:Int)<((256^n:Nat):Int):=Int.natCast_pos.2 (Nat.pow_pos (by decide))
   have e:((256^(n+1):Nat):Int)=256*((256^n:Nat):Int):=by rw [Nat.pow_succ,Nat.mul_comm,Int.natCast_mul];rfl
   have a1:0<=b.getD (k+n) 0*((256^n:Nat):Int):=Int.mul_nonneg hy.1 (Int.le_of_lt hp)
   have a2:b.getD (k+n) 0*((256^n:Nat):Int)<=255*((256^n:Nat):Int):=Int.mul_le_mul_of_nonneg_right (by have:=hy.2;omega) (Int.le_of_lt hp)
   simp only [S]
   rw [e]
   omega
theorem Co {b:List Int} (hb:∀ i,sM (b.getD i 0)) (k:Nat):∀ n,n<=8->acc b k n=S b k n
 | 0,_=>rfl
 | n+1,hn=>by
   obtain ⟨h1,h2⟩:=Mk hb k n
   obtain ⟨h3,h4⟩:=Mk hb k (n+1)
   have hy:=hb (k+n)
   have hw:W (b.getD (k+n) 0)=b.getD (k+n) 0:=iH (by have:=hy.1;have:=hy.2;omega)
   have aOw:(256^n:Nat)=2^(8*n):=by rw [Nat.pow_mul]
   have bCf:((256^(n+1):Nat):Int)<=18446744073709551616:=by
    have:(256:Nat)^(n+1)<=256^8:=Nat.pow_le_pow_right (by decide) hn
    have e8:(256:Nat)^8=18446744073709551616:=by decide
    omega
   have hnn:0<=b.getD (k+n) 0*((256^n:Nat):Int):=Int.mul_nonneg hy.1 (Int.natCast_nonneg _)
   simp only [S] at h3 h4 |-
   simp only [acc]
   rw [Co hb k n (by omega),hw,show (8:Int)*(n:Int)=((8*n:Nat):Int) by omega,Ce (8*n) (by omega),<- aOw,Int.emod_eq_of_lt hnn (by omega)]
   exact Ly (k:=8*n) (by rw [aOw]) ⟨h1,h2⟩ hy.1 (by omega)
end P
namespace P
theorem rX {x:Int} (hx:0<=x) {i:Nat} (hi:i<8):byteOf x i=x/((256^i:Nat):Int)%256:=by
 unfold byteOf
 rw [show (8:Int)*(i:Int)=((8*i:Nat):Int) by omega,Cd x (8*i) (by omega),show (2:Nat)^(8*i)=256^i by rw [Nat.pow_mul]]
 rfl
theorem Dv (x:Int) (i:Nat):sM (byteOf x i):=by
 have e:byteOf x i=(bZ .u64 x (8*(i:Int)))%256:=rfl
 unfold sM
 rw [e];omega
theorem mod_succ (x:Int) (n:Nat):x%((256^(n+1):Nat):Int)=x%((256^n:Nat):Int)+(x/((256^n:Nat):Int)%256)*((256^n:Nat):Int):=by
 have hp:(0:Int)<((256^n:Nat):Int):=Int.natCast_pos.2 (Nat.pow_pos (by decide))
 have e:((256^(n+1):Nat):Int)=((256^n:Nat):Int)*256:=by rw [Nat.pow_succ,Int.natCast_mul];rfl
 rw [e]
 generalize ((256^n:Nat):Int)=m at *
 have h1:=Int.emod_add_mul_ediv x m
 have h2:=Int.emod_nonneg x (show m≠0 by omega)
 have h3:=Int.emod_lt_of_pos x hp
 have h4:=Int.emod_add_mul_ediv (x/m) 256
 have h5:=Int.emod_nonneg (x/m) (show (256:Int)≠0 by omega)
 have h6:=Int.emod_lt_of_pos (x/m) (show (0:Int)<256 by omega)
 generalize x/m%256=s at *
 generalize x/m/256=q at *
 generalize x%m=r at *
 have k:x=(r+s*m)+m*256*q:=by
  rw [<- h1,<- h4,Int.mul_add,Int.mul_comm m s,<- Int.mul_assoc];omega
 have l:r+s*m<m*256:=by
  have:s*m<=255*m:=Int.mul_le_mul_of_nonneg_right (by omega) (by omega)
  omega
 have l0:0<=r+s*m:=by
  have:0<=s*m:=Int.mul_nonneg h5 (by omega)
  omega
 rw [k,Int.add_mul_emod_self_left,Int.emod_eq_of_lt l0 l]
theorem Xr {b:List Int} {k:Nat} {x:Int} (h:∀ i,i<8->b.getD (k+i) 0=x/((256^i:Nat):Int)%256):∀ n,n<=8->S b k n=x%((256^n:Nat):Int)
 | 0,_=>by simp [S,Int.emod_one]
 | n+1,hn=>by
   simp only [S]
   rw [Xr h n (by omega),h n (by omega),mod_succ]
theorem S8 {b:List Int} {k:Nat} {x:Int} (h:∀ i,i<8->b.getD (k+i) 0=x/((256^i:Nat):Int)%256) (hx:0<=x/\x<18446744073709551616):S b k 8=x:=by
 rw [Xr h 8 (Nat.le_refl 8)]
 exact Int.emod_eq_of_lt hx.1 hx.2
theorem aLd (f g:Nat->Int) (r:List Int) {i:Nat} (hi:i<8):((List.range 8).map f++((List.range 8).map g++r)).getD i 0=f i:=by
 rw [List.getD_eq_getElem?_getD,List.getElem?_append_left (by simpa using hi)]
 simp [hi]
theorem aLe (f g:Nat->Int) (r:List Int) {i:Nat} (hi:i<8):((List.range 8).map f++((List.range 8).map g++r)).getD (8+i) 0=g i:=by
 rw [List.getD_eq_getElem?_getD,List.getElem?_append_right (by simp),List.getElem?_append_left (by simp;omega)]
 simp [hi]
theorem bBj {t:List Int} (h:RO t) (hb:∀ i,sM ((lH t).getD i 0)):acc (lH t) 0 8=low t/\acc (lH t) 8 8=high t:=by
 obtain ⟨_,hl,hh⟩:=Mq h
 rw [Co hb 0 8 (Nat.le_refl 8),Co hb 8 8 (Nat.le_refl 8)]
 refine ⟨S8 (fun i hi=>?_) hl,S8 (fun i hi=>?_) hh⟩
 .rw [Nat.zero_add]
  unfold lH
  rw [aLd _ _ _ hi,rX hl.1 hi]
 .unfold lH
  rw [aLe _ _ _ hi,rX hh.1 hi]
end P
namespace P
theorem rS {l:List Int} (h:∀ x∈l,sM x) (i:Nat):sM (l.getD i 0):=by
 rw [List.getD_eq_getElem?_getD]
 cases hi:l[i]? with
 | none=>exact ⟨Int.le_refl 0,(by decide:(0:Int)<256)⟩
 | some x=>exact h x (List.mem_of_getElem? hi)
theorem Tv (t:List Int):∀ i,sM ((lH t).getD i 0):=rS fun x hx=>by
 unfold lH at hx
 simp only [List.mem_append,List.mem_map,List.mem_singleton] at hx
 rcases hx with ⟨i,_,rfl⟩ | ⟨i,_,rfl⟩ | rfl
 .exact Dv _ _
 .exact Dv _ _
 .have e:IntKind.u8.wrap (bZ .u64 (t.getD 4 0) 24)=(bZ .u64 (t.getD 4 0) 24)%256:=rfl
  unfold sM
  rw [e];omega
def V2 (s:List Int):Int:=S s 0 8+18446744073709551616*S s 8 8
theorem Zh {a s:List Int} (ha:Ok a) (hs:∀ i,sM (s.getD i 0)) :
 ES (lH (least a)) s=(L a%p+V2 s)%340282366920938463463374607431768211456%18446744073709551616/\ET (lH (least a)) s=(L a%p+V2 s)%340282366920938463463374607431768211456/18446744073709551616:=by
 obtain ⟨hR,hL⟩:=LN ha
 obtain ⟨hw,hl,hh⟩:=Mq hR
 obtain ⟨a0,a8⟩:=bBj hR (Tv _)
 have s0:=Mk hs 0 8
 have s8:=Mk hs 8 8
 have e8:((256^8:Nat):Int)=18446744073709551616:=by decide
 rw [e8] at s0 s8
 unfold ES ET V2
 rw [a0,a8,Co hs 0 8 (Nat.le_refl 8),Co hs 8 8 (Nat.le_refl 8),<- hL]
 clear hL a0 a8 e8
 generalize low (least a)=l at *
 generalize high (least a)=h at *
 generalize S s 0 8=x at *
 generalize S s 8 8=y at *
 generalize L (least a)=z at *
 have hz:=Int.emod_add_mul_ediv z 340282366920938463463374607431768211456
 rw [<- hw] at hz
 generalize z/340282366920938463463374607431768211456=k at *
 have d1:=Int.emod_add_mul_ediv (l+x+0) 18446744073709551616
 have m1:=Int.emod_nonneg (l+x+0) (show (18446744073709551616:Int)≠0 by decide)
 have n1:=Int.emod_lt_of_pos (l+x+0) (show (0:Int)<18446744073709551616 by decide)
 generalize (l+x+0)%18446744073709551616=lo at *
 generalize (l+x+0)/18446744073709551616=c at *
 have d2:=Int.emod_add_mul_ediv (h+y+c) 18446744073709551616
 have m2:=Int.emod_nonneg (h+y+c) (show (18446744073709551616:Int)≠0 by decide)
 have n2:=Int.emod_lt_of_pos (h+y+c) (show (0:Int)<18446744073709551616 by decide)
 generalize (h+y+c)%18446744073709551616=hi at *
 generalize (h+y+c)/18446744073709551616=d at *
 have e:z+(x+18446744073709551616*y)=(lo+18446744073709551616*hi)+340282366920938463463374607431768211456*(d+k):=by clear hw hl hh s0 s8;omega
 rw [e,Int.add_mul_emod_self_left,Int.emod_eq_of_lt (a:=lo+18446744073709551616*hi) (by clear e hz d1 d2 hw;omega) (by clear e hz d1 d2 hw;omega),Int.add_mul_emod_self_left,Int.emod_eq_of_lt m1 n1,Int.add_mul_ediv_left _ _ (by decide),Int.ediv_eq_zero_of_lt m1 n1,Int.zero_add]
 exact ⟨rfl,rfl⟩
end P
namespace P
theorem Un {x q:Int}:(x-p*q)%p=x%p:=by rw [Int.sub_eq_add_neg,<- Int.mul_neg,Int.add_mul_emod_self_left]
theorem Wb {s b y:List Int} (hs:Ok s) (hy:Ok y) (hb:∀ i,sM (b.getD i 0)):Ok (plus s b y)/\L (plus s b y)%p=((L s%p+Pq b)*L y)%p:=by
 obtain ⟨hn,q1,e1⟩:=Ip hb
 obtain ⟨hm,q2,e2⟩:=aNr hs hn
 obtain ⟨hr,q3,e3⟩:=aJz hm hy
 refine ⟨hr,?_⟩
 show L (mul (add s (num b)) y)%p=_
 have h1:L (add s (num b))%p=(L s%p+Pq b)%p:=by
  rw [e2,Un,e1,show L s+(Pq b-p*q1)=(L s+Pq b)-p*q1 by omega,Un]
  unfold p
  omega
 rw [e3,Un,Int.mul_emod,h1,<- Int.mul_emod]
theorem aQj:Ok (List.replicate 5 0):=⟨rfl,by decide,by decide,by decide,by decide,by decide⟩
theorem aVa:L (List.replicate 5 0)=0:=by decide
end P
namespace P
theorem aJl {S:MS} (hS:S.WF) (h0:S.held=0) {d:List Int} (hd:d.length=16):put S d=⟨S.eT,plus S.sum (d++[1]) S.eT,S.mask,nL,0⟩:=by
 obtain ⟨eT,sum,mask,aN,held⟩:=S
 simp only at h0
 subst h0
 rw [Cv eT sum mask d aN 0 hS.Pf (by omega) (fun e=>by rw [e] at hd;cases hd)]
 rfl
def hor (r:Int) (d:List Int):Nat->Int
 | 0=>0
 | j+1=>((hor r d j+Pq ((d.drop (16*j)).take 16++[1]))*r)%p
theorem aDd {d:List Int} (hd:∀ x∈d,sM x) (j:Nat):∀ i,sM (((d.drop (16*j)).take 16++[1]).getD i 0):=rS fun x hx=>by
 rcases List.mem_append.1 hx with h | h
 .exact hd x (List.mem_of_mem_drop (List.mem_of_mem_take h))
 .simp only [List.mem_singleton] at h
  subst h
  exact ⟨by decide,by decide⟩
theorem Dn {eT mask:List Int} (hb:Ok eT) (hm:mask.length=16) {d:List Int} (hd:∀ x∈d,sM x):∀ j,16*j<=d.length ->
 ∃ s,put ⟨eT,List.replicate 5 0,mask,nL,0⟩ (d.take (16*j))=⟨eT,s,mask,nL,0⟩/\Ok s/\L s%p=hor (L eT) d j
 | 0,_=>⟨List.replicate 5 0,by rw [Nat.mul_zero,List.take_zero,YK],aQj,by rw [aVa];rfl⟩
 | j+1,h=>by
   obtain ⟨s,e,hs,hL⟩:=Dn hb hm hd j (by omega)
   have hl:((d.drop (16*j)).take 16).length=16:=by rw [List.length_take,List.length_drop];omega
   have hw:(⟨eT,s,mask,nL,0⟩:MS).WF:=⟨hb.len,hs.len,hm,rfl,(by decide:0<16),rfl⟩
   obtain ⟨h1,h2⟩:=Wb hs hb (aDd hd j)
   refine ⟨plus s ((d.drop (16*j)).take 16++[1]) eT,?_,h1,?_⟩
   .have et:d.take (16*(j+1))=d.take (16*j)++(d.drop (16*j)).take 16:=by rw [Nat.mul_add,Nat.mul_one,List.take_add]
    rw [et,lO,e,aJl hw rfl hl]
   .rw [h2,hL];rfl
end P
namespace P
def Ev (S:MS):List Int:=if 0<S.held then plus S.sum ((S.aN++[0]).set S.held 1) S.eT else S.sum
def Qc (r:Int) (d:List Int):Int:=if d.length%16=0 then hor r d (d.length/16) else ((hor r d (d.length/16)+Pq (d.drop (16*(d.length/16))++1::List.replicate (16-d.length%16) 0))*r)%p
theorem LU {r:List Int} (h:r.length<16):((nL.take 0++r++nL.drop (0+r.length))++[0]).set (0+r.length) 1=r++1::List.replicate (16-r.length) 0:=by
 have e:nL.drop (0+r.length)++[0]=0::List.replicate (16-r.length) 0:=by
  unfold nL
  rw [List.drop_replicate,Nat.zero_add,<- List.replicate_succ,<- List.replicate_succ']
 rw [List.take_zero,List.nil_append,List.append_assoc,e,Nat.zero_add,List.set_append_right _ _ (Nat.le_refl _),Nat.sub_self]
 rfl
theorem aLi {eT mask:List Int} (hb:Ok eT) (hm:mask.length=16) {d:List Int} (hd:∀ x∈d,sM x) :
 Ok (Ev (put ⟨eT,List.replicate 5 0,mask,nL,0⟩ d))/\L (Ev (put ⟨eT,List.replicate 5 0,mask,nL,0⟩ d))%p=Qc (L eT) d/\(put ⟨eT,List.replicate 5 0,mask,nL,0⟩ d).mask=mask:=by
 obtain ⟨s,e,hs,hL⟩:=Dn hb hm hd (d.length/16) (by omega)
 have hr:(d.drop (16*(d.length/16))).length=d.length%16:=by rw [List.length_drop];omega
 have ed:put ⟨eT,List.replicate 5 0,mask,nL,0⟩ d=put ⟨eT,s,mask,nL,0⟩ (d.drop (16*(d.length/16))):=by
  rw [<- e,<- lO,List.take_append_drop]
 have ef:=uZ eT s mask (d.drop (16*(d.length/16))) nL 0 rfl (by rw [hr];omega)
 rw [ed,ef]
 unfold Ev Qc
 simp only
 by_cases h0:d.length%16=0
 .rw [if_neg (by omega),if_pos h0]
  exact ⟨hs,hL,trivial⟩
 .rw [if_pos (by omega),if_neg h0,LU (by omega),hr]
  obtain ⟨h1,h2⟩:=Wb (s:=s) (y:=eT) (b:=d.drop (16*(d.length/16))++1::List.replicate (16-d.length%16) 0) hs hb (rS fun x hx=>by
   rcases List.mem_append.1 hx with h | h
   .exact hd x (List.mem_of_mem_drop h)
   .rcases List.mem_cons.1 h with rfl | h
    .exact ⟨by decide,by decide⟩
    .rw [List.eq_of_mem_replicate h];exact ⟨by decide,by decide⟩)
  exact ⟨h1,by rw [h2,hL],trivial⟩
end P
theorem zY {L:List Int} (h:L.length=16):Ud (fun j=>L.getD j 0)=L:=eD h
theorem aJk {L K:List Int} (h:L.length=16):Ud (fun j=>(L++K).getD j 0)=L:=by
 rw [<- zY h]
 refine List.map_congr_left fun j hj=>?_
 have hj:j<16:=by simpa using hj
 rw [zY h,List.getD_eq_getElem?_getD,List.getElem?_append_left (by omega),<- List.getD_eq_getElem?_getD]
theorem IT {L K:List Int} (h:L.length=16) (hk:K.length=16):Ud (fun j=>(L++K).getD (16+j) 0)=K:=by
 conv=>rhs;rw [<- zY hk]
 refine List.map_congr_left fun j hj=>?_
 rw [List.getD_eq_getElem?_getD,List.getElem?_append_right (by omega),h,show 16+j-16=j by omega,<- List.getD_eq_getElem?_getD]
theorem Fw {S':P.MS} {b s:List Int} {mk bk:Nat->Int} {h:Int} (h1:b=S'.eT) (h2:s=S'.sum) (h3:∀ j<16,mk j=S'.mask.getD j 0) (h4:∀ j<16,bk j=S'.aN.getD j 0) (h5:h=(S'.held:Int)):∀ q∈qM b s mk bk h S',q:=by
 subst h1 h2 h5
 intro q hq
 simp only [qM,List.mem_append,List.mem_map,List.mem_range,List.mem_cons,List.not_mem_nil,or_false] at hq
 rcases hq with ⟨j,_,rfl⟩ | ⟨j,_,rfl⟩ | ⟨j,hj,rfl⟩ | ⟨j,hj,rfl⟩ | rfl
 .trivial
 .trivial
 .exact h3 j hj
 .exact h4 j hj
 .trivial
theorem Cg {S S':P.MS} (h:S=S'):∀ q∈qMS S S',q:=by
 subst h
 exact Fw rfl rfl (fun _ _=>rfl) (fun _ _=>rfl) rfl
theorem P.Mb {S:P.MS} (h:S.WF):P.nf S=S:=by
 obtain ⟨eT,sum,mask,aN,held⟩:=S
 obtain ⟨h1,h2,h3,h4,h5,h6⟩:=h
 simp only [P.nf,jB h1,jB h2,eD h3,eD h4,Int.toNat_natCast]
theorem Ql {y s:List Int} {mk bk:Nat->Int} {h:Int} {N:P.MS} {b:List Int} {r:List Prop} (hy:y.length=5) (hs:s.length=5) (hb:b.length=17)
 (hq:∀ q∈qM y s mk bk h N,q) (hr:∀ q∈r,q):∀ q∈tkG P.plus y s mk bk h N b r,q:=
 aO rfl (aO (by rw [jB hy];exact hy) (aO (by rw [jB hs];exact hs) (aO hb (aO rfl (aO rfl (qT hq hr))))))
theorem IF {d:List Int} (h:16<=d.length):tkD d=d.take 16:=by
 unfold tkD
 rw [List.take_of_length_le]
 have:(d.take 16).length=16:=by rw [List.length_take];omega
 rw [this];decide
theorem IE {d:List Int} (h:16<=d.length):tqL d=d.take 16++[1]:=by
 have hl:(d.take 16).length=16:=by rw [List.length_take];omega
 unfold tqL SY
 rw [IF h,hl,List.take_zero,List.nil_append]
 show ((d.take 16)++[0]).set 16 1=_
 rw [List.set_append_right _ _ (by omega),hl]
 rfl
theorem aNd (d:List Int):d16 d=d.take 16:=rfl
theorem P.aRt {S:P.MS} (hS:S.WF) (h0:S.held=0) {d:List Int} (hd:d.length=16):P.put S d=⟨S.eT,P.plus S.sum (d++[1]) S.eT,S.mask,P.nL,0⟩:=by
 obtain ⟨eT,sum,mask,aN,held⟩:=S
 simp only at h0
 subst h0
 rw [P.Cv eT sum mask d aN 0 hS.Pf (by omega) (fun e=>by rw [e] at hd;cases hd)]
 rfl
theorem P.Vo (j:Nat):P.nL.getD j 0=0:=by
 unfold P.nL
 rw [List.getD_eq_getElem?_getD,List.getElem?_replicate]
 split <;> rfl
theorem P.bBb {S:P.MS} (hS:S.WF) (h0:S.held=0):S.aN=P.nL:=by
 have:=hS.z
 rw [h0] at this
 exact this
theorem IJ {S:P.MS} (hS:S.WF) (d:List Int) (h m:Nat):spM S d (27+h) m=S.mask++(S.aN.take h++d.take m++S.aN.drop (h+(d.take m).length)):=by
 unfold spM
 rw [eD hS.Pd,eD hS.Pf,show 27+h-11=S.mask.length+h by rw [hS.Pd];omega,List.take_length_add_append,Nat.add_assoc,List.drop_length_add_append]
 simp only [List.append_assoc]
theorem Wr {S:P.MS} (hS:S.WF) {d:List Int} {h m:Nat} (hm:h+(d.take m).length<=16):(S.aN.take h++d.take m++S.aN.drop (h+(d.take m).length)).length=16:=by
 have:=hS.Pf
 simp only [List.length_append,List.length_drop,List.length_take] at *
 omega
theorem ZD {S:P.MS} (d:List Int) (hS:S.WF) (hl:d.length<=1000000000000) :
 aF Tryz.prog (Ps P.plus) 84 (DK d.length) (QU S d) 100 100 (RW (.eL []) (P.put S d)):=by
 refine gR (Vm _) (Vn _) Tryz.func84 (by kernel_rfl) rfl (Nat.le_of_ble_eq_true (by kernel_rfl)) rfl [] ?_
 intro w0 M V0 Q hb H
 have aT:=Vm P.plus
 have aX:=Vn P.plus
 have key:∀ (S1:P.MS) (d2:List Int),S1.WF->(S1.held=0\/d2=[])->P.put S1 d2=P.put S d->d2.length<=1000000000000 ->
  G Tryz.prog (Ps P.plus) w0 M (bH 100 (QU S d)) Tryz.f84.ntmps 100 V0 (.go (.loop Yn)) mwK (cB (At d2.length) (Be S1 d2) 101 [60] []) Q:=by
  intro S1 d2 hw h0 he SI
  refine G.loop (fun r s=>∃ (S1:P.MS) (d2:List Int),S1.WF/\(S1.held=0\/d2=[])/\P.put S1 d2=P.put S d/\d2.length<=1000000000000/\r=d2.length/\s=cB (At d2.length) (Be S1 d2) 101 [60] []) (r0:=d2.length)
   ⟨S1,d2,hw,h0,he,SI,rfl,rfl⟩ ?_
  clear hw h0 he SI S1 d2
  rintro r s ⟨S1,d2,hw,h0,he,SI,rfl,rfl⟩
  by_cases tZ:16<=d2.length
  .have hT:lT d2.length=true:=decide_eq_true (by omega)
   have h0:S1.held=0:=h0.resolve_right fun e=>by rw [e] at tZ;simp at tZ
   have ht:(d2.take 16).length=16:=by rw [List.length_take];omega
   have e1:=P.aRt hw h0 ht
   have h:=aXt P.plus S S1 (P.put S1 (d2.take 16)) d d2 (d2.drop 16) d2.length (d2.drop 16).length
   rw [aNd,IE (by omega),IF (by omega),List.take_take,Nat.min_self,ht] at h
   refine G.lE aT aX mix hb [true] h ?_ (d2.drop 16).length (by rw [List.length_drop];omega) ⟨_,_,P.Im hw _,?_,?_,?_,rfl,rfl⟩
   .have CZ:(SY (d2.take 16)).length=17:=by
     have:=congrArg List.length (IE (d:=d2.take 16) (by omega))
     rw [List.take_take] at this
     simpa [tqL,ht] using this
    have aOz:(d2.take 16++[1]).length=17:=by rw [List.length_append,ht];rfl
    refine aO ⟨by omega,by omega,by omega⟩ (Ql hw.b5 hw.s5 aOz (by rw [P.Mb hw];exact Cg rfl) (qT ?_ (aO hT (aO rfl (aO (by rw [List.length_drop];omega) (qT ?_ (aO ?_ iG)))))))
    .refine aA (show _/\_/\_/\_/\_/\_/\True from ⟨aOz,by rw [CZ];decide,⟨Nat.le_refl 0,by omega⟩,by omega,Nat.le_refl _,⟨by omega,by omega,by omega⟩,trivial⟩)
    .rw [e1]
     refine Fw rfl ?_ (fun _ _=>rfl) (fun j _=>by rw [P.bBb hw h0]) (by rw [h0])
     show P.plus _ _ _=P.plus _ _ _
     rw [jB hw.s5,jB hw.b5]
    .rw [List.take_of_length_le (by rw [List.length_drop];omega)];rfl
   .left;rw [e1]
   .rw [<- P.lO,List.take_append_drop];exact he
   .rw [List.length_drop];omega
  .have hT:lT d2.length=false:=decide_eq_false (by omega)
   refine G.fM aT aX mix hb [false] (aXs P.plus S S1 S1 d d2 d2 d2.length d2.length) (aO hT (aO rfl (aO rfl (qT (Cg rfl) (aO rfl iG))))) (G.leave (by simp) ?_)
   by_cases hz:d2.length=0
   .have hd:d2=[]:=List.length_eq_zero_iff.1 hz
    subst hd
    have hP:gP 0=false:=rfl
    have h6:=aXq P.plus S S1 d [] 0
    have e3:S1=P.put S d:=he
    rw [e3] at h6
    rw [e3]
    exact G.qR (cl:=[]) aT aX mix [false] H h6 (aO hP (aO rfl iG)) rfl rfl rfl
   .have h0:S1.held=0:=h0.resolve_right fun e=>hz (by rw [e];rfl)
    have hP:gP d2.length=true:=decide_eq_true (by omega)
    have h5:=aXr P.plus S S1 d d2 d2.length
    have e3:spF S1 d2=P.put S d:=by
     rw [<- he]
     have aZb:d2.length.min 16=d2.length:=Nat.min_eq_left (by omega)
     have em:=IJ hw d2 0 d2.length
     rw [List.take_length,List.take_zero,List.nil_append,Nat.zero_add] at em
     have hlen:=Wr hw (d:=d2) (h:=0) (m:=d2.length) (by rw [List.take_length];omega)
     rw [List.take_length,List.take_zero,List.nil_append,Nat.zero_add] at hlen
     have ep:=P.uZ S1.eT S1.sum S1.mask d2 S1.aN 0 hw.Pf (by omega)
     rw [List.take_zero,List.nil_append,Nat.zero_add] at ep
     have eS:S1=⟨S1.eT,S1.sum,S1.mask,S1.aN,0⟩:=by rw [<- h0]
     rw [eS,ep]
     unfold spF spE
     simp only [aZb]
     have em':spM ⟨S1.eT,S1.sum,S1.mask,S1.aN,0⟩ d2 27 d2.length=S1.mask++(d2++S1.aN.drop d2.length):=em
     rw [em',aJk hw.Pd,IT hw.Pd hlen]
    rw [e3] at h5
    exact G.qR (cl:=[]) aT aX mix [true] H h5 (aO ⟨by omega,by rw [List.length_take];omega⟩ (aO hP (aO rfl iG))) rfl rfl rfl
 by_cases hz:S.held=0
 .have hG:gT S.held=false:=decide_eq_false (by omega)
  refine G.fM aT aX mix hb [false] (aXw P.plus S S d d d.length d.length) (aO hG (aO rfl (aO rfl (qT (Cg rfl) (aO rfl iG))))) ?_
  exact key S d hS (.inl hz) rfl hl
 .have hG:gT S.held=true:=decide_eq_true (by omega)
  have hh:=hS.hl
  have hm:mM d S.held=min d.length (16-S.held):=rfl
  have hmd:mM d S.held<=d.length:=by rw [hm];omega
  have bCh:S.held+mM d S.held<=16:=by rw [hm];omega
  have hmz:mM d S.held=d.length\/S.held+mM d S.held=16:=by rw [hm];omega
  clear hm
  generalize hmm:mM d S.held=m at *
  have CD:(d.take m).length=m:=by rw [List.length_take];omega
  have ho:oM S.held=27+S.held:=by unfold oM;rw [if_neg (by omega),Int.toNat_natCast];omega
  have hhq:hq S.held m=((S.held+m:Nat):Int):=by unfold hq;rw [IntWalk.i64_in _ (by omega)];omega
  have em:=IJ hS d S.held m
  have hlen:=Wr hS (d:=d) (h:=S.held) (m:=m) (by omega)
  have ej:spJ S d=fun j=>(S.mask++(S.aN.take S.held++d.take m++S.aN.drop (S.held+(d.take m).length))).getD j 0:=by
   funext j;unfold spJ;rw [ho,hmm,em]
  rw [CD] at ej hlen em
  have hmc:∀ {r:List Prop},(∀ q∈r,q)->∀ q∈mcO S.held d.length m d r,q:=fun hr=>
   aO ⟨by omega,by omega,by omega⟩ (aO ⟨by rw [ho];omega,by rw [ho,CD];omega⟩ (aO ⟨by omega,by omega,by omega,by omega,Int.natCast_nonneg _,by omega⟩ (aO hG (aO rfl hr))))
  have hdl:(d.drop m).length=d.length-m:=List.length_drop
  have htd:(d.drop (m:Int).toNat).take ((d.length:Int).toNat-(m:Int).toNat)=d.drop m:=by
   rw [Int.toNat_natCast,Int.toNat_natCast,List.take_of_length_le (by rw [hdl];omega)]
  have RB:=P.Im hS (d.take m)
  have hpp:P.put (P.put S (d.take m)) (d.drop m)=P.put S d:=by rw [<- P.lO,List.take_append_drop]
  by_cases hf:S.held+m=16
  .have hbq:(hq S.held m==16)=true:=by rw [hhq,hf];rfl
   have ep:=P.Cv S.eT S.sum S.mask (d.take m) S.aN S.held hS.Pf (by omega) (fun e=>by rw [e] at CD;simp at CD;omega)
   have eS:P.put S (d.take m)=⟨S.eT,P.plus S.sum (S.aN.take S.held++d.take m++[1]) S.eT,S.mask,P.nL,0⟩:=ep
   have aPs:S.aN.drop (S.held+m)=[]:=List.drop_eq_nil_of_le (by rw [hf];exact Nat.le_of_eq hS.Pf)
   have hB:DM S d=S.aN.take S.held++d.take m++[1]:=by
    unfold DM
    rw [ej,IT hS.Pd hlen,aPs,List.append_nil]
   have aZn:(DM S d).length=17:=by rw [hB];rw [aPs,List.append_nil] at hlen;rw [List.length_append,hlen];rfl
   have h2:=aXu P.plus S (P.put S (d.take m)) d (d.drop m) d.length (d.drop m).length
   rw [hmm] at h2
   refine G.fM aT aX mix hb [true,true] h2 (Ql hS.b5 hS.s5 aZn ?_ (aO hbq (aO rfl (hmc (aO (by rw [hdl];omega) (qT ?_ (aO htd iG))))))) ?_
   .unfold spN
    refine Fw (jB hS.b5).symm (jB hS.s5).symm (fun j hj=>?_) (fun j hj=>?_) ?_
    .simp [Ud,List.getD_eq_getElem?_getD,hj]
    .simp [Ud,List.getD_eq_getElem?_getD,hj]
    .rw [hmm,hhq,Int.toNat_natCast]
   .rw [eS]
    refine Fw rfl (by show P.plus _ _ _=P.plus _ _ _;rw [jB hS.s5,jB hS.b5,hB]) (fun j hj=>?_) (fun j hj=>?_) rfl
    .rw [ej];simp only
     rw [List.getD_eq_getElem?_getD,List.getElem?_append_left (by rw [hS.Pd];exact hj),<- List.getD_eq_getElem?_getD]
    .exact (P.Vo j).symm
   .exact key _ _ RB (.inl (by rw [eS])) hpp (by rw [hdl];omega)
  .have bCg:m=d.length:=hmz.resolve_right hf
   have hbq:(hq S.held m==16)=false:=by rw [hhq];simpa using by omega
   have ep:=P.uZ S.eT S.sum S.mask (d.take m) S.aN S.held hS.Pf (by omega)
   have eS:P.put S (d.take m)=⟨S.eT,S.sum,S.mask,S.aN.take S.held++d.take m++S.aN.drop (S.held+(d.take m).length),S.held+(d.take m).length⟩:=ep
   rw [CD] at eS
   have h1:=aXv P.plus S (P.put S (d.take m)) d (d.drop m) d.length (d.drop m).length
   rw [hmm,ho,em] at h1
   refine G.fM aT aX mix hb [true,false] h1 (aO hbq (aO rfl (hmc (aO (by rw [hdl];omega) (qT ?_ (aO htd iG)))))) ?_
   .rw [eS]
    refine Fw rfl rfl (fun j hj=>?_) (fun j hj=>?_) hhq
    .rw [List.getD_eq_getElem?_getD,List.getElem?_append_left (by rw [hS.Pd];exact hj),<- List.getD_eq_getElem?_getD]
    .rw [List.getD_eq_getElem?_getD,List.getElem?_append_right (by rw [hS.Pd];omega),hS.Pd,show 16+j-16=j by omega,<- List.getD_eq_getElem?_getD]
   .exact key _ _ RB (.inr (List.drop_eq_nil_of_le (by omega))) hpp (by rw [hdl];omega)
noncomputable def Qg (pl:List Int->List Int->List Int->List Int):Nat->Option Sum:=dM (aGo pl) 129 (aK aB 100 Uq)
theorem Xa (pl:List Int->List Int->List Int->List Int):∀ f S,Qg pl f=some S->∀ Γ:Env,Γ.aR=aB->aH Tryz.prog Γ f S:=bD (Xb pl) 129 _ IV
theorem aQt (pl:List Int->List Int->List Int->List Int) (S:P.MS):aJ (env (Qg pl) 4) Tryz.f85 true [false] 1500 [.ptr 60 true 0] (mnT S) 100 100 =
 some { bM:=[(c5 S.sum).length=5,(dJ 16 S.mask).length=16,c5 S.sum=c5 S.sum,dJ 16 S.mask=dJ 16 S.mask,gT S.held=false,gT S.held=gT S.held],val:=.agg (cO .u8 16 (P.tag (c5 S.sum) (dJ 16 S.mask))) }:=by kernel_rfl
def tgB (S:P.MS):List Int:=(dJ 16 S.aN++[0]).set (0+(S.held:Int).toNat*1) 1
def tgX (pl:List Int->List Int->List Int->List Int) (S:P.MS):List Int:=c5 (pl (c5 S.sum) (tgB S) (c5 S.eT))
def Pf (a b:List Int):List Prop:=[a.length=5,b.length=16,a=a,b=b]
theorem aQs (pl:List Int->List Int->List Int->List Int) (S:P.MS):aJ (env (Qg pl) 4) Tryz.f85 true [true] 1500 [.ptr 60 true 0] (mnT S) 100 100 =
 some { RW (.agg (cO .u8 16 (P.tag (tgX pl S) (dJ 16 S.mask)))) (P.nf S) with bM:=Pf (tgX pl S) (dJ 16 S.mask)++tkG pl S.eT S.sum (S.mask.getD · 0) (S.aN.getD · 0) S.held (P.nf S) (tgB S) [(tgB S).length=17,0+(S.held:Int).toNat*1<(dJ 16 S.aN++[0]).length,0<=(S.held:Int)/\(S.held:Int)<(17:Nat),gT S.held=true,gT S.held=gT S.held] }:=by kernel_rfl
namespace P
def Fs (S:MS):List Int:=tag (Ev S) S.mask
end P
theorem KN {S:P.MS} (hS:S.WF) (Γ:Env) (hg:Γ.aR=aB):aF Tryz.prog Γ 85 [.ptr 60 true 0] (mnT S) 100 100 (RW (.agg (cO .u8 16 (P.Fs S))) S):=by
 have hk:∀ {a b:List Int},a.length=5->b.length=16->∀ q∈Pf a b,q:=fun h1 h2=>aA (show _/\_/\_/\_/\True from ⟨h1,h2,rfl,rfl,trivial⟩)
 by_cases hz:S.held=0
 .have hG:gT S.held=false:=decide_eq_false (by omega)
  have hs:aH Tryz.prog (env (Qg P.plus) 4) 85 (aJ (env (Qg P.plus) 4) Tryz.f85 true [false] 1500):=aM (bQ _ 4) (bW _ (Xa _) 4) mix Tryz.func85 (by kernel_rfl) true [false] 1500
  have h:=hs.call (aQt P.plus S) (aO (by rw [jB hS.s5];exact hS.s5) (aO (by rw [eD hS.Pd];exact hS.Pd) (aO rfl (aO rfl (aO hG (aO rfl iG))))))
  have e1:P.Fs S=P.tag (c5 S.sum) (dJ 16 S.mask):=by unfold P.Fs P.Ev;rw [if_neg (by omega),jB hS.s5,eD hS.Pd]
  rw [e1]
  exact (h.same (l0:=60) (by simp only [mnT,mnL,aI]) rfl).words (by rw [hg];rfl) (fun _=>rfl) (fun _ _ h=>h) (fun V=>rfl) rfl rfl
 .have hG:gT S.held=true:=decide_eq_true (by omega)
  have hh:=hS.hl
  have hs:aH Tryz.prog (env (Qg P.plus) 4) 85 (aJ (env (Qg P.plus) 4) Tryz.f85 true [true] 1500):=aM (bQ _ 4) (bW _ (Xa _) 4) mix Tryz.func85 (by kernel_rfl) true [true] 1500
  have eB:tgB S=(S.aN++[0]).set S.held 1:=by unfold tgB;rw [eD hS.Pf,Int.toNat_natCast,Nat.mul_one,Nat.zero_add]
  have hB:(tgB S).length=17:=by rw [eB,List.length_set,List.length_append,hS.Pf];rfl
  have eX:tgX P.plus S=P.Ev S:=by unfold tgX P.Ev;rw [if_pos (by omega),jB hS.s5,jB hS.b5,jB rfl,eB]
  have h:=hs.call (aQs P.plus S) (qT (hk (by rw [eX];unfold P.Ev;rw [if_pos (by omega)];rfl) (by rw [eD hS.Pd];exact hS.Pd)) (Ql hS.b5 hS.s5 hB (by rw [P.Mb hS];exact Cg rfl)
   (aO hB (aO (by rw [eD hS.Pf,List.length_append,hS.Pf,Int.toNat_natCast,List.length_singleton];omega) (aO ⟨by omega,by omega⟩ (aO hG (aO rfl iG)))))))
  rw [P.Mb hS,eX,eD hS.Pd] at h
  exact h.words (by rw [hg];rfl) (fun _=>rfl) (fun _ _ h=>h) (fun V=>rfl) rfl rfl
def GF (vs:List SV) (T:aZ):Option Canon:=match vs with
 | [.ptr l _ _,p]=>match T l with
   | some (.own cs ty)=>match Nat.beq ty 182,msN cs,cW T .u8 p with
     | true,some S,some (ob,d)=>some { eR:=[.ptr 60 true 0,.eV 61 d.length],T0:=mtL S d,vl:=[(60,.lab l 0),(61,.arg 1)],e0:=RW (.eL []) (P.put S d),conds:=S.WF::(d.length<=1000000000000)::ob }
     | _,_,_=>none
   | _=>none
 | _=>none
theorem aJy (Γ:Env) (hg:Γ.aR=aB):aH Tryz.prog Γ 84 (aK aB 100 GF):=by
 refine aW hg fun vs T c hd hc=>?_
 unfold GF at hd
 split at hd
 case h_2=>cases hd
 split at hd
 case h_2=>cases hd
 split at hd
 case h_2=>cases hd
 cases hd
 exact (ZD _ (hc _ cM) (hc _ (List.mem_cons_of_mem _ cM))).words (by rw [hg];rfl) (fun _=>rfl) (fun _ _ h=>h) (fun _=>rfl) rfl rfl
def Qm (vs:List SV) (T:aZ):Option Canon:=match vs with
 | [.ptr l _ _]=>match T l with
   | some (.own cs ty)=>match Nat.beq ty 182,msN cs with
     | true,some S=>some { eR:=[.ptr 60 true 0],T0:=mnL S,vl:=[(60,.lab l 0)],e0:=RW (.agg (cO .u8 16 (P.Fs S))) S,conds:=[S.WF] }
     | _,_=>none
   | _=>none
 | _=>none
theorem VS (Γ:Env) (hg:Γ.aR=aB):aH Tryz.prog Γ 85 (aK aB 100 Qm):=by
 refine aW hg fun vs T c hd hc=>?_
 unfold Qm at hd
 split at hd
 case h_2=>cases hd
 split at hd
 case h_2=>cases hd
 split at hd
 case h_2=>cases hd
 cases hd
 exact KN (hc _ cM) Γ hg
open M in
def HS (vs:List SV) (T:aZ):Option Canon:=match vs with
 | [.aG lq true 0 nq cq,.ptr ls true 0,.aG lu true 0 nu cu,.cP lv 0 3 0]=>match T lq,T ls,T lu,T lv with
   | some (.own qs 196),some (.own [.raw (.pointer none)] 306),some (.own us 196),some (.row 1 _ 196)=>match cX .u64 qs,cX .u64 us,Nat.beq nu 4 with
     | some [y0],some [u0,u1,u2,u3,_,_,_],true=>match Nat.beq cu 7&&(Nat.beq nq 1&&Nat.beq cq 1) with
       | true=>some { eR:=Bk 4 7 1 1,T0:=[(61,.own (wc [y0]) 196),(62,.own [.raw (.pointer none)] 306),(63,.own (wc [u0,u1,u2,u3,0,0,0]) 196),(64,.row 1 fF 196)],vl:=[(61,.lab lq 0),(62,.lab ls 0),(63,.lab lu 0),(64,.lab lv 0)]
                      e0:={ val:=.eL [],wr:=[(61,.own (wc [n4 u0 u1 u2 u3/DD]) 196),(63,.own (wc [w0 (n4 u0 u1 u2 u3%DD),w1 (n4 u0 u1 u2 u3%DD),w2 (n4 u0 u1 u2 u3%DD),0,0,0,0]) 196),(62,.own [.raw (.pointer none)] 306),(64,.row 1 fF 196)] },conds:=[U u0,U u1,U u2,U u3,u3<9223372036854775808] }
       | false=>none
     | some [y0],some [u0,u1,u2,u3,_,_,_,_],true=>match Nat.beq cu 8&&(Nat.beq nq 1&&Nat.beq cq 1) with
       | true=>some { eR:=Bk 4 8 1 1,T0:=[(61,.own (wc [y0]) 196),(62,.own [.raw (.pointer none)] 306),(63,.own (wc [u0,u1,u2,u3,0,0,0,0]) 196),(64,.row 1 fF 196)],vl:=[(61,.lab lq 0),(62,.lab ls 0),(63,.lab lu 0),(64,.lab lv 0)]
                      e0:={ val:=.eL [],wr:=[(61,.own (wc [n4 u0 u1 u2 u3/DD]) 196),(63,.own (wc [w0 (n4 u0 u1 u2 u3%DD),w1 (n4 u0 u1 u2 u3%DD),w2 (n4 u0 u1 u2 u3%DD),0,0,0,0,0]) 196),(62,.own [.raw (.pointer none)] 306),(64,.row 1 fF 196)] },conds:=[U u0,U u1,U u2,U u3,u3<9223372036854775808] }
       | false=>none
     | some [y0,y1,_,_,_,_],some [u0,u1,u2,u3,u4,_,_,_],false=>match Nat.beq nu 5&&(Nat.beq cu 8&&(Nat.beq nq 2&&Nat.beq cq 6)) with
       | true=>some { eR:=Bk 5 8 2 6,T0:=[(61,.own (wc [y0,y1,0,0,0,0]) 196),(62,.own [.raw (.pointer none)] 306),(63,.own (wc [u0,u1,u2,u3,u4,0,0,0]) 196),(64,.row 1 fF 196)],vl:=[(61,.lab lq 0),(62,.lab ls 0),(63,.lab lu 0),(64,.lab lv 0)]
                      e0:={ val:=.eL [],wr:=[(61,.own (wc [r5 u0 u1 u2 u3 u4/DD,n4 u1 u2 u3 u4/DD,0,0,0,0]) 196),(63,.own (wc [w0 (r5 u0 u1 u2 u3 u4%DD),w1 (r5 u0 u1 u2 u3 u4%DD),w2 (r5 u0 u1 u2 u3 u4%DD),0,0,0,0,0]) 196),(62,.own [.raw (.pointer none)] 306),(64,.row 1 fF 196)] },conds:=[U u0,U u1,U u2,U u3,U u4,u4<9223372036854775808] }
       | false=>none
     | some [y0,y1,_,_,_,_],some [u0,u1,u2,u3,u4,_,_,_,_],false=>match Nat.beq nu 5&&(Nat.beq cu 9&&(Nat.beq nq 2&&Nat.beq cq 6)) with
       | true=>some { eR:=Bk 5 9 2 6,T0:=[(61,.own (wc [y0,y1,0,0,0,0]) 196),(62,.own [.raw (.pointer none)] 306),(63,.own (wc [u0,u1,u2,u3,u4,0,0,0,0]) 196),(64,.row 1 fF 196)],vl:=[(61,.lab lq 0),(62,.lab ls 0),(63,.lab lu 0),(64,.lab lv 0)]
                      e0:={ val:=.eL [],wr:=[(61,.own (wc [r5 u0 u1 u2 u3 u4/DD,n4 u1 u2 u3 u4/DD,0,0,0,0]) 196),(63,.own (wc [w0 (r5 u0 u1 u2 u3 u4%DD),w1 (r5 u0 u1 u2 u3 u4%DD),w2 (r5 u0 u1 u2 u3 u4%DD),0,0,0,0,0,0]) 196),(62,.own [.raw (.pointer none)] 306),(64,.row 1 fF 196)] },conds:=[U u0,U u1,U u2,U u3,U u4,u4<9223372036854775808] }
       | false=>none
     | _,_,_=>none
   | _,_,_,_=>none
 | _=>none
theorem aUk (Γ:Env) (hg:Γ.aR=aB):aH Tryz.prog Γ 259 (aK aB 100 HS):=by
 refine aW hg fun vs T c hd hc=>?_
 unfold HS at hd
 split at hd
 case h_2=>cases hd
 split at hd
 case h_2=>cases hd
 split at hd
 case h_5=>cases hd
 .split at hd
  case h_2=>cases hd
  cases hd
  exact (((BQ _ (hc _ (by simp)) (hc _ (by simp)) (hc _ (by simp)) (hc _ (by simp)) (hc _ (by simp))).bE 62 _ rfl (by decide)).bE 64 _ rfl (by decide)).words (by rw [hg];rfl) (fun _=>rfl) (fun _ _ h=>h) (fun _=>rfl) rfl rfl
 .split at hd
  case h_2=>cases hd
  cases hd
  exact (((BP _ (hc _ (by simp)) (hc _ (by simp)) (hc _ (by simp)) (hc _ (by simp)) (hc _ (by simp))).bE 62 _ rfl (by decide)).bE 64 _ rfl (by decide)).words (by rw [hg];rfl) (fun _=>rfl) (fun _ _ h=>h) (fun _=>rfl) rfl rfl
 .split at hd
  case h_2=>cases hd
  cases hd
  exact (((BO _ _ (hc _ (by simp)) (hc _ (by simp)) (hc _ (by simp)) (hc _ (by simp)) (hc _ (by simp)) (hc _ (by simp))).bE 62 _ rfl (by decide)).bE 64 _ rfl (by decide)).words (by rw [hg];rfl) (fun _=>rfl) (fun _ _ h=>h) (fun _=>rfl) rfl rfl
 .split at hd
  case h_2=>cases hd
  cases hd
  exact (((BN _ _ (hc _ (by simp)) (hc _ (by simp)) (hc _ (by simp)) (hc _ (by simp)) (hc _ (by simp)) (hc _ (by simp))).bE 62 _ rfl (by decide)).bE 64 _ rfl (by decide)).words (by rw [hg];rfl) (fun _=>rfl) (fun _ _ h=>h) (fun _=>rfl) rfl rfl
theorem pK:∀ f S,Ye f=some S->∀ Γ:Env,Γ.aR=aB->aH Tryz.prog Γ f S:=JX
noncomputable def aGq:Nat->Option Sum:=dM Ye 259 (aK aB 100 HS)
theorem Xd:∀ f S,aGq f=some S->∀ Γ:Env,Γ.aR=aB->aH Tryz.prog Γ f S:=bD pK 259 _ aUk
noncomputable def aPp (iq ir:Nat):Nat->Option Sum:=dM (dM aGq 186 (aK aB 100 (tD iq ir))) 154 (orB aGq 154 (aK aB 100 Vf))
theorem aBz (iq ir:Nat):∀ f S,aPp iq ir f=some S->∀ Γ:Env,Γ.aR=aB->aH Tryz.prog Γ f S:=bD (bD Xd 186 _ (Cj iq ir)) 154 _ (IY Xd 154 _ aEz)
noncomputable def pD (lt:Bool) (iq ir:Nat):Nat->Option Sum:=Fe (aPp iq ir) 209 [lt]
theorem nR (lt:Bool) (iq ir:Nat):∀ f S,pD lt iq ir f=some S->∀ Γ:Env,Γ.aR=aB->aH Tryz.prog Γ f S:=nS (aBz iq ir) 209 _
def qQ:List SV:=[.ptr 61 true 0,.ptr 61 true 0,.ptr 62 true 0]
def Ed:List SV:=[.int true .u64 18446744073709551611,.int true .u64 18446744073709551615,.int true .u64 3,.int true .u64 0,.int true .u64 0,.int true .u64 0,.int true .u64 0,.int true .u64 0]
def mdT (n cap:Nat) (ws:List SV):aZ:=fun l=>look l [(61,.own [.bool true false,.aG 63 true 0 n cap] 146),(62,.own [.bool true false,.aG 66 true 0 3 8] 146),(63,.own ws 196),(66,.own Ed 196),(18,.fP [.int true .i64 40])]
noncomputable def Bp (lt:Bool) (iq ir n cap:Nat) (ws:List SV):Option bJ:=aJ (env (pD lt iq ir) 22) Tryz.f138 true [] 400 qQ (mdT n cap ws) 100 100
namespace M
def s0 (a:Int):Int:=dI .u64 a 62
def s1 (a b:Int):Int:=kN .u64 (dI .u64 b 62) (bZ .u64 a 2)
def s2 (a:Int):Int:=bZ .u64 a 2
def t0 (x:Int):Int:=kN .u64 (bZ .u64 (w0 x) 62) (dI .u64 (w1 x) 2)
def t1 (x:Int):Int:=kN .u64 (bZ .u64 (w1 x) 62) (dI .u64 (w2 x) 2)
def t2 (x:Int):Int:=kN .u64 (bZ .u64 (w2 x) 62) 0
def x3 (a0 a1 a2:Int):Int:=n4 (s0 a0) (s1 a0 a1) (s1 a1 a2) (s2 a2)
def h4 (a0 a1 a2 a3:Int):Int:=n4 (s1 a0 a1) (s1 a1 a2) (s1 a2 a3) (s2 a3)
def x4 (a0 a1 a2 a3:Int):Int:=r5 (s0 a0) (s1 a0 a1) (s1 a1 a2) (s1 a2 a3) (s2 a3)
end M
theorem aKh (a0:Int) :
 Bp true 0 0 1 6 (wc [a0,0,0,0,0,0]) =
 some {val:=.ptr 61 true 0,wr:=[(61,.own [.bool true false,.aG 63 true 0 1 6] 146),(63,.own [.int false .u64 a0,.int false .u64 0,.int false .u64 0,.int false .u64 0,.int false .u64 0,.int false .u64 0] 196)]}:=by kernel_rfl
theorem aKg (a0 a1:Int) :
 Bp true 0 0 2 6 (wc [a0,a1,0,0,0,0]) =
 some {val:=.ptr 61 true 0,wr:=[(61,.own [.bool true false,.aG 63 true 0 2 6] 146),(63,.own [.int false .u64 a0,.int false .u64 a1,.int false .u64 0,.int false .u64 0,.int false .u64 0,.int false .u64 0] 196)]}:=by kernel_rfl
theorem aKf (a0 a1:Int) :
 Bp true 0 0 2 7 (wc [a0,a1,0,0,0,0,0]) =
 some {val:=.ptr 61 true 0,wr:=[(61,.own [.bool true false,.aG 63 true 0 2 7] 146),(63,.own [.int false .u64 a0,.int false .u64 a1,.int false .u64 0,.int false .u64 0,.int false .u64 0,.int false .u64 0,.int false .u64 0] 196)]}:=by kernel_rfl
theorem aKe (a0 a1 a2:Int) :
 Bp true 0 0 3 7 (wc [a0,a1,a2,0,0,0,0]) =
 some {bM:=[decide (M.cmp (M.n3 a0 a1 a2) 1361129467683753853853498429727072845819<0)=true,M.U a0,M.U a1,M.U a2,M.U 18446744073709551611,M.U 18446744073709551615,M.U 3,[a0,a1,a2,0,0,0,0]=[a0,a1,a2,0,0,0,0],([18446744073709551611,18446744073709551615,3,0,0,0,0,0]:List Int)=[18446744073709551611,18446744073709551615,3,0,0,0,0,0]],val:=.ptr 61 true 0,wr:=[(61,.own [.bool true false,.aG 63 true 0 3 7] 146),(63,.own [.int false .u64 a0,.int false .u64 a1,.int false .u64 a2,.int false .u64 0,.int false .u64 0,.int false .u64 0,.int false .u64 0] 196)]}:=by kernel_rfl
theorem aKd (a0 a1 a2:Int) :
 Bp true 0 0 3 8 (wc [a0,a1,a2,0,0,0,0,0]) =
 some {bM:=[decide (M.cmp (M.n3 a0 a1 a2) 1361129467683753853853498429727072845819<0)=true,M.U a0,M.U a1,M.U a2,M.U 18446744073709551611,M.U 18446744073709551615,M.U 3,[a0,a1,a2,0,0,0,0,0]=[a0,a1,a2,0,0,0,0,0],([18446744073709551611,18446744073709551615,3,0,0,0,0,0]:List Int)=[18446744073709551611,18446744073709551615,3,0,0,0,0,0]],val:=.ptr 61 true 0,wr:=[(61,.own [.bool true false,.aG 63 true 0 3 8] 146),(63,.own [.int false .u64 a0,.int false .u64 a1,.int false .u64 a2,.int false .u64 0,.int false .u64 0,.int false .u64 0,.int false .u64 0,.int false .u64 0] 196)]}:=by kernel_rfl
theorem aSo {c ir:Nat} (hc:c=7\/c=8) (hr:ir<=3) (a0 a1 a2:Int):Bp false 1 ir 3 c (wc ([a0,a1,a2]++List.replicate (c-3) 0))=some { bM:=[M.nl [M.t0 (M.x3 a0 a1 a2%M.DD),M.t1 (M.x3 a0 a1 a2%M.DD),M.t2 (M.x3 a0 a1 a2%M.DD),0]=ir,[M.t0 (M.x3 a0 a1 a2%M.DD),M.t1 (M.x3 a0 a1 a2%M.DD),M.t2 (M.x3 a0 a1 a2%M.DD)]++List.replicate (c-3) 0=[M.t0 (M.x3 a0 a1 a2%M.DD),M.t1 (M.x3 a0 a1 a2%M.DD),M.t2 (M.x3 a0 a1 a2%M.DD)]++List.replicate (c-3) 0,M.nl [M.x3 a0 a1 a2/M.DD]=1,[M.x3 a0 a1 a2/M.DD]=[M.x3 a0 a1 a2/M.DD],M.U (M.s0 a0),M.U (M.s1 a0 a1),M.U (M.s1 a1 a2),M.U (M.s2 a2),M.s2 a2<9223372036854775808,3=3,([0]:List Int)=[0],[M.s0 a0,M.s1 a0 a1,M.s1 a1 a2,M.s2 a2]++List.replicate (c-4) 0=[M.s0 a0,M.s1 a0 a1,M.s1 a1 a2,M.s2 a2]++List.replicate (c-4) 0,decide (M.cmp (M.n3 a0 a1 a2) 1361129467683753853853498429727072845819<0)=false,M.U a0,M.U a1,M.U a2,M.U 18446744073709551611,M.U 18446744073709551615,M.U 3,[a0,a1,a2]++List.replicate (c-3) 0=[a0,a1,a2]++List.replicate (c-3) 0,([18446744073709551611,18446744073709551615,3,0,0,0,0,0]:List Int)=[18446744073709551611,18446744073709551615,3,0,0,0,0,0]],val:=.ptr 61 true 0,wr:=[(61,.own [.bool true false,.aG 63 true 0 ir c] 146),(63,.own (wc ([M.t0 (M.x3 a0 a1 a2%M.DD),M.t1 (M.x3 a0 a1 a2%M.DD),M.t2 (M.x3 a0 a1 a2%M.DD)]++List.replicate (c-3) 0)) 196)] }:=by rcases hc with rfl | rfl <;> rcases (by omega:ir=0\/ir=1\/ir=2\/ir=3) with rfl | rfl | rfl | rfl <;> kernel_rfl
theorem aSn {c iq ir:Nat} (hc:c=8\/c=9) (hq:iq=1\/iq=2) (hr:ir<=3) (a0 a1 a2 a3:Int):Bp false iq ir 4 c (wc ([a0,a1,a2,a3]++List.replicate (c-4) 0))=some { bM:=[M.nl [M.t0 (M.x4 a0 a1 a2 a3%M.DD),M.t1 (M.x4 a0 a1 a2 a3%M.DD),M.t2 (M.x4 a0 a1 a2 a3%M.DD),0,0]=ir,[M.t0 (M.x4 a0 a1 a2 a3%M.DD),M.t1 (M.x4 a0 a1 a2 a3%M.DD),M.t2 (M.x4 a0 a1 a2 a3%M.DD),0]++List.replicate (c-4) 0=[M.t0 (M.x4 a0 a1 a2 a3%M.DD),M.t1 (M.x4 a0 a1 a2 a3%M.DD),M.t2 (M.x4 a0 a1 a2 a3%M.DD),0]++List.replicate (c-4) 0,M.nl [M.x4 a0 a1 a2 a3/M.DD,M.h4 a0 a1 a2 a3/M.DD]=iq,[M.x4 a0 a1 a2 a3/M.DD,M.h4 a0 a1 a2 a3/M.DD,0,0,0,0]=[M.x4 a0 a1 a2 a3/M.DD,M.h4 a0 a1 a2 a3/M.DD,0,0,0,0],M.U (M.s0 a0),M.U (M.s1 a0 a1),M.U (M.s1 a1 a2),M.U (M.s1 a2 a3),M.U (M.s2 a3),M.s2 a3<9223372036854775808,3=3,([0,0,0,0,0,0]:List Int)=[0,0,0,0,0,0],[M.s0 a0,M.s1 a0 a1,M.s1 a1 a2,M.s1 a2 a3,M.s2 a3]++List.replicate (c-5) 0=[M.s0 a0,M.s1 a0 a1,M.s1 a1 a2,M.s1 a2 a3,M.s2 a3]++List.replicate (c-5) 0],val:=.ptr 61 true 0,wr:=[(61,.own [.bool true false,.aG 63 true 0 ir c] 146),(63,.own (wc ([M.t0 (M.x4 a0 a1 a2 a3%M.DD),M.t1 (M.x4 a0 a1 a2 a3%M.DD),M.t2 (M.x4 a0 a1 a2 a3%M.DD),0]++List.replicate (c-4) 0)) 196)] }:=by rcases hc with rfl | rfl <;> rcases hq with rfl | rfl <;> rcases (by omega:ir=0\/ir=1\/ir=2\/ir=3) with rfl | rfl | rfl | rfl <;> kernel_rfl
end Go.Proofs.YticicdfijghigaaGreatDoor.Sx
