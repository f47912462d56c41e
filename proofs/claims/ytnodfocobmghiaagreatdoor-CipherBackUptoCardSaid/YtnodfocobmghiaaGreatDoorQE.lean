/- Plain Lean for the fast stream: bytes turned by a row of bytes; four blocks at once. -/
import Derived.KernelRfl
import Derived.Lib.Mul64
import Derived.Laws.Bits64b
import Derived.Test.YtnodfocobmghiaaGreatDoorQD
open Go
set_option maxRecDepth 100000
namespace Go.Proofs.YtnodfocobmghiaaGreatDoor.Sx
namespace Q
def rW (off n:Nat) (f:Nat->Int) (xs:List Int):List Int:=
 (List.range xs.length).map fun m=>if off<=m/\m<off+n then gI .u8 (xs.getD m 0) (f (m-off)) else xs.getD m 0
theorem uJ (key aC:List Int) (c:Int) (off n:Nat) (xs:List Int):cI key aC c off n xs=rW off n (Au key aC c) xs:=rfl
theorem gJ (off n:Nat) (f:Nat->Int) (xs:List Int):(rW off n f xs).length=xs.length:=by simp [rW]
def Z (off n:Nat) (P:Nat->Bool) (f:Nat->Int) (xs:List Int):List Int:=
 (List.range xs.length).map fun m=>if off<=m/\m<off+n/\P (m-off)=true then gI .u8 (xs.getD m 0) (f (m-off)) else xs.getD m 0
theorem Nk (off n:Nat) (P:Nat->Bool) (f:Nat->Int) (xs:List Int):(Z off n P f xs).length=xs.length:=by simp [Z]
theorem aTf (off n:Nat) (P:Nat->Bool) (f:Nat->Int) (xs:List Int) {m:Nat} (h:m<xs.length):(Z off n P f xs).getD m 0=if off<=m/\m<off+n/\P (m-off)=true then gI .u8 (xs.getD m 0) (f (m-off)) else xs.getD m 0:=by
 simp [Z,gY,h]
theorem lH {off n:Nat} {P P':Nat->Bool} (f:Nat->Int) (xs:List Int) (h:∀ m,m<n->P m=P' m):Z off n P f xs=Z off n P' f xs:=by
 unfold Z
 refine List.map_congr_left fun m _=>?_
 by_cases hm:off<=m/\m<off+n
 .rw [h (m-off) (by omega)]
 .rw [if_neg (fun q=>hm ⟨q.1,q.2.1⟩),if_neg (fun q=>hm ⟨q.1,q.2.1⟩)]
theorem JC (off n:Nat) (f:Nat->Int) (xs:List Int):Z off n (fun _=>false) f xs=xs:=by
 apply List.ext_getElem
 .simp [Z]
 .intro i h1 h2
  simp [Z,gY,h2]
theorem aDt (off n:Nat) (f:Nat->Int) (xs:List Int):Z off n (fun _=>true) f xs=rW off n f xs:=by
 unfold Z rW
 refine List.map_congr_left fun m _=>?_
 simp only [and_true]
theorem aDs {off n q:Nat} {P:Nat->Bool} {f:Nat->Int} {xs:List Int} (hq:q<n) (hx:off+q<xs.length) (hP:P q=false) :
 (Z off n P f xs).set (off+q) (gI .u8 ((Z off n P f xs).getD (off+q) 0) (f q))=Z off n (fun m=>P m||m==q) f xs:=by
 apply List.ext_getElem
 .simp [Z]
 .intro i h1 h2
  have hl:i<xs.length:=by simpa [Z] using h2
  rw [List.getElem_set]
  split
  .rename_i e
   subst e
   rw [aTf _ _ _ _ _ hx,if_neg (by rw [Nat.add_sub_cancel_left,hP];simp)]
   simp only [Z,List.getElem_map,List.getElem_range,Nat.add_sub_cancel_left]
   rw [if_pos ⟨by omega,by omega,by simp⟩]
  .rename_i e
   simp only [Z,List.getElem_map,List.getElem_range]
   by_cases hc:off<=i/\i<off+n
   .have:(i-off==q)=false:=by simp;omega
    simp only [this,Bool.or_false]
   .rw [if_neg (fun q=>hc ⟨q.1,q.2.1⟩),if_neg (fun q=>hc ⟨q.1,q.2.1⟩)]
theorem xL (v:List Int) (a b c d:Nat):(B.qr v a b c d).length=v.length:=by simp [B.qr]
theorem Gv (v:List Int):(B.dr v).length=v.length:=by simp [B.dr,xL]
theorem iU (k:Nat) (v:List Int):(lane k v).length=16:=by simp [lane]
theorem vX (k:Nat) (v:List Int) {i:Nat} (h:i<16):(lane k v).getD i 0=v.getD (4*i+k) 0:=by simp [lane,gY,h]
theorem vV (a b c d:List Int) {i:Nat} (hi:i<16):(yW a b c d).getD (4*i+0) 0=a.getD i 0/\(yW a b c d).getD (4*i+1) 0=b.getD i 0/\(yW a b c d).getD (4*i+2) 0=c.getD i 0/\(yW a b c d).getD (4*i+3) 0=d.getD i 0:=by
 have g:∀ j,j<64->(yW a b c d).getD j 0=Fv a b c d j:=fun j hj=>by simp [yW,gY,hj]
 refine ⟨?_,?_,?_,?_⟩
 .rw [g _ (by omega)];unfold Fv;rw [show (4*i+0)%4=0 by omega,show (4*i+0)/4=i by omega];rfl
 .rw [g _ (by omega)];unfold Fv;rw [show (4*i+1)%4=1 by omega,show (4*i+1)/4=i by omega];rfl
 .rw [g _ (by omega)];unfold Fv;rw [show (4*i+2)%4=2 by omega,show (4*i+2)/4=i by omega];rfl
 .rw [g _ (by omega)];unfold Fv;rw [show (4*i+3)%4=3 by omega,show (4*i+3)/4=i by omega];rfl
theorem Ck {a b:List Int} (ha:a.length=16) (hb:b.length=16) (h:∀ i,i<16->a.getD i 0=b.getD i 0):a=b:=by
 apply List.ext_getElem (by omega)
 intro i h1 h2
 have:=h i (by omega)
 rw [gY,gY,List.getElem?_eq_getElem h1,List.getElem?_eq_getElem h2] at this
 simpa using this
theorem Yy {a b c d:List Int} (ha:a.length=16) (hb:b.length=16) (hc:c.length=16) (hd:d.length=16) :
 lane 0 (yW a b c d)=a/\lane 1 (yW a b c d)=b/\lane 2 (yW a b c d)=c/\lane 3 (yW a b c d)=d:=by
 refine ⟨Ck (iU _ _) ha fun i hi=>?_,Ck (iU _ _) hb fun i hi=>?_,Ck (iU _ _) hc fun i hi=>?_,Ck (iU _ _) hd fun i hi=>?_⟩ <;> rw [vX _ _ hi]
 .exact (vV a b c d hi).1
 .exact (vV a b c d hi).2.1
 .exact (vV a b c d hi).2.2.1
 .exact (vV a b c d hi).2.2.2
theorem KP (v:List Int) {k:Nat} (hk:k<4):lane k (dr4 v)=B.dr (lane k v):=by
 have l:∀ k,(B.dr (lane k v)).length=16:=fun k=>by rw [Gv,iU]
 have h:=Yy (l 0) (l 1) (l 2) (l 3)
 rcases (by omega:k=0\/k=1\/k=2\/k=3) with rfl | rfl | rfl | rfl
 .exact h.1
 .exact h.2.1
 .exact h.2.2.1
 .exact h.2.2.2
def it (v:List Int):Nat->List Int
 | 0=>v
 | n+1=>dr4 (it v n)
theorem Gn (v:List Int) (hv:v.length=64):∀ n,(it v n).length=64
 | 0=>hv
 | n+1=>by simp [it,dr4,yW]
theorem Rt (n:Nat):∀ v:List Int,B.rounds n (B.dr v)=B.dr (B.rounds n v):=by
 induction n with
 | zero=>intro v;rfl
 | succ n ih=>intro v;rw [B.rounds,ih,B.rounds,ih]
theorem Vx (v:List Int) {k:Nat} (hk:k<4):∀ n,lane k (it v n)=B.rounds n (lane k v)
 | 0=>rfl
 | n+1=>by rw [it,KP _ hk,Vx v hk n,B.rounds,Rt]
def st4 (s:List Int) (k:Nat):List Int:=s.set 12 (IntKind.u32.wrap (s.getD 12 0+(k:Int)))
theorem Sz (s:List Int):(jA s).length=64:=by simp [jA]
theorem KR {s:List Int} (hs:s.length=16) {k:Nat} (hk:k<4):lane k (jA s)=st4 s k:=by
 have g:∀ j,j<64->(jA s).getD j 0=GZ s j:=fun j hj=>by simp [jA,gY,hj]
 refine Ck (iU _ _) (by simp [st4,hs]) fun i hi=>?_
 rw [vX _ _ hi,g _ (by omega)]
 unfold GZ
 rw [show (4*i+k)/4=i by omega,show (4*i+k)%4=k by omega,IntWalk.u32_in (k:Int) (by omega)]
 unfold st4
 by_cases h:i=12
 .subst h
  simp [gY,hs]
 .have e:Nat.beq i 12=false:=by
   cases hb:Nat.beq i 12 with
   | false=>rfl
   | true=>exact absurd (cP hb) h
  rw [e]
  simp only [gY]
  rw [List.getElem?_set_ne (by omega)]
def iR (s:List Int) (m:Nat):Int:=(B.out (B.rounds 10 (st4 s (m/64))) (st4 s (m/64))).getD (m%64) 0
theorem XR (v w:List Int) {j:Nat} (h:j<64):(B.out v w).getD j 0=IntKind.u8.wrap (bY .u32 (IntKind.u32.wrap (v.getD (j/4) 0+w.getD (j/4) 0)) (IntKind.i64.wrap (8*(j%4:Nat)))):=by
 simp [B.out,gY,h]
theorem aLv {s:List Int} (hs:s.length=16) {i k n:Nat} (hi:i<16) (hk:k<4) (hn:n<4):byt (it (jA s) 10) (jA s) i k n=iR s (64*k+4*i+n):=by
 unfold iR
 rw [show (64*k+4*i+n)/64=k by omega,show (64*k+4*i+n)%64=4*i+n by omega,XR _ _ (by omega),show (4*i+n)/4=i by omega,show (4*i+n)%4=n by omega]
 rw [<- KR hs hk,<- Vx _ hk,vX _ _ hi,vX _ _ hi,IntWalk.i64_in _ (by omega)]
 unfold byt wd
 rw [sJ,sJ,show 0+i*4+k*1+0=4*i+k by omega]
theorem aDe {i k n:Nat} (hi:i<16) (hk:k<4) (hn:n<4):ix i k n=((64*k+4*i+n:Nat):Int):=by
 unfold ix
 rw [IntWalk.i64_in (64*(k:Int)) (by omega),IntWalk.i64_in (4*(i:Int)) (by omega),IntWalk.i64_in (64*(k:Int)+4*(i:Int)) (by omega),IntWalk.i64_in _ (by omega)]
 omega
theorem aDr (off:Nat) {i k n:Nat} (hi:i<16) (hk:k<4) (hn:n<4):ad off i k n=off+(64*k+4*i+n):=by
 unfold ad
 rw [aDe hi hk hn,sJ,Nat.mul_one]
def dn (i k:Nat) (m:Nat):Bool:=decide (m%64/4<i\/(m%64/4=i/\m/64<k))
theorem Nl (off:Nat) (v w:List Int) (i k:Int) (xs:List Int):∀ n,(X off v w i k xs n).length=xs.length
 | 0=>rfl
 | n+1=>by rw [X,List.length_set,Nl off v w i k xs n]
theorem X_Z {s xs:List Int} (hs:s.length=16) {off i k:Nat} (hi:i<16) (hk:k<4) (hx:off+256<=xs.length):∀ n,n<=4 ->
 X off (it (jA s) 10) (jA s) i k (Z off 256 (dn i k) (iR s) xs) n=Z off 256 (fun m=>dn i k m||decide (64*k+4*i<=m/\m<64*k+4*i+n)) (iR s) xs
 | 0,_=>by
   rw [X]
   refine lH _ _ fun m _=>?_
   have:decide (64*k+4*i<=m/\m<64*k+4*i+0)=false:=kN (by omega)
   rw [this,Bool.or_false]
 | n+1,hn=>by
   rw [X,X_Z hs hi hk hx n (by omega),aDr off hi hk (by omega),Nat.add_zero,aLv hs hi hk (by omega),aDs (by omega) (by omega) (by simp [dn];omega)]
   refine lH _ _ fun m hm=>?_
   rw [Bool.or_assoc]
   congr 1
   rw [Bool.eq_iff_iff]
   simp only [Bool.or_eq_true,decide_eq_true_eq,beq_iff_eq]
   omega
theorem bAh {s xs:List Int} (hs:s.length=16) {off i k:Nat} (hi:i<16) (hk:k<4) (hx:off+256<=xs.length) :
 X off (it (jA s) 10) (jA s) i k (Z off 256 (dn i k) (iR s) xs) 4=Z off 256 (dn i (k+1)) (iR s) xs:=by
 rw [X_Z hs hi hk hx 4 (by omega)]
 refine lH _ _ fun m hm=>?_
 unfold dn
 rw [Bool.eq_iff_iff]
 simp only [Bool.or_eq_true,decide_eq_true_eq]
 omega
theorem aBm (off i:Nat) (f:Nat->Int) (xs:List Int):Z off 256 (dn i 4) f xs=Z off 256 (dn (i+1) 0) f xs:=lH _ _ fun m hm=>by
 unfold dn
 rw [Bool.eq_iff_iff]
 simp only [decide_eq_true_eq]
 omega
theorem aZd (off:Nat) (f:Nat->Int) (xs:List Int):Z off 256 (dn 0 0) f xs=xs:=by
 rw [lH (P':=fun _=>false) _ _ fun m hm=>by unfold dn;exact kN (by omega)]
 exact JC _ _ _ _
theorem aSr (off:Nat) (f:Nat->Int) (xs:List Int):Z off 256 (dn 16 0) f xs=rW off 256 f xs:=by
 rw [lH (P':=fun _=>true) _ _ fun m hm=>by unfold dn;exact decide_eq_true (by omega)]
 exact aDt _ _ _ _
end Q
def Ds (m:Int) (v:List Int):Prop:=∀ x∈v,0<=x/\x<=m
theorem Ds.get {m:Int} {v:List Int} (h:Ds m v) (hm:0<=m) (i:Nat):0<=v.getD i 0/\v.getD i 0<=m:=by
 rw [gY]
 cases hv:v[i]? with
 | none=>exact ⟨Int.le_refl _,hm⟩
 | some x=>exact h x (List.mem_of_getElem? hv)
namespace M
def cy (xs:List Int):Nat->Int
 | 0=>0
 | i+1=>(cy xs i+xs.getD i 0)/256
def val:List Int->Int
 | []=>0
 | x::r=>x+256*val r
end M
namespace M
def h (xs:List Int) (i:Nat):Int:=xs.getD i 0/4+xs.getD (i+1) 0%4*64
end M
namespace M
end M
namespace M
def vs (f:Nat->Int):Nat->Int
 | 0=>0
 | n+1=>f 0+256*vs (fun i=>f (i+1)) n
theorem Cr {f g:Nat->Int}:∀ {n:Nat},(∀ i,i<n->f i=g i)->vs f n=vs g n
 | 0,_=>rfl
 | n+1,h=>by
   unfold vs
   rw [h 0 (by omega),Cr (f:=fun i=>f (i+1)) (g:=fun i=>g (i+1)) fun i hi=>h (i+1) (by omega)]
theorem Cb (f:Nat->Int) (m:Nat):∀ n:Nat,vs f (n+m)=vs f n+256^n*vs (fun i=>f (n+i)) m:=by
 intro n
 induction n generalizing f with
 | zero=>simp [vs]
 | succ n ih=>
   rw [show n+1+m=(n+m)+1 from by omega,vs,vs,ih]
   rw [show (fun i=>f (n+i+1))=fun i=>f (n+1+i) from by funext i;congr 1;omega,Int.pow_succ]
   rw [Int.mul_add,Int.mul_comm (256^n) 256,Int.mul_assoc]
   omega
theorem Uv {f:Nat->Int}:∀ {n:Nat},(∀ i,i<n->f i=0)->vs f n=0
 | 0,_=>rfl
 | n+1,h=>by
   unfold vs
   rw [h 0 (by omega),Uv (f:=fun i=>f (i+1)) fun i hi=>h (i+1) (by omega)]
   rfl
theorem xK {f:Nat->Int}:∀ {n:Nat},(∀ i,i<n->0<=f i)->0<=vs f n
 | 0,_=>Int.le_refl _
 | n+1,h=>by
   have h1:=h 0 (by omega)
   have h2:=xK (f:=fun i=>f (i+1)) (n:=n) fun i hi=>h (i+1) (by omega)
   unfold vs
   omega
theorem zN (f:Nat->Int) (n:Nat):vs f (n+1)=vs f n+256^n*f n:=by
 rw [Cb f 1 n];simp [vs]
def V (xs:List Int):Int:=vs (fun i=>xs.getD i 0) xs.length
theorem aOj (xs:List Int) (n:Nat) (h:xs.length<=n):vs (fun i=>xs.getD i 0) n=V xs:=by
 obtain ⟨m,rfl⟩:∃ m,n=xs.length+m:=⟨n-xs.length,by omega⟩
 rw [Cb]
 have:vs (fun i=>xs.getD (xs.length+i) 0) m=0:=Uv fun i _=>by
  rw [gY,List.getElem?_eq_none (by omega)];rfl
 rw [this];unfold V;omega
theorem PJ (a b:List Int):V (a++b)=V a+256^a.length*V b:=by
 unfold V
 rw [List.length_append,Cb]
 congr 1
 .exact Cr fun i hi=>by simp [gY,List.getElem?_append,hi]
 .congr 1
  exact Cr fun i _=>by rw [gY,gY,List.getElem?_append_right (Nat.le_add_right _ _),Nat.add_sub_cancel_left]
theorem tF (x:Int) (r:List Int):V (x::r)=x+256*V r:=by
 unfold V
 rw [List.length_cons,vs]
 simp
theorem By:V []=0:=rfl
end M
namespace M
def p:Int:=1361129467683753853853498429727072845819
def num (n:Int):List Int:=(List.range 17).map fun i=>n/256^i%256
theorem Vp (n:Int) {i:Nat} (h:i<17):(num n).getD i 0=n/256^i%256:=by simp [num,gY,h]
theorem Ow {d:List Int} (hd:Ds 255 d) (h:V d<1361129467683753853853498429727072845824):V d=d.getD 0 0+256*vs (fun i=>d.getD (i+1) 0) 16:=by
 have ha:∀ i,0<=d.getD i 0/\d.getD i 0<=255:=hd.get (by omega)
 have e:=Cb (fun i=>d.getD i 0) d.length 17
 rw [Nat.add_comm,aOj d (d.length+17) (by omega)] at e
 have h2:=xK (f:=fun i=>d.getD (17+i) 0) (n:=d.length) fun i _=>(ha _).1
 have h3:=xK (f:=fun i=>d.getD i 0) (n:=17) fun i _=>(ha _).1
 rw [show ((256:Int)^17)=87112285931760246646623899502532662132736 from rfl] at e
 have:vs (fun i=>d.getD (17+i) 0) d.length=0:=by omega
 rw [this] at e
 rw [e,vs]
 omega
end M
namespace M
end M
namespace M
def Kv (a b:List Int):List Int:=(List.range 17).map fun j=>IntKind.i64.wrap (a.getD j 0+b.getD j 0)
end M
namespace M
def Ii (b:List Int) (i:Nat):Int:=match i%4 with
 | 3=>(IntKind.i64.wrap (b.getD i 0)).tmod 16
 | 0=>match i with
   | 0=>IntKind.i64.wrap (b.getD i 0)
   | _=>IntKind.i64.wrap (IntKind.i64.wrap (b.getD i 0)-(IntKind.i64.wrap (b.getD i 0)).tmod 4)
 | _=>IntKind.i64.wrap (b.getD i 0)
def Re (b:List Int):List Int:=(List.range 16).map (Ii b)
def sc (a s:List Int):Nat->Int
 | 0=>0
 | i+1=>IntKind.i64.wrap ((IntKind.i64.wrap (IntKind.i64.wrap (sc a s i+a.getD i 0)+IntKind.i64.wrap (s.getD i 0))).tdiv 256)
def Pe (a s:List Int):List Int:=(List.range 16).map fun i=>IntKind.u8.wrap ((IntKind.i64.wrap (IntKind.i64.wrap (sc a s i+a.getD i 0)+IntKind.i64.wrap (s.getD i 0))).tmod 256)
end M
namespace M
def sY (a b:List Int) (i:Nat):Nat->List Int->List Int
 | 0,d=>d
 | k+1,d=>(sY a b i k d).set (i+k) (IntKind.i64.wrap ((sY a b i k d).getD (i+k) 0+IntKind.i64.wrap (a.getD i 0*b.getD k 0)))
def mulL (a b:List Int):Nat->List Int
 | 0=>List.replicate 33 0
 | i+1=>sY a b i 17 (mulL a b i)
end M
namespace R
def plus (x y:Int):Int:=(IntKind.i64.wrap (x+y)).tmod 4294967296
def RV (x u:Int):Int:=IntKind.i64.wrap ((IntKind.i64.wrap (x*u)).tmod 4294967296+IntKind.i64.wrap ((IntKind.i64.wrap (x*u)).tdiv 4294967296))
def qr (v:List Int) (a b c d:Nat):List Int:=
 let v:=v.set a (plus (v.getD a 0) (v.getD b 0))
 let v:=v.set d (RV (gI .i64 (v.getD d 0) (v.getD a 0)) 65536)
 let v:=v.set c (plus (v.getD c 0) (v.getD d 0))
 let v:=v.set b (RV (gI .i64 (v.getD b 0) (v.getD c 0)) 4096)
 let v:=v.set a (plus (v.getD a 0) (v.getD b 0))
 let v:=v.set d (RV (gI .i64 (v.getD d 0) (v.getD a 0)) 256)
 let v:=v.set c (plus (v.getD c 0) (v.getD d 0))
 v.set b (RV (gI .i64 (v.getD b 0) (v.getD c 0)) 128)
end R
namespace R
def word (l:List Int) (i:Nat):Int:=IntKind.i64.wrap (IntKind.i64.wrap (IntKind.i64.wrap (IntKind.i64.wrap (l.getD (4*i) 0)+IntKind.i64.wrap (256*IntKind.i64.wrap (l.getD (4*i+1) 0)))+IntKind.i64.wrap (65536*IntKind.i64.wrap (l.getD (4*i+2) 0)))+IntKind.i64.wrap (16777216*IntKind.i64.wrap (l.getD (4*i+3) 0)))
def aRa (key aC:List Int) (c:Int):List Int:=(List.range 8).map (word key)++[IntKind.i64.wrap c]++(List.range 3).map (word aC)
def init (key aC:List Int) (c:Int):List Int:=[1634760805,857760878,2036477234,1797285236]++aRa key aC c
def dr (v:List Int):List Int:=
 qr (qr (qr (qr (qr (qr (qr (qr v 0 4 8 12) 1 5 9 13) 2 6 10 14) 3 7 11 15) 0 5 10 15) 1 6 11 12) 2 7 8 13) 3 4 9 14
def IX (x:Int):Nat->Int
 | 0=>IntKind.u8.wrap (x.tmod 256)
 | n+1=>IX (IntKind.i64.wrap (x.tdiv 256)) n
def out (v w:List Int):List Int:=(List.range 64).map fun j=>IX ((IntKind.i64.wrap (v.getD (j/4) 0+w.getD (j/4) 0)).tmod 4294967296) (j%4)
def rounds:Nat->List Int->List Int
 | 0,v=>v
 | n+1,v=>dr (rounds n v)
end R
theorem R.xL (v:List Int) (a b c d:Nat):(R.qr v a b c d).length=v.length:=by simp [R.qr]
theorem R.Gv (v:List Int):(R.dr v).length=v.length:=by simp [R.dr,R.xL]
def R.block (key aC:List Int) (c:Int):List Int:=R.out (R.rounds 10 (R.init key aC c)) (R.init key aC c)
def W (x:Int):Prop:=0<=x/\x<4294967296
theorem W.nat {x:Int} (h:W x):∃ a:Nat,x=a/\a<4294967296:=⟨x.toNat,by unfold W at h;omega,by unfold W at h;omega⟩
def Ws (v:List Int):Prop:=∀ x∈v,W x
theorem Ws.get {v:List Int} (h:Ws v) (i:Nat):W (v.getD i 0):=by
 rw [gY]
 cases hv:v[i]? with
 | none=>exact ⟨by decide,by decide⟩
 | some x=>exact h x (List.mem_of_getElem? hv)
theorem Ws.set {v:List Int} (h:Ws v) (i:Nat) {x:Int} (hx:W x):Ws (v.set i x):=by
 intro y hy
 rcases List.mem_or_eq_of_mem_set hy with hy | hy
 .exact h y hy
 .subst hy;exact hx
def Bt (x:Int):Prop:=0<=x/\x<256
def bX (v:List Int):Prop:=∀ x∈v,Bt x
theorem bX.get {v:List Int} (h:bX v) (i:Nat):Bt (v.getD i 0):=by
 rw [gY]
 cases hv:v[i]? with
 | none=>exact ⟨by decide,by decide⟩
 | some x=>exact h x (List.mem_of_getElem? hv)
theorem Bt.nat {x:Int} (h:Bt x):∃ a:Nat,x=a/\a<256:=⟨x.toNat,by unfold Bt at h;omega,by unfold Bt at h;omega⟩
namespace M
theorem aGf (n:Int):∀ k:Nat,vs (fun i=>n/256^i%256) k=n%256^k:=by
 intro k
 induction k with
 | zero=>simp [vs,Int.emod_one]
 | succ k ih=>
   rw [zN,ih,Int.pow_succ]
   have c:(0:Int)<256^k:=Int.pow_pos (by omega)
   have h1:=Int.emod_add_mul_ediv n (256^k)
   have h2:=Int.emod_nonneg n (show (256:Int)^k≠0 by omega)
   have h3:=Int.emod_lt_of_pos n c
   have h4:=Int.emod_add_mul_ediv (n/256^k) 256
   have h5:=Int.emod_nonneg (n/256^k) (show (256:Int)≠0 by omega)
   have h6:=Int.emod_lt_of_pos (n/256^k) (show (0:Int)<256 by omega)
   generalize n/256^k%256=s at *
   generalize n/256^k/256=q at *
   generalize n%256^k=r at *
   have e:n=(r+256^k*s)+256^k*256*q:=by
    rw [<- h1,<- h4,Int.mul_add,Int.mul_assoc];omega
   have l:r+256^k*s<256^k*256:=by
    have:256^k*s<=256^k*255:=Int.mul_le_mul_of_nonneg_left (by omega) (Int.le_of_lt c)
    omega
   have l0:0<=r+256^k*s:=by
    have:0<=256^k*s:=Int.mul_nonneg (Int.le_of_lt c) h5
    omega
   have:n%(256^k*256)=r+256^k*s:=by
    rw [e,Int.add_mul_emod_self_left,Int.emod_eq_of_lt l0 l]
   exact this.symm
end M
theorem bX.Ds {b:List Int} (h:bX b):Ds 255 b:=fun x hx=>by have:=h x hx;unfold Bt at this;omega
namespace M
end M
end Go.Proofs.YtnodfocobmghiaaGreatDoor.Sx
section
namespace Go.Proofs.YtnodfocobmghiaaGreatDoor.Sx
end Go.Proofs.YtnodfocobmghiaaGreatDoor.Sx
end
namespace Go.Proofs.YtnodfocobmghiaaGreatDoor.Sx
namespace M
def aT (data:List Int) (i:Int) (m:Nat):List Int:=((List.range m).map fun j:Nat=>data.getD (IntKind.i64.wrap (i+(j:Int))).toNat 0)++1::List.replicate (16-m) 0
end M
namespace M
def lo (key:List Int):List Int:=(List.range 16).map fun j=>key.getD j 0
def hi (key:List Int):List Int:=(List.range 16).map fun j=>key.getD (16+j) 0
def cl (key:List Int):List Int:=Re (lo key)++[0]
def acc (r:Int) (data:List Int):Nat->Int
 | 0=>0
 | j+1=>((acc r data j+V (aT data (16*(j:Int)) (min 16 (data.length-16*j))))*r)%p
def tag (key data:List Int):List Int:=Pe (num (acc (V (cl key)) data ((data.length+15)/16))) (hi key)
theorem aBv {data:List Int} (hd:bX data) (i:Int) (m:Nat):bX (aT data i m):=by
 intro x hx
 simp only [aT,List.mem_append,List.mem_map,List.mem_cons,List.mem_replicate] at hx
 rcases hx with ⟨j,_,rfl⟩ | rfl | ⟨_,rfl⟩
 .exact hd.get _
 .exact ⟨by decide,by decide⟩
 .exact ⟨by decide,by decide⟩
end M
namespace M
def U (x:Int):Prop:=0<=x/\x<18446744073709551616
def uh (n:Int):Int:=n/18446744073709551616
def ul (n:Int):Int:=n%18446744073709551616
theorem dO (n:Int):U (ul n):=by unfold U ul;omega
theorem tZ {n:Int} (h:U n):ul n=n:=by unfold U at h;unfold ul;omega
theorem eE {x y:Int} (hx:U x) (hy:U y):0<=x*y/\x*y<=340282366920938463426481119284349108225:=by
 refine ⟨Int.mul_nonneg hx.1 hy.1,?_⟩
 have h1:=hx.2
 have h2:=hy.2
 exact Int.le_trans (Int.mul_le_mul (show x<=18446744073709551615 by omega) (show y<=18446744073709551615 by omega) hy.1 (by decide)) (by decide)
theorem bP (n:Int):IntKind.u64.wrap n=ul n:=by rw [IntKind.wrap_u64];rfl
end M
theorem aQu (x y:Int) :
 aK (env eY 3) Tryz.f190 true [] 400 [.int false .u64 x,.int false .u64 y] (fun _=>none) 100 100 =
 sh (32:Int) fun z2=>
 sh (4294967295:Int) fun z1=>
 sh (IntKind.u64.wrap (IntKind.u64.wrap (bY IntKind.u64 x z2*bW IntKind.u64 y z1)+bY IntKind.u64 (IntKind.u64.wrap (bW IntKind.u64 x z1*bW IntKind.u64 y z1)) z2)) fun z0=>
 some {val:=SV.eD [SV.int false IntKind.u64 (IntKind.u64.wrap (IntKind.u64.wrap (IntKind.u64.wrap (bY IntKind.u64 x z2*bY IntKind.u64 y z2)+bY IntKind.u64 z0 z2)+bY IntKind.u64 (IntKind.u64.wrap (bW IntKind.u64 z0 z1+IntKind.u64.wrap (bW IntKind.u64 x z1*bY IntKind.u64 y z2))) z2)),SV.int false IntKind.u64 (IntKind.u64.wrap (x*y))]}:=by kernel_rfl
namespace M
theorem aFo (a:Nat) (ha:a<18446744073709551616):bW .u64 (a:Int) 4294967295=((a%4294967296:Nat):Int):=by
 have h:=bits_and_u64_nat a 4294967295 ha (by omega)
 have e:a &&& 4294967295=a%4294967296:=Nat.and_two_pow_sub_one_eq_mod a 32
 rw [e] at h
 exact h
theorem aUb (a:Nat):bY .u64 (a:Int) 32=((a/4294967296:Nat):Int):=by
 show Int.fdiv (a:Int) 4294967296=_
 rw [Int.fdiv_eq_ediv_of_nonneg _ (by decide)]
 omega
theorem aVw (a b:Nat):(a:Int)*(b:Int)=((a*b:Nat):Int):=(Int.natCast_mul a b).symm
theorem bAd (a b:Nat):(a:Int)+(b:Int)=((a+b:Nat):Int):=(Int.natCast_add a b).symm
theorem xZ (a:Nat) (ha:a<18446744073709551616):IntKind.u64.wrap (a:Int)=(a:Int):=by rw [IntKind.wrap_u64];omega
set_option maxHeartbeats 1000000 in
theorem YH {x y:Int} (hx:U x) (hy:U y):(IntKind.u64.wrap
 (IntKind.u64.wrap
  (IntKind.u64.wrap (bY IntKind.u64 x (32:Int)*bY IntKind.u64 y (32:Int)) +
   bY IntKind.u64
    (IntKind.u64.wrap
     (IntKind.u64.wrap (bY IntKind.u64 x (32:Int)*bW IntKind.u64 y (4294967295:Int)) +
      bY IntKind.u64 (IntKind.u64.wrap (bW IntKind.u64 x (4294967295:Int)*bW IntKind.u64 y (4294967295:Int))) (32:Int)))
    (32:Int)) +
  bY IntKind.u64
   (IntKind.u64.wrap
    (bW IntKind.u64
     (IntKind.u64.wrap
      (IntKind.u64.wrap (bY IntKind.u64 x (32:Int)*bW IntKind.u64 y (4294967295:Int)) +
       bY IntKind.u64 (IntKind.u64.wrap (bW IntKind.u64 x (4294967295:Int)*bW IntKind.u64 y (4294967295:Int))) (32:Int)))
     (4294967295:Int) +
     IntKind.u64.wrap (bW IntKind.u64 x (4294967295:Int)*bY IntKind.u64 y (32:Int))))
   (32:Int)))=uh (x*y):=by
 obtain ⟨x,rfl⟩:=pW hx.1
 obtain ⟨y,rfl⟩:=pW hy.1
 have hx:x<18446744073709551616:=by have:=hx.2;omega
 have hy:y<18446744073709551616:=by have:=hy.2;omega
 obtain ⟨bd,bt,bw,hhi⟩:=Lib.mul64_hi x y hx hy
 have ba:=Lib.half_mul_le (a:=x/4294967296) (b:=y/4294967296) (by omega) (by omega)
 have bb:=Lib.half_mul_le (a:=x/4294967296) (b:=y%4294967296) (by omega) (by omega)
 have bc:=Lib.half_mul_le (a:=x%4294967296) (b:=y/4294967296) (by omega) (by omega)
 have ba':x/4294967296*(y/4294967296)<18446744073709551616:=by omega
 have bb':x/4294967296*(y%4294967296)<18446744073709551616:=by omega
 have bc':x%4294967296*(y/4294967296)<18446744073709551616:=by omega
 have bh1:x/4294967296*(y/4294967296)+(x/4294967296*(y%4294967296)+x%4294967296*(y%4294967296)/4294967296)/4294967296<18446744073709551616:=by omega
 have bh:x/4294967296*(y/4294967296)+(x/4294967296*(y%4294967296)+x%4294967296*(y%4294967296)/4294967296)/4294967296+((x/4294967296*(y%4294967296)+x%4294967296*(y%4294967296)/4294967296)%4294967296+x%4294967296*(y/4294967296))/4294967296<18446744073709551616:=by omega
 simp only [aFo x hx,aFo y hy,aUb,aVw,bAd,xZ _ bd,xZ _ bb',xZ _ bt,aFo _ bt,xZ _ bc',xZ _ bw,xZ _ ba',xZ _ bh1,xZ _ bh]
 rw [hhi]
 unfold uh
 omega
end M
def Qh (vs:List SV) (_:aX):Option Canon:=match vs with
 | [.int _ .u64 x,.int _ .u64 y]=>some { eL:=[.int false .u64 x,.int false .u64 y],T0:=[],vl:=[],e0:={ val:=.eD [.int false .u64 (M.uh (x*y)),.int false .u64 (M.ul (x*y))] },conds:=[M.U x,M.U y] }
 | _=>none
theorem aIx (Γ:Env) (hg:Γ.aO=aB):aG Tryz.prog Γ 190 (aL aB 100 Qh):=by
 refine aY hg fun vs T c hd hc=>?_
 unfold Qh at hd
 split at hd
 case h_2=>cases hd
 rename_i x _ y
 cases hd
 have hx:M.U x:=hc _ (by simp)
 have hy:M.U y:=hc _ (by simp)
 have hs:aG Tryz.prog (env eY 3) 190 (aK (env eY 3) Tryz.f190 true [] 400):=
  aN (bL eY 3) (mL 3) mix Tryz.func190 (by kernel_rfl) true [] 400
 refine (hs.call (aQu _ _) (by simp)).words (by rw [hg];rfl) (fun _=>rfl) (fun _ _ h=>by cases h) (fun V=>?_) rfl rfl
 simp only [den,aJ,M.YH hx hy]
 simp only [M.bP]
def Ya (f:Nat):Option Sum:=match Nat.beq f 190 with
 | true=>some (aL aB 100 Qh)
 | false=>eY f
theorem Wk (f:Nat) (S:Sum) (h:Ya f=some S) (Γ:Env) (hg:Γ.aO=aB):aG Tryz.prog Γ f S:=by
 unfold Ya at h
 split at h
 .rename_i e;cases h;rw [cP e];exact aIx Γ hg
 .exact tD f S h Γ
noncomputable def Kb:Env:=env Ya 8
theorem Up:cF Tryz.prog Kb:=bV Ya Wk 8
theorem Uo:cD Tryz.prog Kb:=bL Ya 8
theorem bAe (x y c:Int) :
 aK Kb Tryz.f154 true [] 400 [.int false .u64 x,.int false .u64 y,.int false .u64 c] (fun _=>none) 100 100 =
 sh (18446744073709551616:Int) fun z0=>
 some {bO:=[(0:Int)<=x/\(0:Int)<=y/\(0:Int)<=c/\c<=(1:Int)],val:=SV.eD [SV.int false IntKind.u64 ((x+y+c)%z0),SV.int false IntKind.u64 ((x+y+c)/z0)]}:=by kernel_rfl
theorem aUk (x y c:Int) :
 aK Kb Tryz.f146 true [] 400 [.int false .u64 x,.int false .u64 y,.int false .u64 c] (fun _=>none) 100 100 =
 sh (18446744073709551616:Nat) fun z0=>
 sh (0:Int) fun z1=>
 some {bO:=[z1<=x/\z1<=y/\z1<=c/\c<=(1:Int)],val:=SV.eD [SV.int false IntKind.u64 (↑((x.toNat+z0-y.toNat-c.toNat)%z0):Int),SV.int false IntKind.u64 (if x<y+c then (1:Int) else z1)]}:=by kernel_rfl
def M.ub (n:Int):Int := -(n/18446744073709551616)
def M.K (c:Int):Prop:=0<=c/\c<=1
def addDec (vs:List SV) (_:aX):Option Canon:=match vs with
 | [.int _ .u64 x,.int _ .u64 y,.int _ .u64 c]=>some { eL:=[.int false .u64 x,.int false .u64 y,.int false .u64 c],T0:=[],vl:=[],e0:={ val:=.eD [.int false .u64 (M.ul (x+y+c)),.int false .u64 (M.uh (x+y+c))] },conds:=[M.U x,M.U y,M.K c] }
 | _=>none
def Pz (vs:List SV) (_:aX):Option Canon:=match vs with
 | [.int _ .u64 x,.int _ .u64 y,.int _ .u64 c]=>some { eL:=[.int false .u64 x,.int false .u64 y,.int false .u64 c],T0:=[],vl:=[],e0:={ val:=.eD [.int false .u64 (M.ul (x-y-c)),.int false .u64 (M.ub (x-y-c))] },conds:=[M.U x,M.U y,M.K c] }
 | _=>none
theorem aTe (Γ:Env) (hg:Γ.aO=aB):aG Tryz.prog Γ 154 (aL aB 100 addDec):=by
 refine aY hg fun vs T c hd hc=>?_
 unfold addDec at hd
 split at hd
 case h_2=>cases hd
 rename_i x _ y _ c
 cases hd
 have hx:M.U x:=hc _ (by simp)
 have hy:M.U y:=hc _ (by simp)
 have hk:M.K c:=hc _ (by simp)
 have hs:aG Tryz.prog Kb 154 (aK Kb Tryz.f154 true [] 400):=aN Uo Up mix Tryz.func154 (by kernel_rfl) true [] 400
 exact (hs.call (bAe _ _ _) (aA (by simp only [sh,cA,and_true];exact ⟨hx.1,hy.1,hk.1,hk.2⟩))).words (by rw [hg];rfl) (fun _=>rfl) (fun _ _ h=>by cases h) (fun V=>rfl) rfl rfl
theorem aPy (Γ:Env) (hg:Γ.aO=aB):aG Tryz.prog Γ 146 (aL aB 100 Pz):=by
 refine aY hg fun vs T c hd hc=>?_
 unfold Pz at hd
 split at hd
 case h_2=>cases hd
 rename_i x _ y _ c
 cases hd
 have hx:M.U x:=hc _ (by simp)
 have hy:M.U y:=hc _ (by simp)
 have hk:M.K c:=hc _ (by simp)
 have hs:aG Tryz.prog Kb 146 (aK Kb Tryz.f146 true [] 400):=aN Uo Up mix Tryz.func146 (by kernel_rfl) true [] 400
 refine (hs.call (aUk _ _ _) (aA (by simp only [sh,cA,and_true];exact ⟨hx.1,hy.1,hk.1,hk.2⟩))).words (by rw [hg];rfl) (fun _=>rfl) (fun _ _ h=>by cases h) (fun V=>?_) rfl rfl
 have h1:=hx.1
 have h2:=hx.2
 have h3:=hy.1
 have h4:=hy.2
 have h5:=hk.1
 have h6:=hk.2
 have e1:(((x.toNat+18446744073709551616-y.toNat-c.toNat)%18446744073709551616:Nat):Int)=M.ul (x-y-c):=by unfold M.ul;omega
 have e2:(if x<y+c then (1:Int) else 0)=M.ub (x-y-c):=by unfold M.ub;split <;> omega
 rw [e1,e2]
def Xz (f:Nat):Option Sum:=match Nat.beq f 154 with
 | true=>some (aL aB 100 addDec)
 | false=>match Nat.beq f 146 with
   | true=>some (aL aB 100 Pz)
   | false=>Ya f
theorem Wj (f:Nat) (S:Sum) (h:Xz f=some S) (Γ:Env) (hg:Γ.aO=aB):aG Tryz.prog Γ f S:=by
 unfold Xz at h
 split at h
 .rename_i e;cases h;rw [cP e];exact aTe Γ hg
 split at h
 .rename_i e;cases h;rw [cP e];exact aPy Γ hg
 .exact Wk f S h Γ hg
noncomputable def wT:Env:=env Xz 8
theorem Im:cF Tryz.prog wT:=bV Xz Wj 8
theorem Il:cD Tryz.prog wT:=bL Xz 8
theorem aTd (x y c:Int) :
 aK wT Tryz.f230 true [] 400 [.int false .u64 x,.int false .u64 y,.int false .u64 c] (fun _=>none) 100 100 =
 sh (0:Int) fun z1=>
 sh (M.ul (x*y)+c+z1) fun z0=>
 some {bO:=[M.U (M.ul (x*y)),M.U c,M.K z1,M.ul (x*y)=M.ul (x*y),c=c,z1=z1,M.U x,M.U y,x=x,y=y],val:=SV.eD [SV.int false IntKind.u64 (IntKind.u64.wrap (M.uh (x*y)+M.uh z0)),SV.int false IntKind.u64 (M.ul z0)]}:=by kernel_rfl
theorem aSn (x y:Int) :
 aK wT Tryz.f251 true [false,false] 400 [.int false .u64 x,.int false .u64 y,.int true .u64 18446744073709551615,.int true .u64 1] (fun _=>none) 100 100 =
 sh (18446744073709551615:Int) fun z4=>
 sh (1:Int) fun z7=>
 sh (z7*x) fun z2=>
 sh (0:Int) fun z5=>
 sh (M.ul z2+y+z5) fun z6=>
 sh (M.uh z2+x+M.uh z6) fun z1=>
 sh (z4*M.ul z1) fun z0=>
 sh (y-M.ul z0-z5) fun z3=>
 some {bO:=[decide (M.ul z3>=z4)=false,(M.ul (x-M.uh z0-M.ub z3) != z5)=false,M.U x,M.U (M.uh z0),M.K (M.ub z3),x=x,M.uh z0=M.uh z0,M.ub z3=M.ub z3,M.U y,M.U (M.ul z0),M.K z5,y=y,M.ul z0=M.ul z0,z5=z5,M.U z4,M.U (M.ul z1),z4=z4,M.ul z1=M.ul z1,M.U (M.uh z2),M.U x,M.K (M.uh z6),M.uh z2=M.uh z2,x=x,M.uh z6=M.uh z6,M.U (M.ul z2),M.U y,M.K z5,M.ul z2=M.ul z2,y=y,z5=z5,M.U z7,M.U x,z7=z7,x=x],val:=SV.eD [SV.int false IntKind.u64 (M.ul z1),SV.int false IntKind.u64 (bY IntKind.u64 (M.ul z3) z5)]}:=by kernel_rfl
theorem aSm (x y:Int) :
 aK wT Tryz.f251 true [false,true] 400 [.int false .u64 x,.int false .u64 y,.int true .u64 18446744073709551615,.int true .u64 1] (fun _=>none) 100 100 =
 sh (18446744073709551615:Int) fun z2=>
 sh (1:Int) fun z7=>
 sh (z7*x) fun z3=>
 sh (0:Int) fun z5=>
 sh (M.ul z3+y+z5) fun z6=>
 sh (M.uh z3+x+M.uh z6) fun z1=>
 sh (z2*M.ul z1) fun z0=>
 sh (y-M.ul z0-z5) fun z4=>
 some {bO:=[decide (M.ul z4>=z2)=true,(M.ul (x-M.uh z0-M.ub z4) != z5)=false,M.U x,M.U (M.uh z0),M.K (M.ub z4),x=x,M.uh z0=M.uh z0,M.ub z4=M.ub z4,M.U y,M.U (M.ul z0),M.K z5,y=y,M.ul z0=M.ul z0,z5=z5,M.U z2,M.U (M.ul z1),z2=z2,M.ul z1=M.ul z1,M.U (M.uh z3),M.U x,M.K (M.uh z6),M.uh z3=M.uh z3,x=x,M.uh z6=M.uh z6,M.U (M.ul z3),M.U y,M.K z5,M.ul z3=M.ul z3,y=y,z5=z5,M.U z7,M.U x,z7=z7,x=x],val:=SV.eD [SV.int false IntKind.u64 (IntKind.u64.wrap (M.ul z1+z7)),SV.int false IntKind.u64 (bY IntKind.u64 (IntKind.u64.wrap (M.ul z4-z2)) z5)]}:=by kernel_rfl
theorem aSl (x y:Int) :
 aK wT Tryz.f251 true [false,false] 400 [.int false .u64 x,.int false .u64 y,.int true .u64 9223372036854775808,.int true .u64 18446744073709551615] (fun _=>none) 100 100 =
 sh (9223372036854775808:Int) fun z4=>
 sh (18446744073709551615:Int) fun z5=>
 sh (z5*x) fun z1=>
 sh (0:Int) fun z6=>
 sh (M.ul z1+y+z6) fun z7=>
 sh (M.uh z1+x+M.uh z7) fun z2=>
 sh (z4*M.ul z2) fun z0=>
 sh (y-M.ul z0-z6) fun z3=>
 some {bO:=[decide (M.ul z3>=z4)=false,(M.ul (x-M.uh z0-M.ub z3) != z6)=false,M.U x,M.U (M.uh z0),M.K (M.ub z3),x=x,M.uh z0=M.uh z0,M.ub z3=M.ub z3,M.U y,M.U (M.ul z0),M.K z6,y=y,M.ul z0=M.ul z0,z6=z6,M.U z4,M.U (M.ul z2),z4=z4,M.ul z2=M.ul z2,M.U (M.uh z1),M.U x,M.K (M.uh z7),M.uh z1=M.uh z1,x=x,M.uh z7=M.uh z7,M.U (M.ul z1),M.U y,M.K z6,M.ul z1=M.ul z1,y=y,z6=z6,M.U z5,M.U x,z5=z5,x=x],val:=SV.eD [SV.int false IntKind.u64 (M.ul z2),SV.int false IntKind.u64 (bY IntKind.u64 (M.ul z3) z6)]}:=by kernel_rfl
theorem aSk (x y:Int) :
 aK wT Tryz.f251 true [false,true] 400 [.int false .u64 x,.int false .u64 y,.int true .u64 9223372036854775808,.int true .u64 18446744073709551615] (fun _=>none) 100 100 =
 sh (9223372036854775808:Int) fun z3=>
 sh (18446744073709551615:Int) fun z5=>
 sh (z5*x) fun z1=>
 sh (0:Int) fun z6=>
 sh (M.ul z1+y+z6) fun z7=>
 sh (M.uh z1+x+M.uh z7) fun z2=>
 sh (z3*M.ul z2) fun z0=>
 sh (y-M.ul z0-z6) fun z4=>
 some {bO:=[decide (M.ul z4>=z3)=true,(M.ul (x-M.uh z0-M.ub z4) != z6)=false,M.U x,M.U (M.uh z0),M.K (M.ub z4),x=x,M.uh z0=M.uh z0,M.ub z4=M.ub z4,M.U y,M.U (M.ul z0),M.K z6,y=y,M.ul z0=M.ul z0,z6=z6,M.U z3,M.U (M.ul z2),z3=z3,M.ul z2=M.ul z2,M.U (M.uh z1),M.U x,M.K (M.uh z7),M.uh z1=M.uh z1,x=x,M.uh z7=M.uh z7,M.U (M.ul z1),M.U y,M.K z6,M.ul z1=M.ul z1,y=y,z6=z6,M.U z5,M.U x,z5=z5,x=x],val:=SV.eD [SV.int false IntKind.u64 (IntKind.u64.wrap (M.ul z2+(1:Int))),SV.int false IntKind.u64 (bY IntKind.u64 (IntKind.u64.wrap (M.ul z4-z3)) z6)]}:=by kernel_rfl
def Rh (vs:List SV) (_:aX):Option Canon:=match vs with
 | [.int _ .u64 x,.int _ .u64 y,.int _ .u64 c]=>some { eL:=[.int false .u64 x,.int false .u64 y,.int false .u64 c],T0:=[],vl:=[],e0:={ val:=.eD [.int false .u64 (M.uh (x*y+c)),.int false .u64 (M.ul (x*y+c))] },conds:=[M.U x,M.U y,M.U c] }
 | _=>none
theorem aLz (Γ:Env) (hg:Γ.aO=aB):aG Tryz.prog Γ 230 (aL aB 100 Rh):=by
 refine aY hg fun vs T c hd hc=>?_
 unfold Rh at hd
 split at hd
 case h_2=>cases hd
 rename_i x _ y _ c
 cases hd
 have hx:M.U x:=hc _ (by simp)
 have hy:M.U y:=hc _ (by simp)
 have hk:M.U c:=hc _ (by simp)
 have hs:aG Tryz.prog wT 230 (aK wT Tryz.f230 true [] 400):=aN Il Im mix Tryz.func230 (by kernel_rfl) true [] 400
 refine (hs.call (aTd _ _ _) (aA (by simp only [sh,cA,and_true,true_and];exact ⟨M.dO _,hk,⟨by decide,by decide⟩,hx,hy⟩))).words (by rw [hg];rfl) (fun _=>rfl) (fun _ _ h=>by cases h) (fun V=>?_) rfl rfl
 have h0:=M.eE hx hy
 have h1:=hk.1
 have h2:=hk.2
 rw [M.bP]
 have e1:M.ul (M.uh (x*y)+M.uh (M.ul (x*y)+c+0))=M.uh (x*y+c):=by unfold M.ul M.uh;omega
 have e2:M.ul (M.ul (x*y)+c+0)=M.ul (x*y+c):=by unfold M.ul;omega
 rw [e1,e2]
def M.dq (d x y:Int):Int:=(x*18446744073709551616+y)/d
def M.dr (d x y:Int):Int:=(x*18446744073709551616+y)%d
def GS (vs:List SV) (_:aX):Option Canon:=match vs with
 | [.int _ .u64 x,.int _ .u64 y,.int true .u64 d,.int true .u64 m]=>match Ku d 18446744073709551615&&Ku m 1 with
   | true=>some { eL:=[.int false .u64 x,.int false .u64 y,.int true .u64 18446744073709551615,.int true .u64 1],T0:=[],vl:=[],e0:={ val:=.eD [.int false .u64 (M.dq 18446744073709551615 x y),.int false .u64 (M.dr 18446744073709551615 x y)] },conds:=[M.U x,M.U y,x<18446744073709551615] }
   | false=>match Ku d 9223372036854775808&&Ku m 18446744073709551615 with
     | true=>some { eL:=[.int false .u64 x,.int false .u64 y,.int true .u64 9223372036854775808,.int true .u64 18446744073709551615],T0:=[],vl:=[],e0:={ val:=.eD [.int false .u64 (M.dq 9223372036854775808 x y),.int false .u64 (M.dr 9223372036854775808 x y)] },conds:=[M.U x,M.U y,x<9223372036854775808] }
     | false=>none
 | _=>none
set_option maxHeartbeats 2000000 in
theorem OV {x y:Int} (hx:M.U x) (hy:M.U y) (hd:x<18446744073709551615) (Γ:Env) (hg:Γ.aO=aB):aF Tryz.prog Γ 251 [.int false .u64 x,.int false .u64 y,.int true .u64 18446744073709551615,.int true .u64 1] (fun l=>look l []) 100 100 { val:=.eD [.int false .u64 (M.dq 18446744073709551615 x y),.int false .u64 (M.dr 18446744073709551615 x y)] }:=by
 have h1:=hx.1
 have h3:=hy.1
 have h4:=hy.2
 have q1:M.ul (M.uh (1*x)+x+M.uh (M.ul (1*x)+y+0))=x+(x+y)/18446744073709551616:=by unfold M.ul M.uh;omega
 have q2:M.uh (1*x)=0:=by unfold M.uh;omega
 have q3:M.uh (M.ul (1*x)+y+0)=(x+y)/18446744073709551616:=by unfold M.uh M.ul;omega
 obtain ⟨c,hc⟩:∃ c,c=(x+y)/18446744073709551616:=⟨_,rfl⟩
 rw [<- hc] at q1 q3
 have c0:c=0\/c=1:=by omega
 have q4:M.ul (18446744073709551615*(x+c))=if x+c=0 then 0 else 18446744073709551616-(x+c):=by unfold M.ul;split <;> omega
 have q5:M.uh (18446744073709551615*(x+c))=if x+c=0 then 0 else x+c-1:=by unfold M.uh;split <;> omega
 have hs:∀ hs,aG Tryz.prog wT 251 (aK wT Tryz.f251 true hs 400):=fun hs=>aN Il Im mix Tryz.func251 (by kernel_rfl) true hs 400
 by_cases hh:x+y=18446744073709551615
 .refine ((hs _).call (aSm x y) (aA ?_)).words (by rw [hg];rfl) (fun _=>rfl) (fun _ _ h=>by cases h) (fun V=>?_) rfl rfl
  .simp only [q1]
   simp only [q4,q5]
   simp only [sh,cA,q2,q3,and_true,true_and,decide_eq_true_eq,bne_eq_false_iff_eq]
   unfold M.U M.K M.ub M.ul
   and_intros <;> (try split) <;> omega
  .simp only [q1]
   simp only [q4]
   have e1:IntKind.u64.wrap (x+c+1)=M.dq 18446744073709551615 x y:=by rw [M.bP];unfold M.ul M.dq;omega
   have e2:∀ z,bY .u64 z 0=z:=fun z=>by show Int.fdiv z 1=z;simp
   rw [e1,e2,M.bP]
   congr 1
   unfold M.ul M.dr
   simp
   split <;> omega
 .refine ((hs _).call (aSn x y) (aA ?_)).words (by rw [hg];rfl) (fun _=>rfl) (fun _ _ h=>by cases h) (fun V=>?_) rfl rfl
  .simp only [q1]
   simp only [q4,q5]
   simp only [sh,cA,q2,q3,and_true,true_and,decide_eq_false_iff_not,bne_eq_false_iff_eq]
   unfold M.U M.K M.ub M.ul
   and_intros <;> (try split) <;> omega
  .simp only [q1]
   simp only [q4]
   have e1:x+c=M.dq 18446744073709551615 x y:=by unfold M.dq;omega
   have e2:∀ z,bY .u64 z 0=z:=fun z=>by show Int.fdiv z 1=z;simp
   rw [e1,e2]
   congr 1
   rw [<- e1]
   unfold M.ul M.dr
   simp
   split <;> omega
set_option maxHeartbeats 2000000 in
theorem OU {x y:Int} (hx:M.U x) (hy:M.U y) (hd:x<9223372036854775808) (Γ:Env) (hg:Γ.aO=aB):aF Tryz.prog Γ 251 [.int false .u64 x,.int false .u64 y,.int true .u64 9223372036854775808,.int true .u64 18446744073709551615] (fun l=>look l []) 100 100 { val:=.eD [.int false .u64 (M.dq 9223372036854775808 x y),.int false .u64 (M.dr 9223372036854775808 x y)] }:=by
 have h1:=hx.1
 have h3:=hy.1
 have h4:=hy.2
 obtain ⟨t1,e1⟩:∃ t1,t1=M.uh (18446744073709551615*x):=⟨_,rfl⟩
 obtain ⟨c,e3⟩:∃ c,c=M.uh (M.ul (18446744073709551615*x)+y+0):=⟨_,rfl⟩
 have b1:t1=if x=0 then 0 else x-1:=by rw [e1];unfold M.uh;split <;> omega
 have b3:c=if x=0 then 0 else if y<x then 0 else 1:=by rw [e3];unfold M.uh M.ul;split <;> (try split) <;> omega
 obtain ⟨q,eq⟩:∃ q,q=M.ul (t1+x+c):=⟨_,rfl⟩
 have bq:q=if x=0 then 0 else if y<x then 2*x-1 else 2*x:=by rw [eq,b1,b3];unfold M.ul;split <;> (try split) <;> omega
 have hs:∀ hs,aG Tryz.prog wT 251 (aK wT Tryz.f251 true hs 400):=fun hs=>aN Il Im mix Tryz.func251 (by kernel_rfl) true hs 400
 have sh:∀ z,bY .u64 z 0=z:=fun z=>by show Int.fdiv z 1=z;simp
 by_cases hh:M.dq 9223372036854775808 x y=q+1
 .refine ((hs _).call (aSk x y) (aA ?_)).words (by rw [hg];rfl) (fun _=>rfl) (fun _ _ h=>by cases h) (fun V=>?_) rfl rfl
  .simp only [<- e1,<- e3]
   simp only [<- eq]
   simp only [sh,cA,and_true,true_and,decide_eq_true_eq,bne_eq_false_iff_eq]
   unfold M.dq at hh
   unfold M.U M.K M.ub M.ul M.uh
   split at bq
   .and_intros <;> omega
   split at bq
   .and_intros <;> omega
   .and_intros <;> omega
  .simp only [<- e1,<- e3]
   simp only [<- eq,sh]
   have g1:IntKind.u64.wrap (q+1)=M.dq 9223372036854775808 x y:=by
    rw [M.bP,hh]
    unfold M.ul
    split at bq <;> (try split at bq) <;> omega
   rw [g1,M.bP]
   have g2:M.ul (M.ul (y-M.ul (9223372036854775808*q)-0)-9223372036854775808)=M.dr 9223372036854775808 x y:=by
    unfold M.dq at hh
    unfold M.ul M.dr
    split at bq <;> (try split at bq) <;> omega
   rw [g2]
 .have hq:M.dq 9223372036854775808 x y=q:=by
   revert hh
   unfold M.dq
   split at bq <;> (try split at bq) <;> omega
  refine ((hs _).call (aSl x y) (aA ?_)).words (by rw [hg];rfl) (fun _=>rfl) (fun _ _ h=>by cases h) (fun V=>?_) rfl rfl
  .simp only [<- e1,<- e3]
   simp only [<- eq]
   simp only [sh,cA,and_true,true_and,decide_eq_false_iff_not,bne_eq_false_iff_eq]
   unfold M.dq at hq
   unfold M.U M.K M.ub M.ul M.uh
   split at bq
   .and_intros <;> omega
   split at bq
   .and_intros <;> omega
   .and_intros <;> omega
  .simp only [<- e1,<- e3]
   simp only [<- eq,sh,hq]
   have g2:M.ul (y-M.ul (9223372036854775808*q)-0)=M.dr 9223372036854775808 x y:=by
    unfold M.dq at hq
    unfold M.ul M.dr
    split at bq <;> (try split at bq) <;> omega
   rw [g2]
theorem aSo (Γ:Env) (hg:Γ.aO=aB):aG Tryz.prog Γ 251 (aL aB 100 GS):=by
 refine aY hg fun vs T c hd hc=>?_
 unfold GS at hd
 split at hd
 case h_2=>cases hd
 rename_i x _ y d m
 split at hd
 .cases hd
  exact OV (hc _ (by simp)) (hc _ (by simp)) (hc _ (by simp)) Γ hg
 split at hd
 .cases hd
  exact OU (hc _ (by simp)) (hc _ (by simp)) (hc _ (by simp)) Γ hg
 .cases hd
def exB (f:Nat):Option Sum:=match Nat.beq f 230 with
 | true=>some (aL aB 100 Rh)
 | false=>match Nat.beq f 251 with
   | true=>some (aL aB 100 GS)
   | false=>Xz f
theorem IT (f:Nat) (S:Sum) (h:exB f=some S) (Γ:Env) (hg:Γ.aO=aB):aG Tryz.prog Γ f S:=by
 unfold exB at h
 split at h
 .rename_i e;cases h;rw [cP e];exact aLz Γ hg
 split at h
 .rename_i e;cases h;rw [cP e];exact aSo Γ hg
 .exact Wj f S h Γ hg
noncomputable def Γb:Env:=env exB 8
theorem aFv:cF Tryz.prog Γb:=bV exB IT 8
theorem aFu:cD Tryz.prog Γb:=bL exB 8
theorem aXs (a b c d:Int) :
 aK Γb Tryz.f252 true [true] 400 [.int false .u64 a,.int false .u64 b,.int false .u64 c,.int false .u64 d] (fun _=>none) 100 100 =
 some {bO:=[decide (a>c)=true],val:=SV.bool true true}:=by kernel_rfl
theorem aXr (a b c d:Int) :
 aK Γb Tryz.f252 true [false,true] 400 [.int false .u64 a,.int false .u64 b,.int false .u64 c,.int false .u64 d] (fun _=>none) 100 100 =
 some {bO:=[(a==c)=true,decide (a>c)=false],val:=SV.bool false (decide (b>d))}:=by kernel_rfl
theorem aXq (a b c d:Int) :
 aK Γb Tryz.f252 true [false,false] 400 [.int false .u64 a,.int false .u64 b,.int false .u64 c,.int false .u64 d] (fun _=>none) 100 100 =
 some {bO:=[(a==c)=false,decide (a>c)=false],val:=SV.bool true false}:=by kernel_rfl
def M.gt (a b c d:Int):Bool:=decide (c*18446744073709551616+d<a*18446744073709551616+b)
def FX (vs:List SV) (_:aX):Option Canon:=match vs with
 | [.int _ .u64 a,.int _ .u64 b,.int _ .u64 c,.int _ .u64 d]=>some { eL:=[.int false .u64 a,.int false .u64 b,.int false .u64 c,.int false .u64 d],T0:=[],vl:=[],e0:={ val:=.bool false (M.gt a b c d) },conds:=[M.U b,M.U d] }
 | _=>none
theorem aRy (Γ:Env) (hg:Γ.aO=aB):aG Tryz.prog Γ 252 (aL aB 100 FX):=by
 refine aY hg fun vs T c hd hc=>?_
 unfold FX at hd
 split at hd
 case h_2=>cases hd
 rename_i a _ b _ c _ d
 cases hd
 have hb:M.U b:=hc _ (by simp)
 have hd:M.U d:=hc _ (by simp)
 have b1:=hb.1
 have b2:=hb.2
 have d1:=hd.1
 have d2:=hd.2
 have hs:∀ hs,aG Tryz.prog Γb 252 (aK Γb Tryz.f252 true hs 400):=fun hs=>aN aFu aFv mix Tryz.func252 (by kernel_rfl) true hs 400
 by_cases h1:a>c
 .refine ((hs _).call (aXs a b c d) (aA ?_)).words (by rw [hg];rfl) (fun _=>rfl) (fun _ _ h=>by cases h) (fun V=>?_) rfl rfl
  .simp only [sh,cA,and_true,decide_eq_true_eq,h1]
  .have:M.gt a b c d=true:=by unfold M.gt;exact decide_eq_true (by omega)
   rw [this];rfl
 by_cases h2:a=c
 .refine ((hs _).call (aXr a b c d) (aA ?_)).words (by rw [hg];rfl) (fun _=>rfl) (fun _ _ h=>by cases h) (fun V=>?_) rfl rfl
  .simp only [sh,cA,and_true,beq_iff_eq,decide_eq_false_iff_not];exact ⟨h2,h1⟩
  .have:M.gt a b c d=decide (b>d):=by unfold M.gt;rw [decide_eq_decide];omega
   rw [this]
 .refine ((hs _).call (aXq a b c d) (aA ?_)).words (by rw [hg];rfl) (fun _=>rfl) (fun _ _ h=>by cases h) (fun V=>?_) rfl rfl
  .simp only [sh,cA,and_true,beq_eq_false_iff_ne,decide_eq_false_iff_not];exact ⟨h2,h1⟩
  .have:M.gt a b c d=false:=by unfold M.gt;exact kN (by omega)
   rw [this];rfl
def Xi (f:Nat):Option Sum:=match Nat.beq f 252 with
 | true=>some (aL aB 100 FX)
 | false=>exB f
theorem IS (f:Nat) (S:Sum) (h:Xi f=some S) (Γ:Env) (hg:Γ.aO=aB):aG Tryz.prog Γ f S:=by
 unfold Xi at h
 split at h
 .rename_i e;cases h;rw [cP e];exact aRy Γ hg
 .exact IT f S h Γ hg
noncomputable def Γv:Env:=env Xi 8
theorem kQ:cF Tryz.prog Γv:=bV Xi IS 8
theorem kP:cD Tryz.prog Γv:=bL Xi 8
def Bd (nu cu nq cq:Nat):List SV:=[.aH 61 true 0 nq cq,.ptr 62 true 0,.aH 63 true 0 nu cu,.dJ 64 0 3 0]
def Hd (v:List SV) (us qs:List SV):aX:=fun l=>look l [(61,.own qs 142),(62,.own [.raw (.pointer none)] 282),(63,.own us 142),(64,.row 1 v 142)]
def eZ:List SV:=[.int true .u64 13835058055282163712,.int true .u64 18446744073709551614,.int true .u64 18446744073709551615]
def wc (xs:List Int):List SV:=xs.map (.int false .u64)
noncomputable def Bx (v us qs:List SV) (nu cu nq cq:Nat):Option nM:=fX Γv (aZ 100 (Hd v us qs)) 100 Tryz.f225.ntmps [8] 100 400 (.go (codeOf Tryz.f225)) [] (yM (Bd nu cu nq cq) 100)
noncomputable def xE:Code:=match Bx eZ (wc [0,0,0,0]) (wc [0]) 4 4 1 1 with
 | some { cf:=.go (.loop c),.. }=>c
 | _=>.skip
noncomputable def Et:List Fr:=match Bx eZ (wc [0,0,0,0]) (wc [0]) 4 4 1 1 with
 | some r=>r.fr
 | _=>[]
def jD (nu cu nq cq m:Nat) (d rec:Int) (ujn:SV) (j:Int):List (Nat × SV):=[(0,.aH 61 true 0 nq cq),(2,.aH 63 true 0 nu cu),(3,.dJ 64 0 3 0),(8,.int true .i64 3),(9,.int true .i64 m),(10,.dJ 100 0 4 0),(11,.int true .u64 d),(12,.int true .u64 rec),(13,ujn),(14,.int true .i64 j)]
def jC (hs us qs:List SV):List (Nat × SB):=[(100,.row 1 hs 142),(61,.own qs 142),(63,.own us 142)]
def jE:List SV:=[.fn (.func 207) [.ptr 62 true 0,.int true .i64 0] []]
noncomputable def fL (v eP eR:List SV) (nu cu nq cq m:Nat) (d rec:Int) (j j':Int) (ujn aTr:SV) (us us' qs qs' hs xX:List SV) (h:List Bool):Option (Cf × List Fr × List Prop):=
 xV 100 (aZ 100 (Hd v eP eR)) [] (jD nu cu nq cq m d rec aTr j') (jC xX us' qs') 101 [61,63] jE (fX Γv (aZ 100 (Hd v eP eR)) 100 Tryz.f225.ntmps [8] 100 400 (.go xE) [] ((bQ (jD nu cu nq cq m d rec ujn j) (jC hs us qs) 101 [61,63] jE).hint h))
noncomputable def Lp (v eP eR:List SV) (nu cu nq cq m:Nat) (d rec:Int) (ujn:SV) (us qs hs:List SV):Option bK:=
 Kq Γv (Hd v eP eR) 100 100 Tryz.f225 (fX Γv (aZ 100 (Hd v eP eR)) 100 Tryz.f225.ntmps [8] 100 400 (.at (.exit 0)) Et ((bQ (jD nu cu nq cq m d rec ujn (-1)) (jC hs us qs) 101 [61,63] jE).hint []))
structure BN where
 nu:Nat
 cu:Nat
 nq:Nat
 cq:Nat
 m:Nat
def DvP (hs:List Bool) (ob:Int->Int->Int->Int->Int->Int->Int->Int->Int->List Prop) (uo:Int->Int->Int->Int->List Int) (qo:Int->Int->Int) (c:BN) (j j':Int) (pre post qa qb:List Int):Prop:=
 ∀ (eP eR:List SV) (u0 u1 u2 u3 v0 v1 v2 v3 q0 q1 h0 h1 h2 h3 g0 g1 g2 g3:Int),
   fL eZ eP eR c.nu c.cu c.nq c.cq c.m 18446744073709551615 1 j j' (.int false .u64 u3) (.int false .u64 v2) (wc (pre++[u0,u1,u2,u3]++post)) (wc (pre++[v0,v1,v2,v3]++post)) (wc (qa++[q0]++qb)) (wc (qa++[q1]++qb)) (wc [h0,h1,h2,h3]) (wc [g0,g1,g2,g3]) hs =
    some (.at .normal,[],ob u0 u1 u2 u3 v2 g0 g1 g2 g3++[qa++[qo u2 u3]++qb=qa++[q1]++qb,pre++uo u0 u1 u2 u3++post=pre++[v0,v1,v2,v3]++post])
def aDa (u0 u1 u2 u3 v2 g0 g1 g2 g3:Int):List Prop:=
 sh (13835058055282163713:Int) fun z4=>
 sh (4611686018427387904:Int) fun z3=>
 sh (0:Int) fun z6=>
 sh (u0-z3-z6) fun jY=>
 sh (u1-z4-M.ub jY) fun z0=>
 sh (18446744073709551614:Int) fun z1=>
 sh (18446744073709551615:Int) fun z2=>
 sh (u2-z1-M.ub z0) fun z5=>
 sh (18446744073709551613:Int) fun z7=>
 sh (13835058055282163711:Int) fun z8=>
 sh (13835058055282163712:Int) fun z9=>
 [(M.ub (u3-z1-M.ub z5) != z6)=false,M.U u3,M.U z1,M.K (M.ub z5),u3=u3,z1=z1,M.ub z5=M.ub z5,M.U u2,M.U z1,M.K (M.ub z0),u2=u2,z1=z1,M.ub z0=M.ub z0,M.U u1,M.U z4,M.K (M.ub jY),u1=u1,z4=z4,M.ub jY=M.ub jY,M.U u0,M.U z3,M.K z6,u0=u0,z3=z3,z6=z6,M.U z2,M.U z2,M.U z7,z2=z2,z2=z2,z7=z7,M.U z1,M.U z2,M.U z8,z1=z1,z2=z2,z8=z8,M.U z9,M.U z2,M.U z6,z9=z9,z2=z2,z6=z6,(u3 != z2)=false,(3:Nat)=(3:Nat),(4:Nat)=(4:Nat),M.ul z5=v2,z3=g0,z4=g1,z1=g2,z1=g3]
def aCg (u0 u1 u2 u3:Int):List Int:=[M.ul (u0-(4611686018427387904:Int)-(0:Int)),M.ul (u1-(13835058055282163713:Int)-M.ub (u0-(4611686018427387904:Int)-(0:Int))),M.ul (u2-(18446744073709551614:Int)-M.ub (u1-(13835058055282163713:Int)-M.ub (u0-(4611686018427387904:Int)-(0:Int)))),M.ul (u3-(18446744073709551614:Int)-M.ub (u2-(18446744073709551614:Int)-M.ub (u1-(13835058055282163713:Int)-M.ub (u0-(4611686018427387904:Int)-(0:Int)))))]
def aCu (u2 u3:Int):Int:=(18446744073709551615:Int)
abbrev yG:=DvP [false,false] aDa aCg aCu
def FB (u0 u1 u2 u3 v2 g0 g1 g2 g3:Int):List Prop:=
 sh (18446744073709551614:Int) fun z4=>
 sh (18446744073709551615:Int) fun z1=>
 sh (13835058055282163712:Int) fun z8=>
 sh (0:Int) fun jY=>
 sh (z8*M.dq z1 u3 u2+jY) fun z2=>
 sh (z4*M.dq z1 u3 u2+M.uh z2) fun z0=>
 sh (z1*M.dq z1 u3 u2+M.uh z0) fun z5=>
 sh (u0-M.ul z2-jY) fun z6=>
 sh (u1-M.ul z0-M.ub z6) fun z9=>
 sh (u2-M.ul z5-M.ub z9) fun z3=>
 sh (M.dq z1 u3 u2*z4) fun z7=>
 sh (M.dq z1 u3 u2) fun lJ=>
 [(M.ub (u3-M.uh z5-M.ub z3) != jY)=false,M.U u3,M.U (M.uh z5),M.K (M.ub z3),u3=u3,M.uh z5=M.uh z5,M.ub z3=M.ub z3,M.U u2,M.U (M.ul z5),M.K (M.ub z9),u2=u2,M.ul z5=M.ul z5,M.ub z9=M.ub z9,M.U u1,M.U (M.ul z0),M.K (M.ub z6),u1=u1,M.ul z0=M.ul z0,M.ub z6=M.ub z6,M.U u0,M.U (M.ul z2),M.K jY,u0=u0,M.ul z2=M.ul z2,jY=jY,M.U z1,M.U lJ,M.U (M.uh z0),z1=z1,M.dq z1 u3 u2=M.dq z1 u3 u2,M.uh z0=M.uh z0,M.U z4,M.U lJ,M.U (M.uh z2),z4=z4,M.dq z1 u3 u2=M.dq z1 u3 u2,M.uh z2=M.uh z2,M.U z8,M.U lJ,M.U jY,z8=z8,M.dq z1 u3 u2=M.dq z1 u3 u2,jY=jY,M.gt (M.uh z7) (M.ul z7) (M.dr z1 u3 u2) u1=false,M.U (M.ul z7),M.U u1,M.uh z7=M.uh z7,M.ul z7=M.ul z7,M.dr z1 u3 u2=M.dr z1 u3 u2,u1=u1,M.U lJ,M.U z4,M.dq z1 u3 u2=M.dq z1 u3 u2,z4=z4,M.U u3,M.U u2,u3<z1,u3=u3,u2=u2,(u3 != z1)=true,(3:Nat)=(3:Nat),(4:Nat)=(4:Nat),M.ul z3=v2,M.ul z2=g0,M.ul z0=g1,M.ul z5=g2,M.uh z5=g3]
def DT (u0 u1 u2 u3:Int):List Int:=
 sh (18446744073709551615:Int) fun z2=>
 sh ((13835058055282163712:Int)*M.dq z2 u3 u2+(0:Int)) fun z1=>
 sh ((18446744073709551614:Int)*M.dq z2 u3 u2+M.uh z1) fun z0=>
 sh (z2*M.dq z2 u3 u2+M.uh z0) fun z5=>
 sh (u0-M.ul z1-(0:Int)) fun z4=>
 sh (u1-M.ul z0-M.ub z4) fun z6=>
 sh (u2-M.ul z5-M.ub z6) fun z3=>
 [M.ul z4,M.ul z6,M.ul z3,M.ul (u3-M.uh z5-M.ub z3)]
def ER (u2 u3:Int):Int:=M.dq (18446744073709551615:Int) u3 u2
abbrev uE:=DvP [true,false,false] FB DT ER
def HZ (u0 u1 u2 u3 v2 g0 g1 g2 g3:Int):List Prop:=
 sh (18446744073709551614:Int) fun z5=>
 sh (18446744073709551615:Int) fun z3=>
 sh (M.dq z3 u3 u2-(1:Int)) fun z1=>
 sh (13835058055282163712:Int) fun z9=>
 sh (0:Int) fun lJ=>
 sh (z9*IntKind.u64.wrap z1+lJ) fun z2=>
 sh (z5*IntKind.u64.wrap z1+M.uh z2) fun z0=>
 sh (z3*IntKind.u64.wrap z1+M.uh z0) fun z4=>
 sh (u0-M.ul z2-lJ) fun jY=>
 sh (u1-M.ul z0-M.ub jY) fun z6=>
 sh (M.dq z3 u3 u2*z5) fun z7=>
 sh (u2-M.ul z4-M.ub z6) fun z8=>
 sh (IntKind.u64.wrap z1) fun wL=>
 [(M.ub (u3-M.uh z4-M.ub z8) != lJ)=false,M.U u3,M.U (M.uh z4),M.K (M.ub z8),u3=u3,M.uh z4=M.uh z4,M.ub z8=M.ub z8,M.U u2,M.U (M.ul z4),M.K (M.ub z6),u2=u2,M.ul z4=M.ul z4,M.ub z6=M.ub z6,M.U u1,M.U (M.ul z0),M.K (M.ub jY),u1=u1,M.ul z0=M.ul z0,M.ub jY=M.ub jY,M.U u0,M.U (M.ul z2),M.K lJ,u0=u0,M.ul z2=M.ul z2,lJ=lJ,M.U z3,M.U wL,M.U (M.uh z0),z3=z3,IntKind.u64.wrap z1=IntKind.u64.wrap z1,M.uh z0=M.uh z0,M.U z5,M.U wL,M.U (M.uh z2),z5=z5,IntKind.u64.wrap z1=IntKind.u64.wrap z1,M.uh z2=M.uh z2,M.U z9,M.U wL,M.U lJ,z9=z9,IntKind.u64.wrap z1=IntKind.u64.wrap z1,lJ=lJ,decide (IntKind.u64.wrap (M.dr z3 u3 u2+z3)<z3)=true,M.gt (M.uh z7) (M.ul z7) (M.dr z3 u3 u2) u1=true,M.U (M.ul z7),M.U u1,M.uh z7=M.uh z7,M.ul z7=M.ul z7,M.dr z3 u3 u2=M.dr z3 u3 u2,u1=u1,M.U (M.dq z3 u3 u2),M.U z5,M.dq z3 u3 u2=M.dq z3 u3 u2,z5=z5,M.U u3,M.U u2,u3<z3,u3=u3,u2=u2,(u3 != z3)=true,(3:Nat)=(3:Nat),(4:Nat)=(4:Nat),M.ul z8=v2,M.ul z2=g0,M.ul z0=g1,M.ul z4=g2,M.uh z4=g3]
def HF (u0 u1 u2 u3:Int):List Int:=
 sh (18446744073709551615:Int) fun z5=>
 sh (M.dq z5 u3 u2-(1:Int)) fun z3=>
 sh ((13835058055282163712:Int)*IntKind.u64.wrap z3+(0:Int)) fun z1=>
 sh ((18446744073709551614:Int)*IntKind.u64.wrap z3+M.uh z1) fun z0=>
 sh (z5*IntKind.u64.wrap z3+M.uh z0) fun z2=>
 sh (u0-M.ul z1-(0:Int)) fun z6=>
 sh (u1-M.ul z0-M.ub z6) fun z4=>
 sh (u2-M.ul z2-M.ub z4) fun z7=>
 [M.ul z6,M.ul z4,M.ul z7,M.ul (u3-M.uh z2-M.ub z7)]
def HQ (u2 u3:Int):Int:=IntKind.u64.wrap (M.dq (18446744073709551615:Int) u3 u2-(1:Int))
abbrev qL:=DvP [true,true,true,false] HZ HF HQ
def Vn (u0 u1 u2 u3 v2 g0 g1 g2 g3:Int):List Prop:=
 sh (18446744073709551614:Int) fun z4=>
 sh (18446744073709551615:Int) fun z1=>
 sh (M.dq z1 u3 u2-(1:Int)) fun z6=>
 sh (13835058055282163712:Int) fun z9=>
 sh (0:Int) fun wL=>
 sh (z9*IntKind.u64.wrap z6+wL) fun z2=>
 sh (z4*IntKind.u64.wrap z6+M.uh z2) fun z0=>
 sh (z1*IntKind.u64.wrap z6+M.uh z0) fun z3=>
 sh (u0-M.ul z2-wL) fun jY=>
 sh (u1-M.ul z0-M.ub jY) fun z5=>
 sh (M.dq z1 u3 u2*z4) fun z7=>
 sh (u2-M.ul z3-M.ub z5) fun z8=>
 sh (M.dr z1 u3 u2+z1) fun lJ=>
 sh (IntKind.u64.wrap z6) fun BD=>
 sh (M.uh z7-(1:Int)) fun z14=>
 sh (M.ul z7-z4) fun z15=>
 sh (IntKind.u64.wrap z15) fun nA=>
 [(M.ub (u3-M.uh z3-M.ub z8) != wL)=false,M.U u3,M.U (M.uh z3),M.K (M.ub z8),u3=u3,M.uh z3=M.uh z3,M.ub z8=M.ub z8,M.U u2,M.U (M.ul z3),M.K (M.ub z5),u2=u2,M.ul z3=M.ul z3,M.ub z5=M.ub z5,M.U u1,M.U (M.ul z0),M.K (M.ub jY),u1=u1,M.ul z0=M.ul z0,M.ub jY=M.ub jY,M.U u0,M.U (M.ul z2),M.K wL,u0=u0,M.ul z2=M.ul z2,wL=wL,M.U z1,M.U BD,M.U (M.uh z0),z1=z1,IntKind.u64.wrap z6=IntKind.u64.wrap z6,M.uh z0=M.uh z0,M.U z4,M.U BD,M.U (M.uh z2),z4=z4,IntKind.u64.wrap z6=IntKind.u64.wrap z6,M.uh z2=M.uh z2,M.U z9,M.U BD,M.U wL,z9=z9,IntKind.u64.wrap z6=IntKind.u64.wrap z6,wL=wL,M.gt (IntKind.u64.wrap z14) nA (IntKind.u64.wrap lJ) u1=false,M.U nA,M.U u1,IntKind.u64.wrap z14=IntKind.u64.wrap z14,IntKind.u64.wrap z15=IntKind.u64.wrap z15,IntKind.u64.wrap lJ=IntKind.u64.wrap lJ,u1=u1,decide (z4>M.ul z7)=true,decide (IntKind.u64.wrap lJ<z1)=false,M.gt (M.uh z7) (M.ul z7) (M.dr z1 u3 u2) u1=true,M.U (M.ul z7),M.U u1,M.uh z7=M.uh z7,M.ul z7=M.ul z7,M.dr z1 u3 u2=M.dr z1 u3 u2,u1=u1,M.U (M.dq z1 u3 u2),M.U z4,M.dq z1 u3 u2=M.dq z1 u3 u2,z4=z4,M.U u3,M.U u2,u3<z1,u3=u3,u2=u2,(u3 != z1)=true,(3:Nat)=(3:Nat),(4:Nat)=(4:Nat),M.ul z8=v2,M.ul z2=g0,M.ul z0=g1,M.ul z3=g2,M.uh z3=g3]
def Uw (u0 u1 u2 u3:Int):List Int:=
 sh (18446744073709551615:Int) fun z5=>
 sh (M.dq z5 u3 u2-(1:Int)) fun z3=>
 sh ((13835058055282163712:Int)*IntKind.u64.wrap z3+(0:Int)) fun z1=>
 sh ((18446744073709551614:Int)*IntKind.u64.wrap z3+M.uh z1) fun z0=>
 sh (z5*IntKind.u64.wrap z3+M.uh z0) fun z2=>
 sh (u0-M.ul z1-(0:Int)) fun z6=>
 sh (u1-M.ul z0-M.ub z6) fun z4=>
 sh (u2-M.ul z2-M.ub z4) fun z7=>
 [M.ul z6,M.ul z4,M.ul z7,M.ul (u3-M.uh z2-M.ub z7)]
def Vd (u2 u3:Int):Int:=IntKind.u64.wrap (M.dq (18446744073709551615:Int) u3 u2-(1:Int))
abbrev nI:=DvP [true,true,false,true,false,false] Vn Uw Vd
def Vo (u0 u1 u2 u3 v2 g0 g1 g2 g3:Int):List Prop:=
 sh (18446744073709551614:Int) fun z4=>
 sh (18446744073709551615:Int) fun z1=>
 sh (M.dq z1 u3 u2-(1:Int)) fun z6=>
 sh (13835058055282163712:Int) fun z9=>
 sh (0:Int) fun wL=>
 sh (z9*IntKind.u64.wrap z6+wL) fun z2=>
 sh (z4*IntKind.u64.wrap z6+M.uh z2) fun z0=>
 sh (z1*IntKind.u64.wrap z6+M.uh z0) fun z3=>
 sh (u0-M.ul z2-wL) fun jY=>
 sh (u1-M.ul z0-M.ub jY) fun z5=>
 sh (M.dq z1 u3 u2*z4) fun z7=>
 sh (u2-M.ul z3-M.ub z5) fun z8=>
 sh (M.dr z1 u3 u2+z1) fun lJ=>
 sh (IntKind.u64.wrap z6) fun BD=>
 sh (M.ul z7-z4) fun z14=>
 sh (IntKind.u64.wrap z14) fun z15=>
 [(M.ub (u3-M.uh z3-M.ub z8) != wL)=false,M.U u3,M.U (M.uh z3),M.K (M.ub z8),u3=u3,M.uh z3=M.uh z3,M.ub z8=M.ub z8,M.U u2,M.U (M.ul z3),M.K (M.ub z5),u2=u2,M.ul z3=M.ul z3,M.ub z5=M.ub z5,M.U u1,M.U (M.ul z0),M.K (M.ub jY),u1=u1,M.ul z0=M.ul z0,M.ub jY=M.ub jY,M.U u0,M.U (M.ul z2),M.K wL,u0=u0,M.ul z2=M.ul z2,wL=wL,M.U z1,M.U BD,M.U (M.uh z0),z1=z1,IntKind.u64.wrap z6=IntKind.u64.wrap z6,M.uh z0=M.uh z0,M.U z4,M.U BD,M.U (M.uh z2),z4=z4,IntKind.u64.wrap z6=IntKind.u64.wrap z6,M.uh z2=M.uh z2,M.U z9,M.U BD,M.U wL,z9=z9,IntKind.u64.wrap z6=IntKind.u64.wrap z6,wL=wL,M.gt (M.uh z7) z15 (IntKind.u64.wrap lJ) u1=false,M.U z15,M.U u1,M.uh z7=M.uh z7,IntKind.u64.wrap z14=IntKind.u64.wrap z14,IntKind.u64.wrap lJ=IntKind.u64.wrap lJ,u1=u1,decide (z4>M.ul z7)=false,decide (IntKind.u64.wrap lJ<z1)=false,M.gt (M.uh z7) (M.ul z7) (M.dr z1 u3 u2) u1=true,M.U (M.ul z7),M.U u1,M.uh z7=M.uh z7,M.ul z7=M.ul z7,M.dr z1 u3 u2=M.dr z1 u3 u2,u1=u1,M.U (M.dq z1 u3 u2),M.U z4,M.dq z1 u3 u2=M.dq z1 u3 u2,z4=z4,M.U u3,M.U u2,u3<z1,u3=u3,u2=u2,(u3 != z1)=true,(3:Nat)=(3:Nat),(4:Nat)=(4:Nat),M.ul z8=v2,M.ul z2=g0,M.ul z0=g1,M.ul z3=g2,M.uh z3=g3]
def Ux (u0 u1 u2 u3:Int):List Int:=
 sh (18446744073709551615:Int) fun z5=>
 sh (M.dq z5 u3 u2-(1:Int)) fun z3=>
 sh ((13835058055282163712:Int)*IntKind.u64.wrap z3+(0:Int)) fun z1=>
 sh ((18446744073709551614:Int)*IntKind.u64.wrap z3+M.uh z1) fun z0=>
 sh (z5*IntKind.u64.wrap z3+M.uh z0) fun z2=>
 sh (u0-M.ul z1-(0:Int)) fun z6=>
 sh (u1-M.ul z0-M.ub z6) fun z4=>
 sh (u2-M.ul z2-M.ub z4) fun z7=>
 [M.ul z6,M.ul z4,M.ul z7,M.ul (u3-M.uh z2-M.ub z7)]
def Ve (u2 u3:Int):Int:=IntKind.u64.wrap (M.dq (18446744073709551615:Int) u3 u2-(1:Int))
abbrev nJ:=DvP [true,true,false,false,false,false] Vo Ux Ve
def aCz (u0 u1 u2 u3 v2 g0 g1 g2 g3:Int):List Prop:=
 sh (18446744073709551614:Int) fun z4=>
 sh (18446744073709551615:Int) fun z2=>
 sh (13835058055282163712:Int) fun z3=>
 sh (0:Int) fun lJ=>
 sh (z3*M.dq z2 u3 u2+lJ) fun z7=>
 sh (z4*M.dq z2 u3 u2+M.uh z7) fun z0=>
 sh (u0-M.ul z7-lJ) fun z1=>
 sh (z2*M.dq z2 u3 u2+M.uh z0) fun z6=>
 sh (u1-M.ul z0-M.ub z1) fun z8=>
 sh (u2-M.ul z6-M.ub z8) fun z5=>
 sh (M.ul z1+z3+lJ) fun z9=>
 sh (M.dq z2 u3 u2*z4) fun jY=>
 sh (M.ul z8+z4+M.uh z9) fun wL=>
 sh (M.dq z2 u3 u2) fun BD=>
 [M.U (M.ul z5),M.U z2,M.K (M.uh wL),M.ul z5=M.ul z5,z2=z2,M.uh wL=M.uh wL,M.U (M.ul z8),M.U z4,M.K (M.uh z9),M.ul z8=M.ul z8,z4=z4,M.uh z9=M.uh z9,M.U (M.ul z1),M.U z3,M.K lJ,M.ul z1=M.ul z1,z3=z3,lJ=lJ,(M.ub (u3-M.uh z6-M.ub z5) != lJ)=true,M.U u3,M.U (M.uh z6),M.K (M.ub z5),u3=u3,M.uh z6=M.uh z6,M.ub z5=M.ub z5,M.U u2,M.U (M.ul z6),M.K (M.ub z8),u2=u2,M.ul z6=M.ul z6,M.ub z8=M.ub z8,M.U u1,M.U (M.ul z0),M.K (M.ub z1),u1=u1,M.ul z0=M.ul z0,M.ub z1=M.ub z1,M.U u0,M.U (M.ul z7),M.K lJ,u0=u0,M.ul z7=M.ul z7,lJ=lJ,M.U z2,M.U BD,M.U (M.uh z0),z2=z2,M.dq z2 u3 u2=M.dq z2 u3 u2,M.uh z0=M.uh z0,M.U z4,M.U BD,M.U (M.uh z7),z4=z4,M.dq z2 u3 u2=M.dq z2 u3 u2,M.uh z7=M.uh z7,M.U z3,M.U BD,M.U lJ,z3=z3,M.dq z2 u3 u2=M.dq z2 u3 u2,lJ=lJ,M.gt (M.uh jY) (M.ul jY) (M.dr z2 u3 u2) u1=false,M.U (M.ul jY),M.U u1,M.uh jY=M.uh jY,M.ul jY=M.ul jY,M.dr z2 u3 u2=M.dr z2 u3 u2,u1=u1,M.U BD,M.U z4,M.dq z2 u3 u2=M.dq z2 u3 u2,z4=z4,M.U u3,M.U u2,u3<z2,u3=u3,u2=u2,(u3 != z2)=true,(3:Nat)=(3:Nat),(4:Nat)=(4:Nat),M.ul (M.ul z5+z2+M.uh wL)=v2,M.ul z7=g0,M.ul z0=g1,M.ul z6=g2,M.uh z6=g3]
def aCf (u0 u1 u2 u3:Int):List Int:=
 sh (13835058055282163712:Int) fun z9=>
 sh (18446744073709551615:Int) fun z3=>
 sh (z9*M.dq z3 u3 u2+(0:Int)) fun z0=>
 sh (18446744073709551614:Int) fun jY=>
 sh (jY*M.dq z3 u3 u2+M.uh z0) fun z1=>
 sh (z3*M.dq z3 u3 u2+M.uh z1) fun z8=>
 sh (u0-M.ul z0-(0:Int)) fun z7=>
 sh (u1-M.ul z1-M.ub z7) fun lJ=>
 sh (u2-M.ul z8-M.ub lJ) fun z5=>
 sh (M.ul z7+z9+(0:Int)) fun z6=>
 sh (M.ul lJ+jY+M.uh z6) fun z4=>
 sh (M.ul z5+z3+M.uh z4) fun z2=>
 [M.ul z6,M.ul z4,M.ul z2,IntKind.u64.wrap (M.ul (u3-M.uh z8-M.ub z5)+M.uh z2)]
def aCt (u2 u3:Int):Int:=IntKind.u64.wrap (M.dq (18446744073709551615:Int) u3 u2-(1:Int))
abbrev yF:=DvP [true,false,true] aCz aCf aCt
def aMy (u1 u2 u3 v3 g0 g1 g2 g3:Int):List Prop:=
 sh (18446744073709551614:Int) fun z3=>
 sh (18446744073709551615:Int) fun z1=>
 sh (0:Int) fun z4=>
 sh (13835058055282163712:Int) fun z8=>
 sh (z8*M.dq z1 z4 u3+z4) fun z2=>
 sh (z3*M.dq z1 z4 u3+M.uh z2) fun z0=>
 sh (z1*M.dq z1 z4 u3+M.uh z0) fun z5=>
 sh (u1-M.ul z2-z4) fun z9=>
 sh (u2-M.ul z0-M.ub z9) fun z6=>
 sh (M.dq z1 z4 u3*z3) fun z7=>
 sh (M.dq z1 z4 u3) fun jY=>
 sh (u3-M.ul z5-M.ub z6) fun lJ=>
 [(M.dq z1 z4 u3==z4)=true,(M.ub lJ != z4)=false,M.U u3,M.U (M.ul z5),M.K (M.ub z6),u3=u3,M.ul z5=M.ul z5,M.ub z6=M.ub z6,M.U u2,M.U (M.ul z0),M.K (M.ub z9),u2=u2,M.ul z0=M.ul z0,M.ub z9=M.ub z9,M.U u1,M.U (M.ul z2),M.K z4,u1=u1,M.ul z2=M.ul z2,z4=z4,(M.uh z5==z4)=true,M.U z1,M.U jY,M.U (M.uh z0),z1=z1,M.dq z1 z4 u3=M.dq z1 z4 u3,M.uh z0=M.uh z0,M.U z3,M.U jY,M.U (M.uh z2),z3=z3,M.dq z1 z4 u3=M.dq z1 z4 u3,M.uh z2=M.uh z2,M.U z8,M.U jY,M.U z4,z8=z8,M.dq z1 z4 u3=M.dq z1 z4 u3,z4=z4,M.gt (M.uh z7) (M.ul z7) (M.dr z1 z4 u3) u2=false,M.U (M.ul z7),M.U u2,M.uh z7=M.uh z7,M.ul z7=M.ul z7,M.dr z1 z4 u3=M.dr z1 z4 u3,u2=u2,M.U jY,M.U z3,M.dq z1 z4 u3=M.dq z1 z4 u3,z3=z3,M.U z4,M.U u3,z4<z1,z4=z4,u3=u3,(3:Nat)=(3:Nat),(4:Nat)=(4:Nat),M.ul lJ=v3,M.ul z2=g0,M.ul z0=g1,M.ul z5=g2,M.uh z5=g3]
def aMi (u1 u2 u3:Int):List Int:=
 sh (18446744073709551615:Int) fun z2=>
 sh (0:Int) fun z4=>
 sh ((13835058055282163712:Int)*M.dq z2 z4 u3+z4) fun z0=>
 sh ((18446744073709551614:Int)*M.dq z2 z4 u3+M.uh z0) fun z1=>
 sh (u1-M.ul z0-z4) fun z3=>
 sh (u2-M.ul z1-M.ub z3) fun z5=>
 [M.ul z3,M.ul z5,M.ul (u3-M.ul (z2*M.dq z2 z4 u3+M.uh z1)-M.ub z5)]
def DvT (c:BN) (j j':Int) (pre post qs:List Int):Prop:=
 ∀ (eP eR:List SV) (u1 u2 u3 v1 v2 v3 h0 h1 h2 h3 g0 g1 g2 g3:Int),
   fL eZ eP eR c.nu c.cu c.nq c.cq c.m 18446744073709551615 1 j j' (.int true .u64 0) (.int false .u64 v3) (wc (pre++[u1,u2,u3]++post)) (wc (pre++[v1,v2,v3]++post)) (wc qs) (wc qs) (wc [h0,h1,h2,h3]) (wc [g0,g1,g2,g3]) [false,true,false,true] =
    some (.at .normal,[],aMy u1 u2 u3 v3 g0 g1 g2 g3++[qs=qs,pre++aMi u1 u2 u3++post=pre++[v1,v2,v3]++post])
theorem aJj:yG ⟨4,7,1,1,1⟩ 0 (-1) [] [0,0,0] [] []:=fun eP eR u0 u1 u2 u3 v0 v1 v2 v3 q0 q1 h0 h1 h2 h3 g0 g1 g2 g3=>by kernel_rfl
theorem aJi:uE ⟨4,7,1,1,1⟩ 0 (-1) [] [0,0,0] [] []:=fun eP eR u0 u1 u2 u3 v0 v1 v2 v3 q0 q1 h0 h1 h2 h3 g0 g1 g2 g3=>by kernel_rfl
theorem ZK:qL ⟨4,7,1,1,1⟩ 0 (-1) [] [0,0,0] [] []:=fun eP eR u0 u1 u2 u3 v0 v1 v2 v3 q0 q1 h0 h1 h2 h3 g0 g1 g2 g3=>by kernel_rfl
theorem LA:nI ⟨4,7,1,1,1⟩ 0 (-1) [] [0,0,0] [] []:=fun eP eR u0 u1 u2 u3 v0 v1 v2 v3 q0 q1 h0 h1 h2 h3 g0 g1 g2 g3=>by kernel_rfl
theorem LB:nJ ⟨4,7,1,1,1⟩ 0 (-1) [] [0,0,0] [] []:=fun eP eR u0 u1 u2 u3 v0 v1 v2 v3 q0 q1 h0 h1 h2 h3 g0 g1 g2 g3=>by kernel_rfl
theorem aJh:yF ⟨4,7,1,1,1⟩ 0 (-1) [] [0,0,0] [] []:=fun eP eR u0 u1 u2 u3 v0 v1 v2 v3 q0 q1 h0 h1 h2 h3 g0 g1 g2 g3=>by kernel_rfl
theorem aRe (u0 q0:Int):DvT ⟨4,7,1,1,1⟩ 1 0 [u0] [0,0,0] [q0]:=fun eP eR u1 u2 u3 v1 v2 v3 h0 h1 h2 h3 g0 g1 g2 g3=>by kernel_rfl
theorem aJg:yG ⟨4,8,1,1,1⟩ 0 (-1) [] [0,0,0,0] [] []:=fun eP eR u0 u1 u2 u3 v0 v1 v2 v3 q0 q1 h0 h1 h2 h3 g0 g1 g2 g3=>by kernel_rfl
theorem aJf:uE ⟨4,8,1,1,1⟩ 0 (-1) [] [0,0,0,0] [] []:=fun eP eR u0 u1 u2 u3 v0 v1 v2 v3 q0 q1 h0 h1 h2 h3 g0 g1 g2 g3=>by kernel_rfl
theorem ZJ:qL ⟨4,8,1,1,1⟩ 0 (-1) [] [0,0,0,0] [] []:=fun eP eR u0 u1 u2 u3 v0 v1 v2 v3 q0 q1 h0 h1 h2 h3 g0 g1 g2 g3=>by kernel_rfl
theorem KY:nI ⟨4,8,1,1,1⟩ 0 (-1) [] [0,0,0,0] [] []:=fun eP eR u0 u1 u2 u3 v0 v1 v2 v3 q0 q1 h0 h1 h2 h3 g0 g1 g2 g3=>by kernel_rfl
theorem KZ:nJ ⟨4,8,1,1,1⟩ 0 (-1) [] [0,0,0,0] [] []:=fun eP eR u0 u1 u2 u3 v0 v1 v2 v3 q0 q1 h0 h1 h2 h3 g0 g1 g2 g3=>by kernel_rfl
theorem aJe:yF ⟨4,8,1,1,1⟩ 0 (-1) [] [0,0,0,0] [] []:=fun eP eR u0 u1 u2 u3 v0 v1 v2 v3 q0 q1 h0 h1 h2 h3 g0 g1 g2 g3=>by kernel_rfl
theorem aRd (u0 q0:Int):DvT ⟨4,8,1,1,1⟩ 1 0 [u0] [0,0,0,0] [q0]:=fun eP eR u1 u2 u3 v1 v2 v3 h0 h1 h2 h3 g0 g1 g2 g3=>by kernel_rfl
theorem ZI (z0 y0:Int):yG ⟨5,8,2,6,2⟩ 1 0 [z0] [0,0,0] [y0] [0,0,0,0]:=fun eP eR u0 u1 u2 u3 v0 v1 v2 v3 q0 q1 h0 h1 h2 h3 g0 g1 g2 g3=>by kernel_rfl
theorem ZH (z0 y0:Int):uE ⟨5,8,2,6,2⟩ 1 0 [z0] [0,0,0] [y0] [0,0,0,0]:=fun eP eR u0 u1 u2 u3 v0 v1 v2 v3 q0 q1 h0 h1 h2 h3 g0 g1 g2 g3=>by kernel_rfl
theorem KX (z0 y0:Int):qL ⟨5,8,2,6,2⟩ 1 0 [z0] [0,0,0] [y0] [0,0,0,0]:=fun eP eR u0 u1 u2 u3 v0 v1 v2 v3 q0 q1 h0 h1 h2 h3 g0 g1 g2 g3=>by kernel_rfl
theorem Zf (z0 y0:Int):nI ⟨5,8,2,6,2⟩ 1 0 [z0] [0,0,0] [y0] [0,0,0,0]:=fun eP eR u0 u1 u2 u3 v0 v1 v2 v3 q0 q1 h0 h1 h2 h3 g0 g1 g2 g3=>by kernel_rfl
theorem Zg (z0 y0:Int):nJ ⟨5,8,2,6,2⟩ 1 0 [z0] [0,0,0] [y0] [0,0,0,0]:=fun eP eR u0 u1 u2 u3 v0 v1 v2 v3 q0 q1 h0 h1 h2 h3 g0 g1 g2 g3=>by kernel_rfl
theorem ZG (z0 y0:Int):yF ⟨5,8,2,6,2⟩ 1 0 [z0] [0,0,0] [y0] [0,0,0,0]:=fun eP eR u0 u1 u2 u3 v0 v1 v2 v3 q0 q1 h0 h1 h2 h3 g0 g1 g2 g3=>by kernel_rfl
theorem ZF (y1:Int):yG ⟨5,8,2,6,2⟩ 0 (-1) [] [0,0,0,0] [] [y1,0,0,0,0]:=fun eP eR u0 u1 u2 u3 v0 v1 v2 v3 q0 q1 h0 h1 h2 h3 g0 g1 g2 g3=>by kernel_rfl
theorem ZE (y1:Int):uE ⟨5,8,2,6,2⟩ 0 (-1) [] [0,0,0,0] [] [y1,0,0,0,0]:=fun eP eR u0 u1 u2 u3 v0 v1 v2 v3 q0 q1 h0 h1 h2 h3 g0 g1 g2 g3=>by kernel_rfl
theorem KW (y1:Int):qL ⟨5,8,2,6,2⟩ 0 (-1) [] [0,0,0,0] [] [y1,0,0,0,0]:=fun eP eR u0 u1 u2 u3 v0 v1 v2 v3 q0 q1 h0 h1 h2 h3 g0 g1 g2 g3=>by kernel_rfl
theorem Zd (y1:Int):nI ⟨5,8,2,6,2⟩ 0 (-1) [] [0,0,0,0] [] [y1,0,0,0,0]:=fun eP eR u0 u1 u2 u3 v0 v1 v2 v3 q0 q1 h0 h1 h2 h3 g0 g1 g2 g3=>by kernel_rfl
theorem Ze (y1:Int):nJ ⟨5,8,2,6,2⟩ 0 (-1) [] [0,0,0,0] [] [y1,0,0,0,0]:=fun eP eR u0 u1 u2 u3 v0 v1 v2 v3 q0 q1 h0 h1 h2 h3 g0 g1 g2 g3=>by kernel_rfl
theorem ZD (y1:Int):yF ⟨5,8,2,6,2⟩ 0 (-1) [] [0,0,0,0] [] [y1,0,0,0,0]:=fun eP eR u0 u1 u2 u3 v0 v1 v2 v3 q0 q1 h0 h1 h2 h3 g0 g1 g2 g3=>by kernel_rfl
theorem aRc (z0 u0 q0 q1:Int):DvT ⟨5,8,2,6,2⟩ 2 1 [z0,u0] [0,0,0] [q0,q1,0,0,0,0]:=fun eP eR u1 u2 u3 v1 v2 v3 h0 h1 h2 h3 g0 g1 g2 g3=>by kernel_rfl
theorem ZC (z0 y0:Int):yG ⟨5,9,2,6,2⟩ 1 0 [z0] [0,0,0,0] [y0] [0,0,0,0]:=fun eP eR u0 u1 u2 u3 v0 v1 v2 v3 q0 q1 h0 h1 h2 h3 g0 g1 g2 g3=>by kernel_rfl
theorem ZB (z0 y0:Int):uE ⟨5,9,2,6,2⟩ 1 0 [z0] [0,0,0,0] [y0] [0,0,0,0]:=fun eP eR u0 u1 u2 u3 v0 v1 v2 v3 q0 q1 h0 h1 h2 h3 g0 g1 g2 g3=>by kernel_rfl
theorem KV (z0 y0:Int):qL ⟨5,9,2,6,2⟩ 1 0 [z0] [0,0,0,0] [y0] [0,0,0,0]:=fun eP eR u0 u1 u2 u3 v0 v1 v2 v3 q0 q1 h0 h1 h2 h3 g0 g1 g2 g3=>by kernel_rfl
theorem Zb (z0 y0:Int):nI ⟨5,9,2,6,2⟩ 1 0 [z0] [0,0,0,0] [y0] [0,0,0,0]:=fun eP eR u0 u1 u2 u3 v0 v1 v2 v3 q0 q1 h0 h1 h2 h3 g0 g1 g2 g3=>by kernel_rfl
theorem Zc (z0 y0:Int):nJ ⟨5,9,2,6,2⟩ 1 0 [z0] [0,0,0,0] [y0] [0,0,0,0]:=fun eP eR u0 u1 u2 u3 v0 v1 v2 v3 q0 q1 h0 h1 h2 h3 g0 g1 g2 g3=>by kernel_rfl
theorem ZA (z0 y0:Int):yF ⟨5,9,2,6,2⟩ 1 0 [z0] [0,0,0,0] [y0] [0,0,0,0]:=fun eP eR u0 u1 u2 u3 v0 v1 v2 v3 q0 q1 h0 h1 h2 h3 g0 g1 g2 g3=>by kernel_rfl
theorem YZ (y1:Int):yG ⟨5,9,2,6,2⟩ 0 (-1) [] [0,0,0,0,0] [] [y1,0,0,0,0]:=fun eP eR u0 u1 u2 u3 v0 v1 v2 v3 q0 q1 h0 h1 h2 h3 g0 g1 g2 g3=>by kernel_rfl
theorem YY (y1:Int):uE ⟨5,9,2,6,2⟩ 0 (-1) [] [0,0,0,0,0] [] [y1,0,0,0,0]:=fun eP eR u0 u1 u2 u3 v0 v1 v2 v3 q0 q1 h0 h1 h2 h3 g0 g1 g2 g3=>by kernel_rfl
theorem KU (y1:Int):qL ⟨5,9,2,6,2⟩ 0 (-1) [] [0,0,0,0,0] [] [y1,0,0,0,0]:=fun eP eR u0 u1 u2 u3 v0 v1 v2 v3 q0 q1 h0 h1 h2 h3 g0 g1 g2 g3=>by kernel_rfl
theorem Yz (y1:Int):nI ⟨5,9,2,6,2⟩ 0 (-1) [] [0,0,0,0,0] [] [y1,0,0,0,0]:=fun eP eR u0 u1 u2 u3 v0 v1 v2 v3 q0 q1 h0 h1 h2 h3 g0 g1 g2 g3=>by kernel_rfl
theorem Za (y1:Int):nJ ⟨5,9,2,6,2⟩ 0 (-1) [] [0,0,0,0,0] [] [y1,0,0,0,0]:=fun eP eR u0 u1 u2 u3 v0 v1 v2 v3 q0 q1 h0 h1 h2 h3 g0 g1 g2 g3=>by kernel_rfl
theorem YX (y1:Int):yF ⟨5,9,2,6,2⟩ 0 (-1) [] [0,0,0,0,0] [] [y1,0,0,0,0]:=fun eP eR u0 u1 u2 u3 v0 v1 v2 v3 q0 q1 h0 h1 h2 h3 g0 g1 g2 g3=>by kernel_rfl
theorem aRb (z0 u0 q0 q1:Int):DvT ⟨5,9,2,6,2⟩ 2 1 [z0,u0] [0,0,0,0] [q0,q1,0,0,0,0]:=fun eP eR u1 u2 u3 v1 v2 v3 h0 h1 h2 h3 g0 g1 g2 g3=>by kernel_rfl
namespace M
def wd (i:Nat) (n:Int):Int:=n/18446744073709551616^i%18446744073709551616
def n4 (a b c d:Int):Int:=a+18446744073709551616*(b+18446744073709551616*(c+18446744073709551616*d))
def D:Int:=6277101735386680763835789423207666416102355444464034512895-23058430092136939519+0
structure Dig (d0 d1 d2 q u0 u1 u2 u3:Int) (c0 c1 p0 p1 p2 p3 b0 b1 b2 b3 s0 s1 s2 s3:Int):Prop where
 QS:M.ul (d0*q+0)=p0
 Ae:M.uh (d0*q+0)=c0
 BZ:M.ul (d1*q+c0)=p1
 BK:M.uh (d1*q+c0)=c1
 PY:M.ul (d2*q+c1)=p2
 hp3:M.uh (d2*q+c1)=p3
 Fi:M.ul (u0-p0-0)=s0
 Ef:M.ub (u0-p0-0)=b0
 iK:M.ul (u1-p1-b0)=s1
 pM:M.ub (u1-p1-b0)=b1
 wR:M.ul (u2-p2-b1)=s2
 lA:M.ub (u2-p2-b1)=b2
 hs3:M.ul (u3-p3-b2)=s3
 QE:M.ub (u3-p3-b2)=b3
theorem xF (d0 d1 d2 q u0 u1 u2 u3:Int):∃ c0 c1 p0 p1 p2 p3 b0 b1 b2 b3 s0 s1 s2 s3,Dig d0 d1 d2 q u0 u1 u2 u3 c0 c1 p0 p1 p2 p3 b0 b1 b2 b3 s0 s1 s2 s3:=
 ⟨_,_,_,_,_,_,_,_,_,_,_,_,_,_,rfl,rfl,rfl,rfl,rfl,rfl,rfl,rfl,rfl,rfl,rfl,rfl,rfl,rfl⟩
theorem mH (n:Int):M.ul n+18446744073709551616*M.uh n=n:=by unfold ul uh;omega
theorem Tn (n:Int):M.ul n-18446744073709551616*M.ub n=n:=by unfold ul ub;omega
theorem An {d q c:Int} (hd:U d) (hq:U q) (hc:U c):U (uh (d*q+c)):=by
 have h:=eE hd hq
 have:=hc.1
 have:=hc.2
 unfold U uh
 omega
theorem RT {a b c:Int} (ha:U a) (hb:U b) (hc:K c):K (ub (a-b-c)):=by
 have:=ha.1;have:=ha.2;have:=hb.1;have:=hb.2;have:=hc.1;have:=hc.2
 unfold K ub
 omega
structure aOn (c0 c1 p0 p1 p2 p3 b0 b1 b2 b3 s0 s1 s2 s3:Int):Prop where
 c0:U c0
 c1:U c1
 p0:U p0
 p1:U p1
 p2:U p2
 p3:U p3
 b0:K b0
 b1:K b1
 b2:K b2
 b3:K b3
 s0:U s0
 s1:U s1
 s2:U s2
 s3:U s3
theorem U0:U 0:=⟨by decide,by decide⟩
theorem K0:K 0:=⟨by decide,by decide⟩
theorem Dig.u {d0 d1 d2 q u0 u1 u2 u3 c0 c1 p0 p1 p2 p3 b0 b1 b2 b3 s0 s1 s2 s3:Int} (h:Dig d0 d1 d2 q u0 u1 u2 u3 c0 c1 p0 p1 p2 p3 b0 b1 b2 b3 s0 s1 s2 s3)
 (e0:U d0) (e1:U d1) (e2:U d2) (hq:U q) (w0:U u0) (w1:U u1) (w2:U u2) (w3:U u3):aOn c0 c1 p0 p1 p2 p3 b0 b1 b2 b3 s0 s1 s2 s3:=by
 have k0:U c0:=by rw [<- h.Ae];exact An e0 hq U0
 have k1:U c1:=by rw [<- h.BK];exact An e1 hq k0
 have r0:U p0:=by rw [<- h.QS];exact dO _
 have r1:U p1:=by rw [<- h.BZ];exact dO _
 have r2:U p2:=by rw [<- h.PY];exact dO _
 have r3:U p3:=by rw [<- h.hp3];exact An e2 hq k1
 have x0:K b0:=by rw [<- h.Ef];exact RT w0 r0 K0
 have x1:K b1:=by rw [<- h.pM];exact RT w1 r1 x0
 have x2:K b2:=by rw [<- h.lA];exact RT w2 r2 x1
 have x3:K b3:=by rw [<- h.QE];exact RT w3 r3 x2
 exact ⟨k0,k1,r0,r1,r2,r3,x0,x1,x2,x3,by rw [<- h.Fi];exact dO _,by rw [<- h.iK];exact dO _,by rw [<- h.wR];exact dO _,by rw [<- h.hs3];exact dO _⟩
theorem Dig.sum {d0 d1 d2 q u0 u1 u2 u3 c0 c1 p0 p1 p2 p3 b0 b1 b2 b3 s0 s1 s2 s3:Int} (h:Dig d0 d1 d2 q u0 u1 u2 u3 c0 c1 p0 p1 p2 p3 b0 b1 b2 b3 s0 s1 s2 s3) :
 n4 s0 s1 s2 s3-18446744073709551616*(18446744073709551616*(18446744073709551616*(18446744073709551616*b3))) =
  n4 u0 u1 u2 u3-(d0*q+18446744073709551616*(d1*q+18446744073709551616*(d2*q))):=by
 have a0:=mH (d0*q+0)
 have a1:=mH (d1*q+c0)
 have a2:=mH (d2*q+c1)
 have z0:=Tn (u0-p0-0)
 have z1:=Tn (u1-p1-b0)
 have z2:=Tn (u2-p2-b1)
 have z3:=Tn (u3-p3-b2)
 rw [h.QS,h.Ae] at a0
 rw [h.BZ,h.BK] at a1
 rw [h.PY,h.hp3] at a2
 rw [h.Fi,h.Ef] at z0
 rw [h.iK,h.pM] at z1
 rw [h.wR,h.lA] at z2
 rw [h.hs3,h.QE] at z3
 generalize d0*q=x0 at *
 generalize d1*q=x1 at *
 generalize d2*q=x2 at *
 unfold n4
 omega
def DD:Int:=n4 13835058055282163712 18446744073709551614 18446744073709551615 0
def w0 (n:Int):Int:=n%18446744073709551616
def w1 (n:Int):Int:=n/18446744073709551616%18446744073709551616
def w2 (n:Int):Int:=n/340282366920938463463374607431768211456%18446744073709551616
theorem aMh {a b c d:Int} (ha:U a) (hb:U b) (hc:U c):w0 (n4 a b c d)=a/\w1 (n4 a b c d)=b/\w2 (n4 a b c d)=c:=by
 have:=ha.1;have:=ha.2;have:=hb.1;have:=hb.2;have:=hc.1;have:=hc.2
 unfold w0 w1 w2 n4
 omega
abbrev aOm (q u0 u1 u2 u3:Int):=Dig 13835058055282163712 18446744073709551614 18446744073709551615 q u0 u1 u2 u3
theorem Dig.fits {q u0 u1 u2 u3 c0 c1 p0 p1 p2 p3 b0 b1 b2 b3 s0 s1 s2 s3:Int} (h:aOm q u0 u1 u2 u3 c0 c1 p0 p1 p2 p3 b0 b1 b2 b3 s0 s1 s2 s3)
 (hu:aOn c0 c1 p0 p1 p2 p3 b0 b1 b2 b3 s0 s1 s2 s3) (hq:q=n4 u0 u1 u2 u3/DD) :
 b3=0/\s0=w0 (n4 u0 u1 u2 u3%DD)/\s1=w1 (n4 u0 u1 u2 u3%DD)/\s2=w2 (n4 u0 u1 u2 u3%DD)/\s3=0:=by
 have hs:=h.sum
 obtain ⟨n,hn⟩:∃ n,n=n4 u0 u1 u2 u3:=⟨_,rfl⟩
 rw [<- hn] at hs hq |-
 have e:n-(13835058055282163712*q+18446744073709551616*(18446744073709551614*q+18446744073709551616*(18446744073709551615*q)))=n%DD:=by
  rw [hq]
  unfold DD n4
  omega
 rw [e] at hs
 have r0:0<=n%DD:=Int.emod_nonneg _ (by decide)
 have r1:n%DD<DD:=Int.emod_lt_of_pos _ (by decide)
 obtain ⟨r,hr⟩:∃ r,r=n%DD:=⟨_,rfl⟩
 rw [<- hr] at hs r0 r1 |-
 have rb:r<6277101735386680763835789423207666416102355444464034512896:=by
  refine Int.lt_of_lt_of_le r1 (by decide)
 have x0:=hu.b3.1
 have x1:=hu.b3.2
 have y0:=hu.s0.1
 have y1:=hu.s0.2
 have y2:=hu.s1.1
 have y3:=hu.s1.2
 have y4:=hu.s2.1
 have y5:=hu.s2.2
 have y6:=hu.s3.1
 have y7:=hu.s3.2
 have hb:b3=0:=by unfold n4 at hs;omega
 have h3:s3=0:=by unfold n4 at hs;omega
 rw [hb] at hs
 have xX:r=n4 s0 s1 s2 s3:=by omega
 have:=aMh (d:=s3) hu.s0 hu.s1 hu.s2
 rw [xX]
 exact ⟨hb,this.1.symm,this.2.1.symm,this.2.2.symm,h3⟩
end M
open M in
theorem aQd {c:BN} {j j':Int} {pre post qa qb:List Int} (P:uE c j j' pre post qa qb) (eP eR:List SV) (q0 h0 h1 h2 h3:Int) {u0 u1 u2 u3:Int} (a0:U u0) (a1:U u1) (a2:U u2) (a3:U u3) (hc:u3+u2<18446744073709551615) :
 ∃ g0 g1 g2 g3 ps,fL eZ eP eR c.nu c.cu c.nq c.cq c.m 18446744073709551615 1 j j' (.int false .u64 u3) (.int false .u64 (w2 (n4 u0 u1 u2 u3%DD))) (wc (pre++[u0,u1,u2,u3]++post))
   (wc (pre++[w0 (n4 u0 u1 u2 u3%DD),w1 (n4 u0 u1 u2 u3%DD),w2 (n4 u0 u1 u2 u3%DD),0]++post)) (wc (qa++[q0]++qb)) (wc (qa++[n4 u0 u1 u2 u3/DD]++qb)) (wc [h0,h1,h2,h3]) (wc [g0,g1,g2,g3]) [true,false,false]=some (.at .normal,[],ps)/\∀ q∈ps,q:=by
 have z0:=a0.1;have z1:=a0.2;have z2:=a1.1;have z3:=a1.2;have z4:=a2.1;have z5:=a2.2;have z6:=a3.1;have z7:=a3.2
 have e0:U 13835058055282163712:=⟨by decide,by decide⟩
 have e1:U 18446744073709551614:=⟨by decide,by decide⟩
 have e2:U 18446744073709551615:=⟨by decide,by decide⟩
 have aq:U (u3):=by unfold U;omega
 obtain ⟨c0,c1,p0,p1,p2,p3,b0,b1,b2,b3,s0,s1,s2,s3,H⟩:=xF 13835058055282163712 18446744073709551614 18446744073709551615 (u3) u0 u1 u2 u3
 have hu:=H.u e0 e1 e2 aq a0 a1 a2 a3
 have hq:u3=n4 u0 u1 u2 u3/DD:=by unfold DD n4;omega
 obtain ⟨f3,k0,k1,k2,k3⟩:=H.fits hu hq
 have hQ:dq 18446744073709551615 u3 u2=u3:=by unfold dq;omega
 have hR:dr 18446744073709551615 u3 u2=u3+u2:=by unfold dr;omega
 refine ⟨p0,p1,p2,p3,_,P eP eR u0 u1 u2 u3 _ _ _ _ q0 _ h0 h1 h2 h3 _ _ _ _,aA ?_⟩
 simp only [sh,FB,DT,ER,List.cons_append,mZ,hQ,hR,cA,H.QS,H.Ae,H.BZ,H.BK,H.PY,H.hp3,H.Fi,H.Ef,H.iK,H.pM,H.wR,H.lA,H.hs3,H.QE,f3,<- k0,<- k1,<- k2,k3,<- hq,hu.c0,hu.c1,hu.p0,hu.p1,hu.p2,hu.p3,hu.b0,hu.b1,hu.b2,U0,K0,e0,e1,e2,a0,a1,a2,a3,and_true,true_and,aq]
 exact ⟨rfl,by unfold gt uh ul;exact kN (by omega),dO _,by omega,bne_iff_ne.2 (by omega)⟩
open M in
theorem aQc {c:BN} {j j':Int} {pre post qa qb:List Int} (P:uE c j j' pre post qa qb) (eP eR:List SV) (q0 h0 h1 h2 h3:Int) {u0 u1 u2 u3:Int} (a0:U u0) (a1:U u1) (a2:U u2) (a3:U u3) (hd:u3<18446744073709551615) (hc:18446744073709551615<=u3+u2) (hn:gt (uh ((u3+1)*18446744073709551614)) (ul ((u3+1)*18446744073709551614)) (u3+u2-18446744073709551615) u1=false) (hq:u3+1=n4 u0 u1 u2 u3/DD) :
 ∃ g0 g1 g2 g3 ps,fL eZ eP eR c.nu c.cu c.nq c.cq c.m 18446744073709551615 1 j j' (.int false .u64 u3) (.int false .u64 (w2 (n4 u0 u1 u2 u3%DD))) (wc (pre++[u0,u1,u2,u3]++post))
   (wc (pre++[w0 (n4 u0 u1 u2 u3%DD),w1 (n4 u0 u1 u2 u3%DD),w2 (n4 u0 u1 u2 u3%DD),0]++post)) (wc (qa++[q0]++qb)) (wc (qa++[n4 u0 u1 u2 u3/DD]++qb)) (wc [h0,h1,h2,h3]) (wc [g0,g1,g2,g3]) [true,false,false]=some (.at .normal,[],ps)/\∀ q∈ps,q:=by
 have z0:=a0.1;have z1:=a0.2;have z2:=a1.1;have z3:=a1.2;have z4:=a2.1;have z5:=a2.2;have z6:=a3.1;have z7:=a3.2
 have e0:U 13835058055282163712:=⟨by decide,by decide⟩
 have e1:U 18446744073709551614:=⟨by decide,by decide⟩
 have e2:U 18446744073709551615:=⟨by decide,by decide⟩
 have aq:U (u3+1):=by unfold U;omega
 obtain ⟨c0,c1,p0,p1,p2,p3,b0,b1,b2,b3,s0,s1,s2,s3,H⟩:=xF 13835058055282163712 18446744073709551614 18446744073709551615 (u3+1) u0 u1 u2 u3
 have hu:=H.u e0 e1 e2 aq a0 a1 a2 a3
 have hq:u3+1=n4 u0 u1 u2 u3/DD:=by exact hq
 obtain ⟨f3,k0,k1,k2,k3⟩:=H.fits hu hq
 have hQ:dq 18446744073709551615 u3 u2=u3+1:=by unfold dq;omega
 have hR:dr 18446744073709551615 u3 u2=u3+u2-18446744073709551615:=by unfold dr;omega
 refine ⟨p0,p1,p2,p3,_,P eP eR u0 u1 u2 u3 _ _ _ _ q0 _ h0 h1 h2 h3 _ _ _ _,aA ?_⟩
 simp only [sh,FB,DT,ER,List.cons_append,mZ,hQ,hR,cA,H.QS,H.Ae,H.BZ,H.BK,H.PY,H.hp3,H.Fi,H.Ef,H.iK,H.pM,H.wR,H.lA,H.hs3,H.QE,f3,<- k0,<- k1,<- k2,k3,<- hq,hu.c0,hu.c1,hu.p0,hu.p1,hu.p2,hu.p3,hu.b0,hu.b1,hu.b2,U0,K0,e0,e1,e2,a0,a1,a2,a3,and_true,true_and,aq]
 exact ⟨rfl,hn,dO _,hd,bne_iff_ne.2 (by omega)⟩
open M in
theorem aIe {c:BN} {j j':Int} {pre post qa qb:List Int} (P:qL c j j' pre post qa qb) (eP eR:List SV) (q0 h0 h1 h2 h3:Int) {u0 u1 u2 u3:Int} (a0:U u0) (a1:U u1) (a2:U u2) (a3:U u3) (hd:u3<18446744073709551615) (hc:18446744073709551615<=u3+u2) (hn:gt (uh ((u3+1)*18446744073709551614)) (ul ((u3+1)*18446744073709551614)) (u3+u2-18446744073709551615) u1=true) (hv:18446744073709551616<=u3+u2) :
 ∃ g0 g1 g2 g3 ps,fL eZ eP eR c.nu c.cu c.nq c.cq c.m 18446744073709551615 1 j j' (.int false .u64 u3) (.int false .u64 (w2 (n4 u0 u1 u2 u3%DD))) (wc (pre++[u0,u1,u2,u3]++post))
   (wc (pre++[w0 (n4 u0 u1 u2 u3%DD),w1 (n4 u0 u1 u2 u3%DD),w2 (n4 u0 u1 u2 u3%DD),0]++post)) (wc (qa++[q0]++qb)) (wc (qa++[n4 u0 u1 u2 u3/DD]++qb)) (wc [h0,h1,h2,h3]) (wc [g0,g1,g2,g3]) [true,true,true,false]=some (.at .normal,[],ps)/\∀ q∈ps,q:=by
 have z0:=a0.1;have z1:=a0.2;have z2:=a1.1;have z3:=a1.2;have z4:=a2.1;have z5:=a2.2;have z6:=a3.1;have z7:=a3.2
 have e0:U 13835058055282163712:=⟨by decide,by decide⟩
 have e1:U 18446744073709551614:=⟨by decide,by decide⟩
 have e2:U 18446744073709551615:=⟨by decide,by decide⟩
 have aq:U (u3):=by unfold U;omega
 obtain ⟨c0,c1,p0,p1,p2,p3,b0,b1,b2,b3,s0,s1,s2,s3,H⟩:=xF 13835058055282163712 18446744073709551614 18446744073709551615 (u3) u0 u1 u2 u3
 have hu:=H.u e0 e1 e2 aq a0 a1 a2 a3
 have hW:IntKind.u64.wrap (u3+1-1)=u3:=by rw [bP];unfold ul;omega
 have hq:u3=n4 u0 u1 u2 u3/DD:=by have Oc:=hn;unfold gt uh ul at Oc;have:=jP Oc;unfold DD n4;omega
 obtain ⟨f3,k0,k1,k2,k3⟩:=H.fits hu hq
 have hQ:dq 18446744073709551615 u3 u2=u3+1:=by unfold dq;omega
 have hR:dr 18446744073709551615 u3 u2=u3+u2-18446744073709551615:=by unfold dr;omega
 refine ⟨p0,p1,p2,p3,_,P eP eR u0 u1 u2 u3 _ _ _ _ q0 _ h0 h1 h2 h3 _ _ _ _,aA ?_⟩
 simp only [sh,HZ,HF,HQ,List.cons_append,mZ,hQ,hR,hW,cA,H.QS,H.Ae,H.BZ,H.BK,H.PY,H.hp3,H.Fi,H.Ef,H.iK,H.pM,H.wR,H.lA,H.hs3,H.QE,f3,<- k0,<- k1,<- k2,k3,<- hq,hu.c0,hu.c1,hu.p0,hu.p1,hu.p2,hu.p3,hu.b0,hu.b1,hu.b2,U0,K0,e0,e1,e2,a0,a1,a2,a3,and_true,true_and,aq]
 exact ⟨rfl,decide_eq_true (by rw [bP];unfold ul;omega),hn,dO _,⟨by omega,by omega⟩,hd,bne_iff_ne.2 (by omega)⟩
open M in
theorem XN {c:BN} {j j':Int} {pre post qa qb:List Int} (P:nI c j j' pre post qa qb) (eP eR:List SV) (q0 h0 h1 h2 h3:Int) {u0 u1 u2 u3:Int} (a0:U u0) (a1:U u1) (a2:U u2) (a3:U u3) (hd:u3<18446744073709551615) (hc:18446744073709551615<=u3+u2) (hn:gt (uh ((u3+1)*18446744073709551614)) (ul ((u3+1)*18446744073709551614)) (u3+u2-18446744073709551615) u1=true) (hv:u3+u2=18446744073709551615) (hb:ul ((u3+1)*18446744073709551614)<18446744073709551614) :
 ∃ g0 g1 g2 g3 ps,fL eZ eP eR c.nu c.cu c.nq c.cq c.m 18446744073709551615 1 j j' (.int false .u64 u3) (.int false .u64 (w2 (n4 u0 u1 u2 u3%DD))) (wc (pre++[u0,u1,u2,u3]++post))
   (wc (pre++[w0 (n4 u0 u1 u2 u3%DD),w1 (n4 u0 u1 u2 u3%DD),w2 (n4 u0 u1 u2 u3%DD),0]++post)) (wc (qa++[q0]++qb)) (wc (qa++[n4 u0 u1 u2 u3/DD]++qb)) (wc [h0,h1,h2,h3]) (wc [g0,g1,g2,g3]) [true,true,false,true,false,false]=some (.at .normal,[],ps)/\∀ q∈ps,q:=by
 have z0:=a0.1;have z1:=a0.2;have z2:=a1.1;have z3:=a1.2;have z4:=a2.1;have z5:=a2.2;have z6:=a3.1;have z7:=a3.2
 have e0:U 13835058055282163712:=⟨by decide,by decide⟩
 have e1:U 18446744073709551614:=⟨by decide,by decide⟩
 have e2:U 18446744073709551615:=⟨by decide,by decide⟩
 have aq:U (u3):=by unfold U;omega
 obtain ⟨c0,c1,p0,p1,p2,p3,b0,b1,b2,b3,s0,s1,s2,s3,H⟩:=xF 13835058055282163712 18446744073709551614 18446744073709551615 (u3) u0 u1 u2 u3
 have hu:=H.u e0 e1 e2 aq a0 a1 a2 a3
 have hW:IntKind.u64.wrap (u3+1-1)=u3:=by rw [bP];unfold ul;omega
 have hq:u3=n4 u0 u1 u2 u3/DD:=by have Oc:=hn;unfold gt uh ul at Oc;have:=jP Oc;unfold DD n4;omega
 obtain ⟨f3,k0,k1,k2,k3⟩:=H.fits hu hq
 have hQ:dq 18446744073709551615 u3 u2=u3+1:=by unfold dq;omega
 have hR:dr 18446744073709551615 u3 u2=u3+u2-18446744073709551615:=by unfold dr;omega
 refine ⟨p0,p1,p2,p3,_,P eP eR u0 u1 u2 u3 _ _ _ _ q0 _ h0 h1 h2 h3 _ _ _ _,aA ?_⟩
 simp only [sh,Vn,Uw,Vd,List.cons_append,mZ,hQ,hR,hW,cA,H.QS,H.Ae,H.BZ,H.BK,H.PY,H.hp3,H.Fi,H.Ef,H.iK,H.pM,H.wR,H.lA,H.hs3,H.QE,f3,<- k0,<- k1,<- k2,k3,<- hq,hu.c0,hu.c1,hu.p0,hu.p1,hu.p2,hu.p3,hu.b0,hu.b1,hu.b2,U0,K0,e0,e1,e2,a0,a1,a2,a3,and_true,true_and,aq]
 exact ⟨rfl,by
  have hx:(uh ((u3+1)*18446744073709551614)=u3/\ul ((u3+1)*18446744073709551614)=18446744073709551616-2*u3-2/\2*u3+2<=18446744073709551616)\/(uh ((u3+1)*18446744073709551614)=u3-1/\ul ((u3+1)*18446744073709551614)=36893488147419103232-2*u3-2/\18446744073709551616<2*u3+2):=by unfold uh ul;omega
  simp only [bP]
  rcases hx with ⟨x1,x2,x3⟩ | ⟨x1,x2,x3⟩
  .rw [x1,x2];rw [x2] at hb;unfold gt ul;exact kN (by omega)
  .rw [x1,x2];rw [x2] at hb;unfold gt ul;exact kN (by omega),by rw [bP];exact dO _,decide_eq_true hb,kN (by rw [bP];unfold ul;omega),hn,dO _,⟨by omega,by omega⟩,hd,bne_iff_ne.2 (by omega)⟩
open M in
theorem XO {c:BN} {j j':Int} {pre post qa qb:List Int} (P:nJ c j j' pre post qa qb) (eP eR:List SV) (q0 h0 h1 h2 h3:Int) {u0 u1 u2 u3:Int} (a0:U u0) (a1:U u1) (a2:U u2) (a3:U u3) (hd:u3<18446744073709551615) (hc:18446744073709551615<=u3+u2) (hn:gt (uh ((u3+1)*18446744073709551614)) (ul ((u3+1)*18446744073709551614)) (u3+u2-18446744073709551615) u1=true) (hv:u3+u2=18446744073709551615) (hb:¬ ul ((u3+1)*18446744073709551614)<18446744073709551614) :
 ∃ g0 g1 g2 g3 ps,fL eZ eP eR c.nu c.cu c.nq c.cq c.m 18446744073709551615 1 j j' (.int false .u64 u3) (.int false .u64 (w2 (n4 u0 u1 u2 u3%DD))) (wc (pre++[u0,u1,u2,u3]++post))
   (wc (pre++[w0 (n4 u0 u1 u2 u3%DD),w1 (n4 u0 u1 u2 u3%DD),w2 (n4 u0 u1 u2 u3%DD),0]++post)) (wc (qa++[q0]++qb)) (wc (qa++[n4 u0 u1 u2 u3/DD]++qb)) (wc [h0,h1,h2,h3]) (wc [g0,g1,g2,g3]) [true,true,false,false,false,false]=some (.at .normal,[],ps)/\∀ q∈ps,q:=by
 have z0:=a0.1;have z1:=a0.2;have z2:=a1.1;have z3:=a1.2;have z4:=a2.1;have z5:=a2.2;have z6:=a3.1;have z7:=a3.2
 have e0:U 13835058055282163712:=⟨by decide,by decide⟩
 have e1:U 18446744073709551614:=⟨by decide,by decide⟩
 have e2:U 18446744073709551615:=⟨by decide,by decide⟩
 have aq:U (u3):=by unfold U;omega
 obtain ⟨c0,c1,p0,p1,p2,p3,b0,b1,b2,b3,s0,s1,s2,s3,H⟩:=xF 13835058055282163712 18446744073709551614 18446744073709551615 (u3) u0 u1 u2 u3
 have hu:=H.u e0 e1 e2 aq a0 a1 a2 a3
 have hW:IntKind.u64.wrap (u3+1-1)=u3:=by rw [bP];unfold ul;omega
 have hq:u3=n4 u0 u1 u2 u3/DD:=by have Oc:=hn;unfold gt uh ul at Oc;have:=jP Oc;unfold DD n4;omega
 obtain ⟨f3,k0,k1,k2,k3⟩:=H.fits hu hq
 have hQ:dq 18446744073709551615 u3 u2=u3+1:=by unfold dq;omega
 have hR:dr 18446744073709551615 u3 u2=u3+u2-18446744073709551615:=by unfold dr;omega
 refine ⟨p0,p1,p2,p3,_,P eP eR u0 u1 u2 u3 _ _ _ _ q0 _ h0 h1 h2 h3 _ _ _ _,aA ?_⟩
 simp only [sh,Vo,Ux,Ve,List.cons_append,mZ,hQ,hR,hW,cA,H.QS,H.Ae,H.BZ,H.BK,H.PY,H.hp3,H.Fi,H.Ef,H.iK,H.pM,H.wR,H.lA,H.hs3,H.QE,f3,<- k0,<- k1,<- k2,k3,<- hq,hu.c0,hu.c1,hu.p0,hu.p1,hu.p2,hu.p3,hu.b0,hu.b1,hu.b2,U0,K0,e0,e1,e2,a0,a1,a2,a3,and_true,true_and,aq]
 exact ⟨rfl,by
  have hx:(uh ((u3+1)*18446744073709551614)=u3/\ul ((u3+1)*18446744073709551614)=18446744073709551616-2*u3-2/\2*u3+2<=18446744073709551616)\/(uh ((u3+1)*18446744073709551614)=u3-1/\ul ((u3+1)*18446744073709551614)=36893488147419103232-2*u3-2/\18446744073709551616<2*u3+2):=by unfold uh ul;omega
  simp only [bP]
  rcases hx with ⟨x1,x2,x3⟩ | ⟨x1,x2,x3⟩
  .rw [x1,x2];rw [x2] at hb;unfold gt ul;exact kN (by omega)
  .rw [x1,x2];rw [x2] at hb;unfold gt ul;exact kN (by omega),by rw [bP];exact dO _,kN hb,kN (by rw [bP];unfold ul;omega),hn,dO _,⟨by omega,by omega⟩,hd,bne_iff_ne.2 (by omega)⟩
open M in
theorem aQb {c:BN} {j j':Int} {pre post qa qb:List Int} (P:yF c j j' pre post qa qb) (eP eR:List SV) (q0 h0 h1 h2 h3:Int) {u0 u1 u2 u3:Int} (a0:U u0) (a1:U u1) (a2:U u2) (a3:U u3) (hd:u3<18446744073709551615) (hc:18446744073709551615<=u3+u2) (hn:gt (uh ((u3+1)*18446744073709551614)) (ul ((u3+1)*18446744073709551614)) (u3+u2-18446744073709551615) u1=false) (hq:u3=n4 u0 u1 u2 u3/DD) :
 ∃ g0 g1 g2 g3 ps,fL eZ eP eR c.nu c.cu c.nq c.cq c.m 18446744073709551615 1 j j' (.int false .u64 u3) (.int false .u64 (w2 (n4 u0 u1 u2 u3%DD))) (wc (pre++[u0,u1,u2,u3]++post))
   (wc (pre++[w0 (n4 u0 u1 u2 u3%DD),w1 (n4 u0 u1 u2 u3%DD),w2 (n4 u0 u1 u2 u3%DD),0]++post)) (wc (qa++[q0]++qb)) (wc (qa++[n4 u0 u1 u2 u3/DD]++qb)) (wc [h0,h1,h2,h3]) (wc [g0,g1,g2,g3]) [true,false,true]=some (.at .normal,[],ps)/\∀ q∈ps,q:=by
 have z0:=a0.1;have z1:=a0.2;have z2:=a1.1;have z3:=a1.2;have z4:=a2.1;have z5:=a2.2;have z6:=a3.1;have z7:=a3.2
 have e0:U 13835058055282163712:=⟨by decide,by decide⟩
 have e1:U 18446744073709551614:=⟨by decide,by decide⟩
 have e2:U 18446744073709551615:=⟨by decide,by decide⟩
 have aq:U (u3+1):=by unfold U;omega
 obtain ⟨c0,c1,p0,p1,p2,p3,b0,b1,b2,b3,s0,s1,s2,s3,H⟩:=xF 13835058055282163712 18446744073709551614 18446744073709551615 (u3+1) u0 u1 u2 u3
 have hu:=H.u e0 e1 e2 aq a0 a1 a2 a3
 have hW:IntKind.u64.wrap (u3+1-1)=u3:=by rw [bP];unfold ul;omega
 have hQ:dq 18446744073709551615 u3 u2=u3+1:=by unfold dq;omega
 have hR:dr 18446744073709551615 u3 u2=u3+u2-18446744073709551615:=by unfold dr;omega
 have hs:=H.sum
 obtain ⟨n,hn4⟩:∃ n,n=n4 u0 u1 u2 u3:=⟨_,rfl⟩
 rw [<- hn4] at hs hq |-
 obtain ⟨r,hr⟩:∃ r,r=n%DD:=⟨_,rfl⟩
 have e:n-(13835058055282163712*(u3+1)+18446744073709551616*(18446744073709551614*(u3+1)+18446744073709551616*(18446744073709551615*(u3+1))))=r-DD:=by
  rw [hr]
  unfold DD n4
  unfold DD n4 at hq
  omega
 rw [e] at hs
 have r0:0<=r:=by rw [hr];exact Int.emod_nonneg _ (by decide)
 have r1:r<DD:=by rw [hr];exact Int.emod_lt_of_pos _ (by decide)
 rw [<- hr]
 refine ⟨p0,p1,p2,p3,_,P eP eR u0 u1 u2 u3 _ _ _ _ q0 _ h0 h1 h2 h3 _ _ _ _,aA ?_⟩
 simp only [sh,aCz,aCf,aCt,List.cons_append,mZ,hQ,hR,hW,cA,H.QS,H.Ae,H.BZ,H.BK,H.PY,H.hp3,H.Fi,H.Ef,H.iK,H.pM,H.wR,H.lA,H.hs3,H.QE,<- hq,hu.c0,hu.c1,hu.p0,hu.p1,hu.p2,hu.p3,hu.b0,hu.b1,hu.b2,hu.s0,hu.s1,hu.s2,U0,K0,e0,e1,e2,a0,a1,a2,a3,aq,and_true,true_and]
 obtain ⟨t0,ht0⟩:∃ t,t=ul (s0+13835058055282163712+0):=⟨_,rfl⟩
 obtain ⟨g0,zK⟩:∃ t,t=uh (s0+13835058055282163712+0):=⟨_,rfl⟩
 rw [<- ht0,<- zK]
 obtain ⟨t1,ht1⟩:∃ t,t=ul (s1+18446744073709551614+g0):=⟨_,rfl⟩
 obtain ⟨g1,hg1⟩:∃ t,t=uh (s1+18446744073709551614+g0):=⟨_,rfl⟩
 rw [<- ht1,<- hg1]
 obtain ⟨t2,On⟩:∃ t,t=ul (s2+18446744073709551615+g1):=⟨_,rfl⟩
 obtain ⟨g2,hg2⟩:∃ t,t=uh (s2+18446744073709551615+g1):=⟨_,rfl⟩
 rw [<- On,<- hg2,bP]
 obtain ⟨t3,ht3⟩:∃ t,t=ul (s3+g2):=⟨_,rfl⟩
 obtain ⟨g3,hg3⟩:∃ t,t=uh (s3+g2):=⟨_,rfl⟩
 rw [<- ht3]
 have m0:=mH (s0+13835058055282163712+0)
 have m1:=mH (s1+18446744073709551614+g0)
 have m2:=mH (s2+18446744073709551615+g1)
 have m3:=mH (s3+g2)
 rw [<- ht0,<- zK] at m0
 rw [<- ht1,<- hg1] at m1
 rw [<- On,<- hg2] at m2
 rw [<- ht3,<- hg3] at m3
 have v0:U t0:=by rw [ht0];exact dO _
 have v1:U t1:=by rw [ht1];exact dO _
 have v2:U t2:=by rw [On];exact dO _
 have v3:U t3:=by rw [ht3];exact dO _
 have q1:=hu.s0.1;have q2:=hu.s0.2;have q3:=hu.s1.1;have q4:=hu.s1.2
 have q5:=hu.s2.1;have q6:=hu.s2.2;have q7:=hu.s3.1;have q8:=hu.s3.2
 have y0:=v0.1;have y1:=v0.2;have y2:=v1.1;have y3:=v1.2;have y4:=v2.1;have y5:=v2.2;have y6:=v3.1;have y7:=v3.2
 have l1:=hu.b3.1;have l2:=hu.b3.2
 have kg0:K g0:=by unfold K;omega
 have kg1:K g1:=by have:=kg0.1;have:=kg0.2;unfold K;omega
 have hDD:DD=6277101735386680763835789423207666416079297014371897573376:=by decide
 rw [hDD] at hs r1
 have hb:b3=1:=by unfold n4 at hs;omega
 have ht:r=n4 t0 t1 t2 t3:=by unfold n4 at hs |-;omega
 have h3:t3=0:=by unfold n4 at ht;omega
 have W:=aMh (d:=t3) v0 v1 v2
 rw [<- ht] at W
 rw [W.1,W.2.1,W.2.2,h3,hb]
 exact ⟨kg1,kg0,rfl,hn,dO _,hd,bne_iff_ne.2 (by omega),rfl,rfl⟩
open M in
theorem aQe {c:BN} {j j':Int} {pre post qa qb:List Int} (P:yG c j j' pre post qa qb) (eP eR:List SV) (q0 h0 h1 h2 h3:Int) {u0 u1 u2 u3:Int} (a0:U u0) (a1:U u1) (a2:U u2) (hc:u3=18446744073709551615) (hl:n4 u0 u1 u2 u3<18446744073709551616*DD) :
 ∃ g0 g1 g2 g3 ps,fL eZ eP eR c.nu c.cu c.nq c.cq c.m 18446744073709551615 1 j j' (.int false .u64 u3) (.int false .u64 (w2 (n4 u0 u1 u2 u3%DD))) (wc (pre++[u0,u1,u2,u3]++post))
   (wc (pre++[w0 (n4 u0 u1 u2 u3%DD),w1 (n4 u0 u1 u2 u3%DD),w2 (n4 u0 u1 u2 u3%DD),0]++post)) (wc (qa++[q0]++qb)) (wc (qa++[n4 u0 u1 u2 u3/DD]++qb)) (wc [h0,h1,h2,h3]) (wc [g0,g1,g2,g3]) [false,false]=some (.at .normal,[],ps)/\∀ q∈ps,q:=by
 have a3:U u3:=by unfold U;omega
 have z0:=a0.1;have z1:=a0.2;have z2:=a1.1;have z3:=a1.2;have z4:=a2.1;have z5:=a2.2;have z6:=a3.1;have z7:=a3.2
 have e0:U 13835058055282163712:=⟨by decide,by decide⟩
 have e1:U 18446744073709551614:=⟨by decide,by decide⟩
 have e2:U 18446744073709551615:=⟨by decide,by decide⟩
 have H:aOm 18446744073709551615 u0 u1 u2 u3 13835058055282163711 18446744073709551613 4611686018427387904 13835058055282163713 18446744073709551614 18446744073709551614 _ _ _ _ _ _ _ _:=⟨by decide,by decide,by decide,by decide,by decide,by decide,rfl,rfl,rfl,rfl,rfl,rfl,rfl,rfl⟩
 have hu:=H.u e0 e1 e2 e2 a0 a1 a2 a3
 have hq:18446744073709551615=n4 u0 u1 u2 u3/DD:=by unfold DD n4 at *;omega
 obtain ⟨f3,k0,k1,k2,k3⟩:=H.fits hu hq
 refine ⟨4611686018427387904,13835058055282163713,18446744073709551614,18446744073709551614,_,P eP eR u0 u1 u2 u3 _ _ _ _ q0 _ h0 h1 h2 h3 _ _ _ _,aA ?_⟩
 simp only [sh,aDa,aCg,aCu,List.cons_append,mZ,cA,f3,k0,k1,k2,k3,<- hq,hu.b0,hu.b1,hu.b2,U0,K0,e0,e1,e2,a0,a1,a2,a3,and_true,true_and]
 exact ⟨rfl,⟨by decide,by decide⟩,⟨by decide,by decide⟩,⟨by decide,by decide⟩,⟨by decide,by decide⟩,by rw [hc];decide⟩
structure aTl (c:BN) (j j':Int) (pre post qa qb:List Int):Prop where
 p0:yG c j j' pre post qa qb
 p1:uE c j j' pre post qa qb
 p2a:qL c j j' pre post qa qb
 aUx:nI c j j' pre post qa qb
 aUy:nJ c j j' pre post qa qb
 p4:yF c j j' pre post qa qb
open M in
theorem oG {c:BN} {j j':Int} {pre post qa qb:List Int} (P:aTl c j j' pre post qa qb) (eP eR:List SV) (q0 h0 h1 h2 h3:Int) {u0 u1 u2 u3:Int} (a0:U u0) (a1:U u1) (a2:U u2) (a3:U u3) (hl:n4 u0 u1 u2 u3<18446744073709551616*DD) :
 ∃ hs g0 g1 g2 g3 ps,fL eZ eP eR c.nu c.cu c.nq c.cq c.m 18446744073709551615 1 j j' (.int false .u64 u3) (.int false .u64 (w2 (n4 u0 u1 u2 u3%DD))) (wc (pre++[u0,u1,u2,u3]++post))
   (wc (pre++[w0 (n4 u0 u1 u2 u3%DD),w1 (n4 u0 u1 u2 u3%DD),w2 (n4 u0 u1 u2 u3%DD),0]++post)) (wc (qa++[q0]++qb)) (wc (qa++[n4 u0 u1 u2 u3/DD]++qb)) (wc [h0,h1,h2,h3]) (wc [g0,g1,g2,g3]) hs=some (.at .normal,[],ps)/\∀ q∈ps,q:=by
 have z0:=a0.1;have z1:=a0.2;have z2:=a1.1;have z3:=a1.2;have z4:=a2.1;have z5:=a2.2;have z6:=a3.1;have z7:=a3.2
 by_cases hc:u3=18446744073709551615
 .exact ⟨_,aQe P.p0 eP eR q0 h0 h1 h2 h3 a0 a1 a2 hc hl⟩
 have hd:u3<18446744073709551615:=by omega
 by_cases Ov:u3+u2<18446744073709551615
 .exact ⟨_,aQd P.p1 eP eR q0 h0 h1 h2 h3 a0 a1 a2 a3 Ov⟩
 have DE:18446744073709551615<=u3+u2:=by omega
 cases hn:gt (uh ((u3+1)*18446744073709551614)) (ul ((u3+1)*18446744073709551614)) (u3+u2-18446744073709551615) u1 with
 | true=>
   by_cases hv:u3+u2=18446744073709551615
   .by_cases hb:ul ((u3+1)*18446744073709551614)<18446744073709551614
    .exact ⟨_,XN P.aUx eP eR q0 h0 h1 h2 h3 a0 a1 a2 a3 hd DE hn hv hb⟩
    .exact ⟨_,XO P.aUy eP eR q0 h0 h1 h2 h3 a0 a1 a2 a3 hd DE hn hv hb⟩
   .exact ⟨_,aIe P.p2a eP eR q0 h0 h1 h2 h3 a0 a1 a2 a3 hd DE hn (by omega)⟩
 | false=>
   by_cases hq:u3+1=n4 u0 u1 u2 u3/DD
   .exact ⟨_,aQc P.p1 eP eR q0 h0 h1 h2 h3 a0 a1 a2 a3 hd DE hn hq⟩
   .exact ⟨_,aQb P.p4 eP eR q0 h0 h1 h2 h3 a0 a1 a2 a3 hd DE hn (by revert hq;unfold DD n4;omega)⟩
namespace M
theorem sF {n:Int} (h:U n):ub n=0:=by unfold U at h;unfold ub;omega
theorem ul0:ul 0=0:=by decide
theorem Js:uh 0=0:=by decide
end M
open M in
theorem Ih {c:BN} {j j':Int} {pre post qs:List Int} (P:DvT c j j' pre post qs) (eP eR:List SV) (h0 h1 h2 h3:Int) {u1 u2 u3:Int} (a1:U u1) (a2:U u2) (a3:U u3) (hd:u3<18446744073709551615) :
 ∃ ps,fL eZ eP eR c.nu c.cu c.nq c.cq c.m 18446744073709551615 1 j j' (.int true .u64 0) (.int false .u64 u3) (wc (pre++[u1,u2,u3]++post)) (wc (pre++[u1,u2,u3]++post)) (wc qs) (wc qs) (wc [h0,h1,h2,h3]) (wc [0,0,0,0]) [false,true,false,true]=some (.at .normal,[],ps)/\∀ q∈ps,q:=by
 have z2:=a1.1;have z3:=a1.2;have z4:=a2.1;have z5:=a2.2;have z6:=a3.1;have z7:=a3.2
 have e0:U 13835058055282163712:=⟨by decide,by decide⟩
 have e1:U 18446744073709551614:=⟨by decide,by decide⟩
 have e2:U 18446744073709551615:=⟨by decide,by decide⟩
 have hQ:dq 18446744073709551615 0 u3=0:=by unfold dq;omega
 have hR:dr 18446744073709551615 0 u3=u3:=by unfold dr;omega
 have hg:gt 0 0 u3 u2=false:=by unfold gt;exact kN (by omega)
 refine ⟨_,P eP eR u1 u2 u3 _ _ _ h0 h1 h2 h3 _ _ _ _,aA ?_⟩
 simp only [sh,aMy,aMi,List.cons_append,mZ,hQ,hR,cA,Int.mul_zero,Int.zero_mul,Int.add_zero,Int.sub_zero,ul0,Js,sF a1,sF a2,sF a3,tZ a1,tZ a2,tZ a3,hg,U0,K0,e0,e1,e2,a1,a2,a3,and_true,true_and]
 and_intros <;> first | rfl | decide
theorem aLm (u0 u1 u2 u3 q0 h0 h1 h2 h3:Int) :
 (xV 100 (aZ 100 (Hd eZ (wc [u0,u1,u2,u3,0,0,0]) (wc [q0]))) [] (jD 4 7 1 1 1 18446744073709551615 1 (.int true .u64 0) 1) (jC (wc [h0,h1,h2,h3]) (wc [u0,u1,u2,u3,0,0,0]) (wc [q0])) 101 [61,63] jE (Bx eZ (wc [u0,u1,u2,u3,0,0,0]) (wc [q0]) 4 7 1 1)) =
 sh (0:Int) fun z0=>
 some (.go (.loop xE),Et,[(3:Nat)=(3:Nat),(4:Nat)=(4:Nat),(11259375:Int)=h0,z0=h1,z0=h2,z0=h3,[q0]=[q0],[u0,u1,u2,u3,z0,z0,z0]=[u0,u1,u2,u3,z0,z0,z0]]):=by kernel_rfl
theorem aLk (x0 x1 x2 x3 y0 u0 u1 u2 u3 q0 h0 h1 h2 h3:Int) :
 fL eZ (wc [x0,x1,x2,x3,0,0,0]) (wc [y0]) 4 7 1 1 1 18446744073709551615 1 (-1) (-1) (.int false .u64 u2) (.int false .u64 u2) (wc [u0,u1,u2,u3,0,0,0]) (wc [u0,u1,u2,u3,0,0,0]) (wc [q0]) (wc [q0]) (wc [h0,h1,h2,h3]) (wc [h0,h1,h2,h3]) [] =
 sh (0:Int) fun z0=>
 some (Cf.at (Ex.exit 0),[],[(3:Nat)=(3:Nat),(4:Nat)=(4:Nat),u2=u2,h0=h0,h1=h1,h2=h2,h3=h3,[q0]=[q0],[u0,u1,u2,u3,z0,z0,z0]=[u0,u1,u2,u3,z0,z0,z0]]):=by kernel_rfl
theorem aLl (x0 x1 x2 x3 y0 u0 u1 u2 u3 q0 h0 h1 h2 h3:Int) :
 Lp eZ (wc [x0,x1,x2,x3,0,0,0]) (wc [y0]) 4 7 1 1 1 18446744073709551615 1 (.int false .u64 u2) (wc [u0,u1,u2,u3,0,0,0]) (wc [q0]) (wc [h0,h1,h2,h3]) =
 some {val:=SV.eD [],wr:=[(61,SB.own [SV.int false IntKind.u64 q0] 142),(63,SB.own [SV.int false IntKind.u64 u0,SV.int false IntKind.u64 u1,SV.int false IntKind.u64 u2,SV.int false IntKind.u64 u3,SV.int false IntKind.u64 (0:Int),SV.int false IntKind.u64 (0:Int),SV.int false IntKind.u64 (0:Int)] 142)]}:=by kernel_rfl
theorem aLj (u0 u1 u2 u3 q0 h0 h1 h2 h3:Int) :
 (xV 100 (aZ 100 (Hd eZ (wc [u0,u1,u2,u3,0,0,0,0]) (wc [q0]))) [] (jD 4 8 1 1 1 18446744073709551615 1 (.int true .u64 0) 1) (jC (wc [h0,h1,h2,h3]) (wc [u0,u1,u2,u3,0,0,0,0]) (wc [q0])) 101 [61,63] jE (Bx eZ (wc [u0,u1,u2,u3,0,0,0,0]) (wc [q0]) 4 8 1 1)) =
 sh (0:Int) fun z0=>
 some (.go (.loop xE),Et,[(3:Nat)=(3:Nat),(4:Nat)=(4:Nat),(11259375:Int)=h0,z0=h1,z0=h2,z0=h3,[q0]=[q0],[u0,u1,u2,u3,z0,z0,z0,z0]=[u0,u1,u2,u3,z0,z0,z0,z0]]):=by kernel_rfl
theorem aLh (x0 x1 x2 x3 y0 u0 u1 u2 u3 q0 h0 h1 h2 h3:Int) :
 fL eZ (wc [x0,x1,x2,x3,0,0,0,0]) (wc [y0]) 4 8 1 1 1 18446744073709551615 1 (-1) (-1) (.int false .u64 u2) (.int false .u64 u2) (wc [u0,u1,u2,u3,0,0,0,0]) (wc [u0,u1,u2,u3,0,0,0,0]) (wc [q0]) (wc [q0]) (wc [h0,h1,h2,h3]) (wc [h0,h1,h2,h3]) [] =
 sh (0:Int) fun z0=>
 some (Cf.at (Ex.exit 0),[],[(3:Nat)=(3:Nat),(4:Nat)=(4:Nat),u2=u2,h0=h0,h1=h1,h2=h2,h3=h3,[q0]=[q0],[u0,u1,u2,u3,z0,z0,z0,z0]=[u0,u1,u2,u3,z0,z0,z0,z0]]):=by kernel_rfl
theorem aLi (x0 x1 x2 x3 y0 u0 u1 u2 u3 q0 h0 h1 h2 h3:Int) :
 Lp eZ (wc [x0,x1,x2,x3,0,0,0,0]) (wc [y0]) 4 8 1 1 1 18446744073709551615 1 (.int false .u64 u2) (wc [u0,u1,u2,u3,0,0,0,0]) (wc [q0]) (wc [h0,h1,h2,h3]) =
 sh (0:Int) fun z0=>
 some {val:=SV.eD [],wr:=[(61,SB.own [SV.int false IntKind.u64 q0] 142),(63,SB.own [SV.int false IntKind.u64 u0,SV.int false IntKind.u64 u1,SV.int false IntKind.u64 u2,SV.int false IntKind.u64 u3,SV.int false IntKind.u64 z0,SV.int false IntKind.u64 z0,SV.int false IntKind.u64 z0,SV.int false IntKind.u64 z0] 142)]}:=by kernel_rfl
theorem aLg (u0 u1 u2 u3 u4 q0 q1 h0 h1 h2 h3:Int) :
 (xV 100 (aZ 100 (Hd eZ (wc [u0,u1,u2,u3,u4,0,0,0]) (wc [q0,q1,0,0,0,0]))) [] (jD 5 8 2 6 2 18446744073709551615 1 (.int true .u64 0) 2) (jC (wc [h0,h1,h2,h3]) (wc [u0,u1,u2,u3,u4,0,0,0]) (wc [q0,q1,0,0,0,0])) 101 [61,63] jE (Bx eZ (wc [u0,u1,u2,u3,u4,0,0,0]) (wc [q0,q1,0,0,0,0]) 5 8 2 6)) =
 sh (0:Int) fun z0=>
 some (.go (.loop xE),Et,[(3:Nat)=(3:Nat),(4:Nat)=(4:Nat),(11259375:Int)=h0,z0=h1,z0=h2,z0=h3,[q0,q1,z0,z0,z0,z0]=[q0,q1,z0,z0,z0,z0],[u0,u1,u2,u3,u4,z0,z0,z0]=[u0,u1,u2,u3,u4,z0,z0,z0]]):=by kernel_rfl
theorem aLe (x0 x1 x2 x3 x4 y0 y1 u0 u1 u2 u3 u4 q0 q1 h0 h1 h2 h3:Int) :
 fL eZ (wc [x0,x1,x2,x3,x4,0,0,0]) (wc [y0,y1,0,0,0,0]) 5 8 2 6 2 18446744073709551615 1 (-1) (-1) (.int false .u64 u2) (.int false .u64 u2) (wc [u0,u1,u2,u3,u4,0,0,0]) (wc [u0,u1,u2,u3,u4,0,0,0]) (wc [q0,q1,0,0,0,0]) (wc [q0,q1,0,0,0,0]) (wc [h0,h1,h2,h3]) (wc [h0,h1,h2,h3]) [] =
 sh (0:Int) fun z0=>
 some (Cf.at (Ex.exit 0),[],[(3:Nat)=(3:Nat),(4:Nat)=(4:Nat),u2=u2,h0=h0,h1=h1,h2=h2,h3=h3,[q0,q1,z0,z0,z0,z0]=[q0,q1,z0,z0,z0,z0],[u0,u1,u2,u3,u4,z0,z0,z0]=[u0,u1,u2,u3,u4,z0,z0,z0]]):=by kernel_rfl
theorem aLf (x0 x1 x2 x3 x4 y0 y1 u0 u1 u2 u3 u4 q0 q1 h0 h1 h2 h3:Int) :
 Lp eZ (wc [x0,x1,x2,x3,x4,0,0,0]) (wc [y0,y1,0,0,0,0]) 5 8 2 6 2 18446744073709551615 1 (.int false .u64 u2) (wc [u0,u1,u2,u3,u4,0,0,0]) (wc [q0,q1,0,0,0,0]) (wc [h0,h1,h2,h3]) =
 sh (0:Int) fun z0=>
 some {val:=SV.eD [],wr:=[(61,SB.own [SV.int false IntKind.u64 q0,SV.int false IntKind.u64 q1,SV.int false IntKind.u64 z0,SV.int false IntKind.u64 z0,SV.int false IntKind.u64 z0,SV.int false IntKind.u64 z0] 142),(63,SB.own [SV.int false IntKind.u64 u0,SV.int false IntKind.u64 u1,SV.int false IntKind.u64 u2,SV.int false IntKind.u64 u3,SV.int false IntKind.u64 u4,SV.int false IntKind.u64 z0,SV.int false IntKind.u64 z0,SV.int false IntKind.u64 z0] 142)]}:=by kernel_rfl
theorem aLd (u0 u1 u2 u3 u4 q0 q1 h0 h1 h2 h3:Int) :
 (xV 100 (aZ 100 (Hd eZ (wc [u0,u1,u2,u3,u4,0,0,0,0]) (wc [q0,q1,0,0,0,0]))) [] (jD 5 9 2 6 2 18446744073709551615 1 (.int true .u64 0) 2) (jC (wc [h0,h1,h2,h3]) (wc [u0,u1,u2,u3,u4,0,0,0,0]) (wc [q0,q1,0,0,0,0])) 101 [61,63] jE (Bx eZ (wc [u0,u1,u2,u3,u4,0,0,0,0]) (wc [q0,q1,0,0,0,0]) 5 9 2 6)) =
 sh (0:Int) fun z0=>
 some (.go (.loop xE),Et,[(3:Nat)=(3:Nat),(4:Nat)=(4:Nat),(11259375:Int)=h0,z0=h1,z0=h2,z0=h3,[q0,q1,z0,z0,z0,z0]=[q0,q1,z0,z0,z0,z0],[u0,u1,u2,u3,u4,z0,z0,z0,z0]=[u0,u1,u2,u3,u4,z0,z0,z0,z0]]):=by kernel_rfl
theorem aLb (x0 x1 x2 x3 x4 y0 y1 u0 u1 u2 u3 u4 q0 q1 h0 h1 h2 h3:Int) :
 fL eZ (wc [x0,x1,x2,x3,x4,0,0,0,0]) (wc [y0,y1,0,0,0,0]) 5 9 2 6 2 18446744073709551615 1 (-1) (-1) (.int false .u64 u2) (.int false .u64 u2) (wc [u0,u1,u2,u3,u4,0,0,0,0]) (wc [u0,u1,u2,u3,u4,0,0,0,0]) (wc [q0,q1,0,0,0,0]) (wc [q0,q1,0,0,0,0]) (wc [h0,h1,h2,h3]) (wc [h0,h1,h2,h3]) [] =
 sh (0:Int) fun z0=>
 some (Cf.at (Ex.exit 0),[],[(3:Nat)=(3:Nat),(4:Nat)=(4:Nat),u2=u2,h0=h0,h1=h1,h2=h2,h3=h3,[q0,q1,z0,z0,z0,z0]=[q0,q1,z0,z0,z0,z0],[u0,u1,u2,u3,u4,z0,z0,z0,z0]=[u0,u1,u2,u3,u4,z0,z0,z0,z0]]):=by kernel_rfl
theorem aLc (x0 x1 x2 x3 x4 y0 y1 u0 u1 u2 u3 u4 q0 q1 h0 h1 h2 h3:Int) :
 Lp eZ (wc [x0,x1,x2,x3,x4,0,0,0,0]) (wc [y0,y1,0,0,0,0]) 5 9 2 6 2 18446744073709551615 1 (.int false .u64 u2) (wc [u0,u1,u2,u3,u4,0,0,0,0]) (wc [q0,q1,0,0,0,0]) (wc [h0,h1,h2,h3]) =
 sh (0:Int) fun z0=>
 some {val:=SV.eD [],wr:=[(61,SB.own [SV.int false IntKind.u64 q0,SV.int false IntKind.u64 q1,SV.int false IntKind.u64 z0,SV.int false IntKind.u64 z0,SV.int false IntKind.u64 z0,SV.int false IntKind.u64 z0] 142),(63,SB.own [SV.int false IntKind.u64 u0,SV.int false IntKind.u64 u1,SV.int false IntKind.u64 u2,SV.int false IntKind.u64 u3,SV.int false IntKind.u64 u4,SV.int false IntKind.u64 z0,SV.int false IntKind.u64 z0,SV.int false IntKind.u64 z0,SV.int false IntKind.u64 z0] 142)]}:=by kernel_rfl
namespace M
def r5 (u0 u1 u2 u3 u4:Int):Int:=n4 u0 (w0 (n4 u1 u2 u3 u4%DD)) (w1 (n4 u1 u2 u3 u4%DD)) (w2 (n4 u1 u2 u3 u4%DD))
theorem aTm:DD<6277101735386680763835789423207666416102355444464034512896:=by decide
theorem Rm:0<DD:=by decide
theorem w_U (n:Int):U (w0 n)/\U (w1 n)/\U (w2 n):=by unfold U w0 w1 w2;omega
theorem Tx {a b c d:Int} (ha:U a) (hb:U b) (hc:U c) (hd:d<9223372036854775808):n4 a b c d<18446744073709551616*DD:=by
 have:=ha.2;have:=hb.2;have:=hc.2
 unfold n4 DD n4
 omega
theorem aVn {r:Int} (h0:0<=r) (h1:r<DD):n4 (w0 r) (w1 r) (w2 r) 0=r:=by
 have:=aTm
 unfold n4 w0 w1 w2
 omega
theorem aCs {u0 u1 u2 u3 u4:Int}:r5 u0 u1 u2 u3 u4=u0+18446744073709551616*(n4 u1 u2 u3 u4%DD):=by
 have h0:0<=n4 u1 u2 u3 u4%DD:=Int.emod_nonneg _ (by decide)
 have h1:n4 u1 u2 u3 u4%DD<DD:=Int.emod_lt_of_pos _ Rm
 have h:=aVn h0 h1
 unfold r5
 generalize n4 u1 u2 u3 u4%DD=r at *
 unfold n4 at *
 omega
theorem aCr {u0 u1 u2 u3 u4:Int} (ha:U u0):r5 u0 u1 u2 u3 u4<18446744073709551616*DD:=by
 rw [aCs]
 have h1:n4 u1 u2 u3 u4%DD<DD:=Int.emod_lt_of_pos _ Rm
 have:=ha.2
 omega
end M
open M in
set_option maxHeartbeats 2000000 in
theorem AS {u0 u1 u2 u3:Int} (y0:Int) (a0:U u0) (a1:U u1) (a2:U u2) (a3:U u3) (hd:u3<9223372036854775808) :
 aF Tryz.prog Γv 225 (Bd 4 7 1 1) (Hd eZ (wc [u0,u1,u2,u3,0,0,0]) (wc [y0])) 100 100 { val:=.eD [],wr:=[(61,.own (wc [n4 u0 u1 u2 u3/DD]) 142),(63,.own (wc [w0 (n4 u0 u1 u2 u3%DD),w1 (n4 u0 u1 u2 u3%DD),w2 (n4 u0 u1 u2 u3%DD),0,0,0,0]) 142)] }:=by
 have hl:=Tx a0 a1 a2 hd
 refine fS kP kQ Tryz.func225 (by kernel_rfl) rfl (jX (by kernel_rfl)) rfl [] ?_
 intro w0' Mx V0 Q hb H
 have aU:=kP
 have aV:=kQ
 refine G.xV aU aV mix hb [] (aLm u0 u1 u2 u3 y0 11259375 0 0 0) (aA (by simp only [sh,cA,and_true])) ?_
 have fin:∀ h0 h1 h2 h3,G Tryz.prog Γv w0' Mx (aZ 100 (Hd eZ (wc [u0,u1,u2,u3,0,0,0]) (wc [y0]))) Tryz.f225.ntmps 100 V0 (.at (.exit 0)) Et
  (bQ (jD 4 7 1 1 1 18446744073709551615 1 (.int false .u64 (w2 (n4 u0 u1 u2 u3%DD))) (-1)) (jC (wc [h0,h1,h2,h3]) (wc [w0 (n4 u0 u1 u2 u3%DD),w1 (n4 u0 u1 u2 u3%DD),w2 (n4 u0 u1 u2 u3%DD),0,0,0,0]) (wc [n4 u0 u1 u2 u3/DD])) 101 [61,63] jE) Q:=fun h0 h1 h2 h3=>
  G.fin aU aV mix [] H (aLl u0 u1 u2 u3 y0 _ _ _ _ _ h0 h1 h2 h3) (by simp) rfl rfl rfl
 refine G.loop (fun r s=>(r=2/\s=bQ (jD 4 7 1 1 1 18446744073709551615 1 (.int true .u64 0) 1) (jC (wc [11259375,0,0,0]) (wc [u0,u1,u2,u3,0,0,0]) (wc [y0])) 101 [61,63] jE)
  \/ (r=1/\s=bQ (jD 4 7 1 1 1 18446744073709551615 1 (.int false .u64 u3) 0) (jC (wc [0,0,0,0]) (wc [u0,u1,u2,u3,0,0,0]) (wc [y0])) 101 [61,63] jE)
  \/ (r=0/\∃ h0 h1 h2 h3,s=bQ (jD 4 7 1 1 1 18446744073709551615 1 (.int false .u64 (w2 (n4 u0 u1 u2 u3%DD))) (-1)) (jC (wc [h0,h1,h2,h3]) (wc [w0 (n4 u0 u1 u2 u3%DD),w1 (n4 u0 u1 u2 u3%DD),w2 (n4 u0 u1 u2 u3%DD),0,0,0,0]) (wc [n4 u0 u1 u2 u3/DD])) 101 [61,63] jE)) (r0:=2) (.inl ⟨rfl,rfl⟩) ?_
 rintro r s (⟨rfl,rfl⟩ | ⟨rfl,rfl⟩ | ⟨rfl,h0,h1,h2,h3,rfl⟩)
 .obtain ⟨ps,e,hp⟩:=Ih (aRe u0 y0) (wc [u0,u1,u2,u3,0,0,0]) (wc [y0]) 11259375 0 0 0 a1 a2 a3 (by omega)
  exact G.kR aU aV mix hb _ e hp 1 (by omega) (.inr (.inl ⟨rfl,rfl⟩))
 .obtain ⟨hs,g0,g1,g2,g3,ps,e,hp⟩:=oG ⟨aJj,aJi,ZK,LA,LB,aJh⟩ (wc [u0,u1,u2,u3,0,0,0]) (wc [y0]) y0 0 0 0 0 a0 a1 a2 a3 hl
  exact G.kR aU aV mix hb _ e hp 0 (by omega) (.inr (.inr ⟨rfl,g0,g1,g2,g3,rfl⟩))
 .exact G.xV aU aV mix hb [] (aLk u0 u1 u2 u3 y0 _ _ _ _ _ h0 h1 h2 h3) (aA (by simp only [sh,cA,and_true])) (G.leave (fun h=>by cases h) (fin h0 h1 h2 h3))
open M in
set_option maxHeartbeats 2000000 in
theorem AR {u0 u1 u2 u3:Int} (y0:Int) (a0:U u0) (a1:U u1) (a2:U u2) (a3:U u3) (hd:u3<9223372036854775808) :
 aF Tryz.prog Γv 225 (Bd 4 8 1 1) (Hd eZ (wc [u0,u1,u2,u3,0,0,0,0]) (wc [y0])) 100 100 { val:=.eD [],wr:=[(61,.own (wc [n4 u0 u1 u2 u3/DD]) 142),(63,.own (wc [w0 (n4 u0 u1 u2 u3%DD),w1 (n4 u0 u1 u2 u3%DD),w2 (n4 u0 u1 u2 u3%DD),0,0,0,0,0]) 142)] }:=by
 have hl:=Tx a0 a1 a2 hd
 refine fS kP kQ Tryz.func225 (by kernel_rfl) rfl (jX (by kernel_rfl)) rfl [] ?_
 intro w0' Mx V0 Q hb H
 have aU:=kP
 have aV:=kQ
 refine G.xV aU aV mix hb [] (aLj u0 u1 u2 u3 y0 11259375 0 0 0) (aA (by simp only [sh,cA,and_true])) ?_
 have fin:∀ h0 h1 h2 h3,G Tryz.prog Γv w0' Mx (aZ 100 (Hd eZ (wc [u0,u1,u2,u3,0,0,0,0]) (wc [y0]))) Tryz.f225.ntmps 100 V0 (.at (.exit 0)) Et
  (bQ (jD 4 8 1 1 1 18446744073709551615 1 (.int false .u64 (w2 (n4 u0 u1 u2 u3%DD))) (-1)) (jC (wc [h0,h1,h2,h3]) (wc [w0 (n4 u0 u1 u2 u3%DD),w1 (n4 u0 u1 u2 u3%DD),w2 (n4 u0 u1 u2 u3%DD),0,0,0,0,0]) (wc [n4 u0 u1 u2 u3/DD])) 101 [61,63] jE) Q:=fun h0 h1 h2 h3=>
  G.fin aU aV mix [] H (aLi u0 u1 u2 u3 y0 _ _ _ _ _ h0 h1 h2 h3) (by simp) rfl rfl rfl
 refine G.loop (fun r s=>(r=2/\s=bQ (jD 4 8 1 1 1 18446744073709551615 1 (.int true .u64 0) 1) (jC (wc [11259375,0,0,0]) (wc [u0,u1,u2,u3,0,0,0,0]) (wc [y0])) 101 [61,63] jE)
  \/ (r=1/\s=bQ (jD 4 8 1 1 1 18446744073709551615 1 (.int false .u64 u3) 0) (jC (wc [0,0,0,0]) (wc [u0,u1,u2,u3,0,0,0,0]) (wc [y0])) 101 [61,63] jE)
  \/ (r=0/\∃ h0 h1 h2 h3,s=bQ (jD 4 8 1 1 1 18446744073709551615 1 (.int false .u64 (w2 (n4 u0 u1 u2 u3%DD))) (-1)) (jC (wc [h0,h1,h2,h3]) (wc [w0 (n4 u0 u1 u2 u3%DD),w1 (n4 u0 u1 u2 u3%DD),w2 (n4 u0 u1 u2 u3%DD),0,0,0,0,0]) (wc [n4 u0 u1 u2 u3/DD])) 101 [61,63] jE)) (r0:=2) (.inl ⟨rfl,rfl⟩) ?_
 rintro r s (⟨rfl,rfl⟩ | ⟨rfl,rfl⟩ | ⟨rfl,h0,h1,h2,h3,rfl⟩)
 .obtain ⟨ps,e,hp⟩:=Ih (aRd u0 y0) (wc [u0,u1,u2,u3,0,0,0,0]) (wc [y0]) 11259375 0 0 0 a1 a2 a3 (by omega)
  exact G.kR aU aV mix hb _ e hp 1 (by omega) (.inr (.inl ⟨rfl,rfl⟩))
 .obtain ⟨hs,g0,g1,g2,g3,ps,e,hp⟩:=oG ⟨aJg,aJf,ZJ,KY,KZ,aJe⟩ (wc [u0,u1,u2,u3,0,0,0,0]) (wc [y0]) y0 0 0 0 0 a0 a1 a2 a3 hl
  exact G.kR aU aV mix hb _ e hp 0 (by omega) (.inr (.inr ⟨rfl,g0,g1,g2,g3,rfl⟩))
 .exact G.xV aU aV mix hb [] (aLh u0 u1 u2 u3 y0 _ _ _ _ _ h0 h1 h2 h3) (aA (by simp only [sh,cA,and_true])) (G.leave (fun h=>by cases h) (fin h0 h1 h2 h3))
open M in
set_option maxHeartbeats 4000000 in
theorem AQ {u0 u1 u2 u3 u4:Int} (y0 y1:Int) (a0:U u0) (a1:U u1) (a2:U u2) (a3:U u3) (a4:U u4) (hd:u4<9223372036854775808) :
 aF Tryz.prog Γv 225 (Bd 5 8 2 6) (Hd eZ (wc [u0,u1,u2,u3,u4,0,0,0]) (wc [y0,y1,0,0,0,0])) 100 100 { val:=.eD [],wr:=[(61,.own (wc [r5 u0 u1 u2 u3 u4/DD,n4 u1 u2 u3 u4/DD,0,0,0,0]) 142),(63,.own (wc [w0 (r5 u0 u1 u2 u3 u4%DD),w1 (r5 u0 u1 u2 u3 u4%DD),w2 (r5 u0 u1 u2 u3 u4%DD),0,0,0,0,0]) 142)] }:=by
 have hl:=Tx a1 a2 a3 hd
 obtain ⟨b0,b1,b2⟩:=w_U (n4 u1 u2 u3 u4%DD)
 refine fS kP kQ Tryz.func225 (by kernel_rfl) rfl (jX (by kernel_rfl)) rfl [] ?_
 intro w0' Mx V0 Q hb H
 have aU:=kP
 have aV:=kQ
 refine G.xV aU aV mix hb [] (aLg u0 u1 u2 u3 u4 y0 y1 11259375 0 0 0) (aA (by simp only [sh,cA,and_true])) ?_
 have fin:∀ h0 h1 h2 h3,G Tryz.prog Γv w0' Mx (aZ 100 (Hd eZ (wc [u0,u1,u2,u3,u4,0,0,0]) (wc [y0,y1,0,0,0,0]))) Tryz.f225.ntmps 100 V0 (.at (.exit 0)) Et
  (bQ (jD 5 8 2 6 2 18446744073709551615 1 (.int false .u64 (w2 (r5 u0 u1 u2 u3 u4%DD))) (-1)) (jC (wc [h0,h1,h2,h3]) (wc [w0 (r5 u0 u1 u2 u3 u4%DD),w1 (r5 u0 u1 u2 u3 u4%DD),w2 (r5 u0 u1 u2 u3 u4%DD),0,0,0,0,0]) (wc [r5 u0 u1 u2 u3 u4/DD,n4 u1 u2 u3 u4/DD,0,0,0,0])) 101 [61,63] jE) Q:=fun h0 h1 h2 h3=>
  G.fin aU aV mix [] H (aLf u0 u1 u2 u3 u4 y0 y1 _ _ _ _ _ _ _ h0 h1 h2 h3) (by simp) rfl rfl rfl
 refine G.loop (fun r s=>(r=3/\s=bQ (jD 5 8 2 6 2 18446744073709551615 1 (.int true .u64 0) 2) (jC (wc [11259375,0,0,0]) (wc [u0,u1,u2,u3,u4,0,0,0]) (wc [y0,y1,0,0,0,0])) 101 [61,63] jE)
  \/ (r=2/\s=bQ (jD 5 8 2 6 2 18446744073709551615 1 (.int false .u64 u4) 1) (jC (wc [0,0,0,0]) (wc [u0,u1,u2,u3,u4,0,0,0]) (wc [y0,y1,0,0,0,0])) 101 [61,63] jE)
  \/ (r=1/\∃ h0 h1 h2 h3,s=bQ (jD 5 8 2 6 2 18446744073709551615 1 (.int false .u64 (w2 (n4 u1 u2 u3 u4%DD))) 0) (jC (wc [h0,h1,h2,h3]) (wc [u0,w0 (n4 u1 u2 u3 u4%DD),w1 (n4 u1 u2 u3 u4%DD),w2 (n4 u1 u2 u3 u4%DD),0,0,0,0]) (wc [y0,n4 u1 u2 u3 u4/DD,0,0,0,0])) 101 [61,63] jE)
  \/ (r=0/\∃ h0 h1 h2 h3,s=bQ (jD 5 8 2 6 2 18446744073709551615 1 (.int false .u64 (w2 (r5 u0 u1 u2 u3 u4%DD))) (-1)) (jC (wc [h0,h1,h2,h3]) (wc [w0 (r5 u0 u1 u2 u3 u4%DD),w1 (r5 u0 u1 u2 u3 u4%DD),w2 (r5 u0 u1 u2 u3 u4%DD),0,0,0,0,0]) (wc [r5 u0 u1 u2 u3 u4/DD,n4 u1 u2 u3 u4/DD,0,0,0,0])) 101 [61,63] jE)) (r0:=3) (.inl ⟨rfl,rfl⟩) ?_
 rintro r s (⟨rfl,rfl⟩ | ⟨rfl,rfl⟩ | ⟨rfl,h0,h1,h2,h3,rfl⟩ | ⟨rfl,h0,h1,h2,h3,rfl⟩)
 .obtain ⟨ps,e,hp⟩:=Ih (aRc u0 u1 y0 y1) (wc [u0,u1,u2,u3,u4,0,0,0]) (wc [y0,y1,0,0,0,0]) 11259375 0 0 0 a2 a3 a4 (by omega)
  exact G.kR aU aV mix hb _ e hp 2 (by omega) (.inr (.inl ⟨rfl,rfl⟩))
 .obtain ⟨hs,g0,g1,g2,g3,ps,e,hp⟩:=oG ⟨ZI u0 y0,ZH u0 y0,KX u0 y0,Zf u0 y0,Zg u0 y0,ZG u0 y0⟩ (wc [u0,u1,u2,u3,u4,0,0,0]) (wc [y0,y1,0,0,0,0]) y1 0 0 0 0 a1 a2 a3 a4 hl
  exact G.kR aU aV mix hb _ e hp 1 (by omega) (.inr (.inr (.inl ⟨rfl,g0,g1,g2,g3,rfl⟩)))
 .obtain ⟨hs,g0,g1,g2,g3,ps,e,hp⟩:=oG ⟨ZF (n4 u1 u2 u3 u4/DD),ZE (n4 u1 u2 u3 u4/DD),KW (n4 u1 u2 u3 u4/DD),Zd (n4 u1 u2 u3 u4/DD),Ze (n4 u1 u2 u3 u4/DD),ZD (n4 u1 u2 u3 u4/DD)⟩ (wc [u0,u1,u2,u3,u4,0,0,0]) (wc [y0,y1,0,0,0,0]) y0 h0 h1 h2 h3 a0 b0 b1 b2 (aCr a0)
  exact G.kR aU aV mix hb _ e hp 0 (by omega) (.inr (.inr (.inr ⟨rfl,g0,g1,g2,g3,rfl⟩)))
 .exact G.xV aU aV mix hb [] (aLe u0 u1 u2 u3 u4 y0 y1 _ _ _ _ _ _ _ h0 h1 h2 h3) (aA (by simp only [sh,cA,and_true])) (G.leave (fun h=>by cases h) (fin h0 h1 h2 h3))
open M in
set_option maxHeartbeats 4000000 in
theorem AP {u0 u1 u2 u3 u4:Int} (y0 y1:Int) (a0:U u0) (a1:U u1) (a2:U u2) (a3:U u3) (a4:U u4) (hd:u4<9223372036854775808) :
 aF Tryz.prog Γv 225 (Bd 5 9 2 6) (Hd eZ (wc [u0,u1,u2,u3,u4,0,0,0,0]) (wc [y0,y1,0,0,0,0])) 100 100 { val:=.eD [],wr:=[(61,.own (wc [r5 u0 u1 u2 u3 u4/DD,n4 u1 u2 u3 u4/DD,0,0,0,0]) 142),(63,.own (wc [w0 (r5 u0 u1 u2 u3 u4%DD),w1 (r5 u0 u1 u2 u3 u4%DD),w2 (r5 u0 u1 u2 u3 u4%DD),0,0,0,0,0,0]) 142)] }:=by
 have hl:=Tx a1 a2 a3 hd
 obtain ⟨b0,b1,b2⟩:=w_U (n4 u1 u2 u3 u4%DD)
 refine fS kP kQ Tryz.func225 (by kernel_rfl) rfl (jX (by kernel_rfl)) rfl [] ?_
 intro w0' Mx V0 Q hb H
 have aU:=kP
 have aV:=kQ
 refine G.xV aU aV mix hb [] (aLd u0 u1 u2 u3 u4 y0 y1 11259375 0 0 0) (aA (by simp only [sh,cA,and_true])) ?_
 have fin:∀ h0 h1 h2 h3,G Tryz.prog Γv w0' Mx (aZ 100 (Hd eZ (wc [u0,u1,u2,u3,u4,0,0,0,0]) (wc [y0,y1,0,0,0,0]))) Tryz.f225.ntmps 100 V0 (.at (.exit 0)) Et
  (bQ (jD 5 9 2 6 2 18446744073709551615 1 (.int false .u64 (w2 (r5 u0 u1 u2 u3 u4%DD))) (-1)) (jC (wc [h0,h1,h2,h3]) (wc [w0 (r5 u0 u1 u2 u3 u4%DD),w1 (r5 u0 u1 u2 u3 u4%DD),w2 (r5 u0 u1 u2 u3 u4%DD),0,0,0,0,0,0]) (wc [r5 u0 u1 u2 u3 u4/DD,n4 u1 u2 u3 u4/DD,0,0,0,0])) 101 [61,63] jE) Q:=fun h0 h1 h2 h3=>
  G.fin aU aV mix [] H (aLc u0 u1 u2 u3 u4 y0 y1 _ _ _ _ _ _ _ h0 h1 h2 h3) (by simp) rfl rfl rfl
 refine G.loop (fun r s=>(r=3/\s=bQ (jD 5 9 2 6 2 18446744073709551615 1 (.int true .u64 0) 2) (jC (wc [11259375,0,0,0]) (wc [u0,u1,u2,u3,u4,0,0,0,0]) (wc [y0,y1,0,0,0,0])) 101 [61,63] jE)
  \/ (r=2/\s=bQ (jD 5 9 2 6 2 18446744073709551615 1 (.int false .u64 u4) 1) (jC (wc [0,0,0,0]) (wc [u0,u1,u2,u3,u4,0,0,0,0]) (wc [y0,y1,0,0,0,0])) 101 [61,63] jE)
  \/ (r=1/\∃ h0 h1 h2 h3,s=bQ (jD 5 9 2 6 2 18446744073709551615 1 (.int false .u64 (w2 (n4 u1 u2 u3 u4%DD))) 0) (jC (wc [h0,h1,h2,h3]) (wc [u0,w0 (n4 u1 u2 u3 u4%DD),w1 (n4 u1 u2 u3 u4%DD),w2 (n4 u1 u2 u3 u4%DD),0,0,0,0,0]) (wc [y0,n4 u1 u2 u3 u4/DD,0,0,0,0])) 101 [61,63] jE)
  \/ (r=0/\∃ h0 h1 h2 h3,s=bQ (jD 5 9 2 6 2 18446744073709551615 1 (.int false .u64 (w2 (r5 u0 u1 u2 u3 u4%DD))) (-1)) (jC (wc [h0,h1,h2,h3]) (wc [w0 (r5 u0 u1 u2 u3 u4%DD),w1 (r5 u0 u1 u2 u3 u4%DD),w2 (r5 u0 u1 u2 u3 u4%DD),0,0,0,0,0,0]) (wc [r5 u0 u1 u2 u3 u4/DD,n4 u1 u2 u3 u4/DD,0,0,0,0])) 101 [61,63] jE)) (r0:=3) (.inl ⟨rfl,rfl⟩) ?_
 rintro r s (⟨rfl,rfl⟩ | ⟨rfl,rfl⟩ | ⟨rfl,h0,h1,h2,h3,rfl⟩ | ⟨rfl,h0,h1,h2,h3,rfl⟩)
 .obtain ⟨ps,e,hp⟩:=Ih (aRb u0 u1 y0 y1) (wc [u0,u1,u2,u3,u4,0,0,0,0]) (wc [y0,y1,0,0,0,0]) 11259375 0 0 0 a2 a3 a4 (by omega)
  exact G.kR aU aV mix hb _ e hp 2 (by omega) (.inr (.inl ⟨rfl,rfl⟩))
 .obtain ⟨hs,g0,g1,g2,g3,ps,e,hp⟩:=oG ⟨ZC u0 y0,ZB u0 y0,KV u0 y0,Zb u0 y0,Zc u0 y0,ZA u0 y0⟩ (wc [u0,u1,u2,u3,u4,0,0,0,0]) (wc [y0,y1,0,0,0,0]) y1 0 0 0 0 a1 a2 a3 a4 hl
  exact G.kR aU aV mix hb _ e hp 1 (by omega) (.inr (.inr (.inl ⟨rfl,g0,g1,g2,g3,rfl⟩)))
 .obtain ⟨hs,g0,g1,g2,g3,ps,e,hp⟩:=oG ⟨YZ (n4 u1 u2 u3 u4/DD),YY (n4 u1 u2 u3 u4/DD),KU (n4 u1 u2 u3 u4/DD),Yz (n4 u1 u2 u3 u4/DD),Za (n4 u1 u2 u3 u4/DD),YX (n4 u1 u2 u3 u4/DD)⟩ (wc [u0,u1,u2,u3,u4,0,0,0,0]) (wc [y0,y1,0,0,0,0]) y0 h0 h1 h2 h3 a0 b0 b1 b2 (aCr a0)
  exact G.kR aU aV mix hb _ e hp 0 (by omega) (.inr (.inr (.inr ⟨rfl,g0,g1,g2,g3,rfl⟩)))
 .exact G.xV aU aV mix hb [] (aLb u0 u1 u2 u3 u4 y0 y1 _ _ _ _ _ _ _ h0 h1 h2 h3) (aA (by simp only [sh,cA,and_true])) (G.leave (fun h=>by cases h) (fin h0 h1 h2 h3))
theorem aG.aO {P:Program} {Γ Γ':Env} {f:FuncId} {S:Sum} (h:aG P Γ f S) (hg:Γ'.aO=Γ.aO):aG P Γ' f S:=
 fun vs T lab F e he ho w0 M V T2 w xs aR hT Xf=>h vs T lab F e he ho w0 M V T2 w xs aR hT (fun n l hl=>Xf n l (by rw [hg];exact hl))
namespace M
def nl:List Int->Nat
 | []=>0
 | x::r=>match nl r with
   | 0=>if x=0 then 0 else 1
   | k+1=>k+2
end M
def nmT (ws:List SV):aX:=fun l=>look l [(63,.own ws 142)]
noncomputable def Ft (n cap:Nat) (ws:List SV) (h:List Bool):Option bK:=aK Γv Tryz.f145 true h 400 [.aH 63 true 0 n cap] (nmT ws) 100 100
namespace M
theorem FF:∀ l:List Int,nl l<=l.length
 | []=>cT _
 | x::r=>by
   have:=FF r
   simp only [nl,List.length_cons]
   split
   .split <;> omega
   .omega
end M
def nmH (n:Nat):Nat->List Bool
 | 0=>List.replicate n true
 | k+1=>List.replicate (n-(k+1)) true++[false]
def nmO (ws:List Int):Nat->List Prop
 | 0=>ws.map fun a=>(a==0)=true
 | k+1=>((ws.getD k 0==0)=false)::(ws.drop (k+1)).map fun a=>(a==0)=true
theorem IA:∀ ws:List Int,∀ q∈nmO ws (M.nl ws),q
 | [],q,h=>by cases h
 | x::r,q,h=>by
   have ih:=IA r
   unfold M.nl at h
   cases hn:M.nl r with
   | zero=>
     rw [hn] at h ih
     simp only at h
     by_cases hx:x=0
     .rw [if_pos hx] at h
      rcases List.mem_cons.1 h with rfl | h
      .simpa using hx
      .exact ih q h
     .rw [if_neg hx] at h
      rcases List.mem_cons.1 h with rfl | h
      .simpa using hx
      .exact ih q h
   | succ k=>
     rw [hn] at h ih
     exact ih q h
theorem nm1 {cap:Nat} (hc:cap=1\/cap=1) (zs:List SV) (a0:Int) (k:Nat) (hk:k<=1):Ft 1 cap (wc [a0]++zs) (nmH 1 k)=some { bO:=nmO [a0] k,val:=.aH 63 true 0 k cap }:=by
 rcases hc with rfl | rfl <;> rcases (by omega:k=0\/k=1) with rfl | rfl <;> kernel_rfl
theorem nm2 {cap:Nat} (hc:cap=6\/cap=6) (zs:List SV) (a0 a1:Int) (k:Nat) (hk:k<=2):Ft 2 cap (wc [a0,a1]++zs) (nmH 2 k)=some { bO:=nmO [a0,a1] k,val:=.aH 63 true 0 k cap }:=by
 rcases hc with rfl | rfl <;> rcases (by omega:k=0\/k=1\/k=2) with rfl | rfl | rfl <;> kernel_rfl
theorem nm3 {cap:Nat} (hc:cap=7\/cap=7) (zs:List SV) (a0 a1 a2:Int) (k:Nat) (hk:k<=3):Ft 3 cap (wc [a0,a1,a2]++zs) (nmH 3 k)=some { bO:=nmO [a0,a1,a2] k,val:=.aH 63 true 0 k cap }:=by
 rcases hc with rfl | rfl <;> rcases (by omega:k=0\/k=1\/k=2\/k=3) with rfl | rfl | rfl | rfl <;> kernel_rfl
theorem nm4 {cap:Nat} (hc:cap=7\/cap=8) (zs:List SV) (a0 a1 a2 a3:Int) (k:Nat) (hk:k<=4):Ft 4 cap (wc [a0,a1,a2,a3]++zs) (nmH 4 k)=some { bO:=nmO [a0,a1,a2,a3] k,val:=.aH 63 true 0 k cap }:=by
 rcases hc with rfl | rfl <;> rcases (by omega:k=0\/k=1\/k=2\/k=3\/k=4) with rfl | rfl | rfl | rfl | rfl <;> kernel_rfl
theorem nm5 {cap:Nat} (hc:cap=8\/cap=9) (zs:List SV) (a0 a1 a2 a3 a4:Int) (k:Nat) (hk:k<=5):Ft 5 cap (wc [a0,a1,a2,a3,a4]++zs) (nmH 5 k)=some { bO:=nmO [a0,a1,a2,a3,a4] k,val:=.aH 63 true 0 k cap }:=by
 rcases hc with rfl | rfl <;> rcases (by omega:k=0\/k=1\/k=2\/k=3\/k=4\/k=5) with rfl | rfl | rfl | rfl | rfl | rfl <;> kernel_rfl
theorem oZ {n cap:Nat} {ws:List Int} {zs:List SV} (h:∀ k,k<=ws.length->Ft n cap (wc ws++zs) (nmH n k)=some { bO:=nmO ws k,val:=.aH 63 true 0 k cap }):aF Tryz.prog Γv 145 [.aH 63 true 0 n cap] (nmT (wc ws++zs)) 100 100 { val:=.aH 63 false 0 (M.nl ws) cap }:=
 ((aN kP kQ mix Tryz.func145 (by kernel_rfl) true _ 400).call (h _ (M.FF ws)) (IA ws)).words rfl (fun _=>rfl) (fun _ _ h=>h) (fun _=>rfl) rfl rfl
def FE (vs:List SV) (T:aX):Option Canon:=match vs with
 | [.aH l true 0 n cap]=>match T l with
   | some (.own cs 142)=>match cU .u64 cs with
     | some [a0]=>match Nat.beq n 1&&Nat.beq cap 1 with
       | true=>some { eL:=[.aH 63 true 0 1 1],T0:=[(63,.own (wc [a0]) 142)],vl:=[(63,.lab l 0)],e0:={ val:=.aH 63 false 0 (M.nl [a0]) 1,wr:=[(63,.own (wc [a0]) 142)] } }
       | false=>none
     | some [a0,a1,_,_,_,_]=>match Nat.beq n 2&&Nat.beq cap 6 with
       | true=>some { eL:=[.aH 63 true 0 2 6],T0:=[(63,.own (wc [a0,a1,0,0,0,0]) 142)],vl:=[(63,.lab l 0)],e0:={ val:=.aH 63 false 0 (M.nl [a0,a1]) 6,wr:=[(63,.own (wc [a0,a1,0,0,0,0]) 142)] } }
       | false=>none
     | some [a0,a1,a2,a3,_,_,_]=>match Nat.beq cap 7 with
       | true=>match Nat.beq n 4 with
         | true=>some { eL:=[.aH 63 true 0 4 7],T0:=[(63,.own (wc [a0,a1,a2,a3,0,0,0]) 142)],vl:=[(63,.lab l 0)],e0:={ val:=.aH 63 false 0 (M.nl [a0,a1,a2,a3]) 7,wr:=[(63,.own (wc [a0,a1,a2,a3,0,0,0]) 142)] } }
         | false=>match Nat.beq n 3 with
           | true=>some { eL:=[.aH 63 true 0 3 7],T0:=[(63,.own (wc [a0,a1,a2,0,0,0,0]) 142)],vl:=[(63,.lab l 0)],e0:={ val:=.aH 63 false 0 (M.nl [a0,a1,a2]) 7,wr:=[(63,.own (wc [a0,a1,a2,0,0,0,0]) 142)] } }
           | false=>none
       | false=>none
     | some [a0,a1,a2,a3,a4,_,_,_]=>match Nat.beq cap 8 with
       | true=>match Nat.beq n 4 with
         | true=>some { eL:=[.aH 63 true 0 4 8],T0:=[(63,.own (wc [a0,a1,a2,a3,0,0,0,0]) 142)],vl:=[(63,.lab l 0)],e0:={ val:=.aH 63 false 0 (M.nl [a0,a1,a2,a3]) 8,wr:=[(63,.own (wc [a0,a1,a2,a3,0,0,0,0]) 142)] } }
         | false=>match Nat.beq n 5 with
           | true=>some { eL:=[.aH 63 true 0 5 8],T0:=[(63,.own (wc [a0,a1,a2,a3,a4,0,0,0]) 142)],vl:=[(63,.lab l 0)],e0:={ val:=.aH 63 false 0 (M.nl [a0,a1,a2,a3,a4]) 8,wr:=[(63,.own (wc [a0,a1,a2,a3,a4,0,0,0]) 142)] } }
           | false=>none
       | false=>none
     | some [a0,a1,a2,a3,a4,_,_,_,_]=>match Nat.beq n 5&&Nat.beq cap 9 with
       | true=>some { eL:=[.aH 63 true 0 5 9],T0:=[(63,.own (wc [a0,a1,a2,a3,a4,0,0,0,0]) 142)],vl:=[(63,.lab l 0)],e0:={ val:=.aH 63 false 0 (M.nl [a0,a1,a2,a3,a4]) 9,wr:=[(63,.own (wc [a0,a1,a2,a3,a4,0,0,0,0]) 142)] } }
       | false=>none
     | _=>none
   | _=>none
 | _=>none
theorem aDb (Γ:Env) (hg:Γ.aO=aB) {vs:List SV} {T:aX} {c:Canon} (hd:FE vs T=some c):aF Tryz.prog Γ 145 c.eL (fun l=>look l c.T0) 100 100 c.e0:=by
 unfold FE at hd
 split at hd
 case h_2=>cases hd
 split at hd
 case h_2=>cases hd
 split at hd
 case h_6=>cases hd
 .split at hd
  case h_2=>cases hd
  cases hd
  exact ((oZ (ws:=[_]) (zs:=wc []) (nm1 (.inl rfl) _ _)).bD 63 _ rfl (by decide)).words (by rw [hg];rfl) (fun _=>rfl) (fun _ _ h=>h) (fun _=>rfl) rfl rfl
 .split at hd
  case h_2=>cases hd
  cases hd
  exact ((oZ (ws:=[_,_]) (zs:=wc [0,0,0,0]) (nm2 (.inl rfl) _ _ _)).bD 63 _ rfl (by decide)).words (by rw [hg];rfl) (fun _=>rfl) (fun _ _ h=>h) (fun _=>rfl) rfl rfl
 .split at hd
  case h_2=>cases hd
  split at hd
  .cases hd
   exact ((oZ (ws:=[_,_,_,_]) (zs:=wc [0,0,0]) (nm4 (.inl rfl) _ _ _ _ _)).bD 63 _ rfl (by decide)).words (by rw [hg];rfl) (fun _=>rfl) (fun _ _ h=>h) (fun _=>rfl) rfl rfl
  .split at hd
   case h_2=>cases hd
   cases hd
   exact ((oZ (ws:=[_,_,_]) (zs:=wc [0,0,0,0]) (nm3 (.inl rfl) _ _ _ _)).bD 63 _ rfl (by decide)).words (by rw [hg];rfl) (fun _=>rfl) (fun _ _ h=>h) (fun _=>rfl) rfl rfl
 .split at hd
  case h_2=>cases hd
  split at hd
  .cases hd
   exact ((oZ (ws:=[_,_,_,_]) (zs:=wc [0,0,0,0]) (nm4 (.inr rfl) _ _ _ _ _)).bD 63 _ rfl (by decide)).words (by rw [hg];rfl) (fun _=>rfl) (fun _ _ h=>h) (fun _=>rfl) rfl rfl
  .split at hd
   case h_2=>cases hd
   cases hd
   exact ((oZ (ws:=[_,_,_,_,_]) (zs:=wc [0,0,0]) (nm5 (.inl rfl) _ _ _ _ _ _)).bD 63 _ rfl (by decide)).words (by rw [hg];rfl) (fun _=>rfl) (fun _ _ h=>h) (fun _=>rfl) rfl rfl
 .split at hd
  case h_2=>cases hd
  cases hd
  exact ((oZ (ws:=[_,_,_,_,_]) (zs:=wc [0,0,0,0]) (nm5 (.inr rfl) _ _ _ _ _ _)).bD 63 _ rfl (by decide)).words (by rw [hg];rfl) (fun _=>rfl) (fun _ _ h=>h) (fun _=>rfl) rfl rfl
def sX (iq ir:Nat) (vs:List SV) (T:aX):Option Canon:=match FE vs T with
 | some c=>match c.eL,c.e0.val with
   | [.aH _ _ _ n _],.aH 63 false 0 k cap=>match Nat.ble n 2 with
     | true=>some { c with e0:={ c.e0 with val:=.aH 63 true 0 iq cap },conds:=[k=iq] }
     | false=>some { c with e0:={ c.e0 with val:=.aH 63 true 0 ir cap },conds:=[k=ir] }
   | _,_=>none
 | none=>none
theorem Cj (iq ir:Nat) (Γ:Env) (hg:Γ.aO=aB):aG Tryz.prog Γ 145 (aL aB 100 (sX iq ir)):=by
 refine aY hg fun vs T c hd hc=>?_
 unfold sX at hd
 split at hd
 case h_2=>cases hd
 rename_i c0 h0
 split at hd
 case h_2=>cases hd
 rename_i hv
 split at hd
 .cases hd
  have hk:=hc _ dC
  refine (aDb Γ hg h0).words rfl (fun _=>rfl) (fun _ _ h=>h) (fun V=>?_) rfl rfl
  rw [hv,hk];rfl
 .cases hd
  have hk:=hc _ dC
  refine (aDb Γ hg h0).words rfl (fun _=>rfl) (fun _ _ h=>h) (fun V=>?_) rfl rfl
  rw [hv,hk];rfl
def aFl (c c':Nat):List SV:=[.aH 61 true 0 3 c,.aH 62 true 0 3 c']
def cmT (xs ys:List Int):aX:=fun l=>look l [(61,.nT .u64 xs),(62,.nT .u64 ys)]
noncomputable def yD (c c':Nat) (xs ys:List Int) (h:List Bool):Option bK:=aK Γv Tryz.f114 true h 400 (aFl c c') (cmT xs ys) 100 100
theorem aZm (c c':Nat) (x0 x1 x2 y0 y1 y2:Int) (xs ys:List Int) :
 yD c c' (x0::x1::x2::xs) (y0::y1::y2::ys) [false,true] =
 sh (x0::x1::x2::xs) fun z0=>
 sh (y0::y1::y2::ys) fun z1=>
 sh (2:Nat) fun z2=>
 sh (0:Int) fun z3=>
 sh (3:Nat) fun z4=>
 some {bO:=[decide (z0.getD z2 z3<z1.getD z2 z3)=true,z4<=z1.length,z4<=z0.length,(z0.getD z2 z3==z1.getD z2 z3)=false,z4<=z1.length,z4<=z0.length],val:=SV.int true IntKind.i64 (Int.negSucc 0)}:=by kernel_rfl
theorem aZl (c c':Nat) (x0 x1 x2 y0 y1 y2:Int) (xs ys:List Int) :
 yD c c' (x0::x1::x2::xs) (y0::y1::y2::ys) [false,false,true] =
 sh (x0::x1::x2::xs) fun z0=>
 sh (y0::y1::y2::ys) fun z1=>
 sh (2:Nat) fun z2=>
 sh (0:Int) fun z3=>
 sh (3:Nat) fun z4=>
 some {bO:=[decide (z0.getD z2 z3>z1.getD z2 z3)=true,z4<=z1.length,z4<=z0.length,decide (z0.getD z2 z3<z1.getD z2 z3)=false,z4<=z1.length,z4<=z0.length,(z0.getD z2 z3==z1.getD z2 z3)=false,z4<=z1.length,z4<=z0.length],val:=SV.int true IntKind.i64 (1:Int)}:=by kernel_rfl
theorem aZk (c c':Nat) (x0 x1 x2 y0 y1 y2:Int) (xs ys:List Int) :
 yD c c' (x0::x1::x2::xs) (y0::y1::y2::ys) [true,false,true] =
 sh (x0::x1::x2::xs) fun z0=>
 sh (y0::y1::y2::ys) fun z1=>
 sh (0:Int) fun z2=>
 sh (2:Nat) fun z3=>
 sh (1:Nat) fun z4=>
 some {bO:=[decide (z0.getD z4 z2<z1.getD z4 z2)=true,z3<=z1.length,z3<=z0.length,(z0.getD z4 z2==z1.getD z4 z2)=false,z3<=z1.length,z3<=z0.length,(z0.getD z3 z2==z1.getD z3 z2)=true,(3:Nat)<=z1.length,(3:Nat)<=z0.length],val:=SV.int true IntKind.i64 (Int.negSucc 0)}:=by kernel_rfl
theorem aZj (c c':Nat) (x0 x1 x2 y0 y1 y2:Int) (xs ys:List Int) :
 yD c c' (x0::x1::x2::xs) (y0::y1::y2::ys) [true,false,false,true] =
 sh (x0::x1::x2::xs) fun z0=>
 sh (y0::y1::y2::ys) fun z1=>
 sh (0:Int) fun z2=>
 sh (2:Nat) fun z3=>
 sh (1:Nat) fun z4=>
 some {bO:=[decide (z0.getD z4 z2>z1.getD z4 z2)=true,z3<=z1.length,z3<=z0.length,decide (z0.getD z4 z2<z1.getD z4 z2)=false,z3<=z1.length,z3<=z0.length,(z0.getD z4 z2==z1.getD z4 z2)=false,z3<=z1.length,z3<=z0.length,(z0.getD z3 z2==z1.getD z3 z2)=true,(3:Nat)<=z1.length,(3:Nat)<=z0.length],val:=SV.int true IntKind.i64 (1:Int)}:=by kernel_rfl
theorem aZi (c c':Nat) (x0 x1 x2 y0 y1 y2:Int) (xs ys:List Int) :
 yD c c' (x0::x1::x2::xs) (y0::y1::y2::ys) [true,true,true] =
 sh (x0::x1::x2::xs) fun z0=>
 sh (y0::y1::y2::ys) fun z1=>
 sh (0:Int) fun z2=>
 sh (1:Nat) fun z3=>
 sh (2:Nat) fun z4=>
 some {bO:=[decide (z0.getD (0:Nat) z2<z1.getD (0:Nat) z2)=true,z3<=z1.length,z3<=z0.length,(z0.getD z3 z2==z1.getD z3 z2)=true,z4<=z1.length,z4<=z0.length,(z0.getD z4 z2==z1.getD z4 z2)=true,(3:Nat)<=z1.length,(3:Nat)<=z0.length],val:=SV.int true IntKind.i64 (Int.negSucc 0)}:=by kernel_rfl
theorem aZh (c c':Nat) (x0 x1 x2 y0 y1 y2:Int) (xs ys:List Int) :
 yD c c' (x0::x1::x2::xs) (y0::y1::y2::ys) [true,true,false,true] =
 sh (x0::x1::x2::xs) fun z0=>
 sh (y0::y1::y2::ys) fun z1=>
 sh (0:Int) fun z2=>
 sh (1:Nat) fun z3=>
 sh (0:Nat) fun z4=>
 sh (2:Nat) fun z5=>
 some {bO:=[decide (z0.getD z4 z2>z1.getD z4 z2)=true,z3<=z1.length,z3<=z0.length,decide (z0.getD z4 z2<z1.getD z4 z2)=false,z3<=z1.length,z3<=z0.length,(z0.getD z3 z2==z1.getD z3 z2)=true,z5<=z1.length,z5<=z0.length,(z0.getD z5 z2==z1.getD z5 z2)=true,(3:Nat)<=z1.length,(3:Nat)<=z0.length],val:=SV.int true IntKind.i64 (1:Int)}:=by kernel_rfl
theorem aZg (c c':Nat) (x0 x1 x2 y0 y1 y2:Int) (xs ys:List Int) :
 yD c c' (x0::x1::x2::xs) (y0::y1::y2::ys) [true,true,false,false] =
 sh (x0::x1::x2::xs) fun z0=>
 sh (y0::y1::y2::ys) fun z1=>
 sh (0:Int) fun z2=>
 sh (1:Nat) fun z3=>
 sh (0:Nat) fun z4=>
 sh (2:Nat) fun z5=>
 some {bO:=[decide (z0.getD z4 z2>z1.getD z4 z2)=false,z3<=z1.length,z3<=z0.length,decide (z0.getD z4 z2<z1.getD z4 z2)=false,z3<=z1.length,z3<=z0.length,(z0.getD z3 z2==z1.getD z3 z2)=true,z5<=z1.length,z5<=z0.length,(z0.getD z5 z2==z1.getD z5 z2)=true,(3:Nat)<=z1.length,(3:Nat)<=z0.length],val:=SV.int true IntKind.i64 z2}:=by kernel_rfl
namespace M
def cmp (x y:Int):Int:=if x<y then -1 else if y<x then 1 else 0
def n3 (a b c:Int):Int:=a+18446744073709551616*(b+18446744073709551616*c)
end M
def FP:SB->Option (IntKind × List Int)
 | .ints k xs _=>some (k,xs)
 | .own cs _=>uA cs
 | .eQ cs=>uA cs
 | .nT k xs=>some (k,xs)
 | _=>none
def Uf (vs:List SV) (T:aX):Option Canon:=match vs with
 | [.aH l _ 0 3 c,.aH l' _ 0 3 c']=>match (T l).bind FP,(T l').bind FP with
   | some (.u64,x0::x1::x2::xs),some (.u64,y0::y1::y2::ys)=>some { eL:=aFl c c',T0:=[(61,.nT .u64 (x0::x1::x2::xs)),(62,.nT .u64 (y0::y1::y2::ys))],vl:=[(61,.lab l 0),(62,.lab l' 0)],e0:={ val:=.int false .i64 (M.cmp (M.n3 x0 x1 x2) (M.n3 y0 y1 y2)) },conds:=[M.U x0,M.U x1,M.U x2,M.U y0,M.U y1,M.U y2] }
   | _,_=>none
 | _=>none
theorem aDo (Γ:Env) (hg:Γ.aO=aB):aG Tryz.prog Γ 114 (aL aB 100 Uf):=by
 refine aY hg fun vs T c hd hc=>?_
 unfold Uf at hd
 split at hd
 case h_2=>cases hd
 split at hd
 case h_2=>cases hd
 rename_i c _ _ c' _ _ x0 x1 x2 xs y0 y1 y2 ys _ _
 cases hd
 have a0:M.U x0:=hc _ (by simp)
 have a1:M.U x1:=hc _ (by simp)
 have a2:M.U x2:=hc _ (by simp)
 have b0:M.U y0:=hc _ (by simp)
 have b1:M.U y1:=hc _ (by simp)
 have b2:M.U y2:=hc _ (by simp)
 have:=a0.1;have:=a0.2;have:=a1.1;have:=a1.2;have:=a2.1;have:=a2.2
 have:=b0.1;have:=b0.2;have:=b1.1;have:=b1.2;have:=b2.1;have:=b2.2
 have hs:∀ hs,aG Tryz.prog Γv 114 (aK Γv Tryz.f114 true hs 400):=fun hs=>aN kP kQ mix Tryz.func114 (by kernel_rfl) true hs 400
 have fin:∀ {hs:List Bool} {ob:List Prop} {s:Bool} {r:Int},yD c c' (x0::x1::x2::xs) (y0::y1::y2::ys) hs=some { bO:=ob,val:=.int s .i64 r }->(∀ q∈ob,q)->M.cmp (M.n3 x0 x1 x2) (M.n3 y0 y1 y2)=r ->
  aF Tryz.prog Γ 114 (aFl c c') (fun l=>look l [(61,.nT .u64 (x0::x1::x2::xs)),(62,.nT .u64 (y0::y1::y2::ys))]) 100 100 { val:=.int false .i64 (M.cmp (M.n3 x0 x1 x2) (M.n3 y0 y1 y2)) }:=by
  intro h ob s r e ho hr
  exact ((hs h).call e ho).words (by rw [hg];rfl) (fun _=>rfl) (fun _ _ h=>h) (fun V=>by simp only [den,hr]) rfl rfl
 rcases Int.lt_trichotomy x2 y2 with h | rfl | h
 .exact fin (aZm c c' x0 x1 x2 y0 y1 y2 xs ys) (aA (by simp [cA];omega)) (by unfold M.cmp M.n3;rw [if_pos (by omega)];rfl)
 .rcases Int.lt_trichotomy x1 y1 with h | rfl | h
  .exact fin (aZk c c' x0 x1 x2 y0 y1 x2 xs ys) (aA (by simp [cA];omega)) (by unfold M.cmp M.n3;rw [if_pos (by omega)];rfl)
  .rcases Int.lt_trichotomy x0 y0 with h | rfl | h
   .exact fin (aZi c c' x0 x1 x2 y0 x1 x2 xs ys) (aA (by simp [cA];omega)) (by unfold M.cmp M.n3;rw [if_pos (by omega)];rfl)
   .exact fin (aZg c c' x0 x1 x2 x0 x1 x2 xs ys) (aA (by simp [cA])) (by unfold M.cmp M.n3;rw [if_neg (by omega),if_neg (by omega)])
   .exact fin (aZh c c' x0 x1 x2 y0 x1 x2 xs ys) (aA (by simp [cA];omega)) (by unfold M.cmp M.n3;rw [if_neg (by omega),if_pos (by omega)])
  .exact fin (aZj c c' x0 x1 x2 y0 y1 x2 xs ys) (aA (by simp [cA];omega)) (by unfold M.cmp M.n3;rw [if_neg (by omega),if_pos (by omega)])
 .exact fin (aZl c c' x0 x1 x2 y0 y1 y2 xs ys) (aA (by simp [cA];omega)) (by unfold M.cmp M.n3;rw [if_neg (by omega),if_pos (by omega)])
noncomputable def Bh (ex:Nat->Option Sum) (f0:Nat) (hs:List Bool) (f:Nat):Option Sum:=match Nat.beq f f0 with
 | true=>match Tryz.prog.funcs[f0]? with
   | some fn=>some (aK (env ex 22) fn true hs 400)
   | none=>none
 | false=>ex f
theorem lG {ex:Nat->Option Sum} (hex:∀ f S,ex f=some S->∀ Γ:Env,Γ.aO=aB->aG Tryz.prog Γ f S) (f0:Nat) (hs:List Bool):∀ f S,Bh ex f0 hs f=some S->∀ Γ:Env,Γ.aO=aB->aG Tryz.prog Γ f S:=by
 intro f S h Γ hg
 unfold Bh at h
 split at h
 .rename_i e
  rw [cP e]
  split at h
  .rename_i fn tU
   cases h
   exact (aN (bL ex 22) (bV ex hex 22) mix tU (names f0 fn tU) true hs 400).aO (by rw [hg];rfl)
  .cases h
 .exact hex f S h Γ hg
noncomputable def dL (ex:Nat->Option Sum) (f0:Nat) (S0:Sum) (f:Nat):Option Sum:=match Nat.beq f f0 with
 | true=>some S0
 | false=>ex f
theorem bE {ex:Nat->Option Sum} (hex:∀ f S,ex f=some S->∀ Γ:Env,Γ.aO=aB->aG Tryz.prog Γ f S) (f0:Nat) (S0:Sum) (h0:∀ Γ:Env,Γ.aO=aB->aG Tryz.prog Γ f0 S0):∀ f S,dL ex f0 S0 f=some S->∀ Γ:Env,Γ.aO=aB->aG Tryz.prog Γ f S:=by
 intro f S h Γ hg
 unfold dL at h
 split at h
 .rename_i e;cases h;rw [cP e];exact h0 Γ hg
 .exact hex f S h Γ hg
noncomputable def orB (ex:Nat->Option Sum) (f0:Nat) (S0:Sum):Sum:=match Tryz.prog.funcs[f0]? with
 | some fn=>orS S0 (aK (env ex 22) fn true [] 400)
 | none=>S0
theorem HU {ex:Nat->Option Sum} (hex:∀ f S,ex f=some S->∀ Γ:Env,Γ.aO=aB->aG Tryz.prog Γ f S) (f0:Nat) (S0:Sum) (h0:∀ Γ:Env,Γ.aO=aB->aG Tryz.prog Γ f0 S0):∀ Γ:Env,Γ.aO=aB->aG Tryz.prog Γ f0 (orB ex f0 S0):=by
 intro Γ hg
 unfold orB
 split
 .rename_i fn tU
  exact HT (h0 Γ hg) ((aN (bL ex 22) (bV ex hex 22) mix tU (names f0 fn tU) true [] 400).aO (by rw [hg];rfl))
 .exact h0 Γ hg
theorem vZ {i:Nat} (h:i<1000000):IntKind.i64.wrap ((i:Int)+1)=((i+1:Nat):Int):=by rw [IntWalk.i64_in _ (by omega)];omega
theorem UP {xs b:List Int} {t:TypeId} {off:Nat} (hb:b.length=64) (hx:off+64<=xs.length) :
 aF Tryz.prog Aj 84 (aDv off b) (tR xs t) 100 100 { val:=.eD [],wr:=[(60,.ints .u8 (Q.rW off 64 (b.getD · 0) xs) t)] }:=by
 have aU:=Io
 have aV:=Ip
 refine fS aU aV Tryz.func84 (by kernel_rfl) rfl (jX (by kernel_rfl)) rfl [] ?_
 intro w0 M V0 Q' eC H
 refine G.eJ aU aV mix eC [] (aTv xs xs b b t off off 0) (aA ?_) ?_
 .exact ⟨rfl,rfl,⟨rfl,rfl⟩,⟨rfl,rfl⟩,trivial⟩
 refine G.loop (fun r s=>∃ i:Nat,i<=64/\r=64-i/\s=bQ (Pc off i) (Pb (Q.Z off 64 (fun m=>decide (m<i)) (b.getD · 0) xs) b t) 101 [60] []) (r0:=64) ⟨0,by omega,rfl,?_⟩ ?_
 .rw [Q.lH (P':=fun _=>false) _ _ fun m _=>kN (by omega),Q.JC];rfl
 rintro r s ⟨i,hi,rfl,rfl⟩
 have hl:=Q.Nk off 64 (fun m=>decide (m<i)) (b.getD · 0) xs
 by_cases h:i<64
 .refine G.qK aU aV mix eC [true] (aTu xs _ (Q.Z off 64 (fun m=>decide (m<i+1)) (b.getD · 0) xs) b b t off off i ((i+1:Nat):Int)) (aA ?_) (64-(i+1)) (by omega) ⟨i+1,by omega,rfl,rfl⟩
  have e1:off+(i:Int).toNat*1=off+i:=by omega
  refine ⟨by rw [hl];omega,by omega,by rw [hb];omega,by omega,by rw [hl];omega,by omega,decide_eq_true (by omega),rfl,vZ (by omega),⟨?_,rfl⟩,⟨rfl,rfl⟩,trivial⟩
  rw [e1,Nat.add_zero,show 0+(i:Int).toNat*1+0=i by omega]
  rw [show b.getD i 0=(fun j=>b.getD j 0) i from rfl,Q.aDs h (by omega) (kN (by omega))]
  refine Q.lH _ _ fun m hm=>?_
  rw [Bool.eq_iff_iff]
  simp only [Bool.or_eq_true,decide_eq_true_eq,beq_iff_eq]
  omega
 .have e:i=64:=by omega
  subst e
  refine G.eJ aU aV mix eC [false] (aTt xs _ (Q.Z off 64 (fun m=>decide (m<64)) (b.getD · 0) xs) b b t off off (64:Nat) (64:Nat)) (aA ?_) (G.leave (by simp) ?_)
  .exact ⟨kN (by omega),rfl,rfl,⟨rfl,rfl⟩,⟨rfl,rfl⟩,trivial⟩
  refine G.oQ (cl:=[]) aU aV mix [] H (aTs xs _ b t off (64:Nat)) fO rfl rfl ?_
  rw [Q.lH (P':=fun _=>true) _ _ fun m hm=>decide_eq_true (by omega),Q.aDt]
theorem aAe {xs s:List Int} {t:TypeId} {off:Nat} (hs:s.length=16) (hx:off+256<=xs.length) :
 aF Tryz.prog Aj 83 (TF off s) (tR xs t) 100 100 { val:=.eD [],wr:=[(60,.ints .u8 (Q.rW off 256 (Q.iR s) xs) t)] }:=by
 have aU:=Io
 have aV:=Ip
 have TE:=Q.Sz s
 refine fS aU aV Tryz.func83 (by kernel_rfl) rfl (jX (by kernel_rfl)) rfl [] ?_
 intro w0 M V0 Q' eC H
 refine G.eJ aU aV mix eC [] (aYo xs xs s (Q.jA s) (Q.jA s) t off off 0) (aA ?_) ?_
 .exact ⟨rfl,rfl,⟨rfl,rfl⟩,⟨rfl,rfl⟩,(dX TE).symm,trivial⟩
 refine G.loop (fun r s'=>∃ i:Nat,i<=10/\r=10-i/\s'=bQ (Kl off i) (Kj xs (Q.jA s) (Q.it (Q.jA s) i) t) 102 [60] []) (r0:=10) ⟨0,by omega,rfl,rfl⟩ ?_
 rintro r s' ⟨i,hi,rfl,rfl⟩
 by_cases h:i<10
 .refine G.qK aU aV mix eC [true] (aYn xs xs xs (Q.jA s) (Q.it (Q.jA s) i) (Q.jA s) (Q.it (Q.jA s) (i+1)) t off off i ((i+1:Nat):Int)) (aA ?_) (10-(i+1)) (by omega) ⟨i+1,by omega,rfl,rfl⟩
  exact ⟨decide_eq_true (by omega),rfl,vZ (by omega),⟨rfl,rfl⟩,⟨rfl,rfl⟩,(dX (Q.Gn _ TE (i+1))).symm,trivial⟩
 have e:i=10:=by omega
 subst e
 clear hi h
 have hv:=Q.Gn _ TE 10
 refine G.eJ aU aV mix eC [false] (aYm xs xs xs (Q.jA s) (Q.it (Q.jA s) 10) (Q.jA s) (Q.it (Q.jA s) 10) t off off (10:Nat) (10:Nat)) (aA ?_) (G.leave (by simp) ?_)
 .exact ⟨kN (by omega),rfl,rfl,⟨rfl,rfl⟩,⟨rfl,rfl⟩,rfl,trivial⟩
 refine G.eJ aU aV mix eC [] (aYl xs xs xs (Q.jA s) (Q.it (Q.jA s) 10) (Q.jA s) (Q.it (Q.jA s) 10) t off off (10:Nat) 0) (aA ?_) ?_
 .exact ⟨rfl,rfl,⟨rfl,rfl⟩,⟨rfl,rfl⟩,⟨dX hv,rfl⟩,trivial⟩
 refine G.loop (fun r s'=>∃ i:Nat,i<=16/\r=16-i/\s'=bQ (Kk off i) (sN (Q.Z off 256 (Q.dn i 0) (Q.iR s) xs) (Q.jA s) (Q.it (Q.jA s) 10) t) 102 [60] []) (r0:=16) ⟨0,by omega,rfl,by rw [Q.aZd];rfl⟩ ?_
 rintro r s' ⟨i,hi,rfl,rfl⟩
 by_cases h:i<16
 .refine G.eJ aU aV mix eC [true] (aYi xs _ (Q.Z off 256 (Q.dn i 0) (Q.iR s) xs) (Q.jA s) (Q.it (Q.jA s) 10) (Q.jA s) (Q.it (Q.jA s) 10) t off off i i 0) (aA ?_) ?_
  .exact ⟨decide_eq_true (by omega),rfl,rfl,rfl,rfl,⟨rfl,rfl⟩,⟨rfl,rfl⟩,⟨rfl,rfl⟩,trivial⟩
  refine G.loop (fun r s'=>∃ k:Nat,k<=4/\r=4-k/\s'=bQ (Pp off i k) (sN (Q.Z off 256 (Q.dn i k) (Q.iR s) xs) (Q.jA s) (Q.it (Q.jA s) 10) t) 102 [60] []) (r0:=4) ⟨0,by omega,rfl,rfl⟩ ?_
  rintro r s' ⟨k,hk,rfl,rfl⟩
  have hl:=Q.Nk off 256 (Q.dn i k) (Q.iR s) xs
  by_cases h4:k<4
  .refine G.qK aU aV mix eC [true] (aYh xs _ (Q.Z off 256 (Q.dn i (k+1)) (Q.iR s) xs) (Q.jA s) (Q.it (Q.jA s) 10) (Q.jA s) (Q.it (Q.jA s) 10) t off off i i k ((k+1:Nat):Int)) ?_ (4-(k+1)) (by omega) ⟨k+1,by omega,rfl,rfl⟩
   have ho:∀ n,n<=4->∀ r:List Prop,(∀ q∈r,q)->∀ q∈Q.ob off (Q.it (Q.jA s) 10) (Q.jA s) i k (Q.Z off 256 (Q.dn i k) (Q.iR s) xs) n r,q:=by
    intro n
    induction n with
    | zero=>intro _ r hr;exact hr
    | succ n ih=>
      intro hn r hr
      have e1:=Q.aDr off h h4 (n:=n) (by omega)
      have e2:=Q.aDe h h4 (n:=n) (by omega)
      have e3:=Q.Nl off (Q.it (Q.jA s) 10) (Q.jA s) i k (Q.Z off 256 (Q.dn i k) (Q.iR s) xs) n
      rw [Q.ob,e1,e2,e3,hl]
      exact aM (by omega) (aM (by omega) (aM (by omega) (aM (by omega) (ih (by omega) r hr))))
   refine ho 4 (cT 4) _ (aA ?_)
   refine ⟨by rw [TE];omega,by omega,by omega,by rw [hv];omega,by omega,by omega,decide_eq_true (by omega),rfl,rfl,rfl,vZ (by omega),⟨Q.bAh hs h h4 hx,rfl⟩,⟨rfl,rfl⟩,⟨rfl,rfl⟩,trivial⟩
  .have e:k=4:=by omega
   subst e
   refine G.eJ aU aV mix eC [false] (aYg xs _ (Q.Z off 256 (Q.dn i 4) (Q.iR s) xs) (Q.jA s) (Q.it (Q.jA s) 10) (Q.jA s) (Q.it (Q.jA s) 10) t off off i i (4:Nat) (4:Nat)) (aA ?_) (G.leave (by simp) ?_)
   .exact ⟨kN (by omega),rfl,rfl,rfl,rfl,⟨rfl,rfl⟩,⟨rfl,rfl⟩,⟨rfl,rfl⟩,trivial⟩
   refine G.qK aU aV mix eC [] (aYf xs _ (Q.Z off 256 (Q.dn (i+1) 0) (Q.iR s) xs) (Q.jA s) (Q.it (Q.jA s) 10) (Q.jA s) (Q.it (Q.jA s) 10) t off off i ((i+1:Nat):Int) (4:Nat)) (aA ?_) (16-(i+1)) (by omega) ⟨i+1,by omega,rfl,rfl⟩
   exact ⟨rfl,vZ (by omega),⟨Q.aBm _ _ _ _,rfl⟩,⟨rfl,rfl⟩,⟨rfl,rfl⟩,trivial⟩
 .have e:i=16:=by omega
  subst e
  refine G.eJ aU aV mix eC [false] (aYk xs _ (Q.Z off 256 (Q.dn 16 0) (Q.iR s) xs) (Q.jA s) (Q.it (Q.jA s) 10) (Q.jA s) (Q.it (Q.jA s) 10) t off off (16:Nat) (16:Nat)) (aA ?_) (G.leave (by simp) ?_)
  .exact ⟨kN (by omega),rfl,rfl,⟨rfl,rfl⟩,⟨rfl,rfl⟩,⟨rfl,rfl⟩,trivial⟩
  refine G.oQ (cl:=[]) aU aV mix [] H (aYj xs _ (Q.jA s) (Q.it (Q.jA s) 10) t off (16:Nat)) fO rfl rfl ?_
  rw [Q.aSr]
namespace Q
def one (s:List Int):List Int:=B.out (B.rounds 10 s) s
def x4 (off:Nat) (s xs:List Int):List Int:=rW off 256 (iR s) xs
def tn (off:Nat) (b xs:List Int):List Int:=rW off 64 (b.getD · 0) xs
end Q
theorem VB (V:bA) (key aC:List Int) (c:Int):den V (.agg (siV key aC c))=den V (.ai .u32 (B.init key aC c)):=rfl
theorem UY (key aC:List Int) (c:Int) (hk:key.length=32) (hn:aC.length=12) (Γ:Env) (hg:Γ.aO=aB) :
 aF Tryz.prog Γ 79 [.ai .u8 key,.int false .u32 c,.ai .u8 aC] Dv 100 100 { val:=.ai .u32 (B.init key aC c) }:=by
 have hs:aG Tryz.prog (env eY 4) 79 (aK (env eY 4) Tryz.f79 true [] 400):=aN (bL eY 4) (mL 4) mix Tryz.func79 (by kernel_rfl) true [] 400
 refine (hs.call (aGm key aC c) fO).words (by rw [hg];rfl) (fun V=>?_) (fun _ _ h=>h) (fun V=>VB V _ _ _) rfl rfl
 simp only [aJ,bG V hk,bG V hn]
theorem KB (s:List Int) (hl:s.length=16) (Γ:Env) (hg:Γ.aO=aB):aF Tryz.prog Γ 85 [.ai .u32 s] Dv 100 100 { val:=.ai .u8 (Q.one s) }:=by
 have hs:aG Tryz.prog (env eY 4) 85 (aK (env eY 4) Tryz.f85 true [] 400):=aN (bL eY 4) (mL 4) mix Tryz.func85 (by kernel_rfl) true [] 400
 have h:=hs.call (XU s) fO
 rw [dX hl] at h
 refine h.words (by rw [hg];rfl) (fun V=>?_) (fun _ _ h=>h) (fun V=>mS V _ _) rfl rfl
 simp only [aJ,bG V hl]
theorem KT (s b:Bool) (Γ:Env) (hg:Γ.aO=aB):aF Tryz.prog Γ 80 [.raw (.pointer none),.bool s b] Dv 100 100 { val:=.bool s b }:=by
 have hs:aG Tryz.prog (env eY 2) 80 (aK (env eY 2) Tryz.f80 true [] 400):=aN (bL eY 2) (mL 2) mix Tryz.func80 (by kernel_rfl) true [] 400
 have h1:aK (env eY 2) Tryz.f80 true [] 400 [.raw (.pointer none),.bool true true] (fun _=>none) 100 100=some { val:=.bool true true }:=by kernel_rfl
 have h2:aK (env eY 2) Tryz.f80 true [] 400 [.raw (.pointer none),.bool true false] (fun _=>none) 100 100=some { val:=.bool true false }:=by kernel_rfl
 cases b with
 | true=>exact (hs.call h1 fO).words (by rw [hg];rfl) (fun _=>rfl) (fun _ _ h=>by cases h) (fun _=>rfl) rfl rfl
 | false=>exact (hs.call h2 fO).words (by rw [hg];rfl) (fun _=>rfl) (fun _ _ h=>by cases h) (fun _=>rfl) rfl rfl
def tA (vs:List SV) (_:aX):Option Canon:=match vs with
 | [.raw (.pointer none),.bool s b]=>some { eL:=[.raw (.pointer none),.bool s b],T0:=[],vl:=[],e0:={ val:=.bool s b } }
 | _=>none
theorem Cm (Γ:Env) (hg:Γ.aO=aB):aG Tryz.prog Γ 80 (aL aB 100 tA):=by
 refine aY hg fun vs T c hd hc=>?_
 unfold tA at hd
 split at hd
 case h_2=>cases hd
 cases hd
 exact KT _ _ Γ hg
def DZ (si:List Int->List Int->Int->List Int) (vs:List SV) (_:aX):Option Canon:=match vs with
 | [ks,.int _ .u32 c,ns]=>match cL ks,cL ns with
   | some (.u8,k),some (.u8,n)=>some { eL:=[.ai .u8 k,.int false .u32 c,.ai .u8 n],T0:=[],vl:=[],e0:={ val:=.ai .u32 (si k n c) },conds:=[si k n c=B.init k n c,k.length=32,n.length=12] }
   | _,_=>none
 | _=>none
theorem aGl (si:List Int->List Int->Int->List Int) (Γ:Env) (hg:Γ.aO=aB):aG Tryz.prog Γ 79 (aL aB 100 (DZ si)):=by
 refine aY hg fun vs T c hd hc=>?_
 unfold DZ at hd
 split at hd
 case h_2=>cases hd
 split at hd
 case h_2=>cases hd
 cases hd
 have e:=hc _ dC
 rw [e]
 exact UY _ _ _ (hc _ (eM _ dC)) (hc _ (eM _ (eM _ dC))) Γ hg
def Qe (on:List Int->List Int) (vs:List SV) (_:aX):Option Canon:=match vs with
 | [v]=>match cL v with
   | some (.u32,s)=>some { eL:=[.ai .u32 s],T0:=[],vl:=[],e0:={ val:=.ai .u8 (on s) },conds:=[on s=Q.one s,s.length=16] }
   | _=>none
 | _=>none
theorem aIh (on:List Int->List Int) (Γ:Env) (hg:Γ.aO=aB):aG Tryz.prog Γ 85 (aL aB 100 (Qe on)):=by
 refine aY hg fun vs T c hd hc=>?_
 unfold Qe at hd
 split at hd
 case h_2=>cases hd
 split at hd
 case h_2=>cases hd
 cases hd
 have e:=hc _ dC
 have h:=KB _ (hc _ (eM _ dC)) Γ hg
 rw [<- e] at h
 exact h
def FY (x4:Nat->List Int->List Int->List Int) (vs:List SV) (T:aX):Option Canon:=match vs with
 | [v,.ptr l _ off]=>match cL v,T l with
   | some (.u32,s),some B=>match Bq B with
     | some (.u8,xs,t)=>some { eL:=[.ai .u32 s,.ptr 60 false off],T0:=[(60,.ints .u8 xs t)],vl:=[(60,.lab l 0)],e0:={ val:=.eD [],wr:=[(60,.ints .u8 (x4 off s xs) t)] },conds:=[x4 off s xs=Q.x4 off s xs,s.length=16,off+256<=xs.length] }
     | _=>none
   | _,_=>none
 | _=>none
theorem aJt (x4:Nat->List Int->List Int->List Int) (Γ:Env) (hg:Γ.aO=aB):aG Tryz.prog Γ 83 (aL aB 100 (FY x4)):=by
 refine aY hg fun vs T c hd hc=>?_
 unfold FY at hd
 split at hd
 case h_2=>cases hd
 split at hd
 case h_2=>cases hd
 split at hd
 case h_2=>cases hd
 cases hd
 have e:=hc _ dC
 have hl:=hc _ (eM _ dC)
 rw [e]
 exact (aAe hl (hc _ (eM _ (eM _ dC)))).words (by rw [hg];rfl) (fun V=>by simp only [TF,aJ,bG V hl]) (fun _ _ h=>h) (fun _=>rfl) rfl rfl
def DV (tn:Nat->List Int->List Int->List Int) (vs:List SV) (T:aX):Option Canon:=match vs with
 | [.ptr l _ off,v]=>match cL v,T l with
   | some (.u8,b),some B=>match Bq B with
     | some (.u8,xs,t)=>some { eL:=[.ptr 60 false off,.ai .u8 b],T0:=[(60,.ints .u8 xs t)],vl:=[(60,.lab l 0)],e0:={ val:=.eD [],wr:=[(60,.ints .u8 (tn off b xs) t)] },conds:=[tn off b xs=Q.tn off b xs,b.length=64,off+64<=xs.length] }
     | _=>none
   | _,_=>none
 | _=>none
theorem aGh (tn:Nat->List Int->List Int->List Int) (Γ:Env) (hg:Γ.aO=aB):aG Tryz.prog Γ 84 (aL aB 100 (DV tn)):=by
 refine aY hg fun vs T c hd hc=>?_
 unfold DV at hd
 split at hd
 case h_2=>cases hd
 split at hd
 case h_2=>cases hd
 split at hd
 case h_2=>cases hd
 cases hd
 have e:=hc _ dC
 rw [e]
 exact (UP (hc _ (eM _ dC)) (hc _ (eM _ (eM _ dC)))).words (by rw [hg];rfl) (fun _=>rfl) (fun _ _ h=>h) (fun _=>rfl) rfl rfl
noncomputable def aNz (si:List Int->List Int->Int->List Int) (x4 tn:Nat->List Int->List Int->List Int) (on:List Int->List Int):Nat->Option Sum:=
 dL (dL (dL (dL (dL eY 80 (aL aB 100 tA)) 79 (aL aB 100 (DZ si))) 85 (aL aB 100 (Qe on))) 83 (aL aB 100 (FY x4))) 84 (aL aB 100 (DV tn))
theorem fT:∀ f S,eY f=some S->∀ Γ:Env,Γ.aO=aB->aG Tryz.prog Γ f S:=fun f S h Γ _=>tD f S h Γ
theorem aAs (si:List Int->List Int->Int->List Int) (x4 tn:Nat->List Int->List Int->List Int) (on:List Int->List Int):∀ f S,aNz si x4 tn on f=some S->∀ Γ:Env,Γ.aO=aB->aG Tryz.prog Γ f S:=
 bE (bE (bE (bE (bE fT 80 _ Cm) 79 _ (aGl si)) 85 _ (aIh on)) 83 _ (aJt x4)) 84 _ (aGh tn)
namespace P
def W (n:Int):Int:=IntKind.u64.wrap n
def sh (n:Int):Int:=bY .u64 n 26
def lo (n:Int):Int:=bW .u64 n 67108863
def c1 (x:List Int):Int:=W (x.getD 1 0+sh (x.getD 0 0))
def c2 (x:List Int):Int:=W (x.getD 2 0+sh (c1 x))
def c3 (x:List Int):Int:=W (x.getD 3 0+sh (c2 x))
def c4 (x:List Int):Int:=W (x.getD 4 0+sh (c3 x))
def pass (x:List Int):List Int:=[W (lo (x.getD 0 0)+W (5*sh (c4 x))),lo (c1 x),lo (c2 x),lo (c3 x),lo (c4 x)]
def settled (x:List Int):List Int:=pass (pass x)
theorem mU (x:List Int):(settled x).length=5:=rfl
def word (a b c d:Int):Int:=jZ .u64 (jZ .u64 (jZ .u64 (W a) (dD .u64 (W b) 8)) (dD .u64 (W c) 16)) (dD .u64 (W d) 24)
def jR (b:List Int):List Int:=[lo (word (b.getD 0 0) (b.getD 1 0) (b.getD 2 0) (b.getD 3 0)),lo (bY .u64 (word (b.getD 3 0) (b.getD 4 0) (b.getD 5 0) (b.getD 6 0)) 2),
 lo (bY .u64 (word (b.getD 6 0) (b.getD 7 0) (b.getD 8 0) (b.getD 9 0)) 4),bY .u64 (word (b.getD 9 0) (b.getD 10 0) (b.getD 11 0) (b.getD 12 0)) 6,word (b.getD 13 0) (b.getD 14 0) (b.getD 15 0) (b.getD 16 0)]
def num (b:List Int):List Int:=settled (jR b)
def Ii (b:List Int) (i:Nat):Int:=match i%4 with
 | 3=>bW .u8 (b.getD i 0) 15
 | 0=>match i with
   | 0=>b.getD i 0
   | _=>bW .u8 (b.getD i 0) 252
 | _=>b.getD i 0
def dK (b:List Int):List Int:=(List.range 16).map (Ii b)++[0]
def Kv (a b:List Int):List Int:=(List.range 5).map fun j=>W (a.getD j 0+b.getD j 0)
def add (a b:List Int):List Int:=settled (Kv a b)
def sY (a b:List Int) (i:Nat):Nat->List Int->List Int
 | 0,d=>d
 | k+1,d=>(sY a b i k d).set (i+k) (W ((sY a b i k d).getD (i+k) 0+W (a.getD i 0*b.getD k 0)))
def SR (a b:List Int):Nat->List Int
 | 0=>List.replicate 10 0
 | i+1=>sY a b i 5 (SR a b i)
def mulL (a b:List Int):List Int:=(List.range 5).map fun j=>W ((SR a b 5).getD j 0+W (5*(SR a b 5).getD (j+5) 0))
def mul (a b:List Int):List Int:=settled (mulL a b)
end P
namespace P
def g0 (t:List Int):Int:=W (t.getD 0 0+5)
def g1 (t:List Int):Int:=W (t.getD 1 0+sh (g0 t))
def g2 (t:List Int):Int:=W (t.getD 2 0+sh (g1 t))
def g3 (t:List Int):Int:=W (t.getD 3 0+sh (g2 t))
def g4 (t:List Int):Int:=W (t.getD 4 0+sh (g3 t))
def pick (x a b:Int):Int:=gI .u64 b (bW .u64 (W (0-bW .u64 x 1)) (gI .u64 a b))
def xC (t:List Int):List Int:=[pick (sh (g4 t)) (lo (g0 t)) (t.getD 0 0),pick (sh (g4 t)) (lo (g1 t)) (t.getD 1 0),pick (sh (g4 t)) (lo (g2 t)) (t.getD 2 0),pick (sh (g4 t)) (lo (g3 t)) (t.getD 3 0),pick (sh (g4 t)) (lo (g4 t)) (t.getD 4 0)]
def least (a:List Int):List Int:=xC (settled a)
def low (t:List Int):Int:=jZ .u64 (jZ .u64 (t.getD 0 0) (dD .u64 (t.getD 1 0) 26)) (dD .u64 (t.getD 2 0) 52)
def high (t:List Int):Int:=jZ .u64 (jZ .u64 (bY .u64 (t.getD 2 0) 12) (dD .u64 (t.getD 3 0) 14)) (dD .u64 (t.getD 4 0) 40)
def byteOf (x:Int) (i:Nat):Int:=IntKind.u8.wrap (bY .u64 x (8*(i:Int)))
def kU (t:List Int):List Int:=(List.range 8).map (byteOf (low t))++((List.range 8).map (byteOf (high t))++[IntKind.u8.wrap (bY .u64 (t.getD 4 0) 24)])
def acc (b:List Int) (k:Nat):Nat->Int
 | 0=>0
 | i+1=>jZ .u64 (acc b k i) (dD .u64 (W (b.getD (k+i) 0)) (8*(i:Int)))
def DW (b s:List Int):Int:=(acc b 0 8+acc s 0 8+0)%18446744073709551616
def DX (b s:List Int):Int:=(acc b 8 8+acc s 8 8+(acc b 0 8+acc s 0 8+0)/18446744073709551616)%18446744073709551616
def aDx (b s:List Int):List Int:=(List.range 8).map (byteOf (DW b s))++(List.range 8).map (byteOf (DX b s))
end P
def P.tag (a s:List Int):List Int:=P.aDx (P.kU (P.least a)) s
structure P.MS where
 eI:List Int
 sum:List Int
 mask:List Int
 aT:List Int
 held:Nat
def P.plus (s b y:List Int):List Int:=P.mul (P.add s (P.num b)) y
namespace P
def nA:List Int:=List.replicate 16 0
def byte (S:MS) (c:Int):MS:=
 if S.held=15 then ⟨S.eI,plus S.sum (S.aT.set S.held c++[1]) S.eI,S.mask,nA,0⟩
 else ⟨S.eI,S.sum,S.mask,S.aT.set S.held c,S.held+1⟩
def put (S:MS) (d:List Int):MS:=d.foldl byte S
theorem XJ (S:MS):put S []=S:=rfl
theorem lF (S:MS) (a b:List Int):put S (a++b)=put (put S a) b:=List.foldl_append
structure MS.WF (S:MS):Prop where
 b5:S.eI.length=5
 s5:S.sum.length=5
 Oj:S.mask.length=16
 Ol:S.aT.length=16
 hl:S.held<16
 z:S.aT.drop S.held=List.replicate (16-S.held) 0
theorem aBs {S:MS} (h:S.WF) (c:Int):(byte S c).WF:=by
 obtain ⟨eI,sum,mask,aT,held⟩:=S
 obtain ⟨h1,h2,h3,h4,h5,h6⟩:=h
 simp only at h1 h2 h3 h4 h5 h6
 unfold byte
 simp only
 split
 .exact ⟨h1,rfl,h3,rfl,by simp only;omega,rfl⟩
 .refine ⟨h1,h2,h3,by simpa using h4,by simp only;omega,?_⟩
  simp only
  have e:(aT.set held c).drop (held+1)=aT.drop (held+1):=by
   rw [List.drop_set];simp
  rw [e,<- List.drop_drop,h6,List.drop_replicate]
  congr 1
theorem Hu {S:MS} (h:S.WF) (d:List Int):(put S d).WF:=by
 induction d generalizing S with
 | nil=>exact h
 | cons c d ih=>exact ih (aBs h c)
theorem uQ (eI sum mask:List Int):∀ (d aT:List Int) (held:Nat),aT.length=16->held+d.length<16 ->
 put ⟨eI,sum,mask,aT,held⟩ d=⟨eI,sum,mask,aT.take held++d++aT.drop (held+d.length),held+d.length⟩
 | [],aT,held,hb,_=>by simp [put]
 | c::d,aT,held,hb,hl=>by
   rw [List.length_cons] at hl
   have e:put ⟨eI,sum,mask,aT,held⟩ (c::d)=put ⟨eI,sum,mask,aT.set held c,held+1⟩ d:=by
    show put (byte _ c) d=_
    unfold byte
    rw [if_neg (by simp only;omega)]
   rw [e,uQ eI sum mask d (aT.set held c) (held+1) (by simpa using hb) (by omega)]
   have e1:(aT.set held c).take (held+1)=aT.take held++[c]:=by
    rw [List.take_set,List.take_add_one,List.getElem?_eq_getElem (show held<aT.length by omega)]
    apply List.ext_getElem
    .simp;omega
    .intro i h1 h2
     simp only [List.length_set,List.length_append,List.length_take,List.length_cons,List.length_nil] at h1 h2
     by_cases hi:i=held
     .subst hi;simp [List.getElem_append];omega
     .rw [List.getElem_set_ne (by omega)]
      have:i<held:=by simp at h1;omega
      simp [List.getElem_append]
      intro h;omega
   have e2:(aT.set held c).drop (held+1+d.length)=aT.drop (held+1+d.length):=by
    rw [List.drop_set,if_pos (by omega)]
   rw [e1,e2,List.length_cons]
   simp only [List.append_assoc,List.cons_append,mZ,show held+1+d.length=held+(d.length+1) by omega]
theorem Cv (eI sum mask:List Int) (d aT:List Int) (held:Nat) (hb:aT.length=16) (hl:held+d.length=16) (hd:d≠[]) :
 put ⟨eI,sum,mask,aT,held⟩ d=⟨eI,plus sum (aT.take held++d++[1]) eI,mask,nA,0⟩:=by
 obtain ⟨a,c,rfl⟩:∃ a c,d=a++[c]:=⟨d.dropLast,d.getLast hd,(List.dropLast_concat_getLast hd).symm⟩
 rw [List.length_append,List.length_singleton] at hl
 rw [lF,uQ eI sum mask a aT held hb (by omega)]
 show byte _ c=_
 unfold byte
 rw [if_pos (by simp only;omega)]
 simp only
 have e:(aT.take held++a++aT.drop (held+a.length)).set (held+a.length) c=aT.take held++(a++[c]):=by
  have cM:(aT.take held++a).length=held+a.length:=by simp;omega
  obtain ⟨z,hz⟩:∃ z,aT.drop (held+a.length)=[z]:=by
   have:(aT.drop (held+a.length)).length=1:=by simp;omega
   match aT.drop (held+a.length),this with
   | [z],_=>exact ⟨z,rfl⟩
  rw [hz,List.set_append_right _ _ (by omega),cM,Nat.sub_self]
  simp
 rw [e]
end P
theorem aTz (x:List Int):aK (env eY 3) Tryz.f193 true [] 1500 [.agg (cN .u64 5 x)] Dv 100 100=some { val:=.agg ((P.settled x).map (.int false .u64)) }:=by kernel_rfl
theorem UX (x:List Int) (hl:x.length=5) (Γ:Env) (hg:Γ.aO=aB):aF Tryz.prog Γ 193 [.ai .u64 x] Dv 100 100 { val:=.agg (cN .u64 5 (P.settled x)) }:=by
 have hs:aG Tryz.prog (env eY 3) 193 (aK (env eY 3) Tryz.f193 true [] 1500):=aN (bL eY 3) (bV eY (fun f S h Γ _=>tD f S h Γ) 3) mix Tryz.func193 (by kernel_rfl) true [] 1500
 refine (hs.call (aTz x) (by simp)).words (by rw [hg];rfl) (fun V=>?_) (fun _ _ h=>h) (fun V=>(mS V _ _).trans (bG V rfl).symm) rfl rfl
 simp only [aJ,bG V hl]
def DY (fN:List Int->List Int) (vs:List SV) (_:aX):Option Canon:=match vs with
 | [v]=>match cL v with
   | some (.u64,x)=>some { eL:=[.ai .u64 x],T0:=[],vl:=[],e0:={ val:=.agg (cN .u64 5 (fN x)) },conds:=[x.length=5,fN x=P.settled x] }
   | _=>none
 | _=>none
theorem aGk (fN:List Int->List Int) (Γ:Env) (hg:Γ.aO=aB):aG Tryz.prog Γ 193 (aL aB 100 (DY fN)):=by
 refine aY hg fun vs T c hd hc=>?_
 unfold DY at hd
 split at hd
 case h_2=>cases hd
 split at hd
 case h_2=>cases hd
 cases hd
 have e:=hc _ (eM _ dC)
 have h:=UX _ (hc _ dC) Γ hg
 rw [<- e] at h
 exact h
noncomputable def Ps (fN:List Int->List Int):Nat->Option Sum:=dL eY 193 (aL aB 100 (DY fN))
theorem aAq (fN:List Int->List Int):∀ f S,Ps fN f=some S->∀ Γ:Env,Γ.aO=aB->aG Tryz.prog Γ f S:=bE fT 193 _ (aGk fN)
def pOb (fN:List Int->List Int) (Y:List Int):List Prop:=[Y.length=5,fN Y=P.settled Y,Y=Y]
def pV (fN:List Int->List Int) (Y:List Int):SV:=.agg (cN .u64 5 (fN Y))
theorem aZs (fN:List Int->List Int) (b:List Int):aK (env (Ps fN) 4) Tryz.f163 true [] 1500 [.agg (cN .u8 17 b)] Dv 100 100=some { bO:=pOb fN (P.jR b),val:=pV fN (P.jR b) }:=by kernel_rfl
theorem aZn (fN:List Int->List Int) (b:List Int):aK (env (Ps fN) 4) Tryz.f129 true [] 1500 [.agg (cN .u8 16 b)] Dv 100 100=some { bO:=pOb fN (P.jR (P.dK b)),val:=pV fN (P.jR (P.dK b)) }:=by kernel_rfl
theorem aUw (fN:List Int->List Int) (a b:List Int):aK (env (Ps fN) 4) Tryz.f162 true [] 1500 [.raw (.pointer none),.agg (cN .u64 5 a),.agg (cN .u64 5 b)] Dv 100 100=some { bO:=pOb fN (P.Kv a b),val:=pV fN (P.Kv a b) }:=by kernel_rfl
theorem aUu (fN:List Int->List Int) (a b:List Int):aK (env (Ps fN) 4) Tryz.f161 true [] 1500 [.raw (.pointer none),.agg (cN .u64 5 a),.agg (cN .u64 5 b)] Dv 100 100=some { bO:=pOb fN (P.mulL a b),val:=pV fN (P.mulL a b) }:=by kernel_rfl
theorem Ci {Y:List Int} (h:Y.length=5):∀ q∈pOb P.settled Y,q:=aA (l:=pOb P.settled Y) (show _/\_/\_/\True from ⟨h,rfl,rfl,trivial⟩)
theorem Tt (V:bA) (Y:List Int):den V (pV P.settled Y)=den V (.ai .u64 (P.settled Y)):=bG V rfl
noncomputable def yP:Env:=env (Ps P.settled) 4
theorem uG:cF Tryz.prog yP:=bV _ (aAq _) 4
theorem uF:cD Tryz.prog yP:=bL _ 4
theorem aBw (b:List Int) (hl:b.length=17) (Γ:Env) (hg:Γ.aO=aB):aF Tryz.prog Γ 163 [.ai .u8 b] Dv 100 100 { val:=.ai .u64 (P.num b) }:=by
 have hs:aG Tryz.prog yP 163 (aK yP Tryz.f163 true [] 1500):=aN uF uG mix Tryz.func163 (by kernel_rfl) true [] 1500
 refine (hs.call (aZs _ b) (Ci rfl)).words (by rw [hg];rfl) (fun V=>?_) (fun _ _ h=>h) (fun V=>Tt V _) rfl rfl
 simp only [aJ,bG V hl]
theorem OX (b:List Int) (hl:b.length=16) (Γ:Env) (hg:Γ.aO=aB):aF Tryz.prog Γ 129 [.ai .u8 b] Dv 100 100 { val:=.ai .u64 (P.num (P.dK b)) }:=by
 have hs:aG Tryz.prog yP 129 (aK yP Tryz.f129 true [] 1500):=aN uF uG mix Tryz.func129 (by kernel_rfl) true [] 1500
 refine (hs.call (aZn _ b) (Ci rfl)).words (by rw [hg];rfl) (fun V=>?_) (fun _ _ h=>h) (fun V=>Tt V _) rfl rfl
 simp only [aJ,bG V hl]
theorem KA (a b:List Int) (ha:a.length=5) (hb:b.length=5) (Γ:Env) (hg:Γ.aO=aB):aF Tryz.prog Γ 162 [.raw (.pointer none),.ai .u64 a,.ai .u64 b] Dv 100 100 { val:=.ai .u64 (P.add a b) }:=by
 have hs:aG Tryz.prog yP 162 (aK yP Tryz.f162 true [] 1500):=aN uF uG mix Tryz.func162 (by kernel_rfl) true [] 1500
 refine (hs.call (aUw _ a b) (Ci rfl)).words (by rw [hg];rfl) (fun V=>?_) (fun _ _ h=>h) (fun V=>Tt V _) rfl rfl
 simp only [aJ,bG V ha,bG V hb]
theorem JX (a b:List Int) (ha:a.length=5) (hb:b.length=5) (Γ:Env) (hg:Γ.aO=aB):aF Tryz.prog Γ 161 [.raw (.pointer none),.ai .u64 a,.ai .u64 b] Dv 100 100 { val:=.ai .u64 (P.mul a b) }:=by
 have hs:aG Tryz.prog yP 161 (aK yP Tryz.f161 true [] 1500):=aN uF uG mix Tryz.func161 (by kernel_rfl) true [] 1500
 refine (hs.call (aUu _ a b) (Ci rfl)).words (by rw [hg];rfl) (fun V=>?_) (fun _ _ h=>h) (fun V=>Tt V _) rfl rfl
 simp only [aJ,bG V ha,bG V hb]
def agV (x:List Int):SV:=.agg (cN .u64 5 x)
def aiV (x:List Int):SV:=.ai .u64 x
def GY (be:List Int->List Int) (vs:List SV) (_:aX):Option Canon:=match vs with
 | [v]=>match cL v with
   | some (.u8,b)=>some { eL:=[.ai .u8 b],T0:=[],vl:=[],e0:={ val:=.ai .u64 (be b) },conds:=[b.length=17,be b=P.num b] }
   | _=>none
 | _=>none
def Ue (cp:List Int->List Int) (vs:List SV) (_:aX):Option Canon:=match vs with
 | [v]=>match cL v with
   | some (.u8,b)=>some { eL:=[.ai .u8 b],T0:=[],vl:=[],e0:={ val:=agV (cp b) },conds:=[b.length=16,cp b=P.num (P.dK b)] }
   | _=>none
 | _=>none
def Tu (wv:List Int->SV) (g g':List Int->List Int->List Int) (vs:List SV) (_:aX):Option Canon:=match vs with
 | [.raw (.pointer none),v,u]=>match cL v,cL u with
   | some (.u64,a),some (.u64,b)=>some { eL:=[.raw (.pointer none),.ai .u64 a,.ai .u64 b],T0:=[],vl:=[],e0:={ val:=wv (g a b) },conds:=[a.length=5,b.length=5,g a b=g' a b] }
   | _,_=>none
 | _=>none
theorem aLx (be:List Int->List Int) (Γ:Env) (hg:Γ.aO=aB):aG Tryz.prog Γ 163 (aL aB 100 (GY be)):=by
 refine aY hg fun vs T c hd hc=>?_
 unfold GY at hd
 split at hd
 case h_2=>cases hd
 split at hd
 case h_2=>cases hd
 cases hd
 have e:=hc _ (eM _ dC)
 have h:=aBw _ (hc _ dC) Γ hg
 rw [<- e] at h
 exact h
theorem IV (cp:List Int->List Int) (Γ:Env) (hg:Γ.aO=aB):aG Tryz.prog Γ 129 (aL aB 100 (Ue cp)):=by
 refine aY hg fun vs T c hd hc=>?_
 unfold Ue at hd
 split at hd
 case h_2=>cases hd
 split at hd
 case h_2=>cases hd
 cases hd
 have e:=hc _ (eM _ dC)
 have h:=(OX _ (hc _ dC) Γ hg).words (e':={ val:=agV (P.num (P.dK _)) }) rfl (fun _=>rfl) (fun _ _ h=>h) (fun V=>(bG V (P.mU _)).symm) rfl rfl
 rw [<- e] at h
 exact h
theorem aCv {wv:List Int->SV} {g':List Int->List Int->List Int} {f:Nat} (hw:∀ (V:bA) (a b:List Int),den V (.ai .u64 (g' a b))=den V (wv (g' a b))) (g:List Int->List Int->List Int)
 (hN:∀ (a b:List Int),a.length=5->b.length=5->∀ (Γ:Env),Γ.aO=aB->aF Tryz.prog Γ f [.raw (.pointer none),.ai .u64 a,.ai .u64 b] Dv 100 100 { val:=.ai .u64 (g' a b) })
 (Γ:Env) (hg:Γ.aO=aB):aG Tryz.prog Γ f (aL aB 100 (Tu wv g g')):=by
 refine aY hg fun vs T c hd hc=>?_
 unfold Tu at hd
 split at hd
 .split at hd
  case h_2=>cases hd
  cases hd
  have e:=hc _ (eM _ (eM _ dC))
  have h:=(hN _ _ (hc _ dC) (hc _ (eM _ dC)) Γ hg).words (e':={ val:=wv (g' _ _) }) rfl (fun _=>rfl) (fun _ _ h=>h) (fun V=>hw V _ _) rfl rfl
  rw [<- e] at h
  exact h
 .cases hd
noncomputable def aNy (be:List Int->List Int) (al mu:List Int->List Int->List Int):Nat->Option Sum:=dL (dL (dL (dL (dL eY 80 (aL aB 100 tA)) 163 (aL aB 100 (GY be))) 129 (aL aB 100 (Ue fun b=>P.num (P.dK b)))) 162 (aL aB 100 (Tu aiV al P.add))) 161 (aL aB 100 (Tu agV mu P.mul))
theorem aAp (be:List Int->List Int) (al mu:List Int->List Int->List Int):∀ f S,aNy be al mu f=some S->∀ Γ:Env,Γ.aO=aB->aG Tryz.prog Γ f S:=
 bE (bE (bE (bE (bE fT 80 _ Cm) 163 _ (aLx be)) 129 _ (IV _)) 162 _ (aCv (fun _ _ _=>rfl) al KA)) 161 _ (aCv (fun V a b=>(bG V (P.mU _)).symm) mu JX)
theorem aUv (fN:List Int->List Int) (a:List Int):aK (env (Ps fN) 4) Tryz.f195 true [] 1500 [.agg (cN .u64 5 a)] Dv 100 100=some { bO:=pOb fN ((List.range 5).map fun j=>a.getD j 0),val:=.agg ((P.xC (fN ((List.range 5).map fun j=>a.getD j 0))).map (.int false .u64)) }:=by kernel_rfl
theorem XM (a:List Int) (ha:a.length=5) (Γ:Env) (hg:Γ.aO=aB):aF Tryz.prog Γ 195 [.ai .u64 a] Dv 100 100 { val:=.agg (cN .u64 5 (P.least a)) }:=by
 have hs:aG Tryz.prog yP 195 (aK yP Tryz.f195 true [] 1500):=aN uF uG mix Tryz.func195 (by kernel_rfl) true [] 1500
 have e:(List.range 5).map (fun j=>a.getD j 0)=a:=by
  match a,ha with
  | [_,_,_,_,_],_=>rfl
 have h:=aUv P.settled a
 rw [e] at h
 refine (hs.call h (Ci ha)).words (by rw [hg];rfl) (fun V=>?_) (fun _ _ h=>h) (fun V=>(mS V _ _).trans (bG V rfl).symm) rfl rfl
 simp only [aJ,bG V ha]
def Qi (mV:List Int->List Int) (vs:List SV) (_:aX):Option Canon:=match vs with
 | [v]=>match cL v with
   | some (.u64,a)=>some { eL:=[.ai .u64 a],T0:=[],vl:=[],e0:={ val:=.agg (cN .u64 5 (mV a)) },conds:=[a.length=5,mV a=P.least a] }
   | _=>none
 | _=>none
theorem aIz (mV:List Int->List Int) (Γ:Env) (hg:Γ.aO=aB):aG Tryz.prog Γ 195 (aL aB 100 (Qi mV)):=by
 refine aY hg fun vs T c hd hc=>?_
 unfold Qi at hd
 split at hd
 case h_2=>cases hd
 split at hd
 case h_2=>cases hd
 cases hd
 have e:=hc _ (eM _ dC)
 have h:=XM _ (hc _ dC) Γ hg
 rw [<- e] at h
 exact h
noncomputable def TK (mV:List Int->List Int):Nat->Option Sum:=dL eY 195 (aL aB 100 (Qi mV))
theorem aAo (mV:List Int->List Int):∀ f S,TK mV f=some S->∀ Γ:Env,Γ.aO=aB->aG Tryz.prog Γ f S:=bE fT 195 _ (aIz mV)
def aDz (b s:List Int):List Prop:=[0<=P.acc b 8 8/\0<=P.acc s 8 8/\0<=(P.acc b 0 8+P.acc s 0 8+0)/18446744073709551616/\(P.acc b 0 8+P.acc s 0 8+0)/18446744073709551616<=1,0<=P.acc b 0 8/\0<=P.acc s 0 8/\(0:Int)<=0/\(0:Int)<=1]
def c5 (a:List Int):List Int:=(List.range 5).map fun j=>a.getD j 0
theorem aUs (mV:List Int->List Int) (a s:List Int):aK (env (TK mV) 4) Tryz.f132 true [] 3000 [.agg (cN .u64 5 a),.agg (cN .u8 16 s)] Dv 100 100 =
 some { bO:=aDz (P.kU (mV (c5 a))) s++[(c5 a).length=5,mV (c5 a)=P.least (c5 a),c5 a=c5 a],val:=.agg ((P.aDx (P.kU (mV (c5 a))) s).map (.int false .u8)) }:=by kernel_rfl
theorem P.aTg (n:Int):0<=IntKind.u64.wrap n/\IntKind.u64.wrap n<18446744073709551616:=by
 have e:IntKind.u64.wrap n=n%18446744073709551616:=rfl
 rw [e];omega
theorem P.zX (b:List Int) (k:Nat):∀ n,0<=P.acc b k n/\P.acc b k n<18446744073709551616
 | 0=>⟨Int.le_refl 0,(by decide:(0:Int)<18446744073709551616)⟩
 | _+1=>P.aTg _
theorem VA (b s:List Int):∀ q∈aDz b s,q:=by
 have h1:=P.zX b 0 8
 have h2:=P.zX s 0 8
 have h3:=P.zX b 8 8
 have h4:=P.zX s 8 8
 refine aA (l:=aDz b s) (show _/\_/\True from ⟨⟨h3.1,h4.1,?_,?_⟩,⟨h1.1,h2.1,Int.le_refl 0,by decide⟩,trivial⟩)
 .omega
 .omega
theorem XI (a s:List Int) (ha:a.length=5) (xX:s.length=16) (Γ:Env) (hg:Γ.aO=aB):aF Tryz.prog Γ 132 [.ai .u64 a,.ai .u8 s] Dv 100 100 { val:=.agg (cN .u8 16 (P.tag a s)) }:=by
 have hs:aG Tryz.prog (env (TK P.least) 4) 132 (aK (env (TK P.least) 4) Tryz.f132 true [] 3000):=aN (bL _ 4) (bV _ (aAo _) 4) mix Tryz.func132 (by kernel_rfl) true [] 3000
 have e:c5 a=a:=by
  match a,ha with
  | [_,_,_,_,_],_=>rfl
 have h:=aUs P.least a s
 rw [e] at h
 refine (hs.call h (fun q hq=>(List.mem_append.1 hq).elim (VA _ _ q) (aA (l:=[a.length=5,P.least a=P.least a,a=a]) (show _/\_/\_/\True from ⟨ha,rfl,rfl,trivial⟩) q))).words (by rw [hg];rfl) (fun V=>?_) (fun _ _ h=>h) (fun V=>(mS V _ _).trans (bG V (k:=.u8) (n:=16) (xs:=P.tag a s) rfl).symm) rfl rfl
 simp only [aJ,bG V ha,bG V xX]
def Ts (vs:List SV) (_:aX):Option Canon:=match vs with
 | [v,u]=>match cL v,cL u with
   | some (.u64,a),some (.u8,s)=>some { eL:=[.ai .u64 a,.ai .u8 s],T0:=[],vl:=[],e0:={ val:=.agg (cN .u8 16 (P.tag a s)) },conds:=[a.length=5,s.length=16] }
   | _,_=>none
 | _=>none
theorem HR (Γ:Env) (hg:Γ.aO=aB):aG Tryz.prog Γ 132 (aL aB 100 Ts):=by
 refine aY hg fun vs T c hd hc=>?_
 unfold Ts at hd
 split at hd
 case h_2=>cases hd
 split at hd
 case h_2=>cases hd
 cases hd
 exact XI _ _ (hc _ (by simp)) (hc _ (by simp)) Γ hg
noncomputable def aDm (be:List Int->List Int) (al mu:List Int->List Int->List Int):Nat->Option Sum:=dL (aNy be al mu) 132 (aL aB 100 Ts)
theorem OG (be:List Int->List Int) (al mu:List Int->List Int->List Int):∀ f S,aDm be al mu f=some S->∀ Γ:Env,Γ.aO=aB->aG Tryz.prog Γ f S:=bE (aAp be al mu) 132 _ HR
theorem aF.same {P:Program} {Γ:Env} {f:FuncId} {vs:List SV} {T:aX} {lab F l0:Nat} {B:SB} {e:bK} (h:aF P Γ f vs T lab F e) (hT:T l0=some B) (hn:look l0 (e.eW lab)=none) :
 aF P Γ f vs T lab F { e with wr:=(l0,B)::e.wr }:=by
 intro w0 M V T2 w ys aR hT1 hg hf hF hx op a K Q hK
 refine h w0 M V T2 w ys aR hT1 hg hf hF hx op a K Q fun V' x w' h1 h2 h3=>hK V' x w' h1 h2 ?_
 have e1:eT T2 lab { e with wr:=(l0,B)::e.wr }=eT T2 lab e:=by
  funext l
  simp only [eT,bK.eW,List.cons_append] at hn |-
  by_cases q:l=l0
  .subst q;rw [aI,hn,aR l B hT]
  .rw [aE (fun r=>q r.symm)]
 rw [e1]
 exact h3
noncomputable def CI (be:List Int->List Int) (al mu:List Int->List Int->List Int):Env:=env (aDm be al mu) 4
theorem UF (be:List Int->List Int) (al mu:List Int->List Int->List Int):cD Tryz.prog (CI be al mu):=bL _ 4
theorem UG (be:List Int->List Int) (al mu:List Int->List Int->List Int):cF Tryz.prog (CI be al mu):=bV _ (OG be al mu) 4
def mN (S:P.MS):List SV:=.raw (.pointer none)::(cN .u64 5 S.eI++(cN .u64 5 S.sum++(cN .u8 16 S.mask++(cN .u8 16 S.aT++[.int false .i64 (S.held:Int)]))))
def mnL (S:P.MS):List (Nat × SB):=[(60,.own (mN S) 179)]
def mnT (S:P.MS):aX:=fun l=>look l (mnL S)
def mtL (S:P.MS) (d:List Int):List (Nat × SB):=[(60,.own (mN S) 179),(61,.gC .u8 d)]
def PR (S:P.MS) (d:List Int):aX:=fun l=>look l (mtL S d)
def Xk (b:List Int):List Int:=(List.range 17).map fun j=>b.getD j 0
def plX (be:List Int->List Int) (al mu:List Int->List Int->List Int) (S:P.MS) (s b:List Int):List Int:=mu (al (c5 s) (be (Xk b))) (c5 S.eI)
def pnO (be:List Int->List Int) (al mu:List Int->List Int->List Int) (S:P.MS) (s b:List Int):List Prop:=
 let A:=al (c5 s) (be (Xk b))
 [A.length=5,(c5 S.eI).length=5,mu A (c5 S.eI)=P.mul A (c5 S.eI),A=A,c5 S.eI=c5 S.eI,
  (c5 s).length=5,(be (Xk b)).length=5,al (c5 s) (be (Xk b))=P.add (c5 s) (be (Xk b)),c5 s=c5 s,be (Xk b)=be (Xk b),
  (Xk b).length=17,be (Xk b)=P.num (Xk b),Xk b=Xk b]
theorem aUt (be:List Int->List Int) (al mu:List Int->List Int->List Int) (S:P.MS) (s b:List Int):aK (CI be al mu) Tryz.f131 true [] 1500 [.ptr 60 true 0,.agg (cN .u64 5 s),.agg (cN .u8 17 b)] (mnT S) 100 100 =
 some { bO:=pnO be al mu S s b,val:=agV (plX be al mu S s b) }:=by kernel_rfl
theorem iS {a:List Int} (ha:a.length=5):c5 a=a:=by
 match a,ha with
 | [_,_,_,_,_],_=>rfl
theorem IW {a:List Int} (ha:a.length=17):Xk a=a:=by
 match a,ha with
 | [_,_,_,_,_,_,_,_,_,_,_,_,_,_,_,_,_],_=>rfl
def QP (x:SV) (S:P.MS):bK:={ val:=x,wr:=[(60,.own (mN S) 179)] }
theorem XL (S:P.MS) (s b:List Int) (hS:S.eI.length=5) (hs5:s.length=5) (hb:b.length=17) (Γ:Env) (hg:Γ.aO=aB) :
 aF Tryz.prog Γ 131 [.ptr 60 true 0,.ai .u64 s,.ai .u8 b] (mnT S) 100 100 (QP (agV (P.plus s b S.eI)) S):=by
 have hs:aG Tryz.prog (CI P.num P.add P.mul) 131 (aK (CI P.num P.add P.mul) Tryz.f131 true [] 1500):=aN (UF _ _ _) (UG _ _ _) mix Tryz.func131 (by kernel_rfl) true [] 1500
 have h:=hs.call (aUt P.num P.add P.mul S s b) (by
  rw [pnO,iS hS,iS hs5,IW hb]
  exact aA (show _/\_/\_/\_/\_/\_/\_/\_/\_/\_/\_/\_/\_/\True from ⟨rfl,hS,rfl,rfl,rfl,hs5,rfl,rfl,rfl,rfl,hb,rfl,rfl,trivial⟩))
 rw [plX,iS hS,iS hs5,IW hb] at h
 refine (h.same (l0:=60) (by simp only [mnT,mnL,aI]) rfl).words (by rw [hg];rfl) (fun V=>?_) (fun _ _ h=>h) (fun V=>rfl) rfl rfl
 simp only [aJ,bG V hs5,bG V hb]
def msN (cs:List SV):Option P.MS:=match cs with
 | .raw (.pointer none)::r=>match cU .u64 (r.take 5),cU .u64 ((r.drop 5).take 5),cU .u8 ((r.drop 10).take 16),cU .u8 ((r.drop 26).take 16),r.drop 42 with
   | some b,some s,some m,some k,[.int _ .i64 h]=>some ⟨b,s,m,k,h.toNat⟩
   | _,_,_,_,_=>none
 | _=>none
def P.nf (S:P.MS):P.MS:=⟨c5 S.eI,c5 S.sum,dE 16 S.mask,dE 16 S.aT,(S.held:Int).toNat⟩
def ET (pl:List Int->List Int->List Int->List Int) (vs:List SV) (T:aX):Option Canon:=match vs with
 | [.ptr l _ _,v,u]=>match T l,cL v,cL u with
   | some (.own cs ty),some (.u64,s),some (.u8,b)=>match Nat.beq ty 179,msN cs with
     | true,some S=>some { eL:=[.ptr 60 true 0,.ai .u64 s,.ai .u8 b],T0:=mnL S,vl:=[(60,.lab l 0)],e0:=QP (agV (pl s b S.eI)) S,conds:=[pl s b S.eI=P.plus s b S.eI,S.eI.length=5,s.length=5,b.length=17] }
     | _,_=>none
   | _,_,_=>none
 | _=>none
theorem aId (pl:List Int->List Int->List Int->List Int) (Γ:Env) (hg:Γ.aO=aB):aG Tryz.prog Γ 131 (aL aB 100 (ET pl)):=by
 refine aY hg fun vs T c hd hc=>?_
 unfold ET at hd
 split at hd
 case h_2=>cases hd
 split at hd
 case h_2=>cases hd
 split at hd
 case h_2=>cases hd
 cases hd
 have e:=hc _ dC
 have h:=XL _ _ _ (hc _ (eM _ dC)) (hc _ (eM _ (eM _ dC))) (hc _ (eM _ (eM _ (eM _ dC)))) Γ hg
 rw [<- e] at h
 exact h
noncomputable def aEz (pl:List Int->List Int->List Int->List Int):Nat->Option Sum:=dL (dL eY 80 (aL aB 100 tA)) 131 (aL aB 100 (ET pl))
theorem Wf (pl:List Int->List Int->List Int->List Int):∀ f S,aEz pl f=some S->∀ Γ:Env,Γ.aO=aB->aG Tryz.prog Γ f S:=bE (bE fT 80 _ Cm) 131 _ (aId pl)
def qM (b s:List Int) (mk bk:Nat->Int) (h:Int) (S':P.MS):List Prop:=
 ((List.range 5).map fun j=>b.getD j 0=S'.eI.getD j 0)++(((List.range 5).map fun j=>s.getD j 0=S'.sum.getD j 0)++(((List.range 16).map fun j=>mk j=S'.mask.getD j 0)++(((List.range 16).map fun j=>bk j=S'.aT.getD j 0)++[h=(S'.held:Int)])))
def qMS (S S':P.MS):List Prop:=qM S.eI S.sum (S.mask.getD · 0) (S.aT.getD · 0) S.held S'
def tkG (pl:List Int->List Int->List Int->List Int) (y s:List Int) (mk bk:Nat->Int) (h:Int) (N:P.MS) (b:List Int) (r:List Prop):List Prop:=
 (pl (c5 s) b (c5 y)=P.plus (c5 s) b (c5 y))::((c5 y).length=5)::((c5 s).length=5)::(b.length=17)::(c5 s=c5 s)::(b=b)::(qM y s mk bk h N++r)
def tkD (d:List Int):List Int:=(d.take 16).take ((d.take 16).length.min 16)
def RW (d:List Int):List Int:=(List.replicate 17 0).take 0++tkD d++(List.replicate 17 0).drop (0+(tkD d).length)
def tqL (d:List Int):List Int:=(RW d).set 16 1
noncomputable def Oy (pl:List Int->List Int->List Int->List Int):Env:=env (aEz pl) 4
theorem Uq (pl:List Int->List Int->List Int->List Int):cD Tryz.prog (Oy pl):=bL _ 4
theorem Ur (pl:List Int->List Int->List Int->List Int):cF Tryz.prog (Oy pl):=bV _ (Wf pl) 4
def CJ (n:Nat):List SV:=[.ptr 60 true 0,.iH 61 n]
def Al (n:Nat):List (Nat × SV):=[(0,.ptr 60 true 0),(1,.iH 100 n)]
noncomputable def mwM (pl:List Int->List Int->List Int->List Int) (S:P.MS) (d:List Int) (cf:Cf) (K:List Fr) (s:St):Option nM:=fX (Oy pl) (aZ 100 (PR S d)) 100 Tryz.f87.ntmps [8] 400 3000 cf K s
def At (S:P.MS) (d:List Int):List (Nat × SB):=[(60,.own (mN S) 179),(100,.gC .u8 d)]
noncomputable def mwR:Option nM:=mwM (fun a _ _=>a) ⟨[],[],[],[],0⟩ [] (.go (codeOf Tryz.f87)) [] ((yM (CJ 0) 100).hint [false])
noncomputable def Xr:Code:=Eu mwR
noncomputable def mwK:List Fr:=Be mwR
def gT (h:Nat):Bool:=decide ((h:Int)>0)
def mM (d:List Int) (h:Nat):Nat:=d.length.min (16-(h:Int).toNat)
def hq (h m:Nat):Int:=IntKind.i64.wrap ((h:Int)+(m:Int))
def oM (h:Nat):Nat:=if (16:Int)=(h:Int) then 27 else 27+(h:Int).toNat*1
def spM (S:P.MS) (d:List Int) (o m:Nat):List Int:=(dE 16 S.mask++dE 16 S.aT).take (o-11)++d.take m++(dE 16 S.mask++dE 16 S.aT).drop (o-11+(d.take m).length)
def mcO (h n m:Nat) (d:List Int) (r:List Prop):List Prop:=
 (0<=(m:Int)/\(m:Int)<=(n:Int)/\(n:Int)<=(n:Int))::(11<=oM h/\oM h+(d.take m).length<=11+32)::((0:Int)<=16/\(16:Int)<=(16:Nat)/\(0:Int)<=16/\(16:Int)<=16/\0<=(h:Int)/\(h:Int)<=16) ::
  (gT h=true)::(gT h=gT h)::r
theorem aWd (pl:List Int->List Int->List Int->List Int) (S S':P.MS) (d d':List Int) (n n':Nat):eJ 100 Tryz.f87.ntmps (aZ 100 (PR S d)) [.ali 1] (Al n') (At S' d') 101 [60] [] (mwM pl S d (.go (codeOf Tryz.f87)) [] ((yM (CJ n) 100).hint [false])) =
 some (.go (.loop Xr),mwK,(gT S.held=false)::(gT S.held=gT S.held)::(n=n')::(qMS S S'++[d=d'])):=by kernel_rfl
theorem aWc (pl:List Int->List Int->List Int->List Int) (S S':P.MS) (d d':List Int) (n n':Nat):eJ 100 Tryz.f87.ntmps (aZ 100 (PR S d)) [.ali 1] (Al n') (At S' d') 101 [60] [] (mwM pl S d (.go (codeOf Tryz.f87)) [] ((yM (CJ n) 100).hint [true,false])) =
 some (.go (.loop Xr),mwK,((hq S.held (mM d S.held)==16)=false)::((hq S.held (mM d S.held)==16)=(hq S.held (mM d S.held)==16))::(mcO S.held n (mM d S.held) d (((n:Int).toNat-(mM d S.held:Int).toNat=n') ::
  (qM S.eI S.sum (fun j=>(spM S d (oM S.held) (mM d S.held)).getD j 0) (fun j=>(spM S d (oM S.held) (mM d S.held)).getD (16+j) 0) (hq S.held (mM d S.held)) S' ++
   [(d.drop (mM d S.held:Int).toNat).take ((n:Int).toNat-(mM d S.held:Int).toNat)=d'])))):=by kernel_rfl
def Td (f:Nat->Int):List Int:=(List.range 16).map f
def spJ (S:P.MS) (d:List Int) (j:Nat):Int:=(spM S d (oM S.held) (mM d S.held)).getD j 0
def spN (S:P.MS) (d:List Int):P.MS:=⟨c5 S.eI,c5 S.sum,Td (spJ S d),Td fun j=>spJ S d (16+j),(hq S.held (mM d S.held)).toNat⟩
def CM (S:P.MS) (d:List Int):List Int:=Td (fun j=>spJ S d (16+j))++[1]
theorem aWb (pl:List Int->List Int->List Int->List Int) (S S':P.MS) (d d':List Int) (n n':Nat):eJ 100 Tryz.f87.ntmps (aZ 100 (PR S d)) [.ali 1] (Al n') (At S' d') 101 [60] [] (mwM pl S d (.go (codeOf Tryz.f87)) [] ((yM (CJ n) 100).hint [true,true])) =
 some (.go (.loop Xr),mwK,tkG pl S.eI S.sum (spJ S d) (fun j=>spJ S d (16+j)) (hq S.held (mM d S.held)) (spN S d) (CM S d) (((hq S.held (mM d S.held)==16)=true)::((hq S.held (mM d S.held)==16)=(hq S.held (mM d S.held)==16))::(mcO S.held n (mM d S.held) d (((n:Int).toNat-(mM d S.held:Int).toNat=n') ::
  (qM S.eI (pl (c5 S.sum) (CM S d) (c5 S.eI)) (spJ S d) (fun _=>0) 0 S' ++
   [(d.drop (mM d S.held:Int).toNat).take ((n:Int).toNat-(mM d S.held:Int).toNat)=d']))))):=by kernel_rfl
def lT (n:Nat):Bool:=decide ((n:Int)>=16)
def d16 (d:List Int):List Int:=(d.drop (0:Int).toNat).take ((16:Int).toNat-(0:Int).toNat)
theorem aVz (pl:List Int->List Int->List Int->List Int) (S0 S S':P.MS) (d0 d d':List Int) (n n':Nat):eJ 100 Tryz.f87.ntmps (aZ 100 (PR S0 d0)) [] (Al n') (At S' d') 101 [60] [] (mwM pl S0 d0 (.go Xr) [] ((bQ (Al n) (At S d) 101 [60] []).hint [false])) =
 some (.at (.exit 0),[],(lT n=false)::(lT n=lT n)::(n=n')::(qMS S S'++[d=d'])):=by kernel_rfl
theorem aWa (pl:List Int->List Int->List Int->List Int) (S0 S S':P.MS) (d0 d d':List Int) (n n':Nat):eJ 100 Tryz.f87.ntmps (aZ 100 (PR S0 d0)) [] (Al n') (At S' d') 101 [60] [] (mwM pl S0 d0 (.go Xr) [] ((bQ (Al n) (At S d) 101 [60] []).hint [true])) =
 some (.at .normal,[],((0:Int)<=16/\(16:Int)<=(n:Int)/\(n:Int)<=(n:Int))::tkG pl S.eI S.sum (S.mask.getD · 0) (S.aT.getD · 0) S.held (P.nf S) (tqL (d16 d)) ([(tqL (d16 d)).length=17,16<(RW (d16 d)).length,(0:Nat)<=0/\0+(tkD (d16 d)).length<=17,16<=(d16 d).length,16<=16,(0:Int)<=0/\(0:Int)<=16/\(16:Int)<=(n:Int)] ++
  (lT n=true)::(lT n=lT n)::((n:Int).toNat-(16:Int).toNat=n') ::
  (qM S.eI (pl (c5 S.sum) (tqL (d16 d)) (c5 S.eI)) (S.mask.getD · 0) (S.aT.getD · 0) S.held S' ++
   [(d.drop (16:Int).toNat).take ((n:Int).toNat-(16:Int).toNat)=d']))):=by kernel_rfl
def gP (n:Nat):Bool:=decide ((n:Int)>0)
theorem aVx (pl:List Int->List Int->List Int->List Int) (S0 S:P.MS) (d0 d:List Int) (n:Nat):qF (Oy pl) (PR S0 d0) 100 100 Tryz.f87 [] (mwM pl S0 d0 (.at (.exit 0)) mwK ((bQ (Al n) (At S d) 101 [60] []).hint [false])) =
 some { QP (.eD []) S with bO:=[gP n=false,gP n=gP n] }:=by kernel_rfl
def spE (S:P.MS) (d:List Int) (j:Nat):Int:=(spM S d 27 (d.length.min 16)).getD j 0
def spF (S:P.MS) (d:List Int):P.MS:=⟨S.eI,S.sum,Td (spE S d),Td fun j=>spE S d (16+j),d.length.min 16⟩
theorem aVy (pl:List Int->List Int->List Int->List Int) (S0 S:P.MS) (d0 d:List Int) (n:Nat):qF (Oy pl) (PR S0 d0) 100 100 Tryz.f87 [] (mwM pl S0 d0 (.at (.exit 0)) mwK ((bQ (Al n) (At S d) 101 [60] []).hint [true])) =
 some { QP (.eD []) (spF S d) with bO:=[11<=27/\27+(d.take (d.length.min 16)).length<=11+32,gP n=true,gP n=gP n] }:=by kernel_rfl
namespace P
theorem hH {n:Int} (h:0<=n/\n<18446744073709551616):W n=n:=by
 show n%18446744073709551616=n
 omega
theorem sG {n:Int}:sh n=n/67108864:=by
 show n.fdiv (2^26)=_
 rw [Int.fdiv_eq_ediv_of_nonneg _ (by decide)]
 rfl
theorem oB {n:Int} (h:0<=n/\n<18446744073709551616):lo n=n%67108864:=by
 obtain ⟨h0,h1⟩:=h
 obtain ⟨m,rfl⟩:=pW h0
 have hm:m<18446744073709551616:=by omega
 show ((BitVec.ofInt 64 (m:Int) &&& BitVec.ofInt 64 67108863).toNat:Int)%18446744073709551616=_
 have e:(BitVec.ofInt 64 (m:Int) &&& BitVec.ofInt 64 67108863).toNat=m%67108864:=by
  rw [BitVec.toNat_and,BitVec.ofInt_natCast,BitVec.toNat_ofNat,Nat.mod_eq_of_lt (show m<2^64 by omega)]
  exact Nat.and_two_pow_sub_one_eq_mod m 26
 rw [e]
 omega
def L (x:List Int):Int:=x.getD 0 0+67108864*x.getD 1 0+4503599627370496*x.getD 2 0+302231454903657293676544*x.getD 3 0+20282409603651670423947251286016*x.getD 4 0
def p:Int:=1361129467683753853853498429727072845819
structure Ok (x:List Int):Prop where
 len:x.length=5
 a0:0<=x.getD 0 0/\x.getD 0 0<67108864+5
 a1:0<=x.getD 1 0/\x.getD 1 0<67108864
 a2:0<=x.getD 2 0/\x.getD 2 0<67108864
 a3:0<=x.getD 3 0/\x.getD 3 0<67108864
 a4:0<=x.getD 4 0/\x.getD 4 0<67108864
theorem Ir {x:List Int} {m:Int} (hm:m<=1152921504606846976) (h0:0<=x.getD 0 0/\x.getD 0 0<m) (h1:0<=x.getD 1 0/\x.getD 1 0<m) (h2:0<=x.getD 2 0/\x.getD 2 0<m) (h3:0<=x.getD 3 0/\x.getD 3 0<m) (h4:0<=x.getD 4 0/\x.getD 4 0<m) :
 ∃ k1 k2 k3 k4:Int,k1=x.getD 1 0+x.getD 0 0/67108864/\k2=x.getD 2 0+k1/67108864/\k3=x.getD 3 0+k2/67108864/\k4=x.getD 4 0+k3/67108864 /\
   pass x=[x.getD 0 0%67108864+5*(k4/67108864),k1%67108864,k2%67108864,k3%67108864,k4%67108864]:=by
 generalize gB:x.getD 0 0=x0 at *
 generalize fW:x.getD 1 0=x1 at *
 generalize mW:x.getD 2 0=x2 at *
 generalize Ha:x.getD 3 0=x3 at *
 generalize hx4:x.getD 4 0=x4 at *
 have e1:c1 x=x1+x0/67108864:=by unfold c1;rw [gB,fW,sG,hH (by omega)]
 have e2:c2 x=x2+(x1+x0/67108864)/67108864:=by unfold c2;rw [mW,e1,sG,hH (by omega)]
 have e3:c3 x=x3+(x2+(x1+x0/67108864)/67108864)/67108864:=by unfold c3;rw [Ha,e2,sG,hH (by omega)]
 have e4:c4 x=x4+(x3+(x2+(x1+x0/67108864)/67108864)/67108864)/67108864:=by unfold c4;rw [hx4,e3,sG,hH (by omega)]
 refine ⟨_,_,_,_,rfl,rfl,rfl,rfl,?_⟩
 unfold pass
 rw [gB,e1,e2,e3,e4,sG,oB (by omega),oB (by omega),oB (by omega),oB (by omega),oB (by omega),hH (n:=5*_) (by omega),hH (by omega)]
end P
namespace P
theorem Ca (a b c d e:Int):L [a,b,c,d,e]=a+67108864*b+4503599627370496*c+302231454903657293676544*d+20282409603651670423947251286016*e:=rfl
theorem Qc {x:List Int} {m:Int} (hm:m<=1152921504606846976) (h0:0<=x.getD 0 0/\x.getD 0 0<m) (h1:0<=x.getD 1 0/\x.getD 1 0<m) (h2:0<=x.getD 2 0/\x.getD 2 0<m) (h3:0<=x.getD 3 0/\x.getD 3 0<m) (h4:0<=x.getD 4 0/\x.getD 4 0<m) :
 ∃ q:Int,0<=q/\q=(x.getD 4 0+(x.getD 3 0+(x.getD 2 0+(x.getD 1 0+x.getD 0 0/67108864)/67108864)/67108864)/67108864)/67108864/\L (pass x)=L x-p*q/\(pass x).length=5/\(0<=(pass x).getD 0 0/\(pass x).getD 0 0<=67108863+5*q)/\(0<=(pass x).getD 1 0/\(pass x).getD 1 0<67108864)/\(0<=(pass x).getD 2 0/\(pass x).getD 2 0<67108864)/\(0<=(pass x).getD 3 0/\(pass x).getD 3 0<67108864)/\(0<=(pass x).getD 4 0/\(pass x).getD 4 0<67108864):=by
 obtain ⟨k1,k2,k3,k4,e1,e2,e3,e4,e⟩:=Ir hm h0 h1 h2 h3 h4
 refine ⟨k4/67108864,?_⟩
 rw [e]
 simp only [List.getD_cons_zero,List.getD_cons_succ,List.length_cons,List.length_nil,Ca]
 unfold L p
 generalize x.getD 0 0=x0 at *
 generalize x.getD 1 0=x1 at *
 generalize x.getD 2 0=x2 at *
 generalize x.getD 3 0=x3 at *
 generalize x.getD 4 0=x4 at *
 refine ⟨by omega,by rw [e4,e3,e2,e1],?_,(by first | rfl | trivial),⟨by omega,by omega⟩,⟨by omega,by omega⟩,⟨by omega,by omega⟩,⟨by omega,by omega⟩,⟨by omega,by omega⟩⟩
 have d0:=Int.emod_add_mul_ediv x0 67108864
 have d1:=Int.emod_add_mul_ediv k1 67108864
 have d2:=Int.emod_add_mul_ediv k2 67108864
 have d3:=Int.emod_add_mul_ediv k3 67108864
 have d4:=Int.emod_add_mul_ediv k4 67108864
 generalize x0%67108864=l0 at *
 generalize k1%67108864=l1 at *
 generalize k2%67108864=l2 at *
 generalize k3%67108864=l3 at *
 generalize k4%67108864=l4 at *
 generalize x0/67108864=q0 at *
 generalize k1/67108864=q1 at *
 generalize k2/67108864=q2 at *
 generalize k3/67108864=q3 at *
 generalize k4/67108864=q4 at *
 omega
theorem tG {x:List Int} {m:Int} (hm:m<=1152921504606846976) (h0:0<=x.getD 0 0/\x.getD 0 0<m) (h1:0<=x.getD 1 0/\x.getD 1 0<m) (h2:0<=x.getD 2 0/\x.getD 2 0<m) (h3:0<=x.getD 3 0/\x.getD 3 0<m) (h4:0<=x.getD 4 0/\x.getD 4 0<m) :
 Ok (settled x)/\∃ q,L (settled x)=L x-p*q:=by
 obtain ⟨q,a1,a2,a3,a4,a5,a6,a7,a8,a9⟩:=Qc hm h0 h1 h2 h3 h4
 have hq:q<=17179869440:=by omega
 obtain ⟨r,b1,b2,b3,b4,b5,b6,b7,b8,b9⟩:=Qc (x:=pass x) (m:=85966456064) (by omega) ⟨a5.1,by omega⟩ ⟨a6.1,by omega⟩ ⟨a7.1,by omega⟩ ⟨a8.1,by omega⟩ ⟨a9.1,by omega⟩
 have hr:r<=1:=by omega
 refine ⟨⟨b4,⟨b5.1,by unfold settled;omega⟩,b6,b7,b8,b9⟩,q+r,?_⟩
 show L (pass (pass x))=_
 rw [b3,a3,Int.mul_add]
 omega
end P
namespace P
theorem HO (f:Nat->Int):(List.range 5).map f=[f 0,f 1,f 2,f 3,f 4]:=rfl
theorem aMd {a b:List Int} (ha:Ok a) (hb:Ok b):Ok (add a b)/\∃ q,L (add a b)=L a+L b-p*q:=by
 obtain ⟨_,a0,a1,a2,a3,a4⟩:=ha
 obtain ⟨_,b0,b1,b2,b3,b4⟩:=hb
 have e:Kv a b=[a.getD 0 0+b.getD 0 0,a.getD 1 0+b.getD 1 0,a.getD 2 0+b.getD 2 0,a.getD 3 0+b.getD 3 0,a.getD 4 0+b.getD 4 0]:=by
  unfold Kv
  rw [HO,hH (by omega),hH (by omega),hH (by omega),hH (by omega),hH (by omega)]
 obtain ⟨h1,q,h2⟩:=tG (x:=Kv a b) (m:=1073741824) (by omega) (by rw [e];simp only [List.getD_cons_zero];omega) (by rw [e];simp only [List.getD_cons_zero,List.getD_cons_succ];omega) (by rw [e];simp only [List.getD_cons_zero,List.getD_cons_succ];omega) (by rw [e];simp only [List.getD_cons_zero,List.getD_cons_succ];omega) (by rw [e];simp only [List.getD_cons_zero,List.getD_cons_succ];omega)
 refine ⟨h1,q,?_⟩
 show L (settled (Kv a b))=_
 rw [h2,e,Ca]
 unfold L
 omega
end P
namespace P
theorem Vu {x y:Int} (hx:0<=x/\x<67108869) (hy:0<=y/\y<67108869):0<=x*y/\x*y<=4503600164241424:=by
 refine ⟨Int.mul_nonneg hx.1 hy.1,?_⟩
 have h1:x*y<=x*67108868:=Int.mul_le_mul_of_nonneg_left (by omega) hx.1
 have h2:x*67108868<=67108868*67108868:=Int.mul_le_mul_of_nonneg_right (by omega) (by decide)
 omega
def w0 (a b:Nat->Int):Int:=a 0*b 0
def w1 (a b:Nat->Int):Int:=a 0*b 1+a 1*b 0
def w2 (a b:Nat->Int):Int:=a 0*b 2+a 1*b 1+a 2*b 0
def w3 (a b:Nat->Int):Int:=a 0*b 3+a 1*b 2+a 2*b 1+a 3*b 0
def w4 (a b:Nat->Int):Int:=a 0*b 4+a 1*b 3+a 2*b 2+a 3*b 1+a 4*b 0
def w5 (a b:Nat->Int):Int:=a 1*b 4+a 2*b 3+a 3*b 2+a 4*b 1
def w6 (a b:Nat->Int):Int:=a 2*b 4+a 3*b 3+a 4*b 2
def w7 (a b:Nat->Int):Int:=a 3*b 4+a 4*b 3
def w8 (a b:Nat->Int):Int:=a 4*b 4
def B:Int:=4503600164241424
theorem aFs {a:Int} (ha:0<=a/\a<=4503600164241424):W (0+W a)=a:=by rw [hH (n:=a) (by omega),Int.zero_add,hH (by omega)]
theorem aFr {a b:Int} (ha:0<=a/\a<=4503600164241424) (hb:0<=b/\b<=4503600164241424):W (W (0+W a)+W b)=a+b:=by rw [aFs ha,hH (n:=b) (by omega),hH (by omega)]
theorem aFq {a b c:Int} (ha:0<=a/\a<=4503600164241424) (hb:0<=b/\b<=4503600164241424) (hc:0<=c/\c<=4503600164241424):W (W (W (0+W a)+W b)+W c)=a+b+c:=by rw [aFr ha hb,hH (n:=c) (by omega),hH (by omega)]
theorem aFp {a b c d:Int} (ha:0<=a/\a<=4503600164241424) (hb:0<=b/\b<=4503600164241424) (hc:0<=c/\c<=4503600164241424) (hd:0<=d/\d<=4503600164241424):W (W (W (W (0+W a)+W b)+W c)+W d)=a+b+c+d:=by rw [aFq ha hb hc,hH (n:=d) (by omega),hH (by omega)]
theorem bAg {a b c d e:Int} (ha:0<=a/\a<=4503600164241424) (hb:0<=b/\b<=4503600164241424) (hc:0<=c/\c<=4503600164241424) (hd:0<=d/\d<=4503600164241424) (he:0<=e/\e<=4503600164241424):W (W (W (W (W (0+W a)+W b)+W c)+W d)+W e)=a+b+c+d+e:=by rw [aFp ha hb hc hd,hH (n:=e) (by omega),hH (by omega)]
theorem DH {x y:Int} (hx:0<=x/\x<=22518000821207120) (hy:0<=y/\y<=22518000821207120):W (x+W (5*y))=x+5*y:=by rw [hH (n:=5*y) (by omega),hH (by omega)]
theorem aSc {x:Int} (hx:0<=x/\x<=22518000821207120):W (x+W (5*0))=x:=by rw [DH hx ⟨Int.le_refl 0,by decide⟩];omega
theorem Ok.get {a:List Int} (h:Ok a):∀ i,i<5->0<=a.getD i 0/\a.getD i 0<67108869:=by
 intro i hi
 have:=h.a0;have:=h.a1;have:=h.a2;have:=h.a3;have:=h.a4
 match i,hi with
 | 0,_=>omega
 | 1,_=>omega
 | 2,_=>omega
 | 3,_=>omega
 | 4,_=>omega
theorem RZ {a b:Int} (ha:0<=a/\a<=4503600164241424) (hb:0<=b/\b<=4503600164241424):0<=a+b/\a+b<=22518000821207120:=by omega
theorem RY {a b c:Int} (ha:0<=a/\a<=4503600164241424) (hb:0<=b/\b<=4503600164241424) (hc:0<=c/\c<=4503600164241424):0<=a+b+c/\a+b+c<=22518000821207120:=by omega
theorem RX {a b c d:Int} (ha:0<=a/\a<=4503600164241424) (hb:0<=b/\b<=4503600164241424) (hc:0<=c/\c<=4503600164241424) (hd:0<=d/\d<=4503600164241424):0<=a+b+c+d/\a+b+c+d<=22518000821207120:=by omega
theorem aMj {a b c d e:Int} (ha:0<=a/\a<=4503600164241424) (hb:0<=b/\b<=4503600164241424) (hc:0<=c/\c<=4503600164241424) (hd:0<=d/\d<=4503600164241424) (he:0<=e/\e<=4503600164241424):0<=a+b+c+d+e/\a+b+c+d+e<=22518000821207120:=by omega
theorem SA {a:Int} (ha:0<=a/\a<=4503600164241424):0<=a/\a<=22518000821207120:=by omega
theorem YD (a b:List Int):SR a b 5=[W (0+W (a.getD 0 0*b.getD 0 0)),W (W (0+W (a.getD 0 0*b.getD 1 0))+W (a.getD 1 0*b.getD 0 0)),
 W (W (W (0+W (a.getD 0 0*b.getD 2 0))+W (a.getD 1 0*b.getD 1 0))+W (a.getD 2 0*b.getD 0 0)),
 W (W (W (W (0+W (a.getD 0 0*b.getD 3 0))+W (a.getD 1 0*b.getD 2 0))+W (a.getD 2 0*b.getD 1 0))+W (a.getD 3 0*b.getD 0 0)),
 W (W (W (W (W (0+W (a.getD 0 0*b.getD 4 0))+W (a.getD 1 0*b.getD 3 0))+W (a.getD 2 0*b.getD 2 0))+W (a.getD 3 0*b.getD 1 0))+W (a.getD 4 0*b.getD 0 0)),
 W (W (W (W (0+W (a.getD 1 0*b.getD 4 0))+W (a.getD 2 0*b.getD 3 0))+W (a.getD 3 0*b.getD 2 0))+W (a.getD 4 0*b.getD 1 0)),
 W (W (W (0+W (a.getD 2 0*b.getD 4 0))+W (a.getD 3 0*b.getD 3 0))+W (a.getD 4 0*b.getD 2 0)),
 W (W (0+W (a.getD 3 0*b.getD 4 0))+W (a.getD 4 0*b.getD 3 0)),W (0+W (a.getD 4 0*b.getD 4 0)),0]:=by kernel_rfl
theorem YE {a b:List Int} (ha:Ok a) (hb:Ok b) :
 mulL a b=[w0 (a.getD · 0) (b.getD · 0)+5*w5 (a.getD · 0) (b.getD · 0),w1 (a.getD · 0) (b.getD · 0)+5*w6 (a.getD · 0) (b.getD · 0),w2 (a.getD · 0) (b.getD · 0)+5*w7 (a.getD · 0) (b.getD · 0),w3 (a.getD · 0) (b.getD · 0)+5*w8 (a.getD · 0) (b.getD · 0),w4 (a.getD · 0) (b.getD · 0)]:=by
 have r:∀ i k,i<5->k<5->0<=a.getD i 0*b.getD k 0/\a.getD i 0*b.getD k 0<=4503600164241424:=fun i k hi hk=>Vu (ha.get i hi) (hb.get k hk)
 have e:=YD a b
 have q:∀ i k,i<5->k<5->0<=a.getD i 0*b.getD k 0/\a.getD i 0*b.getD k 0<=4503600164241424:=r
 have t00:=r 0 0 (by decide) (by decide);have t01:=r 0 1 (by decide) (by decide);have t02:=r 0 2 (by decide) (by decide);have t03:=r 0 3 (by decide) (by decide);have t04:=r 0 4 (by decide) (by decide)
 have t10:=r 1 0 (by decide) (by decide);have t11:=r 1 1 (by decide) (by decide);have t12:=r 1 2 (by decide) (by decide);have t13:=r 1 3 (by decide) (by decide);have t14:=r 1 4 (by decide) (by decide)
 have t20:=r 2 0 (by decide) (by decide);have t21:=r 2 1 (by decide) (by decide);have t22:=r 2 2 (by decide) (by decide);have t23:=r 2 3 (by decide) (by decide);have t24:=r 2 4 (by decide) (by decide)
 have t30:=r 3 0 (by decide) (by decide);have t31:=r 3 1 (by decide) (by decide);have t32:=r 3 2 (by decide) (by decide);have t33:=r 3 3 (by decide) (by decide);have t34:=r 3 4 (by decide) (by decide)
 have t40:=r 4 0 (by decide) (by decide);have t41:=r 4 1 (by decide) (by decide);have t42:=r 4 2 (by decide) (by decide);have t43:=r 4 3 (by decide) (by decide);have t44:=r 4 4 (by decide) (by decide)
 rw [aFs t00,aFr t01 t10,aFq t02 t11 t20,aFp t03 t12 t21 t30,bAg t04 t13 t22 t31 t40,aFp t14 t23 t32 t41,aFq t24 t33 t42,aFr t34 t43,aFs t44] at e
 unfold mulL
 rw [HO,e]
 simp only [List.getD_cons_zero,List.getD_cons_succ,w0,w1,w2,w3,w4,w5,w6,w7,w8]
 rw [DH (SA t00) (RX t14 t23 t32 t41),DH (RZ t01 t10) (RY t24 t33 t42),DH (RY t02 t11 t20) (RZ t34 t43),DH (RX t03 t12 t21 t30) (SA t44),aSc (aMj t04 t13 t22 t31 t40)]
end P
namespace P
theorem ex (c d x y:Int):(c*x)*(d*y)=(c*d)*(x*y):=by rw [Int.mul_assoc,Int.mul_left_comm x d y,<- Int.mul_assoc]
theorem aIb (a0 a1 a2 a3 a4 b0 b1 b2 b3 b4:Int) :
 (1*a0+67108864*a1+4503599627370496*a2+302231454903657293676544*a3+20282409603651670423947251286016*a4)*(1*b0+67108864*b1+4503599627370496*b2+302231454903657293676544*b3+20282409603651670423947251286016*b4) =
  (a0*b0+5*(a1*b4+a2*b3+a3*b2+a4*b1))+67108864*(a0*b1+a1*b0+5*(a2*b4+a3*b3+a4*b2))+4503599627370496*(a0*b2+a1*b1+a2*b0+5*(a3*b4+a4*b3))+302231454903657293676544*(a0*b3+a1*b2+a2*b1+a3*b0+5*(a4*b4))+20282409603651670423947251286016*(a0*b4+a1*b3+a2*b2+a3*b1+a4*b0) +
   1361129467683753853853498429727072845819*((a1*b4+a2*b3+a3*b2+a4*b1)+67108864*(a2*b4+a3*b3+a4*b2)+4503599627370496*(a3*b4+a4*b3)+302231454903657293676544*(a4*b4)):=by
 simp only [Int.add_mul,Int.mul_add]
 rw [ex 1 1 a0 b0,ex 1 67108864 a0 b1,ex 1 4503599627370496 a0 b2,ex 1 302231454903657293676544 a0 b3,ex 1 20282409603651670423947251286016 a0 b4,ex 67108864 1 a1 b0,ex 67108864 67108864 a1 b1,ex 67108864 4503599627370496 a1 b2,ex 67108864 302231454903657293676544 a1 b3,ex 67108864 20282409603651670423947251286016 a1 b4,ex 4503599627370496 1 a2 b0,ex 4503599627370496 67108864 a2 b1,ex 4503599627370496 4503599627370496 a2 b2,ex 4503599627370496 302231454903657293676544 a2 b3,ex 4503599627370496 20282409603651670423947251286016 a2 b4,ex 302231454903657293676544 1 a3 b0,ex 302231454903657293676544 67108864 a3 b1,ex 302231454903657293676544 4503599627370496 a3 b2,ex 302231454903657293676544 302231454903657293676544 a3 b3,ex 302231454903657293676544 20282409603651670423947251286016 a3 b4,ex 20282409603651670423947251286016 1 a4 b0,ex 20282409603651670423947251286016 67108864 a4 b1,ex 20282409603651670423947251286016 4503599627370496 a4 b2,ex 20282409603651670423947251286016 302231454903657293676544 a4 b3,ex 20282409603651670423947251286016 20282409603651670423947251286016 a4 b4]
 generalize a0*b0=m00
 generalize a0*b1=m01
 generalize a0*b2=m02
 generalize a0*b3=m03
 generalize a0*b4=m04
 generalize a1*b0=m10
 generalize a1*b1=m11
 generalize a1*b2=m12
 generalize a1*b3=m13
 generalize a1*b4=m14
 generalize a2*b0=m20
 generalize a2*b1=m21
 generalize a2*b2=m22
 generalize a2*b3=m23
 generalize a2*b4=m24
 generalize a3*b0=m30
 generalize a3*b1=m31
 generalize a3*b2=m32
 generalize a3*b3=m33
 generalize a3*b4=m34
 generalize a4*b0=m40
 generalize a4*b1=m41
 generalize a4*b2=m42
 generalize a4*b3=m43
 generalize a4*b4=m44
 omega
theorem aIo {a b:List Int} (ha:Ok a) (hb:Ok b):Ok (mul a b)/\∃ q,L (mul a b)=L a*L b-p*q:=by
 have r:∀ i k,i<5->k<5->0<=a.getD i 0*b.getD k 0/\a.getD i 0*b.getD k 0<=4503600164241424:=fun i k hi hk=>Vu (ha.get i hi) (hb.get k hk)
 have t00:=r 0 0 (by decide) (by decide);have t01:=r 0 1 (by decide) (by decide);have t02:=r 0 2 (by decide) (by decide);have t03:=r 0 3 (by decide) (by decide);have t04:=r 0 4 (by decide) (by decide)
 have t10:=r 1 0 (by decide) (by decide);have t11:=r 1 1 (by decide) (by decide);have t12:=r 1 2 (by decide) (by decide);have t13:=r 1 3 (by decide) (by decide);have t14:=r 1 4 (by decide) (by decide)
 have t20:=r 2 0 (by decide) (by decide);have t21:=r 2 1 (by decide) (by decide);have t22:=r 2 2 (by decide) (by decide);have t23:=r 2 3 (by decide) (by decide);have t24:=r 2 4 (by decide) (by decide)
 have t30:=r 3 0 (by decide) (by decide);have t31:=r 3 1 (by decide) (by decide);have t32:=r 3 2 (by decide) (by decide);have t33:=r 3 3 (by decide) (by decide);have t34:=r 3 4 (by decide) (by decide)
 have t40:=r 4 0 (by decide) (by decide);have t41:=r 4 1 (by decide) (by decide);have t42:=r 4 2 (by decide) (by decide);have t43:=r 4 3 (by decide) (by decide);have t44:=r 4 4 (by decide) (by decide)
 have f:∀ {x y:Int},0<=x/\x<=22518000821207120->0<=y/\y<=22518000821207120->0<=x+5*y/\x+5*y<1152921504606846976:=fun h1 h2=>by omega
 have g:∀ {x:Int},0<=x/\x<=22518000821207120->0<=x/\x<1152921504606846976:=fun h1=>by omega
 have e:=YE ha hb
 obtain ⟨h1,q,h2⟩:=tG (x:=mulL a b) (m:=1152921504606846976) (Int.le_refl _) (by rw [e];exact f (SA t00) (RX t14 t23 t32 t41)) (by rw [e];exact f (RZ t01 t10) (RY t24 t33 t42)) (by rw [e];exact f (RY t02 t11 t20) (RZ t34 t43)) (by rw [e];exact f (RX t03 t12 t21 t30) (SA t44)) (by rw [e];exact g (aMj t04 t13 t22 t31 t40))
 refine ⟨h1,q+(w5 (a.getD · 0) (b.getD · 0)+67108864*w6 (a.getD · 0) (b.getD · 0)+4503599627370496*w7 (a.getD · 0) (b.getD · 0)+302231454903657293676544*w8 (a.getD · 0) (b.getD · 0)),?_⟩
 show L (settled (mulL a b))=_
 have hp:=aIb (a.getD 0 0) (a.getD 1 0) (a.getD 2 0) (a.getD 3 0) (a.getD 4 0) (b.getD 0 0) (b.getD 1 0) (b.getD 2 0) (b.getD 3 0) (b.getD 4 0)
 have lx:∀ x:List Int,L x=1*x.getD 0 0+67108864*x.getD 1 0+4503599627370496*x.getD 2 0+302231454903657293676544*x.getD 3 0+20282409603651670423947251286016*x.getD 4 0:=fun x=>by unfold L;rw [Int.one_mul]
 rw [h2,e,Ca,Int.mul_add,lx a,lx b,hp]
 simp only [w0,w1,w2,w3,w4,w5,w6,w7,w8,p]
 clear h1 h2 hp lx e f g r t00 t01 t02 t03 t04 t10 t11 t12 t13 t14 t20 t21 t22 t23 t24 t30 t31 t32 t33 t34 t40 t41 t42 t43 t44
 omega
end P
namespace P
def sE (x:Int):Prop:=0<=x/\x<256
theorem or_eq {x y k:Nat} (hx:x<2^k) (h:y*2^k+x<18446744073709551616):jZ .u64 (x:Int) ((y*2^k:Nat):Int)=((y*2^k+x:Nat):Int):=by
 show (((BitVec.ofInt 64 (x:Int) ||| BitVec.ofInt 64 ((y*2^k:Nat):Int)).toNat:Nat):Int)%18446744073709551616=_
 have e:(BitVec.ofInt 64 (x:Int) ||| BitVec.ofInt 64 ((y*2^k:Nat):Int)).toNat=y*2^k+x:=by
  rw [BitVec.toNat_or,BitVec.ofInt_natCast,BitVec.ofInt_natCast,BitVec.toNat_ofNat,BitVec.toNat_ofNat,Nat.mod_eq_of_lt (show x<2^64 by omega),Nat.mod_eq_of_lt (show y*2^k<2^64 by omega),Nat.or_comm,<- Nat.shiftLeft_eq]
  exact (Nat.shiftLeft_add_eq_or_of_lt hx y).symm
 rw [e]
 omega
theorem aUe {y:Int} (h:sE y):dD .u64 (W y) 8=y*256:=by
 have:=h.1;have:=h.2
 rw [hH (by omega)]
 show (y*256)%18446744073709551616=_
 omega
theorem aPl {y:Int} (h:sE y):dD .u64 (W y) 16=y*65536:=by
 have:=h.1;have:=h.2
 rw [hH (by omega)]
 show (y*65536)%18446744073709551616=_
 omega
theorem aPk {y:Int} (h:sE y):dD .u64 (W y) 24=y*16777216:=by
 have:=h.1;have:=h.2
 rw [hH (by omega)]
 show (y*16777216)%18446744073709551616=_
 omega
theorem EW {x y:Int} {k:Nat} {m:Int} (hm:m=((2^k:Nat):Int)) (hk:k<=24) (hx:0<=x/\x<m) (hy:sE y):jZ .u64 x (y*m)=x+y*m:=by
 obtain ⟨a,rfl⟩:=pW hx.1
 obtain ⟨b,rfl⟩:=pW hy.1
 have hb:=hy.2
 subst hm
 have h1:a<2^k:=by have:=hx.2;omega
 have h2:(2:Nat)^k<=2^24:=Nat.pow_le_pow_right (by decide) hk
 have h3:b*2^k<=255*2^24:=Nat.mul_le_mul (by omega) h2
 have h4:(255:Nat)*2^24+2^24<18446744073709551616:=by decide
 rw [<- Int.natCast_mul,or_eq h1 (by omega)]
 rw [Int.natCast_add];omega
theorem uK {a b c d:Int} (ha:sE a) (hb:sE b) (hc:sE c) (hd:sE d):word a b c d=a+256*b+65536*c+16777216*d:=by
 have:=ha.1;have:=ha.2;have:=hb.1;have:=hb.2;have:=hc.1;have:=hc.2
 unfold word
 rw [aUe hb,aPl hc,aPk hd,hH (by omega),EW (k:=8) (m:=256) rfl (by decide) (by omega) hb,EW (k:=16) (m:=65536) rfl (by decide) (by omega) hc,EW (k:=24) (m:=16777216) rfl (by decide) (by omega) hd]
 omega
theorem Cc (n:Int) (k:Nat) (hk:k<=64):bY .u64 n (k:Int)=n/((2^k:Nat):Int):=by
 unfold bY
 rw [sJ,show min k IntKind.u64.bits=k from Nat.min_eq_left hk,Int.fdiv_eq_ediv_of_nonneg _ (Int.le_of_lt (Int.pow_pos (by decide))),Int.natCast_pow]
 rfl
theorem SD (n:Int):bY .u64 n 2=n/4:=Cc n 2 (by decide)
theorem aUd (n:Int):bY .u64 n 4=n/16:=Cc n 4 (by decide)
theorem aUc (n:Int):bY .u64 n 6=n/64:=Cc n 6 (by decide)
def Ow (b:List Int):Int:=b.getD 0 0+256*b.getD 1 0+65536*b.getD 2 0+16777216*b.getD 3 0+4294967296*b.getD 4 0+1099511627776*b.getD 5 0+281474976710656*b.getD 6 0+72057594037927936*b.getD 7 0+18446744073709551616*b.getD 8 0+4722366482869645213696*b.getD 9 0+1208925819614629174706176*b.getD 10 0+309485009821345068724781056*b.getD 11 0+79228162514264337593543950336*b.getD 12 0+20282409603651670423947251286016*b.getD 13 0+5192296858534827628530496329220096*b.getD 14 0+1329227995784915872903807060280344576*b.getD 15 0+340282366920938463463374607431768211456*b.getD 16 0
theorem KH {b:List Int} (hb:∀ i,sE (b.getD i 0)):L (jR b)=Ow b/\(0<=(jR b).getD 0 0/\(jR b).getD 0 0<4294967296)/\(0<=(jR b).getD 1 0/\(jR b).getD 1 0<4294967296)/\(0<=(jR b).getD 2 0/\(jR b).getD 2 0<4294967296)/\(0<=(jR b).getD 3 0/\(jR b).getD 3 0<4294967296)/\(0<=(jR b).getD 4 0/\(jR b).getD 4 0<4294967296):=by
 have h0:=hb 0;have h1:=hb 1;have h2:=hb 2;have h3:=hb 3;have h4:=hb 4;have h5:=hb 5;have h6:=hb 6;have h7:=hb 7;have h8:=hb 8;have h9:=hb 9;have h10:=hb 10;have h11:=hb 11;have h12:=hb 12;have h13:=hb 13;have h14:=hb 14;have h15:=hb 15;have tQ:=hb 16
 unfold jR
 rw [uK h0 h1 h2 h3,uK h3 h4 h5 h6,uK h6 h7 h8 h9,uK h9 h10 h11 h12,uK h13 h14 h15 tQ,SD,aUd,aUc]
 unfold Ow
 unfold sE at *
 clear hb
 generalize b.getD 0 0=b0 at *
 generalize b.getD 1 0=b1 at *
 generalize b.getD 2 0=b2 at *
 generalize b.getD 3 0=b3 at *
 generalize b.getD 4 0=b4 at *
 generalize b.getD 5 0=b5 at *
 generalize b.getD 6 0=b6 at *
 generalize b.getD 7 0=b7 at *
 generalize b.getD 8 0=b8 at *
 generalize b.getD 9 0=b9 at *
 generalize b.getD 10 0=cY at *
 generalize b.getD 11 0=cX at *
 generalize b.getD 12 0=cW at *
 generalize b.getD 13 0=dB at *
 generalize b.getD 14 0=dA at *
 generalize b.getD 15 0=gD at *
 generalize b.getD 16 0=iO at *
 have l0:lo (b0+256*b1+65536*b2+16777216*b3)=b0+256*b1+65536*b2+16777216*(b3%4):=by
  rw [oB (by omega)];omega
 have l1:lo ((b3+256*b4+65536*b5+16777216*b6)/4)=b3/4+64*b4+16384*b5+4194304*(b6%16):=by
  rw [oB (by omega)];omega
 have l2:lo ((b6+256*b7+65536*b8+16777216*b9)/16)=b6/16+16*b7+4096*b8+1048576*(b9%64):=by
  rw [oB (by omega)];omega
 have l3:(b9+256*cY+65536*cX+16777216*cW)/64=b9/64+4*cY+1024*cX+262144*cW:=by omega
 rw [l0,l1,l2,l3]
 simp only [List.getD_cons_zero,List.getD_cons_succ,Ca]
 have d3:=Int.emod_add_mul_ediv b3 4
 have d6:=Int.emod_add_mul_ediv b6 16
 have d9:=Int.emod_add_mul_ediv b9 64
 refine ⟨?_,by omega,by omega,by omega,by omega,by omega⟩
 generalize b3%4=r3 at *
 generalize b3/4=q3 at *
 generalize b6%16=r6 at *
 generalize b6/16=q6 at *
 generalize b9%64=r9 at *
 generalize b9/64=q9 at *
 omega
theorem Hw {b:List Int} (hb:∀ i,sE (b.getD i 0)):Ok (num b)/\∃ q,L (num b)=Ow b-p*q:=by
 obtain ⟨h,a0,a1,a2,a3,a4⟩:=KH hb
 obtain ⟨h1,q,h2⟩:=tG (x:=jR b) (m:=4294967296) (by omega) a0 a1 a2 a3 a4
 exact ⟨h1,q,by rw [<- h];exact h2⟩
end P
namespace P
theorem Hs (x y:Int):gI .u64 x y=((BitVec.ofInt 64 x ^^^ BitVec.ofInt 64 y).toNat:Int):=by
 show ((BitVec.ofInt 64 x ^^^ BitVec.ofInt 64 y).toNat:Int)%18446744073709551616=_
 have:=(BitVec.ofInt 64 x ^^^ BitVec.ofInt 64 y).isLt
 omega
theorem JB (x y:Int):bW .u64 x y=((BitVec.ofInt 64 x &&& BitVec.ofInt 64 y).toNat:Int):=by
 show ((BitVec.ofInt 64 x &&& BitVec.ofInt 64 y).toNat:Int)%18446744073709551616=_
 have:=(BitVec.ofInt 64 x &&& BitVec.ofInt 64 y).isLt
 omega
theorem Ij (x:BitVec 64):BitVec.ofInt 64 (x.toNat:Int)=x:=by rw [BitVec.ofInt_natCast,BitVec.ofNat_toNat,BitVec.setWidth_eq]
theorem ID {x:Int} (h:0<=x/\x<18446744073709551616):((BitVec.ofInt 64 x).toNat:Int)=x:=by
 obtain ⟨m,rfl⟩:=pW h.1
 rw [BitVec.ofInt_natCast,BitVec.toNat_ofNat,Nat.mod_eq_of_lt (show m<2^64 by omega)]
theorem Ld {a b:Int} (hb:0<=b/\b<18446744073709551616):pick 0 a b=b:=by
 unfold pick
 rw [show W (0-bW .u64 0 1)=0 by decide,Hs a b,JB,Ij,show BitVec.ofInt 64 0=0#64 from rfl,BitVec.zero_and,Hs,Ij,BitVec.xor_zero]
 exact ID hb
theorem Lc {a b:Int} (ha:0<=a/\a<18446744073709551616):pick 1 a b=a:=by
 unfold pick
 rw [show W (0-bW .u64 1 1)=18446744073709551615 by decide,Hs a b,JB,Ij,show BitVec.ofInt 64 18446744073709551615=BitVec.allOnes 64 by decide,BitVec.allOnes_and,Hs,Ij,BitVec.xor_comm (BitVec.ofInt 64 a),<- BitVec.xor_assoc,BitVec.xor_self,BitVec.zero_xor]
 exact ID ha
structure QG (x:List Int):Prop where
 len:x.length=5
 a0:0<=x.getD 0 0/\x.getD 0 0<67108864
 a1:0<=x.getD 1 0/\x.getD 1 0<67108864
 a2:0<=x.getD 2 0/\x.getD 2 0<67108864
 a3:0<=x.getD 3 0/\x.getD 3 0<67108864
 a4:0<=x.getD 4 0/\x.getD 4 0<67108864
theorem JY {x:List Int} (h:Ok x):QG (pass x)/\∃ q,L (pass x)=L x-p*q:=by
 obtain ⟨q,_,b2,b3,b4,b5,b6,b7,b8,b9⟩:=Qc (x:=x) (m:=67108869) (by omega) h.a0 ⟨h.a1.1,by have:=h.a1.2;omega⟩ ⟨h.a2.1,by have:=h.a2.2;omega⟩ ⟨h.a3.1,by have:=h.a3.2;omega⟩ ⟨h.a4.1,by have:=h.a4.2;omega⟩
 obtain ⟨k1,k2,k3,k4,e1,e2,e3,e4,e⟩:=Ir (x:=x) (m:=67108869) (by omega) h.a0 ⟨h.a1.1,by have:=h.a1.2;omega⟩ ⟨h.a2.1,by have:=h.a2.2;omega⟩ ⟨h.a3.1,by have:=h.a3.2;omega⟩ ⟨h.a4.1,by have:=h.a4.2;omega⟩
 refine ⟨⟨b4,⟨b5.1,?_⟩,b6,b7,b8,b9⟩,q,b3⟩
 rw [e]
 simp only [List.getD_cons_zero]
 have h0:=h.a0;have h1:=h.a1;have h2:=h.a2;have h3:=h.a3;have h4:=h.a4
 omega
theorem Ys {x:List Int} (h:QG x):pass x=x:=by
 have h0:=h.a0;have h1:=h.a1;have h2:=h.a2;have h3:=h.a3;have h4:=h.a4
 obtain ⟨k1,k2,k3,k4,e1,e2,e3,e4,e⟩:=Ir (x:=x) (m:=67108864) (by omega) h0 h1 h2 h3 h4
 rw [e]
 clear e
 obtain ⟨hl,_,_,_,_,_⟩:=h
 match x,hl with
 | [x0,x1,x2,x3,x4],_=>
   simp only [List.getD_cons_zero,List.getD_cons_succ] at *
   have z0:x0/67108864=0:=Int.ediv_eq_zero_of_lt h0.1 h0.2
   rw [z0,Int.add_zero] at e1
   have z1:x1/67108864=0:=Int.ediv_eq_zero_of_lt h1.1 h1.2
   rw [e1,z1,Int.add_zero] at e2
   have z2:x2/67108864=0:=Int.ediv_eq_zero_of_lt h2.1 h2.2
   rw [e2,z2,Int.add_zero] at e3
   have z3:x3/67108864=0:=Int.ediv_eq_zero_of_lt h3.1 h3.2
   rw [e3,z3,Int.add_zero] at e4
   have z4:x4/67108864=0:=Int.ediv_eq_zero_of_lt h4.1 h4.2
   rw [e1,e2,e3,e4,z4,Int.emod_eq_of_lt h0.1 h0.2,Int.emod_eq_of_lt h1.1 h1.2,Int.emod_eq_of_lt h2.1 h2.2,Int.emod_eq_of_lt h3.1 h3.2,Int.emod_eq_of_lt h4.1 h4.2,Int.mul_zero,Int.add_zero]
theorem Nq {x:List Int} (h:Ok x):QG (settled x)/\∃ q,L (settled x)=L x-p*q:=by
 obtain ⟨h1,q,h2⟩:=JY h
 have e:settled x=pass x:=Ys h1
 rw [e]
 exact ⟨h1,q,h2⟩
end P
namespace P
theorem Yx {t:List Int} (h:QG t):QG (xC t)/\L (xC t)=L t%p:=by
 have h':=h
 obtain ⟨hl,h0,h1,h2,h3,h4⟩:=h
 match t,hl with
 | [t0,t1,t2,t3,t4],_=>
   simp only [List.getD_cons_zero,List.getD_cons_succ] at h0 h1 h2 h3 h4
   have e0:g0 [t0,t1,t2,t3,t4]=t0+5:=by unfold g0;simp only [List.getD_cons_zero];rw [hH (by omega)]
   obtain ⟨q0,Oo⟩:∃ q,q=(t0+5)/67108864:=⟨_,rfl⟩
   have r0:0<=q0/\q0<=1:=by omega
   have e1:g1 [t0,t1,t2,t3,t4]=t1+q0:=by unfold g1;rw [e0,sG,<- Oo];simp only [List.getD_cons_zero,List.getD_cons_succ];rw [hH (by omega)]
   obtain ⟨q1,zH⟩:∃ q,q=(t1+q0)/67108864:=⟨_,rfl⟩
   have r1:0<=q1/\q1<=1:=by clear Oo;omega
   have e2:g2 [t0,t1,t2,t3,t4]=t2+q1:=by unfold g2;rw [e1,sG,<- zH];simp only [List.getD_cons_zero,List.getD_cons_succ];rw [hH (by clear Oo zH;omega)]
   obtain ⟨q2,Tg⟩:∃ q,q=(t2+q1)/67108864:=⟨_,rfl⟩
   have r2:0<=q2/\q2<=1:=by clear Oo zH;omega
   have e3:g3 [t0,t1,t2,t3,t4]=t3+q2:=by unfold g3;rw [e2,sG,<- Tg];simp only [List.getD_cons_zero,List.getD_cons_succ];rw [hH (by clear Oo zH Tg;omega)]
   obtain ⟨q3,PX⟩:∃ q,q=(t3+q2)/67108864:=⟨_,rfl⟩
   have r3:0<=q3/\q3<=1:=by clear Oo zH Tg;omega
   have e4:g4 [t0,t1,t2,t3,t4]=t4+q3:=by unfold g4;rw [e3,sG,<- PX];simp only [List.getD_cons_zero,List.getD_cons_succ];rw [hH (by clear Oo zH Tg PX;omega)]
   obtain ⟨q4,hq4⟩:∃ q,q=(t4+q3)/67108864:=⟨_,rfl⟩
   have r4:q4=0\/q4=1:=by clear Oo zH Tg PX;omega
   have d0:=Int.emod_add_mul_ediv (t0+5) 67108864
   have d1:=Int.emod_add_mul_ediv (t1+q0) 67108864
   have d2:=Int.emod_add_mul_ediv (t2+q1) 67108864
   have d3:=Int.emod_add_mul_ediv (t3+q2) 67108864
   have d4:=Int.emod_add_mul_ediv (t4+q3) 67108864
   rw [<- Oo] at d0
   rw [<- zH] at d1
   rw [<- Tg] at d2
   rw [<- PX] at d3
   rw [<- hq4] at d4
   have m0:=Int.emod_nonneg (t0+5) (show (67108864:Int)≠0 by decide)
   have m1:=Int.emod_nonneg (t1+q0) (show (67108864:Int)≠0 by decide)
   have m2:=Int.emod_nonneg (t2+q1) (show (67108864:Int)≠0 by decide)
   have m3:=Int.emod_nonneg (t3+q2) (show (67108864:Int)≠0 by decide)
   have m4:=Int.emod_nonneg (t4+q3) (show (67108864:Int)≠0 by decide)
   have n0:=Int.emod_lt_of_pos (t0+5) (show (0:Int)<67108864 by decide)
   have n1:=Int.emod_lt_of_pos (t1+q0) (show (0:Int)<67108864 by decide)
   have n2:=Int.emod_lt_of_pos (t2+q1) (show (0:Int)<67108864 by decide)
   have n3:=Int.emod_lt_of_pos (t3+q2) (show (0:Int)<67108864 by decide)
   have n4:=Int.emod_lt_of_pos (t4+q3) (show (0:Int)<67108864 by decide)
   have s:sh (g4 [t0,t1,t2,t3,t4])=q4:=by rw [e4,sG,hq4]
   have l0:lo (t0+5)=(t0+5)%67108864:=oB (by clear Oo zH Tg PX hq4 d0 d1 d2 d3 d4;omega)
   have l1:lo (t1+q0)=(t1+q0)%67108864:=oB (by clear Oo zH Tg PX hq4 d0 d1 d2 d3 d4;omega)
   have l2:lo (t2+q1)=(t2+q1)%67108864:=oB (by clear Oo zH Tg PX hq4 d0 d1 d2 d3 d4;omega)
   have l3:lo (t3+q2)=(t3+q2)%67108864:=oB (by clear Oo zH Tg PX hq4 d0 d1 d2 d3 d4;omega)
   have l4:lo (t4+q3)=(t4+q3)%67108864:=oB (by clear Oo zH Tg PX hq4 d0 d1 d2 d3 d4;omega)
   unfold xC
   rw [s,e0,e1,e2,e3,e4,l0,l1,l2,l3,l4]
   simp only [List.getD_cons_zero,List.getD_cons_succ]
   clear Oo zH Tg PX hq4 e0 e1 e2 e3 e4 s l0 l1 l2 l3 l4
   generalize (t0+5)%67108864=x0 at *
   generalize (t1+q0)%67108864=x1 at *
   generalize (t2+q1)%67108864=x2 at *
   generalize (t3+q2)%67108864=x3 at *
   generalize (t4+q3)%67108864=x4 at *
   have c:∀ x:Int,0<=x/\x<67108864->0<=x/\x<18446744073709551616:=fun x hx=>by clear d0 d1 d2 d3 d4;omega
   rcases r4 with rfl | rfl
   .rw [Ld (c _ h0),Ld (c _ h1),Ld (c _ h2),Ld (c _ h3),Ld (c _ h4)]
    refine ⟨h',?_⟩
    rw [Ca]
    unfold p
    rw [Int.emod_eq_of_lt (by omega) (by omega)]
   .rw [Lc (c _ ⟨m0,n0⟩),Lc (c _ ⟨m1,n1⟩),Lc (c _ ⟨m2,n2⟩),Lc (c _ ⟨m3,n3⟩),Lc (c _ ⟨m4,n4⟩)]
    refine ⟨⟨rfl,⟨m0,n0⟩,⟨m1,n1⟩,⟨m2,n2⟩,⟨m3,n3⟩,⟨m4,n4⟩⟩,?_⟩
    rw [Ca,Ca]
    unfold p
    have hd:x0+67108864*x1+4503599627370496*x2+302231454903657293676544*x3+20282409603651670423947251286016*x4=t0+67108864*t1+4503599627370496*t2+302231454903657293676544*t3+20282409603651670423947251286016*t4-1361129467683753853853498429727072845819:=by omega
    have z0:0<=x0+67108864*x1+4503599627370496*x2+302231454903657293676544*x3+20282409603651670423947251286016*x4:=by clear hd d0 d1 d2 d3 d4;omega
    have z1:t0+67108864*t1+4503599627370496*t2+302231454903657293676544*t3+20282409603651670423947251286016*t4<1361129467683753853853498429727072845824:=by clear hd d0 d1 d2 d3 d4;omega
    rw [hd] at z0 |-
    clear hd d0 d1 d2 d3 d4
    generalize t0+67108864*t1+4503599627370496*t2+302231454903657293676544*t3+20282409603651670423947251286016*t4=z at *
    have k:z=(z-1361129467683753853853498429727072845819)+1361129467683753853853498429727072845819*1:=by omega
    have e:z%1361129467683753853853498429727072845819=(z-1361129467683753853853498429727072845819)%1361129467683753853853498429727072845819:=by
     conv=>lhs;rw [k]
     rw [Int.add_mul_emod_self_left]
    rw [e,Int.emod_eq_of_lt z0 (by omega)]
theorem KI {a:List Int} (h:Ok a):QG (least a)/\L (least a)=L a%p:=by
 obtain ⟨h1,q,h2⟩:=Nq h
 obtain ⟨h3,h4⟩:=Yx h1
 refine ⟨h3,?_⟩
 show L (xC (settled a))=_
 rw [h4,h2,Int.sub_eq_add_neg,<- Int.mul_neg,Int.add_mul_emod_self_left]
end P
namespace P
theorem Cd {y:Int} (k:Nat) (hk:k<=64):dD .u64 y (k:Int)=(y*((2^k:Nat):Int))%18446744073709551616:=by
 unfold dD
 rw [sJ,show min k IntKind.u64.bits=k from Nat.min_eq_left hk]
 show (y*2^k)%18446744073709551616=_
 rw [Int.natCast_pow];rfl
theorem aPj (y:Int):dD .u64 y 26=(y*67108864)%18446744073709551616:=Cd 26 (by decide)
theorem aPh (y:Int):dD .u64 y 52=(y*4503599627370496)%18446744073709551616:=Cd 52 (by decide)
theorem aPm (y:Int):dD .u64 y 14=(y*16384)%18446744073709551616:=Cd 14 (by decide)
theorem aPi (y:Int):dD .u64 y 40=(y*1099511627776)%18446744073709551616:=Cd 40 (by decide)
theorem aPg (n:Int):bY .u64 n 12=n/4096:=Cc n 12 (by decide)
theorem Le {x y:Int} {k:Nat} {m:Int} (hm:m=((2^k:Nat):Int)) (hx:0<=x/\x<m) (hy:0<=y) (h:y*m+x<18446744073709551616):jZ .u64 x (y*m)=x+y*m:=by
 obtain ⟨a,rfl⟩:=pW hx.1
 obtain ⟨b,rfl⟩:=pW hy
 subst hm
 have h1:a<2^k:=by have:=hx.2;omega
 rw [<- Int.natCast_mul] at h |-
 rw [or_eq h1 (by omega),Int.natCast_add];omega
theorem aIy {t:List Int} (h:QG t):low t=t.getD 0 0+67108864*t.getD 1 0+4503599627370496*(t.getD 2 0%4096):=by
 obtain ⟨_,h0,h1,h2,_,_⟩:=h
 unfold low
 generalize t.getD 0 0=t0 at *
 generalize t.getD 1 0=t1 at *
 generalize t.getD 2 0=t2 at *
 rw [aPj,aPh,show (t1*67108864)%18446744073709551616=t1*67108864 by omega,show (t2*4503599627370496)%18446744073709551616=(t2%4096)*4503599627370496 by omega,
  Le (k:=26) (m:=67108864) rfl h0 h1.1 (by omega),Le (k:=52) (m:=4503599627370496) rfl (by omega) (by omega) (by omega)]
 omega
theorem ZL {t:List Int} (h:QG t):high t=t.getD 2 0/4096+16384*t.getD 3 0+1099511627776*(t.getD 4 0%16777216):=by
 obtain ⟨_,_,_,h2,h3,h4⟩:=h
 unfold high
 generalize t.getD 2 0=t2 at *
 generalize t.getD 3 0=t3 at *
 generalize t.getD 4 0=t4 at *
 rw [aPg,aPm,aPi,show (t3*16384)%18446744073709551616=t3*16384 by omega,show (t4*1099511627776)%18446744073709551616=(t4%16777216)*1099511627776 by omega,
  Le (k:=14) (m:=16384) rfl (by omega) h3.1 (by omega),Le (k:=40) (m:=1099511627776) rfl (by omega) (by omega) (by omega)]
 omega
theorem Ly {t:List Int} (h:QG t):low t+18446744073709551616*high t=L t%340282366920938463463374607431768211456/\(0<=low t/\low t<18446744073709551616)/\(0<=high t/\high t<18446744073709551616):=by
 rw [aIy h,ZL h]
 obtain ⟨_,h0,h1,h2,h3,h4⟩:=h
 unfold L
 generalize t.getD 0 0=t0 at *
 generalize t.getD 1 0=t1 at *
 generalize t.getD 2 0=t2 at *
 generalize t.getD 3 0=t3 at *
 generalize t.getD 4 0=t4 at *
 refine ⟨?_,by omega,by omega⟩
 have d2:=Int.emod_add_mul_ediv t2 4096
 have d4:=Int.emod_add_mul_ediv t4 16777216
 have m2:=Int.emod_nonneg t2 (show (4096:Int)≠0 by decide)
 have n2:=Int.emod_lt_of_pos t2 (show (0:Int)<4096 by decide)
 have m4:=Int.emod_nonneg t4 (show (16777216:Int)≠0 by decide)
 have n4:=Int.emod_lt_of_pos t4 (show (0:Int)<16777216 by decide)
 have q2:0<=t2/4096/\t2/4096<16384:=by omega
 generalize t2%4096=r2 at *
 generalize t2/4096=s2 at *
 generalize t4%16777216=r4 at *
 generalize t4/16777216=s4 at *
 have e:t0+67108864*t1+4503599627370496*t2+302231454903657293676544*t3+20282409603651670423947251286016*t4=(t0+67108864*t1+4503599627370496*r2+18446744073709551616*(s2+16384*t3+1099511627776*r4))+340282366920938463463374607431768211456*s4:=by omega
 rw [e,Int.add_mul_emod_self_left,Int.emod_eq_of_lt (by omega) (by omega)]
end P
namespace P
def S (b:List Int) (k:Nat):Nat->Int
 | 0=>0
 | n+1=>S b k n+b.getD (k+n) 0*((256^n:Nat):Int)
theorem Ls {b:List Int} (hb:∀ i,sE (b.getD i 0)) (k:Nat):∀ n,0<=S b k n/\S b k n<((256^n:Nat):Int)
 | 0=>⟨Int.le_refl 0,(by decide:(0:Int)<((256^0:Nat):Int))⟩
 | n+1=>by
   obtain ⟨h1,h2⟩:=Ls hb k n
   have hy:=hb (k+n)
   have hp:(0:Int)<((256^n:Nat):Int):=Int.natCast_pos.2 (Nat.pow_pos (by decide))
   have e:((256^(n+1):Nat):Int)=256*((256^n:Nat):Int):=by rw [Nat.pow_succ,Nat.mul_comm,Int.natCast_mul];rfl
   have a1:0<=b.getD (k+n) 0*((256^n:Nat):Int):=Int.mul_nonneg hy.1 (Int.le_of_lt hp)
   have a2:b.getD (k+n) 0*((256^n:Nat):Int)<=255*((256^n:Nat):Int):=Int.mul_le_mul_of_nonneg_right (by have:=hy.2;omega) (Int.le_of_lt hp)
   simp only [S]
   rw [e]
   omega
theorem Co {b:List Int} (hb:∀ i,sE (b.getD i 0)) (k:Nat):∀ n,n<=8->acc b k n=S b k n
 | 0,_=>rfl
 | n+1,hn=>by
   obtain ⟨h1,h2⟩:=Ls hb k n
   obtain ⟨h3,h4⟩:=Ls hb k (n+1)
   have hy:=hb (k+n)
   have hw:W (b.getD (k+n) 0)=b.getD (k+n) 0:=hH (by have:=hy.1;have:=hy.2;omega)
   have aNf:(256^n:Nat)=2^(8*n):=by rw [Nat.pow_mul]
   have bAs:((256^(n+1):Nat):Int)<=18446744073709551616:=by
    have:(256:Nat)^(n+1)<=256^8:=Nat.pow_le_pow_right (by decide) hn
    have e8:(256:Nat)^8=18446744073709551616:=by decide
    omega
   have hnn:0<=b.getD (k+n) 0*((256^n:Nat):Int):=Int.mul_nonneg hy.1 (Int.natCast_nonneg _)
   simp only [S] at h3 h4 |-
   simp only [acc]
   rw [Co hb k n (by omega),hw,show (8:Int)*(n:Int)=((8*n:Nat):Int) by omega,Cd (8*n) (by omega),<- aNf,Int.emod_eq_of_lt hnn (by omega)]
   exact Le (k:=8*n) (by rw [aNf]) ⟨h1,h2⟩ hy.1 (by omega)
end P
namespace P
theorem rS {x:Int} (hx:0<=x) {i:Nat} (hi:i<8):byteOf x i=x/((256^i:Nat):Int)%256:=by
 unfold byteOf
 rw [show (8:Int)*(i:Int)=((8*i:Nat):Int) by omega,Cc x (8*i) (by omega),show (2:Nat)^(8*i)=256^i by rw [Nat.pow_mul]]
 rfl
theorem Dt (x:Int) (i:Nat):sE (byteOf x i):=by
 have e:byteOf x i=(bY .u64 x (8*(i:Int)))%256:=rfl
 unfold sE
 rw [e];omega
theorem mod_succ (x:Int) (n:Nat):x%((256^(n+1):Nat):Int)=x%((256^n:Nat):Int)+(x/((256^n:Nat):Int)%256)*((256^n:Nat):Int):=by
 have hp:(0:Int)<((256^n:Nat):Int):=Int.natCast_pos.2 (Nat.pow_pos (by decide))
 have e:((256^(n+1):Nat):Int)=((256^n:Nat):Int)*256:=by rw [Nat.pow_succ,Int.natCast_mul];rfl
 rw [e]
 generalize ((256^n:Nat):Int)=m at *
 have h1:=Int.emod_add_mul_ediv x m
 have h2:=Int.emod_nonneg x (show m≠0 by omega)
 have h3:=Int.emod_lt_of_pos x hp
 have h4:=Int.emod_add_mul_ediv (x/m) 256
 have h5:=Int.emod_nonneg (x/m) (show (256:Int)≠0 by omega)
 have h6:=Int.emod_lt_of_pos (x/m) (show (0:Int)<256 by omega)
 generalize x/m%256=s at *
 generalize x/m/256=q at *
 generalize x%m=r at *
 have k:x=(r+s*m)+m*256*q:=by
  rw [<- h1,<- h4,Int.mul_add,Int.mul_comm m s,<- Int.mul_assoc];omega
 have l:r+s*m<m*256:=by
  have:s*m<=255*m:=Int.mul_le_mul_of_nonneg_right (by omega) (by omega)
  omega
 have l0:0<=r+s*m:=by
  have:0<=s*m:=Int.mul_nonneg h5 (by omega)
  omega
 rw [k,Int.add_mul_emod_self_left,Int.emod_eq_of_lt l0 l]
theorem Ww {b:List Int} {k:Nat} {x:Int} (h:∀ i,i<8->b.getD (k+i) 0=x/((256^i:Nat):Int)%256):∀ n,n<=8->S b k n=x%((256^n:Nat):Int)
 | 0,_=>by simp [S,Int.emod_one]
 | n+1,hn=>by
   simp only [S]
   rw [Ww h n (by omega),h n (by omega),mod_succ]
theorem S8 {b:List Int} {k:Nat} {x:Int} (h:∀ i,i<8->b.getD (k+i) 0=x/((256^i:Nat):Int)%256) (hx:0<=x/\x<18446744073709551616):S b k 8=x:=by
 rw [Ww h 8 (cT 8)]
 exact Int.emod_eq_of_lt hx.1 hx.2
theorem aJp (f g:Nat->Int) (r:List Int) {i:Nat} (hi:i<8):((List.range 8).map f++((List.range 8).map g++r)).getD i 0=f i:=by
 rw [gY,List.getElem?_append_left (by simpa using hi)]
 simp [hi]
theorem aJq (f g:Nat->Int) (r:List Int) {i:Nat} (hi:i<8):((List.range 8).map f++((List.range 8).map g++r)).getD (8+i) 0=g i:=by
 rw [gY,List.getElem?_append_right (by simp),List.getElem?_append_left (by simp;omega)]
 simp [hi]
theorem bAf {t:List Int} (h:QG t) (hb:∀ i,sE ((kU t).getD i 0)):acc (kU t) 0 8=low t/\acc (kU t) 8 8=high t:=by
 obtain ⟨_,hl,hh⟩:=Ly h
 rw [Co hb 0 8 (cT 8),Co hb 8 8 (cT 8)]
 refine ⟨S8 (fun i hi=>?_) hl,S8 (fun i hi=>?_) hh⟩
 .rw [Nat.zero_add]
  unfold kU
  rw [aJp _ _ _ hi,rS hl.1 hi]
 .unfold kU
  rw [aJq _ _ _ hi,rS hh.1 hi]
end P
namespace P
theorem rK {l:List Int} (h:∀ x∈l,sE x) (i:Nat):sE (l.getD i 0):=by
 rw [gY]
 cases hi:l[i]? with
 | none=>exact ⟨Int.le_refl 0,(by decide:(0:Int)<256)⟩
 | some x=>exact h x (List.mem_of_getElem? hi)
theorem Sv (t:List Int):∀ i,sE ((kU t).getD i 0):=rK fun x hx=>by
 unfold kU at hx
 simp only [List.mem_append,List.mem_map,List.mem_singleton] at hx
 rcases hx with ⟨i,_,rfl⟩ | ⟨i,_,rfl⟩ | rfl
 .exact Dt _ _
 .exact Dt _ _
 .have e:IntKind.u8.wrap (bY .u64 (t.getD 4 0) 24)=(bY .u64 (t.getD 4 0) 24)%256:=rfl
  unfold sE
  rw [e];omega
def V2 (s:List Int):Int:=S s 0 8+18446744073709551616*S s 8 8
theorem Yk {a s:List Int} (ha:Ok a) (hs:∀ i,sE (s.getD i 0)) :
 DW (kU (least a)) s=(L a%p+V2 s)%340282366920938463463374607431768211456%18446744073709551616/\DX (kU (least a)) s=(L a%p+V2 s)%340282366920938463463374607431768211456/18446744073709551616:=by
 obtain ⟨hR,hL⟩:=KI ha
 obtain ⟨hw,hl,hh⟩:=Ly hR
 obtain ⟨a0,a8⟩:=bAf hR (Sv _)
 have s0:=Ls hs 0 8
 have s8:=Ls hs 8 8
 have e8:((256^8:Nat):Int)=18446744073709551616:=by decide
 rw [e8] at s0 s8
 unfold DW DX V2
 rw [a0,a8,Co hs 0 8 (cT 8),Co hs 8 8 (cT 8),<- hL]
 clear hL a0 a8 e8
 generalize low (least a)=l at *
 generalize high (least a)=h at *
 generalize S s 0 8=x at *
 generalize S s 8 8=y at *
 generalize L (least a)=z at *
 have hz:=Int.emod_add_mul_ediv z 340282366920938463463374607431768211456
 rw [<- hw] at hz
 generalize z/340282366920938463463374607431768211456=k at *
 have d1:=Int.emod_add_mul_ediv (l+x+0) 18446744073709551616
 have m1:=Int.emod_nonneg (l+x+0) (show (18446744073709551616:Int)≠0 by decide)
 have n1:=Int.emod_lt_of_pos (l+x+0) (show (0:Int)<18446744073709551616 by decide)
 generalize (l+x+0)%18446744073709551616=lo at *
 generalize (l+x+0)/18446744073709551616=c at *
 have d2:=Int.emod_add_mul_ediv (h+y+c) 18446744073709551616
 have m2:=Int.emod_nonneg (h+y+c) (show (18446744073709551616:Int)≠0 by decide)
 have n2:=Int.emod_lt_of_pos (h+y+c) (show (0:Int)<18446744073709551616 by decide)
 generalize (h+y+c)%18446744073709551616=hi at *
 generalize (h+y+c)/18446744073709551616=d at *
 have e:z+(x+18446744073709551616*y)=(lo+18446744073709551616*hi)+340282366920938463463374607431768211456*(d+k):=by clear hw hl hh s0 s8;omega
 rw [e,Int.add_mul_emod_self_left,Int.emod_eq_of_lt (a:=lo+18446744073709551616*hi) (by clear e hz d1 d2 hw;omega) (by clear e hz d1 d2 hw;omega),Int.add_mul_emod_self_left,Int.emod_eq_of_lt m1 n1,Int.add_mul_ediv_left _ _ (by decide),Int.ediv_eq_zero_of_lt m1 n1,Int.zero_add]
 exact ⟨rfl,rfl⟩
end P
namespace P
theorem To {x q:Int}:(x-p*q)%p=x%p:=by rw [Int.sub_eq_add_neg,<- Int.mul_neg,Int.add_mul_emod_self_left]
theorem Vf {s b y:List Int} (hs:Ok s) (hy:Ok y) (hb:∀ i,sE (b.getD i 0)):Ok (plus s b y)/\L (plus s b y)%p=((L s%p+Ow b)*L y)%p:=by
 obtain ⟨hn,q1,e1⟩:=Hw hb
 obtain ⟨hm,q2,e2⟩:=aMd hs hn
 obtain ⟨hr,q3,e3⟩:=aIo hm hy
 refine ⟨hr,?_⟩
 show L (mul (add s (num b)) y)%p=_
 have h1:L (add s (num b))%p=(L s%p+Ow b)%p:=by
  rw [e2,To,e1,show L s+(Ow b-p*q1)=(L s+Ow b)-p*q1 by omega,To]
  unfold p
  omega
 rw [e3,To,Int.mul_emod,h1,<- Int.mul_emod]
theorem aOo:Ok (List.replicate 5 0):=⟨rfl,by decide,by decide,by decide,by decide,by decide⟩
theorem aTn:L (List.replicate 5 0)=0:=by decide
end P
namespace P
theorem aHz {S:MS} (hS:S.WF) (h0:S.held=0) {d:List Int} (hd:d.length=16):put S d=⟨S.eI,plus S.sum (d++[1]) S.eI,S.mask,nA,0⟩:=by
 obtain ⟨eI,sum,mask,aT,held⟩:=S
 simp only at h0
 subst h0
 rw [Cv eI sum mask d aT 0 hS.Ol (by omega) (fun e=>by rw [e] at hd;cases hd)]
 rfl
def hor (r:Int) (d:List Int):Nat->Int
 | 0=>0
 | j+1=>((hor r d j+Ow ((d.drop (16*j)).take 16++[1]))*r)%p
theorem aBu {d:List Int} (hd:∀ x∈d,sE x) (j:Nat):∀ i,sE (((d.drop (16*j)).take 16++[1]).getD i 0):=rK fun x hx=>by
 rcases List.mem_append.1 hx with h | h
 .exact hd x (List.mem_of_mem_drop (List.mem_of_mem_take h))
 .simp only [List.mem_singleton] at h
  subst h
  exact ⟨by decide,by decide⟩
theorem Dn {eI mask:List Int} (hb:Ok eI) (hm:mask.length=16) {d:List Int} (hd:∀ x∈d,sE x):∀ j,16*j<=d.length ->
 ∃ s,put ⟨eI,List.replicate 5 0,mask,nA,0⟩ (d.take (16*j))=⟨eI,s,mask,nA,0⟩/\Ok s/\L s%p=hor (L eI) d j
 | 0,_=>⟨List.replicate 5 0,by rw [Nat.mul_zero,List.take_zero,XJ],aOo,by rw [aTn];rfl⟩
 | j+1,h=>by
   obtain ⟨s,e,hs,hL⟩:=Dn hb hm hd j (by omega)
   have hl:((d.drop (16*j)).take 16).length=16:=by rw [List.length_take,List.length_drop];omega
   have hw:(⟨eI,s,mask,nA,0⟩:MS).WF:=⟨hb.len,hs.len,hm,rfl,(by decide:0<16),rfl⟩
   obtain ⟨h1,h2⟩:=Vf hs hb (aBu hd j)
   refine ⟨plus s ((d.drop (16*j)).take 16++[1]) eI,?_,h1,?_⟩
   .have et:d.take (16*(j+1))=d.take (16*j)++(d.drop (16*j)).take 16:=by rw [Nat.mul_add,Nat.mul_one,List.take_add]
    rw [et,lF,e,aHz hw rfl hl]
   .rw [h2,hL];rfl
end P
namespace P
def Ep (S:MS):List Int:=if 0<S.held then plus S.sum ((S.aT++[0]).set S.held 1) S.eI else S.sum
def Pl (r:Int) (d:List Int):Int:=if d.length%16=0 then hor r d (d.length/16) else ((hor r d (d.length/16)+Ow (d.drop (16*(d.length/16))++1::List.replicate (16-d.length%16) 0))*r)%p
theorem KO {r:List Int} (h:r.length<16):((nA.take 0++r++nA.drop (0+r.length))++[0]).set (0+r.length) 1=r++1::List.replicate (16-r.length) 0:=by
 have e:nA.drop (0+r.length)++[0]=0::List.replicate (16-r.length) 0:=by
  unfold nA
  rw [List.drop_replicate,Nat.zero_add,<- List.replicate_succ,<- List.replicate_succ']
 rw [List.take_zero,mZ,List.append_assoc,e,Nat.zero_add,List.set_append_right _ _ (cT _),Nat.sub_self]
 rfl
theorem aJu {eI mask:List Int} (hb:Ok eI) (hm:mask.length=16) {d:List Int} (hd:∀ x∈d,sE x) :
 Ok (Ep (put ⟨eI,List.replicate 5 0,mask,nA,0⟩ d))/\L (Ep (put ⟨eI,List.replicate 5 0,mask,nA,0⟩ d))%p=Pl (L eI) d/\(put ⟨eI,List.replicate 5 0,mask,nA,0⟩ d).mask=mask:=by
 obtain ⟨s,e,hs,hL⟩:=Dn hb hm hd (d.length/16) (by omega)
 have hr:(d.drop (16*(d.length/16))).length=d.length%16:=by rw [List.length_drop];omega
 have ed:put ⟨eI,List.replicate 5 0,mask,nA,0⟩ d=put ⟨eI,s,mask,nA,0⟩ (d.drop (16*(d.length/16))):=by
  rw [<- e,<- lF,List.take_append_drop]
 have ef:=uQ eI s mask (d.drop (16*(d.length/16))) nA 0 rfl (by rw [hr];omega)
 rw [ed,ef]
 unfold Ep Pl
 simp only
 by_cases h0:d.length%16=0
 .rw [if_neg (by omega),if_pos h0]
  exact ⟨hs,hL,trivial⟩
 .rw [if_pos (by omega),if_neg h0,KO (by omega),hr]
  obtain ⟨h1,h2⟩:=Vf (s:=s) (y:=eI) (b:=d.drop (16*(d.length/16))++1::List.replicate (16-d.length%16) 0) hs hb (rK fun x hx=>by
   rcases List.mem_append.1 hx with h | h
   .exact hd x (List.mem_of_mem_drop h)
   .rcases List.mem_cons.1 h with rfl | h
    .exact ⟨by decide,by decide⟩
    .rw [List.eq_of_mem_replicate h];exact ⟨by decide,by decide⟩)
  exact ⟨h1,by rw [h2,hL],trivial⟩
end P
theorem zQ {L:List Int} (h:L.length=16):Td (fun j=>L.getD j 0)=L:=dX h
theorem aHy {L K:List Int} (h:L.length=16):Td (fun j=>(L++K).getD j 0)=L:=by
 rw [<- zQ h]
 refine List.map_congr_left fun j hj=>?_
 have hj:j<16:=by simpa using hj
 rw [zQ h,gY,List.getElem?_append_left (by omega),<- gY]
theorem HP {L K:List Int} (h:L.length=16) (hk:K.length=16):Td (fun j=>(L++K).getD (16+j) 0)=K:=by
 conv=>rhs;rw [<- zQ hk]
 refine List.map_congr_left fun j hj=>?_
 rw [gY,List.getElem?_append_right (by omega),h,show 16+j-16=j by omega,<- gY]
theorem Fp {S':P.MS} {b s:List Int} {mk bk:Nat->Int} {h:Int} (h1:b=S'.eI) (h2:s=S'.sum) (h3:∀ j<16,mk j=S'.mask.getD j 0) (h4:∀ j<16,bk j=S'.aT.getD j 0) (h5:h=(S'.held:Int)):∀ q∈qM b s mk bk h S',q:=by
 subst h1 h2 h5
 intro q hq
 simp only [qM,List.mem_append,List.mem_map,List.mem_range,List.mem_cons,List.not_mem_nil,or_false] at hq
 rcases hq with ⟨j,_,rfl⟩ | ⟨j,_,rfl⟩ | ⟨j,hj,rfl⟩ | ⟨j,hj,rfl⟩ | rfl
 .trivial
 .trivial
 .exact h3 j hj
 .exact h4 j hj
 .trivial
theorem Cg {S S':P.MS} (h:S=S'):∀ q∈qMS S S',q:=by
 subst h
 exact Fp rfl rfl (fun _ _=>rfl) (fun _ _=>rfl) rfl
theorem P.Lh {S:P.MS} (h:S.WF):P.nf S=S:=by
 obtain ⟨eI,sum,mask,aT,held⟩:=S
 obtain ⟨h1,h2,h3,h4,h5,h6⟩:=h
 simp only [P.nf,iS h1,iS h2,dX h3,dX h4,sJ]
theorem Pw {y s:List Int} {mk bk:Nat->Int} {h:Int} {N:P.MS} {b:List Int} {r:List Prop} (hy:y.length=5) (hs:s.length=5) (hb:b.length=17)
 (hq:∀ q∈qM y s mk bk h N,q) (hr:∀ q∈r,q):∀ q∈tkG P.plus y s mk bk h N b r,q:=
 aM rfl (aM (by rw [iS hy];exact hy) (aM (by rw [iS hs];exact hs) (aM hb (aM rfl (aM rfl (qI hq hr))))))
theorem HH {d:List Int} (h:16<=d.length):tkD d=d.take 16:=by
 unfold tkD
 rw [List.take_of_length_le]
 have:(d.take 16).length=16:=by rw [List.length_take];omega
 rw [this];decide
theorem HG {d:List Int} (h:16<=d.length):tqL d=d.take 16++[1]:=by
 have hl:(d.take 16).length=16:=by rw [List.length_take];omega
 unfold tqL RW
 rw [HH h,hl,List.take_zero,mZ]
 show ((d.take 16)++[0]).set 16 1=_
 rw [List.set_append_right _ _ (by omega),hl]
 rfl
theorem aLq (d:List Int):d16 d=d.take 16:=rfl
theorem P.aPz {S:P.MS} (hS:S.WF) (h0:S.held=0) {d:List Int} (hd:d.length=16):P.put S d=⟨S.eI,P.plus S.sum (d++[1]) S.eI,S.mask,P.nA,0⟩:=by
 obtain ⟨eI,sum,mask,aT,held⟩:=S
 simp only at h0
 subst h0
 rw [P.Cv eI sum mask d aT 0 hS.Ol (by omega) (fun e=>by rw [e] at hd;cases hd)]
 rfl
theorem P.Uu (j:Nat):P.nA.getD j 0=0:=by
 unfold P.nA
 rw [gY,List.getElem?_replicate]
 split <;> rfl
theorem P.aZr {S:P.MS} (hS:S.WF) (h0:S.held=0):S.aT=P.nA:=by
 have:=hS.z
 rw [h0] at this
 exact this
theorem HK {S:P.MS} (hS:S.WF) (d:List Int) (h m:Nat):spM S d (27+h) m=S.mask++(S.aT.take h++d.take m++S.aT.drop (h+(d.take m).length)):=by
 unfold spM
 rw [dX hS.Oj,dX hS.Ol,show 27+h-11=S.mask.length+h by rw [hS.Oj];omega,List.take_length_add_append,Nat.add_assoc,List.drop_length_add_append]
 simp only [List.append_assoc]
theorem Vv {S:P.MS} (hS:S.WF) {d:List Int} {h m:Nat} (hm:h+(d.take m).length<=16):(S.aT.take h++d.take m++S.aT.drop (h+(d.take m).length)).length=16:=by
 have:=hS.Ol
 simp only [List.length_append,List.length_drop,List.length_take] at *
 omega
theorem YC {S:P.MS} (d:List Int) (hS:S.WF) (hl:d.length<=1000000000000) :
 aF Tryz.prog (Oy P.plus) 87 (CJ d.length) (PR S d) 100 100 (QP (.eD []) (P.put S d)):=by
 refine fS (Uq _) (Ur _) Tryz.func87 (by kernel_rfl) rfl (jX (by kernel_rfl)) rfl [] ?_
 intro w0 M V0 Q hb H
 have aU:=Uq P.plus
 have aV:=Ur P.plus
 have key:∀ (S1:P.MS) (d2:List Int),S1.WF->(S1.held=0\/d2=[])->P.put S1 d2=P.put S d->d2.length<=1000000000000 ->
  G Tryz.prog (Oy P.plus) w0 M (aZ 100 (PR S d)) Tryz.f87.ntmps 100 V0 (.go (.loop Xr)) mwK (bQ (Al d2.length) (At S1 d2) 101 [60] []) Q:=by
  intro S1 d2 hw h0 he BH
  refine G.loop (fun r s=>∃ (S1:P.MS) (d2:List Int),S1.WF/\(S1.held=0\/d2=[])/\P.put S1 d2=P.put S d/\d2.length<=1000000000000/\r=d2.length/\s=bQ (Al d2.length) (At S1 d2) 101 [60] []) (r0:=d2.length)
   ⟨S1,d2,hw,h0,he,BH,rfl,rfl⟩ ?_
  clear hw h0 he BH S1 d2
  rintro r s ⟨S1,d2,hw,h0,he,BH,rfl,rfl⟩
  by_cases tQ:16<=d2.length
  .have hT:lT d2.length=true:=decide_eq_true (by omega)
   have h0:S1.held=0:=h0.resolve_right fun e=>by rw [e] at tQ;simp at tQ
   have ht:(d2.take 16).length=16:=by rw [List.length_take];omega
   have e1:=P.aPz hw h0 ht
   have h:=aWa P.plus S S1 (P.put S1 (d2.take 16)) d d2 (d2.drop 16) d2.length (d2.drop 16).length
   rw [aLq,HG (by omega),HH (by omega),List.take_take,Nat.min_self,ht] at h
   refine G.qK aU aV mix hb [true] h ?_ (d2.drop 16).length (by rw [List.length_drop];omega) ⟨_,_,P.Hu hw _,?_,?_,?_,rfl,rfl⟩
   .have CC:(RW (d2.take 16)).length=17:=by
     have:=congrArg List.length (HG (d:=d2.take 16) (by omega))
     rw [List.take_take] at this
     simpa [tqL,ht] using this
    have aNj:(d2.take 16++[1]).length=17:=by rw [List.length_append,ht];rfl
    refine aM ⟨by omega,by omega,by omega⟩ (Pw hw.b5 hw.s5 aNj (by rw [P.Lh hw];exact Cg rfl) (qI ?_ (aM hT (aM rfl (aM (by rw [List.length_drop];omega) (qI ?_ (aM ?_ fO)))))))
    .refine aA (show _/\_/\_/\_/\_/\_/\True from ⟨aNj,by rw [CC];decide,⟨cT 0,by omega⟩,by omega,cT _,⟨by omega,by omega,by omega⟩,trivial⟩)
    .rw [e1]
     refine Fp rfl ?_ (fun _ _=>rfl) (fun j _=>by rw [P.aZr hw h0]) (by rw [h0])
     show P.plus _ _ _=P.plus _ _ _
     rw [iS hw.s5,iS hw.b5]
    .rw [List.take_of_length_le (by rw [List.length_drop];omega)];rfl
   .left;rw [e1]
   .rw [<- P.lF,List.take_append_drop];exact he
   .rw [List.length_drop];omega
  .have hT:lT d2.length=false:=kN (by omega)
   refine G.eJ aU aV mix hb [false] (aVz P.plus S S1 S1 d d2 d2 d2.length d2.length) (aM hT (aM rfl (aM rfl (qI (Cg rfl) (aM rfl fO))))) (G.leave (by simp) ?_)
   by_cases hz:d2.length=0
   .have hd:d2=[]:=List.length_eq_zero_iff.1 hz
    subst hd
    have hP:gP 0=false:=rfl
    have h6:=aVx P.plus S S1 d [] 0
    have e3:S1=P.put S d:=he
    rw [e3] at h6
    rw [e3]
    exact G.oQ (cl:=[]) aU aV mix [false] H h6 (aM hP (aM rfl fO)) rfl rfl rfl
   .have h0:S1.held=0:=h0.resolve_right fun e=>hz (by rw [e];rfl)
    have hP:gP d2.length=true:=decide_eq_true (by omega)
    have h5:=aVy P.plus S S1 d d2 d2.length
    have e3:spF S1 d2=P.put S d:=by
     rw [<- he]
     have DA:d2.length.min 16=d2.length:=Nat.min_eq_left (by omega)
     have em:=HK hw d2 0 d2.length
     rw [List.take_length,List.take_zero,mZ,Nat.zero_add] at em
     have hlen:=Vv hw (d:=d2) (h:=0) (m:=d2.length) (by rw [List.take_length];omega)
     rw [List.take_length,List.take_zero,mZ,Nat.zero_add] at hlen
     have ep:=P.uQ S1.eI S1.sum S1.mask d2 S1.aT 0 hw.Ol (by omega)
     rw [List.take_zero,mZ,Nat.zero_add] at ep
     have eS:S1=⟨S1.eI,S1.sum,S1.mask,S1.aT,0⟩:=by rw [<- h0]
     rw [eS,ep]
     unfold spF spE
     simp only [DA]
     have em':spM ⟨S1.eI,S1.sum,S1.mask,S1.aT,0⟩ d2 27 d2.length=S1.mask++(d2++S1.aT.drop d2.length):=em
     rw [em',aHy hw.Oj,HP hw.Oj hlen]
    rw [e3] at h5
    exact G.oQ (cl:=[]) aU aV mix [true] H h5 (aM ⟨by omega,by rw [List.length_take];omega⟩ (aM hP (aM rfl fO))) rfl rfl rfl
 by_cases hz:S.held=0
 .have hG:gT S.held=false:=kN (by omega)
  refine G.eJ aU aV mix hb [false] (aWd P.plus S S d d d.length d.length) (aM hG (aM rfl (aM rfl (qI (Cg rfl) (aM rfl fO))))) ?_
  exact key S d hS (.inl hz) rfl hl
 .have hG:gT S.held=true:=decide_eq_true (by omega)
  have hh:=hS.hl
  have hm:mM d S.held=min d.length (16-S.held):=rfl
  have hmd:mM d S.held<=d.length:=by rw [hm];omega
  have bAv:S.held+mM d S.held<=16:=by rw [hm];omega
  have hmz:mM d S.held=d.length\/S.held+mM d S.held=16:=by rw [hm];omega
  clear hm
  generalize hmm:mM d S.held=m at *
  have QR:(d.take m).length=m:=by rw [List.length_take];omega
  have ho:oM S.held=27+S.held:=by unfold oM;rw [if_neg (by omega),sJ];omega
  have hhq:hq S.held m=((S.held+m:Nat):Int):=by unfold hq;rw [IntWalk.i64_in _ (by omega)];omega
  have em:=HK hS d S.held m
  have hlen:=Vv hS (d:=d) (h:=S.held) (m:=m) (by omega)
  have ej:spJ S d=fun j=>(S.mask++(S.aT.take S.held++d.take m++S.aT.drop (S.held+(d.take m).length))).getD j 0:=by
   funext j;unfold spJ;rw [ho,hmm,em]
  rw [QR] at ej hlen em
  have hmc:∀ {r:List Prop},(∀ q∈r,q)->∀ q∈mcO S.held d.length m d r,q:=fun hr=>
   aM ⟨by omega,by omega,by omega⟩ (aM ⟨by rw [ho];omega,by rw [ho,QR];omega⟩ (aM ⟨by omega,by omega,by omega,by omega,Int.natCast_nonneg _,by omega⟩ (aM hG (aM rfl hr))))
  have hdl:(d.drop m).length=d.length-m:=List.length_drop
  have htd:(d.drop (m:Int).toNat).take ((d.length:Int).toNat-(m:Int).toNat)=d.drop m:=by
   rw [sJ,sJ,List.take_of_length_le (by rw [hdl];omega)]
  have PU:=P.Hu hS (d.take m)
  have hpp:P.put (P.put S (d.take m)) (d.drop m)=P.put S d:=by rw [<- P.lF,List.take_append_drop]
  by_cases hf:S.held+m=16
  .have hbq:(hq S.held m==16)=true:=by rw [hhq,hf];rfl
   have ep:=P.Cv S.eI S.sum S.mask (d.take m) S.aT S.held hS.Ol (by omega) (fun e=>by rw [e] at QR;simp at QR;omega)
   have eS:P.put S (d.take m)=⟨S.eI,P.plus S.sum (S.aT.take S.held++d.take m++[1]) S.eI,S.mask,P.nA,0⟩:=ep
   have aOd:S.aT.drop (S.held+m)=[]:=List.drop_eq_nil_of_le (by rw [hf];exact Nat.le_of_eq hS.Ol)
   have hB:CM S d=S.aT.take S.held++d.take m++[1]:=by
    unfold CM
    rw [ej,HP hS.Oj hlen,aOd,List.append_nil]
   have aXn:(CM S d).length=17:=by rw [hB];rw [aOd,List.append_nil] at hlen;rw [List.length_append,hlen];rfl
   have h2:=aWb P.plus S (P.put S (d.take m)) d (d.drop m) d.length (d.drop m).length
   rw [hmm] at h2
   refine G.eJ aU aV mix hb [true,true] h2 (Pw hS.b5 hS.s5 aXn ?_ (aM hbq (aM rfl (hmc (aM (by rw [hdl];omega) (qI ?_ (aM htd fO))))))) ?_
   .unfold spN
    refine Fp (iS hS.b5).symm (iS hS.s5).symm (fun j hj=>?_) (fun j hj=>?_) ?_
    .simp [Td,gY,hj]
    .simp [Td,gY,hj]
    .rw [hmm,hhq,sJ]
   .rw [eS]
    refine Fp rfl (by show P.plus _ _ _=P.plus _ _ _;rw [iS hS.s5,iS hS.b5,hB]) (fun j hj=>?_) (fun j hj=>?_) rfl
    .rw [ej];simp only
     rw [gY,List.getElem?_append_left (by rw [hS.Oj];exact hj),<- gY]
    .exact (P.Uu j).symm
   .exact key _ _ PU (.inl (by rw [eS])) hpp (by rw [hdl];omega)
  .have bAu:m=d.length:=hmz.resolve_right hf
   have hbq:(hq S.held m==16)=false:=by rw [hhq];simpa using by omega
   have ep:=P.uQ S.eI S.sum S.mask (d.take m) S.aT S.held hS.Ol (by omega)
   have eS:P.put S (d.take m)=⟨S.eI,S.sum,S.mask,S.aT.take S.held++d.take m++S.aT.drop (S.held+(d.take m).length),S.held+(d.take m).length⟩:=ep
   rw [QR] at eS
   have h1:=aWc P.plus S (P.put S (d.take m)) d (d.drop m) d.length (d.drop m).length
   rw [hmm,ho,em] at h1
   refine G.eJ aU aV mix hb [true,false] h1 (aM hbq (aM rfl (hmc (aM (by rw [hdl];omega) (qI ?_ (aM htd fO)))))) ?_
   .rw [eS]
    refine Fp rfl rfl (fun j hj=>?_) (fun j hj=>?_) hhq
    .rw [gY,List.getElem?_append_left (by rw [hS.Oj];exact hj),<- gY]
    .rw [gY,List.getElem?_append_right (by rw [hS.Oj];omega),hS.Oj,show 16+j-16=j by omega,<- gY]
   .exact key _ _ PU (.inr (List.drop_eq_nil_of_le (by omega))) hpp (by rw [hdl];omega)
noncomputable def Pr (pl:List Int->List Int->List Int->List Int):Nat->Option Sum:=dL (aEz pl) 132 (aL aB 100 Ts)
theorem We (pl:List Int->List Int->List Int->List Int):∀ f S,Pr pl f=some S->∀ Γ:Env,Γ.aO=aB->aG Tryz.prog Γ f S:=bE (Wf pl) 132 _ HR
theorem aOz (pl:List Int->List Int->List Int->List Int) (S:P.MS):aK (env (Pr pl) 4) Tryz.f88 true [false] 1500 [.ptr 60 true 0] (mnT S) 100 100 =
 some { bO:=[(c5 S.sum).length=5,(dE 16 S.mask).length=16,c5 S.sum=c5 S.sum,dE 16 S.mask=dE 16 S.mask,gT S.held=false,gT S.held=gT S.held],val:=.agg (cN .u8 16 (P.tag (c5 S.sum) (dE 16 S.mask))) }:=by kernel_rfl
def tgB (S:P.MS):List Int:=(dE 16 S.aT++[0]).set (0+(S.held:Int).toNat*1) 1
def tgX (pl:List Int->List Int->List Int->List Int) (S:P.MS):List Int:=c5 (pl (c5 S.sum) (tgB S) (c5 S.eI))
def Ol (a b:List Int):List Prop:=[a.length=5,b.length=16,a=a,b=b]
theorem aOy (pl:List Int->List Int->List Int->List Int) (S:P.MS):aK (env (Pr pl) 4) Tryz.f88 true [true] 1500 [.ptr 60 true 0] (mnT S) 100 100 =
 some { QP (.agg (cN .u8 16 (P.tag (tgX pl S) (dE 16 S.mask)))) (P.nf S) with bO:=Ol (tgX pl S) (dE 16 S.mask)++tkG pl S.eI S.sum (S.mask.getD · 0) (S.aT.getD · 0) S.held (P.nf S) (tgB S) [(tgB S).length=17,0+(S.held:Int).toNat*1<(dE 16 S.aT++[0]).length,0<=(S.held:Int)/\(S.held:Int)<(17:Nat),gT S.held=true,gT S.held=gT S.held] }:=by kernel_rfl
namespace P
def Fk (S:MS):List Int:=tag (Ep S) S.mask
end P
theorem JJ {S:P.MS} (hS:S.WF) (Γ:Env) (hg:Γ.aO=aB):aF Tryz.prog Γ 88 [.ptr 60 true 0] (mnT S) 100 100 (QP (.agg (cN .u8 16 (P.Fk S))) S):=by
 have hk:∀ {a b:List Int},a.length=5->b.length=16->∀ q∈Ol a b,q:=fun h1 h2=>aA (show _/\_/\_/\_/\True from ⟨h1,h2,rfl,rfl,trivial⟩)
 by_cases hz:S.held=0
 .have hG:gT S.held=false:=kN (by omega)
  have hs:aG Tryz.prog (env (Pr P.plus) 4) 88 (aK (env (Pr P.plus) 4) Tryz.f88 true [false] 1500):=aN (bL _ 4) (bV _ (We _) 4) mix Tryz.func88 (by kernel_rfl) true [false] 1500
  have h:=hs.call (aOz P.plus S) (aM (by rw [iS hS.s5];exact hS.s5) (aM (by rw [dX hS.Oj];exact hS.Oj) (aM rfl (aM rfl (aM hG (aM rfl fO))))))
  have e1:P.Fk S=P.tag (c5 S.sum) (dE 16 S.mask):=by unfold P.Fk P.Ep;rw [if_neg (by omega),iS hS.s5,dX hS.Oj]
  rw [e1]
  exact (h.same (l0:=60) (by simp only [mnT,mnL,aI]) rfl).words (by rw [hg];rfl) (fun _=>rfl) (fun _ _ h=>h) (fun V=>rfl) rfl rfl
 .have hG:gT S.held=true:=decide_eq_true (by omega)
  have hh:=hS.hl
  have hs:aG Tryz.prog (env (Pr P.plus) 4) 88 (aK (env (Pr P.plus) 4) Tryz.f88 true [true] 1500):=aN (bL _ 4) (bV _ (We _) 4) mix Tryz.func88 (by kernel_rfl) true [true] 1500
  have eB:tgB S=(S.aT++[0]).set S.held 1:=by unfold tgB;rw [dX hS.Ol,sJ,Nat.mul_one,Nat.zero_add]
  have hB:(tgB S).length=17:=by rw [eB,List.length_set,List.length_append,hS.Ol];rfl
  have eX:tgX P.plus S=P.Ep S:=by unfold tgX P.Ep;rw [if_pos (by omega),iS hS.s5,iS hS.b5,iS rfl,eB]
  have h:=hs.call (aOy P.plus S) (qI (hk (by rw [eX];unfold P.Ep;rw [if_pos (by omega)];rfl) (by rw [dX hS.Oj];exact hS.Oj)) (Pw hS.b5 hS.s5 hB (by rw [P.Lh hS];exact Cg rfl)
   (aM hB (aM (by rw [dX hS.Ol,List.length_append,hS.Ol,sJ,List.length_singleton];omega) (aM ⟨by omega,by omega⟩ (aM hG (aM rfl fO)))))))
  rw [P.Lh hS,eX,dX hS.Oj] at h
  exact h.words (by rw [hg];rfl) (fun _=>rfl) (fun _ _ h=>h) (fun V=>rfl) rfl rfl
def FJ (vs:List SV) (T:aX):Option Canon:=match vs with
 | [.ptr l _ _,p]=>match T l with
   | some (.own cs ty)=>match Nat.beq ty 179,msN cs,dQ T .u8 p with
     | true,some S,some (ob,d)=>some { eL:=[.ptr 60 true 0,.iH 61 d.length],T0:=mtL S d,vl:=[(60,.lab l 0),(61,.arg 1)],e0:=QP (.eD []) (P.put S d),conds:=S.WF::(d.length<=1000000000000)::ob }
     | _,_,_=>none
   | _=>none
 | _=>none
theorem aIm (Γ:Env) (hg:Γ.aO=aB):aG Tryz.prog Γ 87 (aL aB 100 FJ):=by
 refine aY hg fun vs T c hd hc=>?_
 unfold FJ at hd
 split at hd
 case h_2=>cases hd
 split at hd
 case h_2=>cases hd
 split at hd
 case h_2=>cases hd
 cases hd
 exact (YC _ (hc _ dC) (hc _ (eM _ dC))).words (by rw [hg];rfl) (fun _=>rfl) (fun _ _ h=>h) (fun _=>rfl) rfl rfl
def Px (vs:List SV) (T:aX):Option Canon:=match vs with
 | [.ptr l _ _]=>match T l with
   | some (.own cs ty)=>match Nat.beq ty 179,msN cs with
     | true,some S=>some { eL:=[.ptr 60 true 0],T0:=mnL S,vl:=[(60,.lab l 0)],e0:=QP (.agg (cN .u8 16 (P.Fk S))) S,conds:=[S.WF] }
     | _,_=>none
   | _=>none
 | _=>none
theorem UQ (Γ:Env) (hg:Γ.aO=aB):aG Tryz.prog Γ 88 (aL aB 100 Px):=by
 refine aY hg fun vs T c hd hc=>?_
 unfold Px at hd
 split at hd
 case h_2=>cases hd
 split at hd
 case h_2=>cases hd
 split at hd
 case h_2=>cases hd
 cases hd
 exact JJ (hc _ dC) Γ hg
open M in
def GU (vs:List SV) (T:aX):Option Canon:=match vs with
 | [.aH lq true 0 nq cq,.ptr ls true 0,.aH lu true 0 nu cu,.dJ lv 0 3 0]=>match T lq,T ls,T lu,T lv with
   | some (.own qs 142),some (.own [.raw (.pointer none)] 282),some (.own us 142),some (.row 1 _ 142)=>match cU .u64 qs,cU .u64 us,Nat.beq nu 4 with
     | some [y0],some [u0,u1,u2,u3,_,_,_],true=>match Nat.beq cu 7&&(Nat.beq nq 1&&Nat.beq cq 1) with
       | true=>some { eL:=Bd 4 7 1 1,T0:=[(61,.own (wc [y0]) 142),(62,.own [.raw (.pointer none)] 282),(63,.own (wc [u0,u1,u2,u3,0,0,0]) 142),(64,.row 1 eZ 142)],vl:=[(61,.lab lq 0),(62,.lab ls 0),(63,.lab lu 0),(64,.lab lv 0)]
                      e0:={ val:=.eD [],wr:=[(61,.own (wc [n4 u0 u1 u2 u3/DD]) 142),(63,.own (wc [w0 (n4 u0 u1 u2 u3%DD),w1 (n4 u0 u1 u2 u3%DD),w2 (n4 u0 u1 u2 u3%DD),0,0,0,0]) 142),(62,.own [.raw (.pointer none)] 282),(64,.row 1 eZ 142)] },conds:=[U u0,U u1,U u2,U u3,u3<9223372036854775808] }
       | false=>none
     | some [y0],some [u0,u1,u2,u3,_,_,_,_],true=>match Nat.beq cu 8&&(Nat.beq nq 1&&Nat.beq cq 1) with
       | true=>some { eL:=Bd 4 8 1 1,T0:=[(61,.own (wc [y0]) 142),(62,.own [.raw (.pointer none)] 282),(63,.own (wc [u0,u1,u2,u3,0,0,0,0]) 142),(64,.row 1 eZ 142)],vl:=[(61,.lab lq 0),(62,.lab ls 0),(63,.lab lu 0),(64,.lab lv 0)]
                      e0:={ val:=.eD [],wr:=[(61,.own (wc [n4 u0 u1 u2 u3/DD]) 142),(63,.own (wc [w0 (n4 u0 u1 u2 u3%DD),w1 (n4 u0 u1 u2 u3%DD),w2 (n4 u0 u1 u2 u3%DD),0,0,0,0,0]) 142),(62,.own [.raw (.pointer none)] 282),(64,.row 1 eZ 142)] },conds:=[U u0,U u1,U u2,U u3,u3<9223372036854775808] }
       | false=>none
     | some [y0,y1,_,_,_,_],some [u0,u1,u2,u3,u4,_,_,_],false=>match Nat.beq nu 5&&(Nat.beq cu 8&&(Nat.beq nq 2&&Nat.beq cq 6)) with
       | true=>some { eL:=Bd 5 8 2 6,T0:=[(61,.own (wc [y0,y1,0,0,0,0]) 142),(62,.own [.raw (.pointer none)] 282),(63,.own (wc [u0,u1,u2,u3,u4,0,0,0]) 142),(64,.row 1 eZ 142)],vl:=[(61,.lab lq 0),(62,.lab ls 0),(63,.lab lu 0),(64,.lab lv 0)]
                      e0:={ val:=.eD [],wr:=[(61,.own (wc [r5 u0 u1 u2 u3 u4/DD,n4 u1 u2 u3 u4/DD,0,0,0,0]) 142),(63,.own (wc [w0 (r5 u0 u1 u2 u3 u4%DD),w1 (r5 u0 u1 u2 u3 u4%DD),w2 (r5 u0 u1 u2 u3 u4%DD),0,0,0,0,0]) 142),(62,.own [.raw (.pointer none)] 282),(64,.row 1 eZ 142)] },conds:=[U u0,U u1,U u2,U u3,U u4,u4<9223372036854775808] }
       | false=>none
     | some [y0,y1,_,_,_,_],some [u0,u1,u2,u3,u4,_,_,_,_],false=>match Nat.beq nu 5&&(Nat.beq cu 9&&(Nat.beq nq 2&&Nat.beq cq 6)) with
       | true=>some { eL:=Bd 5 9 2 6,T0:=[(61,.own (wc [y0,y1,0,0,0,0]) 142),(62,.own [.raw (.pointer none)] 282),(63,.own (wc [u0,u1,u2,u3,u4,0,0,0,0]) 142),(64,.row 1 eZ 142)],vl:=[(61,.lab lq 0),(62,.lab ls 0),(63,.lab lu 0),(64,.lab lv 0)]
                      e0:={ val:=.eD [],wr:=[(61,.own (wc [r5 u0 u1 u2 u3 u4/DD,n4 u1 u2 u3 u4/DD,0,0,0,0]) 142),(63,.own (wc [w0 (r5 u0 u1 u2 u3 u4%DD),w1 (r5 u0 u1 u2 u3 u4%DD),w2 (r5 u0 u1 u2 u3 u4%DD),0,0,0,0,0,0]) 142),(62,.own [.raw (.pointer none)] 282),(64,.row 1 eZ 142)] },conds:=[U u0,U u1,U u2,U u3,U u4,u4<9223372036854775808] }
       | false=>none
     | _,_,_=>none
   | _,_,_,_=>none
 | _=>none
theorem aSp (Γ:Env) (hg:Γ.aO=aB):aG Tryz.prog Γ 225 (aL aB 100 GU):=by
 refine aY hg fun vs T c hd hc=>?_
 unfold GU at hd
 split at hd
 case h_2=>cases hd
 split at hd
 case h_2=>cases hd
 split at hd
 case h_5=>cases hd
 .split at hd
  case h_2=>cases hd
  cases hd
  exact (((AS _ (hc _ (by simp)) (hc _ (by simp)) (hc _ (by simp)) (hc _ (by simp)) (hc _ (by simp))).bD 62 _ rfl (by decide)).bD 64 _ rfl (by decide)).words (by rw [hg];rfl) (fun _=>rfl) (fun _ _ h=>h) (fun _=>rfl) rfl rfl
 .split at hd
  case h_2=>cases hd
  cases hd
  exact (((AR _ (hc _ (by simp)) (hc _ (by simp)) (hc _ (by simp)) (hc _ (by simp)) (hc _ (by simp))).bD 62 _ rfl (by decide)).bD 64 _ rfl (by decide)).words (by rw [hg];rfl) (fun _=>rfl) (fun _ _ h=>h) (fun _=>rfl) rfl rfl
 .split at hd
  case h_2=>cases hd
  cases hd
  exact (((AQ _ _ (hc _ (by simp)) (hc _ (by simp)) (hc _ (by simp)) (hc _ (by simp)) (hc _ (by simp)) (hc _ (by simp))).bD 62 _ rfl (by decide)).bD 64 _ rfl (by decide)).words (by rw [hg];rfl) (fun _=>rfl) (fun _ _ h=>h) (fun _=>rfl) rfl rfl
 .split at hd
  case h_2=>cases hd
  cases hd
  exact (((AP _ _ (hc _ (by simp)) (hc _ (by simp)) (hc _ (by simp)) (hc _ (by simp)) (hc _ (by simp)) (hc _ (by simp))).bD 62 _ rfl (by decide)).bD 64 _ rfl (by decide)).words (by rw [hg];rfl) (fun _=>rfl) (fun _ _ h=>h) (fun _=>rfl) rfl rfl
theorem pB:∀ f S,Xi f=some S->∀ Γ:Env,Γ.aO=aB->aG Tryz.prog Γ f S:=IS
noncomputable def aFb:Nat->Option Sum:=dL Xi 225 (aL aB 100 GU)
theorem Wh:∀ f S,aFb f=some S->∀ Γ:Env,Γ.aO=aB->aG Tryz.prog Γ f S:=bE pB 225 _ aSp
noncomputable def aOa (iq ir:Nat):Nat->Option Sum:=dL (dL aFb 145 (aL aB 100 (sX iq ir))) 114 (orB aFb 114 (aL aB 100 Uf))
theorem aAt (iq ir:Nat):∀ f S,aOa iq ir f=some S->∀ Γ:Env,Γ.aO=aB->aG Tryz.prog Γ f S:=bE (bE Wh 145 _ (Cj iq ir)) 114 _ (HU Wh 114 _ aDo)
noncomputable def oR (lt:Bool) (iq ir:Nat):Nat->Option Sum:=Bh (aOa iq ir) 170 [lt]
theorem nH (lt:Bool) (iq ir:Nat):∀ f S,oR lt iq ir f=some S->∀ Γ:Env,Γ.aO=aB->aG Tryz.prog Γ f S:=lG (aAt iq ir) 170 _
def qC:List SV:=[.ptr 61 true 0,.ptr 61 true 0,.ptr 62 true 0]
def Ea:List SV:=[.int true .u64 18446744073709551611,.int true .u64 18446744073709551615,.int true .u64 3,.int true .u64 0,.int true .u64 0,.int true .u64 0,.int true .u64 0,.int true .u64 0]
def mdT (n cap:Nat) (ws:List SV):aX:=fun l=>look l [(61,.own [.bool true false,.aH 63 true 0 n cap] 102),(62,.own [.bool true false,.aH 66 true 0 3 8] 102),(63,.own ws 142),(66,.own Ea 142),(18,.eQ [.int true .i64 40])]
noncomputable def Bm (lt:Bool) (iq ir n cap:Nat) (ws:List SV):Option bK:=aK (env (oR lt iq ir) 22) Tryz.f98 true [] 400 qC (mdT n cap ws) 100 100
namespace M
def s0 (a:Int):Int:=dD .u64 a 62
def s1 (a b:Int):Int:=jZ .u64 (dD .u64 b 62) (bY .u64 a 2)
def s2 (a:Int):Int:=bY .u64 a 2
def t0 (x:Int):Int:=jZ .u64 (bY .u64 (w0 x) 62) (dD .u64 (w1 x) 2)
def t1 (x:Int):Int:=jZ .u64 (bY .u64 (w1 x) 62) (dD .u64 (w2 x) 2)
def t2 (x:Int):Int:=jZ .u64 (bY .u64 (w2 x) 62) 0
def x3 (a0 a1 a2:Int):Int:=n4 (s0 a0) (s1 a0 a1) (s1 a1 a2) (s2 a2)
def h4 (a0 a1 a2 a3:Int):Int:=n4 (s1 a0 a1) (s1 a1 a2) (s1 a2 a3) (s2 a3)
def x4 (a0 a1 a2 a3:Int):Int:=r5 (s0 a0) (s1 a0 a1) (s1 a1 a2) (s1 a2 a3) (s2 a3)
end M
theorem aIv (a0:Int) :
 Bm true 0 0 1 6 (wc [a0,0,0,0,0,0]) =
 some {val:=.ptr 61 true 0,wr:=[(61,.own [.bool true false,.aH 63 true 0 1 6] 102),(63,.own [.int false .u64 a0,.int false .u64 0,.int false .u64 0,.int false .u64 0,.int false .u64 0,.int false .u64 0] 142)]}:=by kernel_rfl
theorem aIu (a0 a1:Int) :
 Bm true 0 0 2 6 (wc [a0,a1,0,0,0,0]) =
 some {val:=.ptr 61 true 0,wr:=[(61,.own [.bool true false,.aH 63 true 0 2 6] 102),(63,.own [.int false .u64 a0,.int false .u64 a1,.int false .u64 0,.int false .u64 0,.int false .u64 0,.int false .u64 0] 142)]}:=by kernel_rfl
theorem aIt (a0 a1:Int) :
 Bm true 0 0 2 7 (wc [a0,a1,0,0,0,0,0]) =
 some {val:=.ptr 61 true 0,wr:=[(61,.own [.bool true false,.aH 63 true 0 2 7] 102),(63,.own [.int false .u64 a0,.int false .u64 a1,.int false .u64 0,.int false .u64 0,.int false .u64 0,.int false .u64 0,.int false .u64 0] 142)]}:=by kernel_rfl
theorem aIs (a0 a1 a2:Int) :
 Bm true 0 0 3 7 (wc [a0,a1,a2,0,0,0,0]) =
 some {bO:=[decide (M.cmp (M.n3 a0 a1 a2) 1361129467683753853853498429727072845819<0)=true,M.U a0,M.U a1,M.U a2,M.U 18446744073709551611,M.U 18446744073709551615,M.U 3,[a0,a1,a2,0,0,0,0]=[a0,a1,a2,0,0,0,0],([18446744073709551611,18446744073709551615,3,0,0,0,0,0]:List Int)=[18446744073709551611,18446744073709551615,3,0,0,0,0,0]],val:=.ptr 61 true 0,wr:=[(61,.own [.bool true false,.aH 63 true 0 3 7] 102),(63,.own [.int false .u64 a0,.int false .u64 a1,.int false .u64 a2,.int false .u64 0,.int false .u64 0,.int false .u64 0,.int false .u64 0] 142)]}:=by kernel_rfl
theorem aIr (a0 a1 a2:Int) :
 Bm true 0 0 3 8 (wc [a0,a1,a2,0,0,0,0,0]) =
 some {bO:=[decide (M.cmp (M.n3 a0 a1 a2) 1361129467683753853853498429727072845819<0)=true,M.U a0,M.U a1,M.U a2,M.U 18446744073709551611,M.U 18446744073709551615,M.U 3,[a0,a1,a2,0,0,0,0,0]=[a0,a1,a2,0,0,0,0,0],([18446744073709551611,18446744073709551615,3,0,0,0,0,0]:List Int)=[18446744073709551611,18446744073709551615,3,0,0,0,0,0]],val:=.ptr 61 true 0,wr:=[(61,.own [.bool true false,.aH 63 true 0 3 8] 102),(63,.own [.int false .u64 a0,.int false .u64 a1,.int false .u64 a2,.int false .u64 0,.int false .u64 0,.int false .u64 0,.int false .u64 0,.int false .u64 0] 142)]}:=by kernel_rfl
theorem aQt {c ir:Nat} (hc:c=7\/c=8) (hr:ir<=3) (a0 a1 a2:Int) :
 Bm false 1 ir 3 c (wc ([a0,a1,a2]++List.replicate (c-3) 0)) =
 sh (M.x3 a0 a1 a2%M.DD) fun z0=>
 some {bO:=[M.nl [M.t0 z0,M.t1 z0,M.t2 z0,0]=ir,[M.t0 z0,M.t1 z0,M.t2 z0]++List.replicate (c-3) 0=[M.t0 z0,M.t1 z0,M.t2 z0]++List.replicate (c-3) 0,M.nl [M.x3 a0 a1 a2/M.DD]=1,[M.x3 a0 a1 a2/M.DD]=[M.x3 a0 a1 a2/M.DD],M.U (M.s0 a0),M.U (M.s1 a0 a1),M.U (M.s1 a1 a2),M.U (M.s2 a2),M.s2 a2<9223372036854775808,3=3,([0]:List Int)=[0],[M.s0 a0,M.s1 a0 a1,M.s1 a1 a2,M.s2 a2]++List.replicate (c-4) 0=[M.s0 a0,M.s1 a0 a1,M.s1 a1 a2,M.s2 a2]++List.replicate (c-4) 0,decide (M.cmp (M.n3 a0 a1 a2) 1361129467683753853853498429727072845819<0)=false,M.U a0,M.U a1,M.U a2,M.U 18446744073709551611,M.U 18446744073709551615,M.U 3,[a0,a1,a2]++List.replicate (c-3) 0=[a0,a1,a2]++List.replicate (c-3) 0,([18446744073709551611,18446744073709551615,3,0,0,0,0,0]:List Int)=[18446744073709551611,18446744073709551615,3,0,0,0,0,0]],val:=.ptr 61 true 0,wr:=[(61,.own [.bool true false,.aH 63 true 0 ir c] 102),(63,.own (wc ([M.t0 z0,M.t1 z0,M.t2 z0]++List.replicate (c-3) 0)) 142)]}:=by rcases hc with rfl | rfl <;> rcases (by omega:ir=0\/ir=1\/ir=2\/ir=3) with rfl | rfl | rfl | rfl <;> kernel_rfl
theorem aQs {c iq ir:Nat} (hc:c=8\/c=9) (hq:iq=1\/iq=2) (hr:ir<=3) (a0 a1 a2 a3:Int) :
 Bm false iq ir 4 c (wc ([a0,a1,a2,a3]++List.replicate (c-4) 0)) =
 sh (M.x4 a0 a1 a2 a3%M.DD) fun z0=>
 some {bO:=[M.nl [M.t0 z0,M.t1 z0,M.t2 z0,0,0]=ir,[M.t0 z0,M.t1 z0,M.t2 z0,0]++List.replicate (c-4) 0=[M.t0 z0,M.t1 z0,M.t2 z0,0]++List.replicate (c-4) 0,M.nl [M.x4 a0 a1 a2 a3/M.DD,M.h4 a0 a1 a2 a3/M.DD]=iq,[M.x4 a0 a1 a2 a3/M.DD,M.h4 a0 a1 a2 a3/M.DD,0,0,0,0]=[M.x4 a0 a1 a2 a3/M.DD,M.h4 a0 a1 a2 a3/M.DD,0,0,0,0],M.U (M.s0 a0),M.U (M.s1 a0 a1),M.U (M.s1 a1 a2),M.U (M.s1 a2 a3),M.U (M.s2 a3),M.s2 a3<9223372036854775808,3=3,([0,0,0,0,0,0]:List Int)=[0,0,0,0,0,0],[M.s0 a0,M.s1 a0 a1,M.s1 a1 a2,M.s1 a2 a3,M.s2 a3]++List.replicate (c-5) 0=[M.s0 a0,M.s1 a0 a1,M.s1 a1 a2,M.s1 a2 a3,M.s2 a3]++List.replicate (c-5) 0],val:=.ptr 61 true 0,wr:=[(61,.own [.bool true false,.aH 63 true 0 ir c] 102),(63,.own (wc ([M.t0 z0,M.t1 z0,M.t2 z0,0]++List.replicate (c-4) 0)) 142)]}:=by rcases hc with rfl | rfl <;> rcases hq with rfl | rfl <;> rcases (by omega:ir=0\/ir=1\/ir=2\/ir=3) with rfl | rfl | rfl | rfl <;> kernel_rfl
def kY:SB->SB->Prop
 | .own cs t,.own ds t'=>t=t'/\∀ V,aJ V ds=aJ V cs
 | B,C=>B=C
def xA:List SB->List SB->Prop
 | [],[]=>True
 | B::r,C::t=>kY B C/\xA r t
 | _,_=>False
def nZ:List (Nat × SB)->List (Nat × SB)->Prop
 | [],[]=>True
 | (l,B)::r,(k,C)::t=>l=k/\kY B C/\nZ r t
 | _,_=>False
theorem cB (B:SB):kY B B:=by cases B <;> simp [kY]
theorem kI {B C:SB} (h:kY B C) (V:bA) (w:World) (l:Nat):(okB V w l B->okB V w l C)/\C.aT V l=B.aT V l/\C.owned=B.owned:=by
 cases B with
 | own cs t=>
   cases C with
   | own ds t'=>
     obtain ⟨rfl,hd⟩:=h
     exact ⟨fun ⟨us,hu,hr⟩=>⟨us,(hd V).trans hu,hr⟩,rfl,rfl⟩
   | _=>simp [kY] at h
 | _=>simp only [kY] at h;subst h;exact ⟨id,rfl,rfl⟩
theorem pF {l:Nat}:∀ {r t:List (Nat × SB)},nZ r t->(look l r=none/\look l t=none)\/∃ B C,look l r=some B/\look l t=some C/\kY B C
 | [],[],_=>.inl ⟨rfl,rfl⟩
 | [],(k,C)::t,h=>by simp [nZ] at h
 | (k,B)::r,[],h=>by simp [nZ] at h
 | (k,B)::r,(k',C)::t,h=>by
   obtain ⟨rfl,h1,h2⟩:=h
   by_cases e:k=l
   .subst e;exact .inr ⟨B,C,aI _ _ _,aI _ _ _,h1⟩
   .rw [aE e,aE e];exact pF h2
theorem Dk:∀ {r t:List SB} (lab:Nat),xA r t->nZ (gE lab r) (gE lab t)
 | [],[],_,_=>trivial
 | [],_::_,_,h=>by simp [xA] at h
 | _::_,[],_,h=>by simp [xA] at h
 | B::r,C::t,lab,h=>⟨rfl,h.1,Dk (lab+1) h.2⟩
theorem wD:∀ {r t r' t':List (Nat × SB)},nZ r t->nZ r' t'->nZ (r++r') (t++t')
 | [],[],_,_,_,h=>h
 | [],_::_,_,_,h,_=>by simp [nZ] at h
 | _::_,[],_,_,h,_=>by simp [nZ] at h
 | (_,_)::_,(_,_)::_,_,_,h,h'=>⟨h.1,h.2.1,wD h.2.2 h'⟩
theorem aF.re {P:Program} {Γ Γ':Env} {f:FuncId} {vs:List SV} {T:aX} {lab F:Nat} {e e':bK} (h:aF P Γ f vs T lab F e) (hg:Γ'.aO=Γ.aO) (he:∀ V,den V e.val=den V e'.val) (hn:xA e.new e'.new) (hw:nZ e.wr e'.wr):aF P Γ' f vs T lab F e':=by
 intro w0 M V T2 w xs aR Hm Xf hf hF hx o a K Q hK
 refine h w0 M V T2 w xs aR Hm (fun n l hl=>Xf n l (by rw [hg];exact hl)) hf hF hx o a K Q fun V' x w' h1 h2 h3=>hK V' x w' h1 ((he V').symm.trans h2) ?_
 have fR:nZ (e.eW lab) (e'.eW lab):=wD hw (Dk lab hn)
 have src:∀ l B,eT T2 lab e' l=some B->∃ C,eT T2 lab e l=some C/\kY C B:=by
  intro l B hl
  unfold eT at hl |-
  rcases pF (l:=l) fR with ⟨e1,e2⟩ | ⟨C,D,e1,e2,e3⟩
  .rw [e2] at hl;rw [e1];exact ⟨B,hl,cB B⟩
  .rw [e2] at hl;cases hl;rw [e1];exact ⟨C,rfl,e3⟩
 refine ⟨fun l B hl=>?_,fun l B l' B' n dI hl sL ho hb iL=>?_,fun l B n hl ho hb=>?_,h3.frame⟩
 .obtain ⟨C,hC,hs⟩:=src l B hl
  exact (kI hs V' w' l).1 (h3.ok l C hC)
 .obtain ⟨C,hC,hs⟩:=src l B hl
  obtain ⟨C',hC',xX⟩:=src l' B' sL
  obtain ⟨_,b1,b2⟩:=kI hs V' w' l
  obtain ⟨_,b1',b2'⟩:=kI xX V' w' l'
  exact h3.iY l C l' C' n dI hC hC' (b2 ▸ ho) (b1 ▸ hb) (b1' ▸ iL)
 .obtain ⟨C,hC,hs⟩:=src l B hl
  obtain ⟨_,b1,b2⟩:=kI hs V' w' l
  exact h3.perm l C n hC (b2 ▸ ho) (b1 ▸ hb)
namespace M
def bB:Int:=1361129467683753853853498429727072845819
theorem HD:DD=4611686018427387904*bB:=by decide
theorem BT {k y i:Nat} (hy:y<2^i) (hk:k*2^i+y<18446744073709551616):jZ .u64 ((k*2^i:Nat):Int) (y:Int)=((k*2^i+y:Nat):Int):=by
 have h:=bits_or_u64_nat (k*2^i) y (by omega) (by omega)
 have e:k*2^i ||| y=k*2^i+y:=by
  rw [<- Nat.shiftLeft_eq]
  exact (Nat.shiftLeft_add_eq_or_of_lt hy k).symm
 rw [e] at h
 exact h
theorem BU (x y:Int):jZ .u64 x y=jZ .u64 y x:=by unfold jZ;rw [BitVec.or_comm]
theorem aCl (a:Int):dD .u64 a 62=ul (a*4611686018427387904):=by unfold dD;rw [bP];rfl
theorem aMk (a:Int):dD .u64 a 2=ul (a*4):=by unfold dD;rw [bP];rfl
theorem EC (a:Int):bY .u64 a 62=a/4611686018427387904:=by
 show Int.fdiv a 4611686018427387904=_
 rw [Int.fdiv_eq_ediv_of_nonneg _ (by decide)]
theorem SD (a:Int):bY .u64 a 2=a/4:=by
 show Int.fdiv a 4=_
 rw [Int.fdiv_eq_ediv_of_nonneg _ (by decide)]
theorem EM (a:Int):s0 a=a%4*4611686018427387904:=by unfold s0;rw [aCl];unfold ul;omega
theorem EL (a:Int):s2 a=a/4:=SD a
theorem aMw (k y:Int) (hk:0<=k) (hk4:k<4) (fB:0<=y) (hy:y<4611686018427387904):jZ .u64 (k*4611686018427387904) y=k*4611686018427387904+y:=by
 obtain ⟨k,rfl⟩:=pW hk
 obtain ⟨y,rfl⟩:=pW fB
 have e:(k:Int)*4611686018427387904=((k*2^62:Nat):Int):=by rw [Int.natCast_mul];rfl
 have QF:(2:Nat)^62=4611686018427387904:=rfl
 rw [e,BT (by omega) (by omega)]
 omega
theorem or2 (k y:Int) (hk:0<=k) (hk4:k<4611686018427387904) (fB:0<=y) (hy:y<4):jZ .u64 (k*4) y=k*4+y:=by
 obtain ⟨k,rfl⟩:=pW hk
 obtain ⟨y,rfl⟩:=pW fB
 have e:(k:Int)*4=((k*2^2:Nat):Int):=by rw [Int.natCast_mul];rfl
 have QF:(2:Nat)^2=4:=rfl
 rw [e,BT (by omega) (by omega)]
 omega
theorem Fo {a b:Int} (ha:U a):s1 a b=b%4*4611686018427387904+a/4:=by
 have:=ha.1;have:=ha.2
 unfold s1
 rw [aCl,SD]
 have e:ul (b*4611686018427387904)=b%4*4611686018427387904:=by unfold ul;omega
 rw [e]
 exact aMw (b%4) (a/4) (by omega) (by omega) (by omega) (by omega)
theorem aPd (x:Int):t0 x=w0 x/4611686018427387904+w1 x%4611686018427387904*4:=by
 obtain ⟨h0,h1,h2⟩:=w_U x
 have:=h0.1;have:=h0.2;have:=h1.1;have:=h1.2
 unfold t0
 rw [EC,aMk,BU]
 have e:ul (w1 x*4)=w1 x%4611686018427387904*4:=by unfold ul;omega
 rw [e,or2 (w1 x%4611686018427387904) (w0 x/4611686018427387904) (by omega) (by omega) (by omega) (by omega)]
 omega
theorem aPc (x:Int):t1 x=w1 x/4611686018427387904+w2 x%4611686018427387904*4:=by
 obtain ⟨h0,h1,h2⟩:=w_U x
 have:=h1.1;have:=h1.2;have:=h2.1;have:=h2.2
 unfold t1
 rw [EC,aMk,BU]
 have e:ul (w2 x*4)=w2 x%4611686018427387904*4:=by unfold ul;omega
 rw [e,or2 (w2 x%4611686018427387904) (w1 x/4611686018427387904) (by omega) (by omega) (by omega) (by omega)]
 omega
theorem aPb (x:Int):t2 x=w2 x/4611686018427387904:=by
 obtain ⟨h0,h1,h2⟩:=w_U x
 have:=h2.1;have:=h2.2
 unfold t2
 have:=aMw 0 (w2 x/4611686018427387904) (by omega) (by omega) (by omega) (by omega)
 rw [Int.zero_mul] at this
 rw [EC,BU,this]
 omega
theorem HJ {R:Int} (h0:0<=R) (h1:R<bB):t0 (4611686018427387904*R)=w0 R/\t1 (4611686018427387904*R)=w1 R/\t2 (4611686018427387904*R)=w2 R:=by
 have Ov:R<1361129467683753853853498429727072845819:=h1
 rw [aPd,aPc,aPb]
 unfold w0 w1 w2
 refine ⟨?_,?_,?_⟩ <;> omega
theorem aCe {a0 a1 a2:Int} (h0:U a0) (h1:U a1) (h2:U a2):x3 a0 a1 a2=4611686018427387904*n3 a0 a1 a2:=by
 have:=h0.1;have:=h0.2;have:=h1.1;have:=h1.2;have:=h2.1;have:=h2.2
 unfold x3
 rw [EM,Fo h0,Fo h1,EL]
 unfold n4 n3
 omega
theorem aDl {a0 a1 a2 a3:Int} (h0:U a0) (h1:U a1) (h2:U a2) (h3:U a3):s0 a0+18446744073709551616*h4 a0 a1 a2 a3=4611686018427387904*n4 a0 a1 a2 a3:=by
 have:=h0.1;have:=h0.2;have:=h1.1;have:=h1.2;have:=h2.1;have:=h2.2;have:=h3.1;have:=h3.2
 unfold h4
 rw [EM,Fo h0,Fo h1,Fo h2,EL]
 unfold n4
 omega
theorem IE (n:Int):4611686018427387904*n%DD=4611686018427387904*(n%bB):=by
 rw [HD];exact Int.mul_emod_mul_of_pos _ _ (by decide)
theorem aLo (n:Int):4611686018427387904*n/DD=n/bB:=by
 rw [HD];exact Int.mul_ediv_mul_of_pos _ _ (by decide)
theorem aGc {a0 a1 a2:Int} (h0:U a0) (h1:U a1) (h2:U a2):x3 a0 a1 a2%DD=4611686018427387904*(n3 a0 a1 a2%bB):=by
 rw [aCe h0 h1 h2,IE]
theorem aGd {a0 a1 a2:Int} (h0:U a0) (h1:U a1) (h2:U a2):x3 a0 a1 a2/DD=n3 a0 a1 a2/bB:=by
 rw [aCe h0 h1 h2,aLo]
theorem aCd {a0 a1 a2 a3:Int}:x4 a0 a1 a2 a3=s0 a0+18446744073709551616*(h4 a0 a1 a2 a3%DD):=aCs
theorem aGa {a0 a1 a2 a3:Int} (h0:U a0) (h1:U a1) (h2:U a2) (h3:U a3):x4 a0 a1 a2 a3%DD=4611686018427387904*(n4 a0 a1 a2 a3%bB):=by
 rw [<- IE,<- aDl h0 h1 h2 h3,aCd]
 rw [Int.add_emod,Int.mul_emod,Int.emod_emod_of_dvd _ (Int.dvd_refl DD),<- Int.mul_emod,<- Int.add_emod]
theorem aGb {a0 a1 a2 a3:Int} (h0:U a0) (h1:U a1) (h2:U a2) (h3:U a3) (hp:bB<=n4 a0 a1 a2 a3) (hz:h4 a0 a1 a2 a3/DD=0):x4 a0 a1 a2 a3/DD≠0:=by
 have hh:=aDl h0 h1 h2 h3
 have hx:=aCd (a0:=a0) (a1:=a1) (a2:=a2) (a3:=a3)
 have hd:=HD
 have e1:=Int.emod_add_mul_ediv (h4 a0 a1 a2 a3) DD
 rw [hz] at e1
 have e2:h4 a0 a1 a2 a3%DD=h4 a0 a1 a2 a3:=by omega
 rw [e2,hh] at hx
 intro e
 have e3:=Int.emod_lt_of_pos (x4 a0 a1 a2 a3) Rm
 have e4:=Int.emod_add_mul_ediv (x4 a0 a1 a2 a3) DD
 rw [e] at e4
 omega
theorem sU {a:Int} (h:U a):U (s0 a)/\U (s2 a)/\s2 a<9223372036854775808:=by
 have:=h.1;have:=h.2
 rw [EM,EL]
 unfold U
 omega
theorem s1U {a b:Int} (h:U a):U (s1 a b):=by
 have:=h.1;have:=h.2
 rw [Fo h]
 unfold U
 omega
theorem aCp (n:Int):0<=n%bB/\n%bB<bB:=⟨Int.emod_nonneg _ (by decide),Int.emod_lt_of_pos _ (by decide)⟩
def ln (R:Int):Nat:=nl [w0 R,w1 R,w2 R]
theorem fZ:∀ l:List Int,nl (l++[0])=nl l
 | []=>rfl
 | x::r=>by simp only [List.cons_append,nl,fZ r]
theorem nl4 (a b c:Int):nl [a,b,c,0]=nl [a,b,c]:=fZ [a,b,c]
theorem nl5 (a b c:Int):nl [a,b,c,0,0]=nl [a,b,c]:=(fZ [a,b,c,0]).trans (nl4 a b c)
theorem aDd (R:Int):ln R<=3:=FF _
theorem Rd {x y:Int}:decide (cmp x y<0)=decide (x<y):=by
 unfold cmp
 by_cases h:x<y
 .rw [if_pos h];simp [h]
 .rw [if_neg h];split <;> simp [h]
end M
open M in
theorem Sa {a0:Int} (h0:U a0) (hz:a0≠0):aF Tryz.prog Γv 98 qC (mdT 1 6 (wc [a0,0,0,0,0,0])) 100 100
 { val:=.ptr 61 true 0,wr:=[(61,.own [.bool true false,.aH 63 false 0 (ln (a0%bB)) 6] 102),(63,.own (wc [w0 (a0%bB),w1 (a0%bB),w2 (a0%bB),0,0,0]) 142)] }:=by
 have:=h0.1;have:=h0.2
 have hs:aG Tryz.prog (env (oR true 0 0) 22) 98 (aK (env (oR true 0 0) 22) Tryz.f98 true [] 400):=aN (bL _ 22) (bV _ (nH true 0 0) 22) mix Tryz.func98 (by kernel_rfl) true [] 400
 have hR:a0%bB=a0:=Int.emod_eq_of_lt (by omega) (by unfold bB;omega)
 have e0:w0 (a0)=a0:=by unfold w0;omega
 have e1:w1 (a0)=0:=by unfold w1;omega
 have e2:w2 (a0)=0:=by unfold w2;omega
 have hl:ln (a0)=1:=by unfold ln;rw [e0,e1,e2];simp only [nl,if_true,if_neg hz]
 rw [hR,e0,e1,e2,hl]
 refine (hs.call (aIv a0) ?_).re rfl (fun _=>rfl) trivial ⟨rfl,⟨rfl,fun _=>rfl⟩,rfl,⟨rfl,fun _=>rfl⟩,trivial⟩
 simp
open M in
theorem Rz {a0 a1:Int} (h0:U a0) (h1:U a1) (hz:a1≠0):aF Tryz.prog Γv 98 qC (mdT 2 6 (wc [a0,a1,0,0,0,0])) 100 100
 { val:=.ptr 61 true 0,wr:=[(61,.own [.bool true false,.aH 63 false 0 (ln ((a0+18446744073709551616*a1)%bB)) 6] 102),(63,.own (wc [w0 ((a0+18446744073709551616*a1)%bB),w1 ((a0+18446744073709551616*a1)%bB),w2 ((a0+18446744073709551616*a1)%bB),0,0,0]) 142)] }:=by
 have:=h0.1;have:=h0.2;have:=h1.1;have:=h1.2
 have hs:aG Tryz.prog (env (oR true 0 0) 22) 98 (aK (env (oR true 0 0) 22) Tryz.f98 true [] 400):=aN (bL _ 22) (bV _ (nH true 0 0) 22) mix Tryz.func98 (by kernel_rfl) true [] 400
 have hR:(a0+18446744073709551616*a1)%bB=(a0+18446744073709551616*a1):=Int.emod_eq_of_lt (by omega) (by unfold bB;omega)
 have e0:w0 ((a0+18446744073709551616*a1))=a0:=by unfold w0;omega
 have e1:w1 ((a0+18446744073709551616*a1))=a1:=by unfold w1;omega
 have e2:w2 ((a0+18446744073709551616*a1))=0:=by unfold w2;omega
 have hl:ln ((a0+18446744073709551616*a1))=2:=by unfold ln;rw [e0,e1,e2];simp only [nl,if_true,if_neg hz]
 rw [hR,e0,e1,e2,hl]
 refine (hs.call (aIu a0 a1) ?_).re rfl (fun _=>rfl) trivial ⟨rfl,⟨rfl,fun _=>rfl⟩,rfl,⟨rfl,fun _=>rfl⟩,trivial⟩
 simp
open M in
theorem Ry {a0 a1:Int} (h0:U a0) (h1:U a1) (hz:a1≠0):aF Tryz.prog Γv 98 qC (mdT 2 7 (wc [a0,a1,0,0,0,0,0])) 100 100
 { val:=.ptr 61 true 0,wr:=[(61,.own [.bool true false,.aH 63 false 0 (ln ((a0+18446744073709551616*a1)%bB)) 7] 102),(63,.own (wc [w0 ((a0+18446744073709551616*a1)%bB),w1 ((a0+18446744073709551616*a1)%bB),w2 ((a0+18446744073709551616*a1)%bB),0,0,0,0]) 142)] }:=by
 have:=h0.1;have:=h0.2;have:=h1.1;have:=h1.2
 have hs:aG Tryz.prog (env (oR true 0 0) 22) 98 (aK (env (oR true 0 0) 22) Tryz.f98 true [] 400):=aN (bL _ 22) (bV _ (nH true 0 0) 22) mix Tryz.func98 (by kernel_rfl) true [] 400
 have hR:(a0+18446744073709551616*a1)%bB=(a0+18446744073709551616*a1):=Int.emod_eq_of_lt (by omega) (by unfold bB;omega)
 have e0:w0 ((a0+18446744073709551616*a1))=a0:=by unfold w0;omega
 have e1:w1 ((a0+18446744073709551616*a1))=a1:=by unfold w1;omega
 have e2:w2 ((a0+18446744073709551616*a1))=0:=by unfold w2;omega
 have hl:ln ((a0+18446744073709551616*a1))=2:=by unfold ln;rw [e0,e1,e2];simp only [nl,if_true,if_neg hz]
 rw [hR,e0,e1,e2,hl]
 refine (hs.call (aIt a0 a1) ?_).re rfl (fun _=>rfl) trivial ⟨rfl,⟨rfl,fun _=>rfl⟩,rfl,⟨rfl,fun _=>rfl⟩,trivial⟩
 simp
open M in
theorem Rx {a0 a1 a2:Int} (h0:U a0) (h1:U a1) (h2:U a2) (hz:a2≠0) (hp:n3 a0 a1 a2<bB):aF Tryz.prog Γv 98 qC (mdT 3 7 (wc [a0,a1,a2,0,0,0,0])) 100 100
 { val:=.ptr 61 true 0,wr:=[(61,.own [.bool true false,.aH 63 false 0 (ln (n3 a0 a1 a2%bB)) 7] 102),(63,.own (wc [w0 (n3 a0 a1 a2%bB),w1 (n3 a0 a1 a2%bB),w2 (n3 a0 a1 a2%bB),0,0,0,0]) 142)] }:=by
 have:=h0.1;have:=h0.2;have:=h1.1;have:=h1.2;have:=h2.1;have:=h2.2
 have hs:aG Tryz.prog (env (oR true 0 0) 22) 98 (aK (env (oR true 0 0) 22) Tryz.f98 true [] 400):=aN (bL _ 22) (bV _ (nH true 0 0) 22) mix Tryz.func98 (by kernel_rfl) true [] 400
 have hR:n3 a0 a1 a2%bB=n3 a0 a1 a2:=Int.emod_eq_of_lt (by unfold n3;omega) (by exact hp)
 have e0:w0 (n3 a0 a1 a2)=a0:=by unfold w0 n3;omega
 have e1:w1 (n3 a0 a1 a2)=a1:=by unfold w1 n3;omega
 have e2:w2 (n3 a0 a1 a2)=a2:=by unfold w2 n3;omega
 have hl:ln (n3 a0 a1 a2)=3:=by unfold ln;rw [e0,e1,e2];simp only [nl,if_true,if_neg hz]
 rw [hR,e0,e1,e2,hl]
 refine (hs.call (aIs a0 a1 a2) ?_).re rfl (fun _=>rfl) trivial ⟨rfl,⟨rfl,fun _=>rfl⟩,rfl,⟨rfl,fun _=>rfl⟩,trivial⟩
 refine aA ?_
 simp only [sh,cA,Rd,and_true,true_and,h0,h1,h2]
 exact ⟨decide_eq_true hp,⟨by decide,by decide⟩,⟨by decide,by decide⟩,⟨by decide,by decide⟩⟩
open M in
theorem Rw {a0 a1 a2:Int} (h0:U a0) (h1:U a1) (h2:U a2) (hz:a2≠0) (hp:n3 a0 a1 a2<bB):aF Tryz.prog Γv 98 qC (mdT 3 8 (wc [a0,a1,a2,0,0,0,0,0])) 100 100
 { val:=.ptr 61 true 0,wr:=[(61,.own [.bool true false,.aH 63 false 0 (ln (n3 a0 a1 a2%bB)) 8] 102),(63,.own (wc [w0 (n3 a0 a1 a2%bB),w1 (n3 a0 a1 a2%bB),w2 (n3 a0 a1 a2%bB),0,0,0,0,0]) 142)] }:=by
 have:=h0.1;have:=h0.2;have:=h1.1;have:=h1.2;have:=h2.1;have:=h2.2
 have hs:aG Tryz.prog (env (oR true 0 0) 22) 98 (aK (env (oR true 0 0) 22) Tryz.f98 true [] 400):=aN (bL _ 22) (bV _ (nH true 0 0) 22) mix Tryz.func98 (by kernel_rfl) true [] 400
 have hR:n3 a0 a1 a2%bB=n3 a0 a1 a2:=Int.emod_eq_of_lt (by unfold n3;omega) (by exact hp)
 have e0:w0 (n3 a0 a1 a2)=a0:=by unfold w0 n3;omega
 have e1:w1 (n3 a0 a1 a2)=a1:=by unfold w1 n3;omega
 have e2:w2 (n3 a0 a1 a2)=a2:=by unfold w2 n3;omega
 have hl:ln (n3 a0 a1 a2)=3:=by unfold ln;rw [e0,e1,e2];simp only [nl,if_true,if_neg hz]
 rw [hR,e0,e1,e2,hl]
 refine (hs.call (aIr a0 a1 a2) ?_).re rfl (fun _=>rfl) trivial ⟨rfl,⟨rfl,fun _=>rfl⟩,rfl,⟨rfl,fun _=>rfl⟩,trivial⟩
 refine aA ?_
 simp only [sh,cA,Rd,and_true,true_and,h0,h1,h2]
 exact ⟨decide_eq_true hp,⟨by decide,by decide⟩,⟨by decide,by decide⟩,⟨by decide,by decide⟩⟩
open M in
theorem Gk {c:Nat} (hc:c=7\/c=8) {a0 a1 a2:Int} (h0:U a0) (h1:U a1) (h2:U a2) (hp:bB<=n3 a0 a1 a2):aF Tryz.prog Γv 98 qC (mdT 3 c (wc ([a0,a1,a2]++List.replicate (c-3) 0))) 100 100
 { val:=.ptr 61 true 0,wr:=[(61,.own [.bool true false,.aH 63 false 0 (ln (n3 a0 a1 a2%bB)) c] 102),(63,.own (wc ([w0 (n3 a0 a1 a2%bB),w1 (n3 a0 a1 a2%bB),w2 (n3 a0 a1 a2%bB)]++List.replicate (c-3) 0)) 142)] }:=by
 have hs:∀ iq ir,aG Tryz.prog (env (oR false iq ir) 22) 98 (aK (env (oR false iq ir) 22) Tryz.f98 true [] 400):=fun iq ir=>aN (bL _ 22) (bV _ (nH false iq ir) 22) mix Tryz.func98 (by kernel_rfl) true [] 400
 obtain ⟨r0,r1⟩:=aCp (n3 a0 a1 a2)
 obtain ⟨b0,b1,b2⟩:=HJ r0 r1
 obtain ⟨v0,v1,v2⟩:=sU h0
 obtain ⟨_,v3,v4⟩:=sU h2
 have hm:=aGc h0 h1 h2
 have hq:x3 a0 a1 a2/DD≠0:=by
  rw [aGd h0 h1 h2]
  have:=Int.emod_add_mul_ediv (n3 a0 a1 a2) bB
  intro e
  rw [e] at this
  omega
 have zH:nl [x3 a0 a1 a2/DD]=1:=by simp only [nl,if_neg hq]
 refine ((hs 1 _).call (aQt hc (aDd (n3 a0 a1 a2%bB)) a0 a1 a2) (aA ?_)).re rfl (fun _=>rfl) trivial ⟨rfl,⟨rfl,fun _=>rfl⟩,rfl,⟨rfl,fun _=>by rw [hm,b0,b1,b2]⟩,trivial⟩
 simp only [sh,cA,hm,b0,b1,b2,nl4,ln,zH,and_true,true_and,h0,h1,h2,v0,v3,v4,s1U h0,s1U h1,Rd]
 exact ⟨kN (by show ¬ n3 a0 a1 a2<bB;omega),⟨by decide,by decide⟩,⟨by decide,by decide⟩,⟨by decide,by decide⟩⟩
open M in
theorem Gj {c:Nat} (hc:c=8\/c=9) {a0 a1 a2 a3:Int} (h0:U a0) (h1:U a1) (h2:U a2) (h3:U a3) (hp:bB<=n4 a0 a1 a2 a3):aF Tryz.prog Γv 98 qC (mdT 4 c (wc ([a0,a1,a2,a3]++List.replicate (c-4) 0))) 100 100
 { val:=.ptr 61 true 0,wr:=[(61,.own [.bool true false,.aH 63 false 0 (ln (n4 a0 a1 a2 a3%bB)) c] 102),(63,.own (wc ([w0 (n4 a0 a1 a2 a3%bB),w1 (n4 a0 a1 a2 a3%bB),w2 (n4 a0 a1 a2 a3%bB),0]++List.replicate (c-4) 0)) 142)] }:=by
 have hs:∀ iq ir,aG Tryz.prog (env (oR false iq ir) 22) 98 (aK (env (oR false iq ir) 22) Tryz.f98 true [] 400):=fun iq ir=>aN (bL _ 22) (bV _ (nH false iq ir) 22) mix Tryz.func98 (by kernel_rfl) true [] 400
 obtain ⟨r0,r1⟩:=aCp (n4 a0 a1 a2 a3)
 obtain ⟨b0,b1,b2⟩:=HJ r0 r1
 obtain ⟨v0,v1,v2⟩:=sU h0
 obtain ⟨_,v3,v4⟩:=sU h3
 have hm:=aGa h0 h1 h2 h3
 have zH:nl [x4 a0 a1 a2 a3/DD,h4 a0 a1 a2 a3/DD]=1\/nl [x4 a0 a1 a2 a3/DD,h4 a0 a1 a2 a3/DD]=2:=by
  by_cases hz:h4 a0 a1 a2 a3/DD=0
  .exact .inl (by simp only [nl,hz,if_true,if_neg (aGb h0 h1 h2 h3 hp hz)])
  .exact .inr (by simp only [nl,if_neg hz])
 refine ((hs _ _).call (aQs hc zH (aDd (n4 a0 a1 a2 a3%bB)) a0 a1 a2 a3) (aA ?_)).re rfl (fun _=>rfl) trivial ⟨rfl,⟨rfl,fun _=>rfl⟩,rfl,⟨rfl,fun _=>by rw [hm,b0,b1,b2]⟩,trivial⟩
 simp only [sh,cA,hm,b0,b1,b2,nl5,ln,and_true,true_and,h0,h1,h2,h3,v0,v3,v4,s1U h0,s1U h1,s1U h2]
end Go.Proofs.YtnodfocobmghiaaGreatDoor.Sx
