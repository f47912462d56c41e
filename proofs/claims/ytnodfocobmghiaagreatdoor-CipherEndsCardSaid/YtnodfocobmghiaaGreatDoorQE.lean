/- Plain Lean for the fast stream: bytes turned by a row of bytes; four blocks at once. -/
import Derived.KernelRfl
import Derived.Lib.Mul64
import Derived.Laws.Bits64b
import Derived.Test.YtnodfocobmghiaaGreatDoorQD
open Go
set_option maxRecDepth 100000
namespace Go.Proofs.YtnodfocobmghiaaGreatDoor.Sx
namespace Q
def qW (off n:Nat) (f:Nat->Int) (xs:List Int):List Int:=
 (List.range xs.length).map fun m=>if off<=m/\m<off+n then gW .u8 (xs.getD m 0) (f (m-off)) else xs.getD m 0
theorem tI (key aC:List Int) (c:Int) (off n:Nat) (xs:List Int):cE key aC c off n xs=qW off n (Iq key aC c) xs:=rfl
theorem gA (off n:Nat) (f:Nat->Int) (xs:List Int):(qW off n f xs).length=xs.length:=by simp [qW]
def Z (off n:Nat) (P:Nat->Bool) (f:Nat->Int) (xs:List Int):List Int:=
 (List.range xs.length).map fun m=>if off<=m/\m<off+n/\P (m-off)=true then gW .u8 (xs.getD m 0) (f (m-off)) else xs.getD m 0
theorem Ln (off n:Nat) (P:Nat->Bool) (f:Nat->Int) (xs:List Int):(Z off n P f xs).length=xs.length:=by simp [Z]
theorem aPp (off n:Nat) (P:Nat->Bool) (f:Nat->Int) (xs:List Int) {m:Nat} (h:m<xs.length):(Z off n P f xs).getD m 0=if off<=m/\m<off+n/\P (m-off)=true then gW .u8 (xs.getD m 0) (f (m-off)) else xs.getD m 0:=by
 simp [Z,gH,h]
theorem kU {off n:Nat} {P P':Nat->Bool} (f:Nat->Int) (xs:List Int) (h:∀ m,m<n->P m=P' m):Z off n P f xs=Z off n P' f xs:=by
 unfold Z
 refine List.map_congr_left fun m _=>?_
 by_cases hm:off<=m/\m<off+n
 .rw [h (m-off) (by omega)]
 .rw [if_neg (fun q=>hm ⟨q.1,q.2.1⟩),if_neg (fun q=>hm ⟨q.1,q.2.1⟩)]
theorem FX (off n:Nat) (f:Nat->Int) (xs:List Int):Z off n (fun _=>false) f xs=xs:=by
 apply List.ext_getElem
 .simp [Z]
 .intro i h1 h2
  simp [Z,gH,h2]
theorem aAw (off n:Nat) (f:Nat->Int) (xs:List Int):Z off n (fun _=>true) f xs=qW off n f xs:=by
 unfold Z qW
 refine List.map_congr_left fun m _=>?_
 simp only [and_true]
theorem aAv {off n q:Nat} {P:Nat->Bool} {f:Nat->Int} {xs:List Int} (hq:q<n) (hx:off+q<xs.length) (hP:P q=false) :
 (Z off n P f xs).set (off+q) (gW .u8 ((Z off n P f xs).getD (off+q) 0) (f q))=Z off n (fun m=>P m||m==q) f xs:=by
 apply List.ext_getElem
 .simp [Z]
 .intro i h1 h2
  have hl:i<xs.length:=by simpa [Z] using h2
  rw [List.getElem_set]
  split
  .rename_i e
   subst e
   rw [aPp _ _ _ _ _ hx,if_neg (by rw [Nat.add_sub_cancel_left,hP];simp)]
   simp only [Z,List.getElem_map,List.getElem_range,Nat.add_sub_cancel_left]
   rw [if_pos ⟨by omega,by omega,by simp⟩]
  .rename_i e
   simp only [Z,List.getElem_map,List.getElem_range]
   by_cases hc:off<=i/\i<off+n
   .have:(i-off==q)=false:=by simp;omega
    simp only [this,Bool.or_false]
   .rw [if_neg (fun q=>hc ⟨q.1,q.2.1⟩),if_neg (fun q=>hc ⟨q.1,q.2.1⟩)]
theorem wC (v:List Int) (a b c d:Nat):(B.qr v a b c d).length=v.length:=by simp [B.qr]
theorem Fa (v:List Int):(B.dr v).length=v.length:=by simp [B.dr,wC]
theorem iN (k:Nat) (v:List Int):(lane k v).length=16:=by simp [lane]
theorem uR (k:Nat) (v:List Int) {i:Nat} (h:i<16):(lane k v).getD i 0=v.getD (4*i+k) 0:=by simp [lane,gH,h]
theorem uP (a b c d:List Int) {i:Nat} (hi:i<16):(xL a b c d).getD (4*i+0) 0=a.getD i 0/\(xL a b c d).getD (4*i+1) 0=b.getD i 0/\(xL a b c d).getD (4*i+2) 0=c.getD i 0/\(xL a b c d).getD (4*i+3) 0=d.getD i 0:=by
 have g:∀ j,j<64->(xL a b c d).getD j 0=Dx a b c d j:=fun j hj=>by simp [xL,gH,hj]
 refine ⟨?_,?_,?_,?_⟩
 .rw [g _ (by omega)];unfold Dx;rw [show (4*i+0)%4=0 by omega,show (4*i+0)/4=i by omega];rfl
 .rw [g _ (by omega)];unfold Dx;rw [show (4*i+1)%4=1 by omega,show (4*i+1)/4=i by omega];rfl
 .rw [g _ (by omega)];unfold Dx;rw [show (4*i+2)%4=2 by omega,show (4*i+2)/4=i by omega];rfl
 .rw [g _ (by omega)];unfold Dx;rw [show (4*i+3)%4=3 by omega,show (4*i+3)/4=i by omega];rfl
theorem Ar {a b:List Int} (ha:a.length=16) (hb:b.length=16) (h:∀ i,i<16->a.getD i 0=b.getD i 0):a=b:=by
 apply List.ext_getElem (by omega)
 intro i h1 h2
 have:=h i (by omega)
 rw [gH,gH,List.getElem?_eq_getElem h1,List.getElem?_eq_getElem h2] at this
 simpa using this
theorem Wk {a b c d:List Int} (ha:a.length=16) (hb:b.length=16) (hc:c.length=16) (hd:d.length=16) :
 lane 0 (xL a b c d)=a/\lane 1 (xL a b c d)=b/\lane 2 (xL a b c d)=c/\lane 3 (xL a b c d)=d:=by
 refine ⟨Ar (iN _ _) ha fun i hi=>?_,Ar (iN _ _) hb fun i hi=>?_,Ar (iN _ _) hc fun i hi=>?_,Ar (iN _ _) hd fun i hi=>?_⟩ <;> rw [uR _ _ hi]
 .exact (uP a b c d hi).1
 .exact (uP a b c d hi).2.1
 .exact (uP a b c d hi).2.2.1
 .exact (uP a b c d hi).2.2.2
theorem HK (v:List Int) {k:Nat} (hk:k<4):lane k (dr4 v)=B.dr (lane k v):=by
 have l:∀ k,(B.dr (lane k v)).length=16:=fun k=>by rw [Fa,iN]
 have h:=Wk (l 0) (l 1) (l 2) (l 3)
 rcases (by omega:k=0\/k=1\/k=2\/k=3) with rfl | rfl | rfl | rfl
 .exact h.1
 .exact h.2.1
 .exact h.2.2.1
 .exact h.2.2.2
def it (v:List Int):Nat->List Int
 | 0=>v
 | n+1=>dr4 (it v n)
theorem Es (v:List Int) (hv:v.length=64):∀ n,(it v n).length=64
 | 0=>hv
 | n+1=>by simp [it,dr4,xL]
theorem Pk (n:Nat):∀ v:List Int,B.rounds n (B.dr v)=B.dr (B.rounds n v):=by
 induction n with
 | zero=>intro v;rfl
 | succ n ih=>intro v;rw [B.rounds,ih,B.rounds,ih]
theorem Tk (v:List Int) {k:Nat} (hk:k<4):∀ n,lane k (it v n)=B.rounds n (lane k v)
 | 0=>rfl
 | n+1=>by rw [it,HK _ hk,Tk v hk n,B.rounds,Pk]
def st4 (s:List Int) (k:Nat):List Int:=s.set 12 (IntKind.u32.wrap (s.getD 12 0+(k:Int)))
theorem Qo (s:List Int):(iU s).length=64:=by simp [iU]
theorem HL {s:List Int} (hs:s.length=16) {k:Nat} (hk:k<4):lane k (iU s)=st4 s k:=by
 have g:∀ j,j<64->(iU s).getD j 0=DW s j:=fun j hj=>by simp [iU,gH,hj]
 refine Ar (iN _ _) (by simp [st4,hs]) fun i hi=>?_
 rw [uR _ _ hi,g _ (by omega)]
 unfold DW
 rw [show (4*i+k)/4=i by omega,show (4*i+k)%4=k by omega,IntWalk.u32_in (k:Int) (by omega)]
 unfold st4
 by_cases h:i=12
 .subst h
  simp [gH,hs]
 .have e:Nat.beq i 12=false:=by
   cases hb:Nat.beq i 12 with
   | false=>rfl
   | true=>exact absurd (cM hb) h
  rw [e]
  simp only [gH]
  rw [List.getElem?_set_ne (by omega)]
def iK (s:List Int) (m:Nat):Int:=(B.out (B.rounds 10 (st4 s (m/64))) (st4 s (m/64))).getD (m%64) 0
theorem TX (v w:List Int) {j:Nat} (h:j<64):(B.out v w).getD j 0=IntKind.u8.wrap (bU .u32 (IntKind.u32.wrap (v.getD (j/4) 0+w.getD (j/4) 0)) (IntKind.i64.wrap (8*(j%4:Nat)))):=by
 simp [B.out,gH,h]
theorem aIu {s:List Int} (hs:s.length=16) {i k n:Nat} (hi:i<16) (hk:k<4) (hn:n<4):byt (it (iU s) 10) (iU s) i k n=iK s (64*k+4*i+n):=by
 unfold iK
 rw [show (64*k+4*i+n)/64=k by omega,show (64*k+4*i+n)%64=4*i+n by omega,TX _ _ (by omega),show (4*i+n)/4=i by omega,show (4*i+n)%4=n by omega]
 rw [<- HL hs hk,<- Tk _ hk,uR _ _ hi,uR _ _ hi,IntWalk.i64_in _ (by omega)]
 unfold byt wd
 rw [qZ,qZ,show 0+i*4+k*1+0=4*i+k by omega]
theorem aAh {i k n:Nat} (hi:i<16) (hk:k<4) (hn:n<4):ix i k n=((64*k+4*i+n:Nat):Int):=by
 unfold ix
 rw [IntWalk.i64_in (64*(k:Int)) (by omega),IntWalk.i64_in (4*(i:Int)) (by omega),IntWalk.i64_in (64*(k:Int)+4*(i:Int)) (by omega),IntWalk.i64_in _ (by omega)]
 omega
theorem aAu (off:Nat) {i k n:Nat} (hi:i<16) (hk:k<4) (hn:n<4):ad off i k n=off+(64*k+4*i+n):=by
 unfold ad
 rw [aAh hi hk hn,qZ,Nat.mul_one]
def dn (i k:Nat) (m:Nat):Bool:=decide (m%64/4<i\/(m%64/4=i/\m/64<k))
theorem Lo (off:Nat) (v w:List Int) (i k:Int) (xs:List Int):∀ n,(X off v w i k xs n).length=xs.length
 | 0=>rfl
 | n+1=>by rw [X,List.length_set,Lo off v w i k xs n]
theorem X_Z {s xs:List Int} (hs:s.length=16) {off i k:Nat} (hi:i<16) (hk:k<4) (hx:off+256<=xs.length):∀ n,n<=4 ->
 X off (it (iU s) 10) (iU s) i k (Z off 256 (dn i k) (iK s) xs) n=Z off 256 (fun m=>dn i k m||decide (64*k+4*i<=m/\m<64*k+4*i+n)) (iK s) xs
 | 0,_=>by
   rw [X]
   refine kU _ _ fun m _=>?_
   have:decide (64*k+4*i<=m/\m<64*k+4*i+0)=false:=nD (by omega)
   rw [this,Bool.or_false]
 | n+1,hn=>by
   rw [X,X_Z hs hi hk hx n (by omega),aAu off hi hk (by omega),Nat.add_zero,aIu hs hi hk (by omega),aAv (by omega) (by omega) (by simp [dn];omega)]
   refine kU _ _ fun m hm=>?_
   rw [Bool.or_assoc]
   congr 1
   rw [Bool.eq_iff_iff]
   simp only [Bool.or_eq_true,decide_eq_true_eq,beq_iff_eq]
   omega
theorem aVz {s xs:List Int} (hs:s.length=16) {off i k:Nat} (hi:i<16) (hk:k<4) (hx:off+256<=xs.length) :
 X off (it (iU s) 10) (iU s) i k (Z off 256 (dn i k) (iK s) xs) 4=Z off 256 (dn i (k+1)) (iK s) xs:=by
 rw [X_Z hs hi hk hx 4 (by omega)]
 refine kU _ _ fun m hm=>?_
 unfold dn
 rw [Bool.eq_iff_iff]
 simp only [Bool.or_eq_true,decide_eq_true_eq]
 omega
theorem XU (off i:Nat) (f:Nat->Int) (xs:List Int):Z off 256 (dn i 4) f xs=Z off 256 (dn (i+1) 0) f xs:=kU _ _ fun m hm=>by
 unfold dn
 rw [Bool.eq_iff_iff]
 simp only [decide_eq_true_eq]
 omega
theorem aVd (off:Nat) (f:Nat->Int) (xs:List Int):Z off 256 (dn 0 0) f xs=xs:=by
 rw [kU (P':=fun _=>false) _ _ fun m hm=>by unfold dn;exact nD (by omega)]
 exact FX _ _ _ _
theorem aPk (off:Nat) (f:Nat->Int) (xs:List Int):Z off 256 (dn 16 0) f xs=qW off 256 f xs:=by
 rw [kU (P':=fun _=>true) _ _ fun m hm=>by unfold dn;exact decide_eq_true (by omega)]
 exact aAw _ _ _ _
end Q
def Ds (m:Int) (v:List Int):Prop:=∀ x∈v,0<=x/\x<=m
theorem Ds.get {m:Int} {v:List Int} (h:Ds m v) (hm:0<=m) (i:Nat):0<=v.getD i 0/\v.getD i 0<=m:=by
 rw [gH]
 cases hv:v[i]? with
 | none=>exact ⟨Int.le_refl _,hm⟩
 | some x=>exact h x (List.mem_of_getElem? hv)
namespace M
def cy (xs:List Int):Nat->Int
 | 0=>0
 | i+1=>(cy xs i+xs.getD i 0)/256
def val:List Int->Int
 | []=>0
 | x::r=>x+256*val r
end M
namespace M
def h (xs:List Int) (i:Nat):Int:=xs.getD i 0/4+xs.getD (i+1) 0%4*64
end M
namespace M
end M
namespace M
def vs (f:Nat->Int):Nat->Int
 | 0=>0
 | n+1=>f 0+256*vs (fun i=>f (i+1)) n
theorem Ax {f g:Nat->Int}:∀ {n:Nat},(∀ i,i<n->f i=g i)->vs f n=vs g n
 | 0,_=>rfl
 | n+1,h=>by
   unfold vs
   rw [h 0 (by omega),Ax (f:=fun i=>f (i+1)) (g:=fun i=>g (i+1)) fun i hi=>h (i+1) (by omega)]
theorem Aj (f:Nat->Int) (m:Nat):∀ n:Nat,vs f (n+m)=vs f n+256^n*vs (fun i=>f (n+i)) m:=by
 intro n
 induction n generalizing f with
 | zero=>simp [vs]
 | succ n ih=>
   rw [show n+1+m=(n+m)+1 from by omega,vs,vs,ih]
   rw [show (fun i=>f (n+i+1))=fun i=>f (n+1+i) from by funext i;congr 1;omega,Int.pow_succ]
   rw [Int.mul_add,Int.mul_comm (256^n) 256,Int.mul_assoc]
   omega
theorem Si {f:Nat->Int}:∀ {n:Nat},(∀ i,i<n->f i=0)->vs f n=0
 | 0,_=>rfl
 | n+1,h=>by
   unfold vs
   rw [h 0 (by omega),Si (f:=fun i=>f (i+1)) fun i hi=>h (i+1) (by omega)]
   rfl
theorem wB {f:Nat->Int}:∀ {n:Nat},(∀ i,i<n->0<=f i)->0<=vs f n
 | 0,_=>Int.le_refl _
 | n+1,h=>by
   have h1:=h 0 (by omega)
   have h2:=wB (f:=fun i=>f (i+1)) (n:=n) fun i hi=>h (i+1) (by omega)
   unfold vs
   omega
theorem xZ (f:Nat->Int) (n:Nat):vs f (n+1)=vs f n+256^n*f n:=by
 rw [Aj f 1 n];simp [vs]
def V (xs:List Int):Int:=vs (fun i=>xs.getD i 0) xs.length
theorem aLf (xs:List Int) (n:Nat) (h:xs.length<=n):vs (fun i=>xs.getD i 0) n=V xs:=by
 obtain ⟨m,rfl⟩:∃ m,n=xs.length+m:=⟨n-xs.length,by omega⟩
 rw [Aj]
 have:vs (fun i=>xs.getD (xs.length+i) 0) m=0:=Si fun i _=>by
  rw [gH,List.getElem?_eq_none (by omega)];rfl
 rw [this];unfold V;omega
theorem MD (a b:List Int):V (a++b)=V a+256^a.length*V b:=by
 unfold V
 rw [List.length_append,Aj]
 congr 1
 .exact Ax fun i hi=>by simp [gH,List.getElem?_append,hi]
 .congr 1
  exact Ax fun i _=>by rw [gH,gH,List.getElem?_append_right (Nat.le_add_right _ _),Nat.add_sub_cancel_left]
theorem sD (x:Int) (r:List Int):V (x::r)=x+256*V r:=by
 unfold V
 rw [List.length_cons,vs]
 simp
theorem Ag:V []=0:=rfl
end M
namespace M
def p:Int:=1361129467683753853853498429727072845819
def num (n:Int):List Int:=(List.range 17).map fun i=>n/256^i%256
theorem Tc (n:Int) {i:Nat} (h:i<17):(num n).getD i 0=n/256^i%256:=by simp [num,gH,h]
theorem Mq {d:List Int} (hd:Ds 255 d) (h:V d<1361129467683753853853498429727072845824):V d=d.getD 0 0+256*vs (fun i=>d.getD (i+1) 0) 16:=by
 have ha:∀ i,0<=d.getD i 0/\d.getD i 0<=255:=hd.get (by omega)
 have e:=Aj (fun i=>d.getD i 0) d.length 17
 rw [Nat.add_comm,aLf d (d.length+17) (by omega)] at e
 have h2:=wB (f:=fun i=>d.getD (17+i) 0) (n:=d.length) fun i _=>(ha _).1
 have h3:=wB (f:=fun i=>d.getD i 0) (n:=17) fun i _=>(ha _).1
 rw [show ((256:Int)^17)=87112285931760246646623899502532662132736 from rfl] at e
 have:vs (fun i=>d.getD (17+i) 0) d.length=0:=by omega
 rw [this] at e
 rw [e,vs]
 omega
end M
namespace M
end M
namespace M
def Jh (a b:List Int):List Int:=(List.range 17).map fun j=>IntKind.i64.wrap (a.getD j 0+b.getD j 0)
end M
namespace M
def Gp (b:List Int) (i:Nat):Int:=match i%4 with
 | 3=>(IntKind.i64.wrap (b.getD i 0)).tmod 16
 | 0=>match i with
   | 0=>IntKind.i64.wrap (b.getD i 0)
   | _=>IntKind.i64.wrap (IntKind.i64.wrap (b.getD i 0)-(IntKind.i64.wrap (b.getD i 0)).tmod 4)
 | _=>IntKind.i64.wrap (b.getD i 0)
def Ov (b:List Int):List Int:=(List.range 16).map (Gp b)
def sc (a s:List Int):Nat->Int
 | 0=>0
 | i+1=>IntKind.i64.wrap ((IntKind.i64.wrap (IntKind.i64.wrap (sc a s i+a.getD i 0)+IntKind.i64.wrap (s.getD i 0))).tdiv 256)
def Uw (a s:List Int):List Int:=(List.range 16).map fun i=>IntKind.u8.wrap ((IntKind.i64.wrap (IntKind.i64.wrap (sc a s i+a.getD i 0)+IntKind.i64.wrap (s.getD i 0))).tmod 256)
end M
namespace M
def rW (a b:List Int) (i:Nat):Nat->List Int->List Int
 | 0,d=>d
 | k+1,d=>(rW a b i k d).set (i+k) (IntKind.i64.wrap ((rW a b i k d).getD (i+k) 0+IntKind.i64.wrap (a.getD i 0*b.getD k 0)))
def mulL (a b:List Int):Nat->List Int
 | 0=>List.replicate 33 0
 | i+1=>rW a b i 17 (mulL a b i)
end M
namespace R
def plus (x y:Int):Int:=(IntKind.i64.wrap (x+y)).tmod 4294967296
def OK (x u:Int):Int:=IntKind.i64.wrap ((IntKind.i64.wrap (x*u)).tmod 4294967296+IntKind.i64.wrap ((IntKind.i64.wrap (x*u)).tdiv 4294967296))
def qr (v:List Int) (a b c d:Nat):List Int:=
 let v:=v.set a (plus (v.getD a 0) (v.getD b 0))
 let v:=v.set d (OK (gW .i64 (v.getD d 0) (v.getD a 0)) 65536)
 let v:=v.set c (plus (v.getD c 0) (v.getD d 0))
 let v:=v.set b (OK (gW .i64 (v.getD b 0) (v.getD c 0)) 4096)
 let v:=v.set a (plus (v.getD a 0) (v.getD b 0))
 let v:=v.set d (OK (gW .i64 (v.getD d 0) (v.getD a 0)) 256)
 let v:=v.set c (plus (v.getD c 0) (v.getD d 0))
 v.set b (OK (gW .i64 (v.getD b 0) (v.getD c 0)) 128)
end R
namespace R
def word (l:List Int) (i:Nat):Int:=IntKind.i64.wrap (IntKind.i64.wrap (IntKind.i64.wrap (IntKind.i64.wrap (l.getD (4*i) 0)+IntKind.i64.wrap (256*IntKind.i64.wrap (l.getD (4*i+1) 0)))+IntKind.i64.wrap (65536*IntKind.i64.wrap (l.getD (4*i+2) 0)))+IntKind.i64.wrap (16777216*IntKind.i64.wrap (l.getD (4*i+3) 0)))
def aNu (key aC:List Int) (c:Int):List Int:=(List.range 8).map (word key)++[IntKind.i64.wrap c]++(List.range 3).map (word aC)
def init (key aC:List Int) (c:Int):List Int:=[1634760805,857760878,2036477234,1797285236]++aNu key aC c
def dr (v:List Int):List Int:=
 qr (qr (qr (qr (qr (qr (qr (qr v 0 4 8 12) 1 5 9 13) 2 6 10 14) 3 7 11 15) 0 5 10 15) 1 6 11 12) 2 7 8 13) 3 4 9 14
def FR (x:Int):Nat->Int
 | 0=>IntKind.u8.wrap (x.tmod 256)
 | n+1=>FR (IntKind.i64.wrap (x.tdiv 256)) n
def out (v w:List Int):List Int:=(List.range 64).map fun j=>FR ((IntKind.i64.wrap (v.getD (j/4) 0+w.getD (j/4) 0)).tmod 4294967296) (j%4)
def rounds:Nat->List Int->List Int
 | 0,v=>v
 | n+1,v=>dr (rounds n v)
end R
theorem R.wC (v:List Int) (a b c d:Nat):(R.qr v a b c d).length=v.length:=by simp [R.qr]
theorem R.Fa (v:List Int):(R.dr v).length=v.length:=by simp [R.dr,R.wC]
def R.block (key aC:List Int) (c:Int):List Int:=R.out (R.rounds 10 (R.init key aC c)) (R.init key aC c)
def W (x:Int):Prop:=0<=x/\x<4294967296
theorem W.nat {x:Int} (h:W x):∃ a:Nat,x=a/\a<4294967296:=⟨x.toNat,by unfold W at h;omega,by unfold W at h;omega⟩
def Ws (v:List Int):Prop:=∀ x∈v,W x
theorem Ws.get {v:List Int} (h:Ws v) (i:Nat):W (v.getD i 0):=by
 rw [gH]
 cases hv:v[i]? with
 | none=>exact ⟨by decide,by decide⟩
 | some x=>exact h x (List.mem_of_getElem? hv)
theorem Ws.set {v:List Int} (h:Ws v) (i:Nat) {x:Int} (hx:W x):Ws (v.set i x):=by
 intro y hy
 rcases List.mem_or_eq_of_mem_set hy with hy | hy
 .exact h y hy
 .subst hy;exact hx
def Bt (x:Int):Prop:=0<=x/\x<256
def bX (v:List Int):Prop:=∀ x∈v,Bt x
theorem bX.get {v:List Int} (h:bX v) (i:Nat):Bt (v.getD i 0):=by
 rw [gH]
 cases hv:v[i]? with
 | none=>exact ⟨by decide,by decide⟩
 | some x=>exact h x (List.mem_of_getElem? hv)
theorem Bt.nat {x:Int} (h:Bt x):∃ a:Nat,x=a/\a<256:=⟨x.toNat,by unfold Bt at h;omega,by unfold Bt at h;omega⟩
namespace M
theorem aDf (n:Int):∀ k:Nat,vs (fun i=>n/256^i%256) k=n%256^k:=by
 intro k
 induction k with
 | zero=>simp [vs,Int.emod_one]
 | succ k ih=>
   rw [xZ,ih,Int.pow_succ]
   have c:(0:Int)<256^k:=Int.pow_pos (by omega)
   have h1:=Int.emod_add_mul_ediv n (256^k)
   have h2:=Int.emod_nonneg n (show (256:Int)^k≠0 by omega)
   have h3:=Int.emod_lt_of_pos n c
   have h4:=Int.emod_add_mul_ediv (n/256^k) 256
   have h5:=Int.emod_nonneg (n/256^k) (show (256:Int)≠0 by omega)
   have h6:=Int.emod_lt_of_pos (n/256^k) (show (0:Int)<256 by omega)
   generalize n/256^k%256=s at *
   generalize n/256^k/256=q at *
   generalize n%256^k=r at *
   have e:n=(r+256^k*s)+256^k*256*q:=by
    rw [<- h1,<- h4,Int.mul_add,Int.mul_assoc];omega
   have l:r+256^k*s<256^k*256:=by
    have:256^k*s<=256^k*255:=Int.mul_le_mul_of_nonneg_left (by omega) (Int.le_of_lt c)
    omega
   have l0:0<=r+256^k*s:=by
    have:0<=256^k*s:=Int.mul_nonneg (Int.le_of_lt c) h5
    omega
   have:n%(256^k*256)=r+256^k*s:=by
    rw [e,Int.add_mul_emod_self_left,Int.emod_eq_of_lt l0 l]
   exact this.symm
end M
theorem bX.Ds {b:List Int} (h:bX b):Ds 255 b:=fun x hx=>by have:=h x hx;unfold Bt at this;omega
namespace M
end M
end Go.Proofs.YtnodfocobmghiaaGreatDoor.Sx
section
namespace Go.Proofs.YtnodfocobmghiaaGreatDoor.Sx
end Go.Proofs.YtnodfocobmghiaaGreatDoor.Sx
end
namespace Go.Proofs.YtnodfocobmghiaaGreatDoor.Sx
namespace M
def aT (data:List Int) (i:Int) (m:Nat):List Int:=((List.range m).map fun j:Nat=>data.getD (IntKind.i64.wrap (i+(j:Int))).toNat 0)++1::List.replicate (16-m) 0
end M
namespace M
def lo (key:List Int):List Int:=(List.range 16).map fun j=>key.getD j 0
def hi (key:List Int):List Int:=(List.range 16).map fun j=>key.getD (16+j) 0
def cl (key:List Int):List Int:=Ov (lo key)++[0]
def acc (r:Int) (data:List Int):Nat->Int
 | 0=>0
 | j+1=>((acc r data j+V (aT data (16*(j:Int)) (min 16 (data.length-16*j))))*r)%p
def tag (key data:List Int):List Int:=Uw (num (acc (V (cl key)) data ((data.length+15)/16))) (hi key)
theorem YD {data:List Int} (hd:bX data) (i:Int) (m:Nat):bX (aT data i m):=by
 intro x hx
 simp only [aT,List.mem_append,List.mem_map,List.mem_cons,List.mem_replicate] at hx
 rcases hx with ⟨j,_,rfl⟩ | rfl | ⟨_,rfl⟩
 .exact hd.get _
 .exact ⟨by decide,by decide⟩
 .exact ⟨by decide,by decide⟩
end M
namespace M
def U (x:Int):Prop:=0<=x/\x<18446744073709551616
def uh (n:Int):Int:=n/18446744073709551616
def ul (n:Int):Int:=n%18446744073709551616
theorem dH (n:Int):U (ul n):=by unfold U ul;omega
theorem sZ {n:Int} (h:U n):ul n=n:=by unfold U at h;unfold ul;omega
theorem eA {x y:Int} (hx:U x) (hy:U y):0<=x*y/\x*y<=340282366920938463426481119284349108225:=by
 refine ⟨Int.mul_nonneg hx.1 hy.1,?_⟩
 have h1:=hx.2
 have h2:=hy.2
 exact Int.le_trans (Int.mul_le_mul (show x<=18446744073709551615 by omega) (show y<=18446744073709551615 by omega) hy.1 (by decide)) (by decide)
theorem bN (n:Int):IntKind.u64.wrap n=ul n:=by rw [IntKind.wrap_u64];rfl
end M
theorem aNp (x y:Int) :
 aJ (env fF 3) Tryz.f190 true [] 400 [.int false .u64 x,.int false .u64 y] (fun _=>none) 100 100 =
 sh (32:Int) fun z2=>
 sh (4294967295:Int) fun z1=>
 sh (IntKind.u64.wrap (IntKind.u64.wrap (bU IntKind.u64 x z2*bR IntKind.u64 y z1)+bU IntKind.u64 (IntKind.u64.wrap (bR IntKind.u64 x z1*bR IntKind.u64 y z1)) z2)) fun z0=>
 some {val:=SV.eF [SV.int false IntKind.u64 (IntKind.u64.wrap (IntKind.u64.wrap (IntKind.u64.wrap (bU IntKind.u64 x z2*bU IntKind.u64 y z2)+bU IntKind.u64 z0 z2)+bU IntKind.u64 (IntKind.u64.wrap (bR IntKind.u64 z0 z1+IntKind.u64.wrap (bR IntKind.u64 x z1*bU IntKind.u64 y z2))) z2)),SV.int false IntKind.u64 (IntKind.u64.wrap (x*y))]}:=by kernel_rfl
namespace M
theorem aCo (a:Nat) (ha:a<18446744073709551616):bR .u64 (a:Int) 4294967295=((a%4294967296:Nat):Int):=by
 have h:=bits_and_u64_nat a 4294967295 ha (by omega)
 have e:a &&& 4294967295=a%4294967296:=Nat.and_two_pow_sub_one_eq_mod a 32
 rw [e] at h
 exact h
theorem aQn (a:Nat):bU .u64 (a:Int) 32=((a/4294967296:Nat):Int):=by
 show Int.fdiv (a:Int) 4294967296=_
 rw [Int.fdiv_eq_ediv_of_nonneg _ (by decide)]
 omega
theorem aSa (a b:Nat):(a:Int)*(b:Int)=((a*b:Nat):Int):=(Int.natCast_mul a b).symm
theorem aVv (a b:Nat):(a:Int)+(b:Int)=((a+b:Nat):Int):=(Int.natCast_add a b).symm
theorem wR (a:Nat) (ha:a<18446744073709551616):IntKind.u64.wrap (a:Int)=(a:Int):=by rw [IntKind.wrap_u64];omega
set_option maxHeartbeats 1000000 in
theorem UM {x y:Int} (hx:U x) (hy:U y):(IntKind.u64.wrap
 (IntKind.u64.wrap
  (IntKind.u64.wrap (bU IntKind.u64 x (32:Int)*bU IntKind.u64 y (32:Int)) +
   bU IntKind.u64
    (IntKind.u64.wrap
     (IntKind.u64.wrap (bU IntKind.u64 x (32:Int)*bR IntKind.u64 y (4294967295:Int)) +
      bU IntKind.u64 (IntKind.u64.wrap (bR IntKind.u64 x (4294967295:Int)*bR IntKind.u64 y (4294967295:Int))) (32:Int)))
    (32:Int)) +
  bU IntKind.u64
   (IntKind.u64.wrap
    (bR IntKind.u64
     (IntKind.u64.wrap
      (IntKind.u64.wrap (bU IntKind.u64 x (32:Int)*bR IntKind.u64 y (4294967295:Int)) +
       bU IntKind.u64 (IntKind.u64.wrap (bR IntKind.u64 x (4294967295:Int)*bR IntKind.u64 y (4294967295:Int))) (32:Int)))
     (4294967295:Int) +
     IntKind.u64.wrap (bR IntKind.u64 x (4294967295:Int)*bU IntKind.u64 y (32:Int))))
   (32:Int)))=uh (x*y):=by
 obtain ⟨x,rfl⟩:=pD hx.1
 obtain ⟨y,rfl⟩:=pD hy.1
 have hx:x<18446744073709551616:=by have:=hx.2;omega
 have hy:y<18446744073709551616:=by have:=hy.2;omega
 obtain ⟨bd,bt,bw,hhi⟩:=Lib.mul64_hi x y hx hy
 have ba:=Lib.half_mul_le (a:=x/4294967296) (b:=y/4294967296) (by omega) (by omega)
 have bb:=Lib.half_mul_le (a:=x/4294967296) (b:=y%4294967296) (by omega) (by omega)
 have bc:=Lib.half_mul_le (a:=x%4294967296) (b:=y/4294967296) (by omega) (by omega)
 have ba':x/4294967296*(y/4294967296)<18446744073709551616:=by omega
 have bb':x/4294967296*(y%4294967296)<18446744073709551616:=by omega
 have bc':x%4294967296*(y/4294967296)<18446744073709551616:=by omega
 have bh1:x/4294967296*(y/4294967296)+(x/4294967296*(y%4294967296)+x%4294967296*(y%4294967296)/4294967296)/4294967296<18446744073709551616:=by omega
 have bh:x/4294967296*(y/4294967296)+(x/4294967296*(y%4294967296)+x%4294967296*(y%4294967296)/4294967296)/4294967296+((x/4294967296*(y%4294967296)+x%4294967296*(y%4294967296)/4294967296)%4294967296+x%4294967296*(y/4294967296))/4294967296<18446744073709551616:=by omega
 simp only [aCo x hx,aCo y hy,aQn,aSa,aVv,wR _ bd,wR _ bb',wR _ bt,aCo _ bt,wR _ bc',wR _ bw,wR _ ba',wR _ bh1,wR _ bh]
 rw [hhi]
 unfold uh
 omega
end M
def Nw (vs:List SV) (_:bB):Option Canon:=match vs with
 | [.int _ .u64 x,.int _ .u64 y]=>some { eN:=[.int false .u64 x,.int false .u64 y],T0:=[],vl:=[],e0:={ val:=.eF [.int false .u64 (M.uh (x*y)),.int false .u64 (M.ul (x*y))] },conds:=[M.U x,M.U y] }
 | _=>none
theorem aFt (Γ:Env) (hg:Γ.aR=aA):aF Tryz.prog Γ 190 (aL aA 100 Nw):=by
 refine aU hg fun vs T c hd hc=>?_
 unfold Nw at hd
 split at hd
 case h_2=>cases hd
 rename_i x _ y
 cases hd
 have hx:M.U x:=hc _ (by simp)
 have hy:M.U y:=hc _ (by simp)
 have hs:aF Tryz.prog (env fF 3) 190 (aJ (env fF 3) Tryz.f190 true [] 400):=
  aM (bL fF 3) (lY 3) mix Tryz.func190 (by kernel_rfl) true [] 400
 refine (hs.call (aNp _ _) (by simp)).words (by rw [hg];rfl) (fun _=>rfl) (fun _ _ h=>by cases h) (fun V=>?_) rfl rfl
 simp only [den,aI,M.UM hx hy]
 simp only [M.bN]
def Vl (f:Nat):Option Sum:=match Nat.beq f 190 with
 | true=>some (aL aA 100 Nw)
 | false=>fF f
theorem Tv (f:Nat) (S:Sum) (h:Vl f=some S) (Γ:Env) (hg:Γ.aR=aA):aF Tryz.prog Γ f S:=by
 unfold Vl at h
 split at h
 .rename_i e;cases h;rw [cM e];exact aFt Γ hg
 .exact sB f S h Γ
noncomputable def Ik:Env:=env Vl 8
theorem Sc:cH Tryz.prog Ik:=bS Vl Tv 8
theorem Sb:cA Tryz.prog Ik:=bL Vl 8
theorem aVw (x y c:Int) :
 aJ Ik Tryz.f154 true [] 400 [.int false .u64 x,.int false .u64 y,.int false .u64 c] (fun _=>none) 100 100 =
 sh (18446744073709551616:Int) fun z0=>
 some {bO:=[(0:Int)<=x/\(0:Int)<=y/\(0:Int)<=c/\c<=(1:Int)],val:=SV.eF [SV.int false IntKind.u64 ((x+y+c)%z0),SV.int false IntKind.u64 ((x+y+c)/z0)]}:=by kernel_rfl
theorem aQw (x y c:Int) :
 aJ Ik Tryz.f146 true [] 400 [.int false .u64 x,.int false .u64 y,.int false .u64 c] (fun _=>none) 100 100 =
 sh (18446744073709551616:Nat) fun z0=>
 sh (0:Int) fun z1=>
 some {bO:=[z1<=x/\z1<=y/\z1<=c/\c<=(1:Int)],val:=SV.eF [SV.int false IntKind.u64 (↑((x.toNat+z0-y.toNat-c.toNat)%z0):Int),SV.int false IntKind.u64 (if x<y+c then (1:Int) else z1)]}:=by kernel_rfl
def M.ub (n:Int):Int := -(n/18446744073709551616)
def M.K (c:Int):Prop:=0<=c/\c<=1
def addDec (vs:List SV) (_:bB):Option Canon:=match vs with
 | [.int _ .u64 x,.int _ .u64 y,.int _ .u64 c]=>some { eN:=[.int false .u64 x,.int false .u64 y,.int false .u64 c],T0:=[],vl:=[],e0:={ val:=.eF [.int false .u64 (M.ul (x+y+c)),.int false .u64 (M.uh (x+y+c))] },conds:=[M.U x,M.U y,M.K c] }
 | _=>none
def No (vs:List SV) (_:bB):Option Canon:=match vs with
 | [.int _ .u64 x,.int _ .u64 y,.int _ .u64 c]=>some { eN:=[.int false .u64 x,.int false .u64 y,.int false .u64 c],T0:=[],vl:=[],e0:={ val:=.eF [.int false .u64 (M.ul (x-y-c)),.int false .u64 (M.ub (x-y-c))] },conds:=[M.U x,M.U y,M.K c] }
 | _=>none
theorem aPo (Γ:Env) (hg:Γ.aR=aA):aF Tryz.prog Γ 154 (aL aA 100 addDec):=by
 refine aU hg fun vs T c hd hc=>?_
 unfold addDec at hd
 split at hd
 case h_2=>cases hd
 rename_i x _ y _ c
 cases hd
 have hx:M.U x:=hc _ (by simp)
 have hy:M.U y:=hc _ (by simp)
 have hk:M.K c:=hc _ (by simp)
 have hs:aF Tryz.prog Ik 154 (aJ Ik Tryz.f154 true [] 400):=aM Sb Sc mix Tryz.func154 (by kernel_rfl) true [] 400
 exact (hs.call (aVw _ _ _) (aB (by simp only [sh,bZ,and_true];exact ⟨hx.1,hy.1,hk.1,hk.2⟩))).words (by rw [hg];rfl) (fun _=>rfl) (fun _ _ h=>by cases h) (fun V=>rfl) rfl rfl
theorem aMt (Γ:Env) (hg:Γ.aR=aA):aF Tryz.prog Γ 146 (aL aA 100 No):=by
 refine aU hg fun vs T c hd hc=>?_
 unfold No at hd
 split at hd
 case h_2=>cases hd
 rename_i x _ y _ c
 cases hd
 have hx:M.U x:=hc _ (by simp)
 have hy:M.U y:=hc _ (by simp)
 have hk:M.K c:=hc _ (by simp)
 have hs:aF Tryz.prog Ik 146 (aJ Ik Tryz.f146 true [] 400):=aM Sb Sc mix Tryz.func146 (by kernel_rfl) true [] 400
 refine (hs.call (aQw _ _ _) (aB (by simp only [sh,bZ,and_true];exact ⟨hx.1,hy.1,hk.1,hk.2⟩))).words (by rw [hg];rfl) (fun _=>rfl) (fun _ _ h=>by cases h) (fun V=>?_) rfl rfl
 have h1:=hx.1
 have h2:=hx.2
 have h3:=hy.1
 have h4:=hy.2
 have h5:=hk.1
 have h6:=hk.2
 have e1:(((x.toNat+18446744073709551616-y.toNat-c.toNat)%18446744073709551616:Nat):Int)=M.ul (x-y-c):=by unfold M.ul;omega
 have e2:(if x<y+c then (1:Int) else 0)=M.ub (x-y-c):=by unfold M.ub;split <;> omega
 rw [e1,e2]
def Vk (f:Nat):Option Sum:=match Nat.beq f 154 with
 | true=>some (aL aA 100 addDec)
 | false=>match Nat.beq f 146 with
   | true=>some (aL aA 100 No)
   | false=>Vl f
theorem Tu (f:Nat) (S:Sum) (h:Vk f=some S) (Γ:Env) (hg:Γ.aR=aA):aF Tryz.prog Γ f S:=by
 unfold Vk at h
 split at h
 .rename_i e;cases h;rw [cM e];exact aPo Γ hg
 split at h
 .rename_i e;cases h;rw [cM e];exact aMt Γ hg
 .exact Tv f S h Γ hg
noncomputable def vL:Env:=env Vk 8
theorem Gs:cH Tryz.prog vL:=bS Vk Tu 8
theorem Gr:cA Tryz.prog vL:=bL Vk 8
theorem aPn (x y c:Int) :
 aJ vL Tryz.f230 true [] 400 [.int false .u64 x,.int false .u64 y,.int false .u64 c] (fun _=>none) 100 100 =
 sh (0:Int) fun z1=>
 sh (M.ul (x*y)+c+z1) fun z0=>
 some {bO:=[M.U (M.ul (x*y)),M.U c,M.K z1,M.ul (x*y)=M.ul (x*y),c=c,z1=z1,M.U x,M.U y,x=x,y=y],val:=SV.eF [SV.int false IntKind.u64 (IntKind.u64.wrap (M.uh (x*y)+M.uh z0)),SV.int false IntKind.u64 (M.ul z0)]}:=by kernel_rfl
theorem aPg (x y:Int) :
 aJ vL Tryz.f251 true [false,false] 400 [.int false .u64 x,.int false .u64 y,.int true .u64 18446744073709551615,.int true .u64 1] (fun _=>none) 100 100 =
 sh (18446744073709551615:Int) fun z4=>
 sh (1:Int) fun z7=>
 sh (z7*x) fun z2=>
 sh (0:Int) fun z5=>
 sh (M.ul z2+y+z5) fun z6=>
 sh (M.uh z2+x+M.uh z6) fun z1=>
 sh (z4*M.ul z1) fun z0=>
 sh (y-M.ul z0-z5) fun z3=>
 some {bO:=[decide (M.ul z3>=z4)=false,(M.ul (x-M.uh z0-M.ub z3) != z5)=false,M.U x,M.U (M.uh z0),M.K (M.ub z3),x=x,M.uh z0=M.uh z0,M.ub z3=M.ub z3,M.U y,M.U (M.ul z0),M.K z5,y=y,M.ul z0=M.ul z0,z5=z5,M.U z4,M.U (M.ul z1),z4=z4,M.ul z1=M.ul z1,M.U (M.uh z2),M.U x,M.K (M.uh z6),M.uh z2=M.uh z2,x=x,M.uh z6=M.uh z6,M.U (M.ul z2),M.U y,M.K z5,M.ul z2=M.ul z2,y=y,z5=z5,M.U z7,M.U x,z7=z7,x=x],val:=SV.eF [SV.int false IntKind.u64 (M.ul z1),SV.int false IntKind.u64 (bU IntKind.u64 (M.ul z3) z5)]}:=by kernel_rfl
theorem aPf (x y:Int) :
 aJ vL Tryz.f251 true [false,true] 400 [.int false .u64 x,.int false .u64 y,.int true .u64 18446744073709551615,.int true .u64 1] (fun _=>none) 100 100 =
 sh (18446744073709551615:Int) fun z2=>
 sh (1:Int) fun z7=>
 sh (z7*x) fun z3=>
 sh (0:Int) fun z5=>
 sh (M.ul z3+y+z5) fun z6=>
 sh (M.uh z3+x+M.uh z6) fun z1=>
 sh (z2*M.ul z1) fun z0=>
 sh (y-M.ul z0-z5) fun z4=>
 some {bO:=[decide (M.ul z4>=z2)=true,(M.ul (x-M.uh z0-M.ub z4) != z5)=false,M.U x,M.U (M.uh z0),M.K (M.ub z4),x=x,M.uh z0=M.uh z0,M.ub z4=M.ub z4,M.U y,M.U (M.ul z0),M.K z5,y=y,M.ul z0=M.ul z0,z5=z5,M.U z2,M.U (M.ul z1),z2=z2,M.ul z1=M.ul z1,M.U (M.uh z3),M.U x,M.K (M.uh z6),M.uh z3=M.uh z3,x=x,M.uh z6=M.uh z6,M.U (M.ul z3),M.U y,M.K z5,M.ul z3=M.ul z3,y=y,z5=z5,M.U z7,M.U x,z7=z7,x=x],val:=SV.eF [SV.int false IntKind.u64 (IntKind.u64.wrap (M.ul z1+z7)),SV.int false IntKind.u64 (bU IntKind.u64 (IntKind.u64.wrap (M.ul z4-z2)) z5)]}:=by kernel_rfl
theorem aPe (x y:Int) :
 aJ vL Tryz.f251 true [false,false] 400 [.int false .u64 x,.int false .u64 y,.int true .u64 9223372036854775808,.int true .u64 18446744073709551615] (fun _=>none) 100 100 =
 sh (9223372036854775808:Int) fun z4=>
 sh (18446744073709551615:Int) fun z5=>
 sh (z5*x) fun z1=>
 sh (0:Int) fun z6=>
 sh (M.ul z1+y+z6) fun z7=>
 sh (M.uh z1+x+M.uh z7) fun z2=>
 sh (z4*M.ul z2) fun z0=>
 sh (y-M.ul z0-z6) fun z3=>
 some {bO:=[decide (M.ul z3>=z4)=false,(M.ul (x-M.uh z0-M.ub z3) != z6)=false,M.U x,M.U (M.uh z0),M.K (M.ub z3),x=x,M.uh z0=M.uh z0,M.ub z3=M.ub z3,M.U y,M.U (M.ul z0),M.K z6,y=y,M.ul z0=M.ul z0,z6=z6,M.U z4,M.U (M.ul z2),z4=z4,M.ul z2=M.ul z2,M.U (M.uh z1),M.U x,M.K (M.uh z7),M.uh z1=M.uh z1,x=x,M.uh z7=M.uh z7,M.U (M.ul z1),M.U y,M.K z6,M.ul z1=M.ul z1,y=y,z6=z6,M.U z5,M.U x,z5=z5,x=x],val:=SV.eF [SV.int false IntKind.u64 (M.ul z2),SV.int false IntKind.u64 (bU IntKind.u64 (M.ul z3) z6)]}:=by kernel_rfl
theorem aPd (x y:Int) :
 aJ vL Tryz.f251 true [false,true] 400 [.int false .u64 x,.int false .u64 y,.int true .u64 9223372036854775808,.int true .u64 18446744073709551615] (fun _=>none) 100 100 =
 sh (9223372036854775808:Int) fun z3=>
 sh (18446744073709551615:Int) fun z5=>
 sh (z5*x) fun z1=>
 sh (0:Int) fun z6=>
 sh (M.ul z1+y+z6) fun z7=>
 sh (M.uh z1+x+M.uh z7) fun z2=>
 sh (z3*M.ul z2) fun z0=>
 sh (y-M.ul z0-z6) fun z4=>
 some {bO:=[decide (M.ul z4>=z3)=true,(M.ul (x-M.uh z0-M.ub z4) != z6)=false,M.U x,M.U (M.uh z0),M.K (M.ub z4),x=x,M.uh z0=M.uh z0,M.ub z4=M.ub z4,M.U y,M.U (M.ul z0),M.K z6,y=y,M.ul z0=M.ul z0,z6=z6,M.U z3,M.U (M.ul z2),z3=z3,M.ul z2=M.ul z2,M.U (M.uh z1),M.U x,M.K (M.uh z7),M.uh z1=M.uh z1,x=x,M.uh z7=M.uh z7,M.U (M.ul z1),M.U y,M.K z6,M.ul z1=M.ul z1,y=y,z6=z6,M.U z5,M.U x,z5=z5,x=x],val:=SV.eF [SV.int false IntKind.u64 (IntKind.u64.wrap (M.ul z2+(1:Int))),SV.int false IntKind.u64 (bU IntKind.u64 (IntKind.u64.wrap (M.ul z4-z3)) z6)]}:=by kernel_rfl
def Oy (vs:List SV) (_:bB):Option Canon:=match vs with
 | [.int _ .u64 x,.int _ .u64 y,.int _ .u64 c]=>some { eN:=[.int false .u64 x,.int false .u64 y,.int false .u64 c],T0:=[],vl:=[],e0:={ val:=.eF [.int false .u64 (M.uh (x*y+c)),.int false .u64 (M.ul (x*y+c))] },conds:=[M.U x,M.U y,M.U c] }
 | _=>none
theorem aIx (Γ:Env) (hg:Γ.aR=aA):aF Tryz.prog Γ 230 (aL aA 100 Oy):=by
 refine aU hg fun vs T c hd hc=>?_
 unfold Oy at hd
 split at hd
 case h_2=>cases hd
 rename_i x _ y _ c
 cases hd
 have hx:M.U x:=hc _ (by simp)
 have hy:M.U y:=hc _ (by simp)
 have hk:M.U c:=hc _ (by simp)
 have hs:aF Tryz.prog vL 230 (aJ vL Tryz.f230 true [] 400):=aM Gr Gs mix Tryz.func230 (by kernel_rfl) true [] 400
 refine (hs.call (aPn _ _ _) (aB (by simp only [sh,bZ,and_true,true_and];exact ⟨M.dH _,hk,⟨by decide,by decide⟩,hx,hy⟩))).words (by rw [hg];rfl) (fun _=>rfl) (fun _ _ h=>by cases h) (fun V=>?_) rfl rfl
 have h0:=M.eA hx hy
 have h1:=hk.1
 have h2:=hk.2
 rw [M.bN]
 have e1:M.ul (M.uh (x*y)+M.uh (M.ul (x*y)+c+0))=M.uh (x*y+c):=by unfold M.ul M.uh;omega
 have e2:M.ul (M.ul (x*y)+c+0)=M.ul (x*y+c):=by unfold M.ul;omega
 rw [e1,e2]
def M.dq (d x y:Int):Int:=(x*18446744073709551616+y)/d
def M.dr (d x y:Int):Int:=(x*18446744073709551616+y)%d
def DR (vs:List SV) (_:bB):Option Canon:=match vs with
 | [.int _ .u64 x,.int _ .u64 y,.int true .u64 d,.int true .u64 m]=>match Jg d 18446744073709551615&&Jg m 1 with
   | true=>some { eN:=[.int false .u64 x,.int false .u64 y,.int true .u64 18446744073709551615,.int true .u64 1],T0:=[],vl:=[],e0:={ val:=.eF [.int false .u64 (M.dq 18446744073709551615 x y),.int false .u64 (M.dr 18446744073709551615 x y)] },conds:=[M.U x,M.U y,x<18446744073709551615] }
   | false=>match Jg d 9223372036854775808&&Jg m 18446744073709551615 with
     | true=>some { eN:=[.int false .u64 x,.int false .u64 y,.int true .u64 9223372036854775808,.int true .u64 18446744073709551615],T0:=[],vl:=[],e0:={ val:=.eF [.int false .u64 (M.dq 9223372036854775808 x y),.int false .u64 (M.dr 9223372036854775808 x y)] },conds:=[M.U x,M.U y,x<9223372036854775808] }
     | false=>none
 | _=>none
set_option maxHeartbeats 2000000 in
theorem LS {x y:Int} (hx:M.U x) (hy:M.U y) (hd:x<18446744073709551615) (Γ:Env) (hg:Γ.aR=aA):aE Tryz.prog Γ 251 [.int false .u64 x,.int false .u64 y,.int true .u64 18446744073709551615,.int true .u64 1] (fun l=>look l []) 100 100 { val:=.eF [.int false .u64 (M.dq 18446744073709551615 x y),.int false .u64 (M.dr 18446744073709551615 x y)] }:=by
 have h1:=hx.1
 have h3:=hy.1
 have h4:=hy.2
 have q1:M.ul (M.uh (1*x)+x+M.uh (M.ul (1*x)+y+0))=x+(x+y)/18446744073709551616:=by unfold M.ul M.uh;omega
 have q2:M.uh (1*x)=0:=by unfold M.uh;omega
 have q3:M.uh (M.ul (1*x)+y+0)=(x+y)/18446744073709551616:=by unfold M.uh M.ul;omega
 obtain ⟨c,hc⟩:∃ c,c=(x+y)/18446744073709551616:=⟨_,rfl⟩
 rw [<- hc] at q1 q3
 have c0:c=0\/c=1:=by omega
 have q4:M.ul (18446744073709551615*(x+c))=if x+c=0 then 0 else 18446744073709551616-(x+c):=by unfold M.ul;split <;> omega
 have q5:M.uh (18446744073709551615*(x+c))=if x+c=0 then 0 else x+c-1:=by unfold M.uh;split <;> omega
 have hs:∀ hs,aF Tryz.prog vL 251 (aJ vL Tryz.f251 true hs 400):=fun hs=>aM Gr Gs mix Tryz.func251 (by kernel_rfl) true hs 400
 by_cases hh:x+y=18446744073709551615
 .refine ((hs _).call (aPf x y) (aB ?_)).words (by rw [hg];rfl) (fun _=>rfl) (fun _ _ h=>by cases h) (fun V=>?_) rfl rfl
  .simp only [q1]
   simp only [q4,q5]
   simp only [sh,bZ,q2,q3,and_true,true_and,decide_eq_true_eq,bne_eq_false_iff_eq]
   unfold M.U M.K M.ub M.ul
   and_intros <;> (try split) <;> omega
  .simp only [q1]
   simp only [q4]
   have e1:IntKind.u64.wrap (x+c+1)=M.dq 18446744073709551615 x y:=by rw [M.bN];unfold M.ul M.dq;omega
   have e2:∀ z,bU .u64 z 0=z:=fun z=>by show Int.fdiv z 1=z;simp
   rw [e1,e2,M.bN]
   congr 1
   unfold M.ul M.dr
   simp
   split <;> omega
 .refine ((hs _).call (aPg x y) (aB ?_)).words (by rw [hg];rfl) (fun _=>rfl) (fun _ _ h=>by cases h) (fun V=>?_) rfl rfl
  .simp only [q1]
   simp only [q4,q5]
   simp only [sh,bZ,q2,q3,and_true,true_and,decide_eq_false_iff_not,bne_eq_false_iff_eq]
   unfold M.U M.K M.ub M.ul
   and_intros <;> (try split) <;> omega
  .simp only [q1]
   simp only [q4]
   have e1:x+c=M.dq 18446744073709551615 x y:=by unfold M.dq;omega
   have e2:∀ z,bU .u64 z 0=z:=fun z=>by show Int.fdiv z 1=z;simp
   rw [e1,e2]
   congr 1
   rw [<- e1]
   unfold M.ul M.dr
   simp
   split <;> omega
set_option maxHeartbeats 2000000 in
theorem LR {x y:Int} (hx:M.U x) (hy:M.U y) (hd:x<9223372036854775808) (Γ:Env) (hg:Γ.aR=aA):aE Tryz.prog Γ 251 [.int false .u64 x,.int false .u64 y,.int true .u64 9223372036854775808,.int true .u64 18446744073709551615] (fun l=>look l []) 100 100 { val:=.eF [.int false .u64 (M.dq 9223372036854775808 x y),.int false .u64 (M.dr 9223372036854775808 x y)] }:=by
 have h1:=hx.1
 have h3:=hy.1
 have h4:=hy.2
 obtain ⟨t1,e1⟩:∃ t1,t1=M.uh (18446744073709551615*x):=⟨_,rfl⟩
 obtain ⟨c,e3⟩:∃ c,c=M.uh (M.ul (18446744073709551615*x)+y+0):=⟨_,rfl⟩
 have b1:t1=if x=0 then 0 else x-1:=by rw [e1];unfold M.uh;split <;> omega
 have b3:c=if x=0 then 0 else if y<x then 0 else 1:=by rw [e3];unfold M.uh M.ul;split <;> (try split) <;> omega
 obtain ⟨q,eq⟩:∃ q,q=M.ul (t1+x+c):=⟨_,rfl⟩
 have bq:q=if x=0 then 0 else if y<x then 2*x-1 else 2*x:=by rw [eq,b1,b3];unfold M.ul;split <;> (try split) <;> omega
 have hs:∀ hs,aF Tryz.prog vL 251 (aJ vL Tryz.f251 true hs 400):=fun hs=>aM Gr Gs mix Tryz.func251 (by kernel_rfl) true hs 400
 have sh:∀ z,bU .u64 z 0=z:=fun z=>by show Int.fdiv z 1=z;simp
 by_cases hh:M.dq 9223372036854775808 x y=q+1
 .refine ((hs _).call (aPd x y) (aB ?_)).words (by rw [hg];rfl) (fun _=>rfl) (fun _ _ h=>by cases h) (fun V=>?_) rfl rfl
  .simp only [<- e1,<- e3]
   simp only [<- eq]
   simp only [sh,bZ,and_true,true_and,decide_eq_true_eq,bne_eq_false_iff_eq]
   unfold M.dq at hh
   unfold M.U M.K M.ub M.ul M.uh
   split at bq
   .and_intros <;> omega
   split at bq
   .and_intros <;> omega
   .and_intros <;> omega
  .simp only [<- e1,<- e3]
   simp only [<- eq,sh]
   have g1:IntKind.u64.wrap (q+1)=M.dq 9223372036854775808 x y:=by
    rw [M.bN,hh]
    unfold M.ul
    split at bq <;> (try split at bq) <;> omega
   rw [g1,M.bN]
   have g2:M.ul (M.ul (y-M.ul (9223372036854775808*q)-0)-9223372036854775808)=M.dr 9223372036854775808 x y:=by
    unfold M.dq at hh
    unfold M.ul M.dr
    split at bq <;> (try split at bq) <;> omega
   rw [g2]
 .have hq:M.dq 9223372036854775808 x y=q:=by
   revert hh
   unfold M.dq
   split at bq <;> (try split at bq) <;> omega
  refine ((hs _).call (aPe x y) (aB ?_)).words (by rw [hg];rfl) (fun _=>rfl) (fun _ _ h=>by cases h) (fun V=>?_) rfl rfl
  .simp only [<- e1,<- e3]
   simp only [<- eq]
   simp only [sh,bZ,and_true,true_and,decide_eq_false_iff_not,bne_eq_false_iff_eq]
   unfold M.dq at hq
   unfold M.U M.K M.ub M.ul M.uh
   split at bq
   .and_intros <;> omega
   split at bq
   .and_intros <;> omega
   .and_intros <;> omega
  .simp only [<- e1,<- e3]
   simp only [<- eq,sh,hq]
   have g2:M.ul (y-M.ul (9223372036854775808*q)-0)=M.dr 9223372036854775808 x y:=by
    unfold M.dq at hq
    unfold M.ul M.dr
    split at bq <;> (try split at bq) <;> omega
   rw [g2]
theorem aPh (Γ:Env) (hg:Γ.aR=aA):aF Tryz.prog Γ 251 (aL aA 100 DR):=by
 refine aU hg fun vs T c hd hc=>?_
 unfold DR at hd
 split at hd
 case h_2=>cases hd
 rename_i x _ y d m
 split at hd
 .cases hd
  exact LS (hc _ (by simp)) (hc _ (by simp)) (hc _ (by simp)) Γ hg
 split at hd
 .cases hd
  exact LR (hc _ (by simp)) (hc _ (by simp)) (hc _ (by simp)) Γ hg
 .cases hd
def exB (f:Nat):Option Sum:=match Nat.beq f 230 with
 | true=>some (aL aA 100 Oy)
 | false=>match Nat.beq f 251 with
   | true=>some (aL aA 100 DR)
   | false=>Vk f
theorem FO (f:Nat) (S:Sum) (h:exB f=some S) (Γ:Env) (hg:Γ.aR=aA):aF Tryz.prog Γ f S:=by
 unfold exB at h
 split at h
 .rename_i e;cases h;rw [cM e];exact aIx Γ hg
 split at h
 .rename_i e;cases h;rw [cM e];exact aPh Γ hg
 .exact Tu f S h Γ hg
noncomputable def Γb:Env:=env exB 8
theorem aCv:cH Tryz.prog Γb:=bS exB FO 8
theorem aCu:cA Tryz.prog Γb:=bL exB 8
theorem aTu (a b c d:Int) :
 aJ Γb Tryz.f252 true [true] 400 [.int false .u64 a,.int false .u64 b,.int false .u64 c,.int false .u64 d] (fun _=>none) 100 100 =
 some {bO:=[decide (a>c)=true],val:=SV.bool true true}:=by kernel_rfl
theorem aTt (a b c d:Int) :
 aJ Γb Tryz.f252 true [false,true] 400 [.int false .u64 a,.int false .u64 b,.int false .u64 c,.int false .u64 d] (fun _=>none) 100 100 =
 some {bO:=[(a==c)=true,decide (a>c)=false],val:=SV.bool false (decide (b>d))}:=by kernel_rfl
theorem aTs (a b c d:Int) :
 aJ Γb Tryz.f252 true [false,false] 400 [.int false .u64 a,.int false .u64 b,.int false .u64 c,.int false .u64 d] (fun _=>none) 100 100 =
 some {bO:=[(a==c)=false,decide (a>c)=false],val:=SV.bool true false}:=by kernel_rfl
def M.gt (a b c d:Int):Bool:=decide (c*18446744073709551616+d<a*18446744073709551616+b)
def CW (vs:List SV) (_:bB):Option Canon:=match vs with
 | [.int _ .u64 a,.int _ .u64 b,.int _ .u64 c,.int _ .u64 d]=>some { eN:=[.int false .u64 a,.int false .u64 b,.int false .u64 c,.int false .u64 d],T0:=[],vl:=[],e0:={ val:=.bool false (M.gt a b c d) },conds:=[M.U b,M.U d] }
 | _=>none
theorem aOs (Γ:Env) (hg:Γ.aR=aA):aF Tryz.prog Γ 252 (aL aA 100 CW):=by
 refine aU hg fun vs T c hd hc=>?_
 unfold CW at hd
 split at hd
 case h_2=>cases hd
 rename_i a _ b _ c _ d
 cases hd
 have hb:M.U b:=hc _ (by simp)
 have hd:M.U d:=hc _ (by simp)
 have b1:=hb.1
 have b2:=hb.2
 have d1:=hd.1
 have d2:=hd.2
 have hs:∀ hs,aF Tryz.prog Γb 252 (aJ Γb Tryz.f252 true hs 400):=fun hs=>aM aCu aCv mix Tryz.func252 (by kernel_rfl) true hs 400
 by_cases h1:a>c
 .refine ((hs _).call (aTu a b c d) (aB ?_)).words (by rw [hg];rfl) (fun _=>rfl) (fun _ _ h=>by cases h) (fun V=>?_) rfl rfl
  .simp only [sh,bZ,and_true,decide_eq_true_eq,h1]
  .have:M.gt a b c d=true:=by unfold M.gt;exact decide_eq_true (by omega)
   rw [this];rfl
 by_cases h2:a=c
 .refine ((hs _).call (aTt a b c d) (aB ?_)).words (by rw [hg];rfl) (fun _=>rfl) (fun _ _ h=>by cases h) (fun V=>?_) rfl rfl
  .simp only [sh,bZ,and_true,beq_iff_eq,decide_eq_false_iff_not];exact ⟨h2,h1⟩
  .have:M.gt a b c d=decide (b>d):=by unfold M.gt;rw [decide_eq_decide];omega
   rw [this]
 .refine ((hs _).call (aTs a b c d) (aB ?_)).words (by rw [hg];rfl) (fun _=>rfl) (fun _ _ h=>by cases h) (fun V=>?_) rfl rfl
  .simp only [sh,bZ,and_true,beq_eq_false_iff_ne,decide_eq_false_iff_not];exact ⟨h2,h1⟩
  .have:M.gt a b c d=false:=by unfold M.gt;exact nD (by omega)
   rw [this];rfl
def Ut (f:Nat):Option Sum:=match Nat.beq f 252 with
 | true=>some (aL aA 100 CW)
 | false=>exB f
theorem FN (f:Nat) (S:Sum) (h:Ut f=some S) (Γ:Env) (hg:Γ.aR=aA):aF Tryz.prog Γ f S:=by
 unfold Ut at h
 split at h
 .rename_i e;cases h;rw [cM e];exact aOs Γ hg
 .exact FO f S h Γ hg
noncomputable def Γv:Env:=env Ut 8
theorem kD:cH Tryz.prog Γv:=bS Ut FN 8
theorem kC:cA Tryz.prog Γv:=bL Ut 8
def zQ (nu cu nq cq:Nat):List SV:=[.aG 61 true 0 nq cq,.ptr 62 true 0,.aG 63 true 0 nu cu,.dD 64 0 3 0]
def Fl (v:List SV) (us qs:List SV):bB:=fun l=>look l [(61,.own qs 142),(62,.own [.raw (.pointer none)] 282),(63,.own us 142),(64,.row 1 v 142)]
def eR:List SV:=[.int true .u64 13835058055282163712,.int true .u64 18446744073709551614,.int true .u64 18446744073709551615]
def wc (xs:List Int):List SV:=xs.map (.int false .u64)
noncomputable def Af (v us qs:List SV) (nu cu nq cq:Nat):Option qH:=gV Γv (bI 100 (Fl v us qs)) 100 Tryz.f225.ntmps [8] 100 400 (.go (codeOf Tryz.f225)) [] (Dg (zQ nu cu nq cq) 100)
noncomputable def vV:Code:=match Af eR (wc [0,0,0,0]) (wc [0]) 4 4 1 1 with
 | some { cf:=.go (.loop c),.. }=>c
 | _=>.skip
noncomputable def Cz:List Fr:=match Af eR (wc [0,0,0,0]) (wc [0]) 4 4 1 1 with
 | some r=>r.fr
 | _=>[]
def iX (nu cu nq cq m:Nat) (d rec:Int) (ujn:SV) (j:Int):List (Nat × SV):=[(0,.aG 61 true 0 nq cq),(2,.aG 63 true 0 nu cu),(3,.dD 64 0 3 0),(8,.int true .i64 3),(9,.int true .i64 m),(10,.dD 100 0 4 0),(11,.int true .u64 d),(12,.int true .u64 rec),(13,ujn),(14,.int true .i64 j)]
def iW (hs us qs:List SV):List (Nat × SB):=[(100,.row 1 hs 142),(61,.own qs 142),(63,.own us 142)]
def iY:List SV:=[.fn (.func 207) [.ptr 62 true 0,.int true .i64 0] []]
noncomputable def fH (v eL eM:List SV) (nu cu nq cq m:Nat) (d rec:Int) (j j':Int) (ujn aQc:SV) (us us' qs qs' hs Ce:List SV) (h:List Bool):Option (Cf × List Fr × List Prop):=
 xD 100 (bI 100 (Fl v eL eM)) [] (iX nu cu nq cq m d rec aQc j') (iW Ce us' qs') 101 [61,63] iY (gV Γv (bI 100 (Fl v eL eM)) 100 Tryz.f225.ntmps [8] 100 400 (.go vV) [] ((cG (iX nu cu nq cq m d rec ujn j) (iW hs us qs) 101 [61,63] iY).hint h))
noncomputable def Kb (v eL eM:List SV) (nu cu nq cq m:Nat) (d rec:Int) (ujn:SV) (us qs hs:List SV):Option bK:=
 Ja Γv (Fl v eL eM) 100 100 Tryz.f225 (gV Γv (bI 100 (Fl v eL eM)) 100 Tryz.f225.ntmps [8] 100 400 (.at (.exit 0)) Cz ((cG (iX nu cu nq cq m d rec ujn (-1)) (iW hs us qs) 101 [61,63] iY).hint []))
structure Yy where
 nu:Nat
 cu:Nat
 nq:Nat
 cq:Nat
 m:Nat
def DvP (hs:List Bool) (ob:Int->Int->Int->Int->Int->Int->Int->Int->Int->List Prop) (uo:Int->Int->Int->Int->List Int) (qo:Int->Int->Int) (c:Yy) (j j':Int) (pre post qa qb:List Int):Prop:=
 ∀ (eL eM:List SV) (u0 u1 u2 u3 v0 v1 v2 v3 q0 q1 h0 h1 h2 h3 g0 g1 g2 g3:Int),
   fH eR eL eM c.nu c.cu c.nq c.cq c.m 18446744073709551615 1 j j' (.int false .u64 u3) (.int false .u64 v2) (wc (pre++[u0,u1,u2,u3]++post)) (wc (pre++[v0,v1,v2,v3]++post)) (wc (qa++[q0]++qb)) (wc (qa++[q1]++qb)) (wc [h0,h1,h2,h3]) (wc [g0,g1,g2,g3]) hs =
    some (.at .normal,[],ob u0 u1 u2 u3 v2 g0 g1 g2 g3++[qa++[qo u2 u3]++qb=qa++[q1]++qb,pre++uo u0 u1 u2 u3++post=pre++[v0,v1,v2,v3]++post])
def aAd (u0 u1 u2 u3 v2 g0 g1 g2 g3:Int):List Prop:=
 sh (13835058055282163713:Int) fun z4=>
 sh (4611686018427387904:Int) fun z3=>
 sh (0:Int) fun z6=>
 sh (u0-z3-z6) fun jP=>
 sh (u1-z4-M.ub jP) fun z0=>
 sh (18446744073709551614:Int) fun z1=>
 sh (18446744073709551615:Int) fun z2=>
 sh (u2-z1-M.ub z0) fun z5=>
 sh (18446744073709551613:Int) fun z7=>
 sh (13835058055282163711:Int) fun z8=>
 sh (13835058055282163712:Int) fun z9=>
 [(M.ub (u3-z1-M.ub z5) != z6)=false,M.U u3,M.U z1,M.K (M.ub z5),u3=u3,z1=z1,M.ub z5=M.ub z5,M.U u2,M.U z1,M.K (M.ub z0),u2=u2,z1=z1,M.ub z0=M.ub z0,M.U u1,M.U z4,M.K (M.ub jP),u1=u1,z4=z4,M.ub jP=M.ub jP,M.U u0,M.U z3,M.K z6,u0=u0,z3=z3,z6=z6,M.U z2,M.U z2,M.U z7,z2=z2,z2=z2,z7=z7,M.U z1,M.U z2,M.U z8,z1=z1,z2=z2,z8=z8,M.U z9,M.U z2,M.U z6,z9=z9,z2=z2,z6=z6,(u3 != z2)=false,(3:Nat)=(3:Nat),(4:Nat)=(4:Nat),M.ul z5=v2,z3=g0,z4=g1,z1=g2,z1=g3]
def ZK (u0 u1 u2 u3:Int):List Int:=[M.ul (u0-(4611686018427387904:Int)-(0:Int)),M.ul (u1-(13835058055282163713:Int)-M.ub (u0-(4611686018427387904:Int)-(0:Int))),M.ul (u2-(18446744073709551614:Int)-M.ub (u1-(13835058055282163713:Int)-M.ub (u0-(4611686018427387904:Int)-(0:Int)))),M.ul (u3-(18446744073709551614:Int)-M.ub (u2-(18446744073709551614:Int)-M.ub (u1-(13835058055282163713:Int)-M.ub (u0-(4611686018427387904:Int)-(0:Int)))))]
def ZY (u2 u3:Int):Int:=(18446744073709551615:Int)
abbrev wY:=DvP [false,false] aAd ZK ZY
def CB (u0 u1 u2 u3 v2 g0 g1 g2 g3:Int):List Prop:=
 sh (18446744073709551614:Int) fun z4=>
 sh (18446744073709551615:Int) fun z1=>
 sh (13835058055282163712:Int) fun z8=>
 sh (0:Int) fun jP=>
 sh (z8*M.dq z1 u3 u2+jP) fun z2=>
 sh (z4*M.dq z1 u3 u2+M.uh z2) fun z0=>
 sh (z1*M.dq z1 u3 u2+M.uh z0) fun z5=>
 sh (u0-M.ul z2-jP) fun z6=>
 sh (u1-M.ul z0-M.ub z6) fun z9=>
 sh (u2-M.ul z5-M.ub z9) fun z3=>
 sh (M.dq z1 u3 u2*z4) fun z7=>
 sh (M.dq z1 u3 u2) fun kV=>
 [(M.ub (u3-M.uh z5-M.ub z3) != jP)=false,M.U u3,M.U (M.uh z5),M.K (M.ub z3),u3=u3,M.uh z5=M.uh z5,M.ub z3=M.ub z3,M.U u2,M.U (M.ul z5),M.K (M.ub z9),u2=u2,M.ul z5=M.ul z5,M.ub z9=M.ub z9,M.U u1,M.U (M.ul z0),M.K (M.ub z6),u1=u1,M.ul z0=M.ul z0,M.ub z6=M.ub z6,M.U u0,M.U (M.ul z2),M.K jP,u0=u0,M.ul z2=M.ul z2,jP=jP,M.U z1,M.U kV,M.U (M.uh z0),z1=z1,M.dq z1 u3 u2=M.dq z1 u3 u2,M.uh z0=M.uh z0,M.U z4,M.U kV,M.U (M.uh z2),z4=z4,M.dq z1 u3 u2=M.dq z1 u3 u2,M.uh z2=M.uh z2,M.U z8,M.U kV,M.U jP,z8=z8,M.dq z1 u3 u2=M.dq z1 u3 u2,jP=jP,M.gt (M.uh z7) (M.ul z7) (M.dr z1 u3 u2) u1=false,M.U (M.ul z7),M.U u1,M.uh z7=M.uh z7,M.ul z7=M.ul z7,M.dr z1 u3 u2=M.dr z1 u3 u2,u1=u1,M.U kV,M.U z4,M.dq z1 u3 u2=M.dq z1 u3 u2,z4=z4,M.U u3,M.U u2,u3<z1,u3=u3,u2=u2,(u3 != z1)=true,(3:Nat)=(3:Nat),(4:Nat)=(4:Nat),M.ul z3=v2,M.ul z2=g0,M.ul z0=g1,M.ul z5=g2,M.uh z5=g3]
def AW (u0 u1 u2 u3:Int):List Int:=
 sh (18446744073709551615:Int) fun z2=>
 sh ((13835058055282163712:Int)*M.dq z2 u3 u2+(0:Int)) fun z1=>
 sh ((18446744073709551614:Int)*M.dq z2 u3 u2+M.uh z1) fun z0=>
 sh (z2*M.dq z2 u3 u2+M.uh z0) fun z5=>
 sh (u0-M.ul z1-(0:Int)) fun z4=>
 sh (u1-M.ul z0-M.ub z4) fun z6=>
 sh (u2-M.ul z5-M.ub z6) fun z3=>
 [M.ul z4,M.ul z6,M.ul z3,M.ul (u3-M.uh z5-M.ub z3)]
def BU (u2 u3:Int):Int:=M.dq (18446744073709551615:Int) u3 u2
abbrev tF:=DvP [true,false,false] CB AW BU
def EX (u0 u1 u2 u3 v2 g0 g1 g2 g3:Int):List Prop:=
 sh (18446744073709551614:Int) fun z5=>
 sh (18446744073709551615:Int) fun z3=>
 sh (M.dq z3 u3 u2-(1:Int)) fun z1=>
 sh (13835058055282163712:Int) fun z9=>
 sh (0:Int) fun kV=>
 sh (z9*IntKind.u64.wrap z1+kV) fun z2=>
 sh (z5*IntKind.u64.wrap z1+M.uh z2) fun z0=>
 sh (z3*IntKind.u64.wrap z1+M.uh z0) fun z4=>
 sh (u0-M.ul z2-kV) fun jP=>
 sh (u1-M.ul z0-M.ub jP) fun z6=>
 sh (M.dq z3 u3 u2*z5) fun z7=>
 sh (u2-M.ul z4-M.ub z6) fun z8=>
 sh (IntKind.u64.wrap z1) fun vE=>
 [(M.ub (u3-M.uh z4-M.ub z8) != kV)=false,M.U u3,M.U (M.uh z4),M.K (M.ub z8),u3=u3,M.uh z4=M.uh z4,M.ub z8=M.ub z8,M.U u2,M.U (M.ul z4),M.K (M.ub z6),u2=u2,M.ul z4=M.ul z4,M.ub z6=M.ub z6,M.U u1,M.U (M.ul z0),M.K (M.ub jP),u1=u1,M.ul z0=M.ul z0,M.ub jP=M.ub jP,M.U u0,M.U (M.ul z2),M.K kV,u0=u0,M.ul z2=M.ul z2,kV=kV,M.U z3,M.U vE,M.U (M.uh z0),z3=z3,IntKind.u64.wrap z1=IntKind.u64.wrap z1,M.uh z0=M.uh z0,M.U z5,M.U vE,M.U (M.uh z2),z5=z5,IntKind.u64.wrap z1=IntKind.u64.wrap z1,M.uh z2=M.uh z2,M.U z9,M.U vE,M.U kV,z9=z9,IntKind.u64.wrap z1=IntKind.u64.wrap z1,kV=kV,decide (IntKind.u64.wrap (M.dr z3 u3 u2+z3)<z3)=true,M.gt (M.uh z7) (M.ul z7) (M.dr z3 u3 u2) u1=true,M.U (M.ul z7),M.U u1,M.uh z7=M.uh z7,M.ul z7=M.ul z7,M.dr z3 u3 u2=M.dr z3 u3 u2,u1=u1,M.U (M.dq z3 u3 u2),M.U z5,M.dq z3 u3 u2=M.dq z3 u3 u2,z5=z5,M.U u3,M.U u2,u3<z3,u3=u3,u2=u2,(u3 != z3)=true,(3:Nat)=(3:Nat),(4:Nat)=(4:Nat),M.ul z8=v2,M.ul z2=g0,M.ul z0=g1,M.ul z4=g2,M.uh z4=g3]
def EC (u0 u1 u2 u3:Int):List Int:=
 sh (18446744073709551615:Int) fun z5=>
 sh (M.dq z5 u3 u2-(1:Int)) fun z3=>
 sh ((13835058055282163712:Int)*IntKind.u64.wrap z3+(0:Int)) fun z1=>
 sh ((18446744073709551614:Int)*IntKind.u64.wrap z3+M.uh z1) fun z0=>
 sh (z5*IntKind.u64.wrap z3+M.uh z0) fun z2=>
 sh (u0-M.ul z1-(0:Int)) fun z6=>
 sh (u1-M.ul z0-M.ub z6) fun z4=>
 sh (u2-M.ul z2-M.ub z4) fun z7=>
 [M.ul z6,M.ul z4,M.ul z7,M.ul (u3-M.uh z2-M.ub z7)]
def EN (u2 u3:Int):Int:=IntKind.u64.wrap (M.dq (18446744073709551615:Int) u3 u2-(1:Int))
abbrev pO:=DvP [true,true,true,false] EX EC EN
def Ta (u0 u1 u2 u3 v2 g0 g1 g2 g3:Int):List Prop:=
 sh (18446744073709551614:Int) fun z4=>
 sh (18446744073709551615:Int) fun z1=>
 sh (M.dq z1 u3 u2-(1:Int)) fun z6=>
 sh (13835058055282163712:Int) fun z9=>
 sh (0:Int) fun vE=>
 sh (z9*IntKind.u64.wrap z6+vE) fun z2=>
 sh (z4*IntKind.u64.wrap z6+M.uh z2) fun z0=>
 sh (z1*IntKind.u64.wrap z6+M.uh z0) fun z3=>
 sh (u0-M.ul z2-vE) fun jP=>
 sh (u1-M.ul z0-M.ub jP) fun z5=>
 sh (M.dq z1 u3 u2*z4) fun z7=>
 sh (u2-M.ul z3-M.ub z5) fun z8=>
 sh (M.dr z1 u3 u2+z1) fun kV=>
 sh (IntKind.u64.wrap z6) fun Yo=>
 sh (M.uh z7-(1:Int)) fun z14=>
 sh (M.ul z7-z4) fun z15=>
 sh (IntKind.u64.wrap z15) fun mI=>
 [(M.ub (u3-M.uh z3-M.ub z8) != vE)=false,M.U u3,M.U (M.uh z3),M.K (M.ub z8),u3=u3,M.uh z3=M.uh z3,M.ub z8=M.ub z8,M.U u2,M.U (M.ul z3),M.K (M.ub z5),u2=u2,M.ul z3=M.ul z3,M.ub z5=M.ub z5,M.U u1,M.U (M.ul z0),M.K (M.ub jP),u1=u1,M.ul z0=M.ul z0,M.ub jP=M.ub jP,M.U u0,M.U (M.ul z2),M.K vE,u0=u0,M.ul z2=M.ul z2,vE=vE,M.U z1,M.U Yo,M.U (M.uh z0),z1=z1,IntKind.u64.wrap z6=IntKind.u64.wrap z6,M.uh z0=M.uh z0,M.U z4,M.U Yo,M.U (M.uh z2),z4=z4,IntKind.u64.wrap z6=IntKind.u64.wrap z6,M.uh z2=M.uh z2,M.U z9,M.U Yo,M.U vE,z9=z9,IntKind.u64.wrap z6=IntKind.u64.wrap z6,vE=vE,M.gt (IntKind.u64.wrap z14) mI (IntKind.u64.wrap kV) u1=false,M.U mI,M.U u1,IntKind.u64.wrap z14=IntKind.u64.wrap z14,IntKind.u64.wrap z15=IntKind.u64.wrap z15,IntKind.u64.wrap kV=IntKind.u64.wrap kV,u1=u1,decide (z4>M.ul z7)=true,decide (IntKind.u64.wrap kV<z1)=false,M.gt (M.uh z7) (M.ul z7) (M.dr z1 u3 u2) u1=true,M.U (M.ul z7),M.U u1,M.uh z7=M.uh z7,M.ul z7=M.ul z7,M.dr z1 u3 u2=M.dr z1 u3 u2,u1=u1,M.U (M.dq z1 u3 u2),M.U z4,M.dq z1 u3 u2=M.dq z1 u3 u2,z4=z4,M.U u3,M.U u2,u3<z1,u3=u3,u2=u2,(u3 != z1)=true,(3:Nat)=(3:Nat),(4:Nat)=(4:Nat),M.ul z8=v2,M.ul z2=g0,M.ul z0=g1,M.ul z3=g2,M.uh z3=g3]
def Sj (u0 u1 u2 u3:Int):List Int:=
 sh (18446744073709551615:Int) fun z5=>
 sh (M.dq z5 u3 u2-(1:Int)) fun z3=>
 sh ((13835058055282163712:Int)*IntKind.u64.wrap z3+(0:Int)) fun z1=>
 sh ((18446744073709551614:Int)*IntKind.u64.wrap z3+M.uh z1) fun z0=>
 sh (z5*IntKind.u64.wrap z3+M.uh z0) fun z2=>
 sh (u0-M.ul z1-(0:Int)) fun z6=>
 sh (u1-M.ul z0-M.ub z6) fun z4=>
 sh (u2-M.ul z2-M.ub z4) fun z7=>
 [M.ul z6,M.ul z4,M.ul z7,M.ul (u3-M.uh z2-M.ub z7)]
def Sq (u2 u3:Int):Int:=IntKind.u64.wrap (M.dq (18446744073709551615:Int) u3 u2-(1:Int))
abbrev mR:=DvP [true,true,false,true,false,false] Ta Sj Sq
def Tb (u0 u1 u2 u3 v2 g0 g1 g2 g3:Int):List Prop:=
 sh (18446744073709551614:Int) fun z4=>
 sh (18446744073709551615:Int) fun z1=>
 sh (M.dq z1 u3 u2-(1:Int)) fun z6=>
 sh (13835058055282163712:Int) fun z9=>
 sh (0:Int) fun vE=>
 sh (z9*IntKind.u64.wrap z6+vE) fun z2=>
 sh (z4*IntKind.u64.wrap z6+M.uh z2) fun z0=>
 sh (z1*IntKind.u64.wrap z6+M.uh z0) fun z3=>
 sh (u0-M.ul z2-vE) fun jP=>
 sh (u1-M.ul z0-M.ub jP) fun z5=>
 sh (M.dq z1 u3 u2*z4) fun z7=>
 sh (u2-M.ul z3-M.ub z5) fun z8=>
 sh (M.dr z1 u3 u2+z1) fun kV=>
 sh (IntKind.u64.wrap z6) fun Yo=>
 sh (M.ul z7-z4) fun z14=>
 sh (IntKind.u64.wrap z14) fun z15=>
 [(M.ub (u3-M.uh z3-M.ub z8) != vE)=false,M.U u3,M.U (M.uh z3),M.K (M.ub z8),u3=u3,M.uh z3=M.uh z3,M.ub z8=M.ub z8,M.U u2,M.U (M.ul z3),M.K (M.ub z5),u2=u2,M.ul z3=M.ul z3,M.ub z5=M.ub z5,M.U u1,M.U (M.ul z0),M.K (M.ub jP),u1=u1,M.ul z0=M.ul z0,M.ub jP=M.ub jP,M.U u0,M.U (M.ul z2),M.K vE,u0=u0,M.ul z2=M.ul z2,vE=vE,M.U z1,M.U Yo,M.U (M.uh z0),z1=z1,IntKind.u64.wrap z6=IntKind.u64.wrap z6,M.uh z0=M.uh z0,M.U z4,M.U Yo,M.U (M.uh z2),z4=z4,IntKind.u64.wrap z6=IntKind.u64.wrap z6,M.uh z2=M.uh z2,M.U z9,M.U Yo,M.U vE,z9=z9,IntKind.u64.wrap z6=IntKind.u64.wrap z6,vE=vE,M.gt (M.uh z7) z15 (IntKind.u64.wrap kV) u1=false,M.U z15,M.U u1,M.uh z7=M.uh z7,IntKind.u64.wrap z14=IntKind.u64.wrap z14,IntKind.u64.wrap kV=IntKind.u64.wrap kV,u1=u1,decide (z4>M.ul z7)=false,decide (IntKind.u64.wrap kV<z1)=false,M.gt (M.uh z7) (M.ul z7) (M.dr z1 u3 u2) u1=true,M.U (M.ul z7),M.U u1,M.uh z7=M.uh z7,M.ul z7=M.ul z7,M.dr z1 u3 u2=M.dr z1 u3 u2,u1=u1,M.U (M.dq z1 u3 u2),M.U z4,M.dq z1 u3 u2=M.dq z1 u3 u2,z4=z4,M.U u3,M.U u2,u3<z1,u3=u3,u2=u2,(u3 != z1)=true,(3:Nat)=(3:Nat),(4:Nat)=(4:Nat),M.ul z8=v2,M.ul z2=g0,M.ul z0=g1,M.ul z3=g2,M.uh z3=g3]
def Sk (u0 u1 u2 u3:Int):List Int:=
 sh (18446744073709551615:Int) fun z5=>
 sh (M.dq z5 u3 u2-(1:Int)) fun z3=>
 sh ((13835058055282163712:Int)*IntKind.u64.wrap z3+(0:Int)) fun z1=>
 sh ((18446744073709551614:Int)*IntKind.u64.wrap z3+M.uh z1) fun z0=>
 sh (z5*IntKind.u64.wrap z3+M.uh z0) fun z2=>
 sh (u0-M.ul z1-(0:Int)) fun z6=>
 sh (u1-M.ul z0-M.ub z6) fun z4=>
 sh (u2-M.ul z2-M.ub z4) fun z7=>
 [M.ul z6,M.ul z4,M.ul z7,M.ul (u3-M.uh z2-M.ub z7)]
def Sr (u2 u3:Int):Int:=IntKind.u64.wrap (M.dq (18446744073709551615:Int) u3 u2-(1:Int))
abbrev mS:=DvP [true,true,false,false,false,false] Tb Sk Sr
def aAc (u0 u1 u2 u3 v2 g0 g1 g2 g3:Int):List Prop:=
 sh (18446744073709551614:Int) fun z4=>
 sh (18446744073709551615:Int) fun z2=>
 sh (13835058055282163712:Int) fun z3=>
 sh (0:Int) fun kV=>
 sh (z3*M.dq z2 u3 u2+kV) fun z7=>
 sh (z4*M.dq z2 u3 u2+M.uh z7) fun z0=>
 sh (u0-M.ul z7-kV) fun z1=>
 sh (z2*M.dq z2 u3 u2+M.uh z0) fun z6=>
 sh (u1-M.ul z0-M.ub z1) fun z8=>
 sh (u2-M.ul z6-M.ub z8) fun z5=>
 sh (M.ul z1+z3+kV) fun z9=>
 sh (M.dq z2 u3 u2*z4) fun jP=>
 sh (M.ul z8+z4+M.uh z9) fun vE=>
 sh (M.dq z2 u3 u2) fun Yo=>
 [M.U (M.ul z5),M.U z2,M.K (M.uh vE),M.ul z5=M.ul z5,z2=z2,M.uh vE=M.uh vE,M.U (M.ul z8),M.U z4,M.K (M.uh z9),M.ul z8=M.ul z8,z4=z4,M.uh z9=M.uh z9,M.U (M.ul z1),M.U z3,M.K kV,M.ul z1=M.ul z1,z3=z3,kV=kV,(M.ub (u3-M.uh z6-M.ub z5) != kV)=true,M.U u3,M.U (M.uh z6),M.K (M.ub z5),u3=u3,M.uh z6=M.uh z6,M.ub z5=M.ub z5,M.U u2,M.U (M.ul z6),M.K (M.ub z8),u2=u2,M.ul z6=M.ul z6,M.ub z8=M.ub z8,M.U u1,M.U (M.ul z0),M.K (M.ub z1),u1=u1,M.ul z0=M.ul z0,M.ub z1=M.ub z1,M.U u0,M.U (M.ul z7),M.K kV,u0=u0,M.ul z7=M.ul z7,kV=kV,M.U z2,M.U Yo,M.U (M.uh z0),z2=z2,M.dq z2 u3 u2=M.dq z2 u3 u2,M.uh z0=M.uh z0,M.U z4,M.U Yo,M.U (M.uh z7),z4=z4,M.dq z2 u3 u2=M.dq z2 u3 u2,M.uh z7=M.uh z7,M.U z3,M.U Yo,M.U kV,z3=z3,M.dq z2 u3 u2=M.dq z2 u3 u2,kV=kV,M.gt (M.uh jP) (M.ul jP) (M.dr z2 u3 u2) u1=false,M.U (M.ul jP),M.U u1,M.uh jP=M.uh jP,M.ul jP=M.ul jP,M.dr z2 u3 u2=M.dr z2 u3 u2,u1=u1,M.U Yo,M.U z4,M.dq z2 u3 u2=M.dq z2 u3 u2,z4=z4,M.U u3,M.U u2,u3<z2,u3=u3,u2=u2,(u3 != z2)=true,(3:Nat)=(3:Nat),(4:Nat)=(4:Nat),M.ul (M.ul z5+z2+M.uh vE)=v2,M.ul z7=g0,M.ul z0=g1,M.ul z6=g2,M.uh z6=g3]
def ZJ (u0 u1 u2 u3:Int):List Int:=
 sh (13835058055282163712:Int) fun z9=>
 sh (18446744073709551615:Int) fun z3=>
 sh (z9*M.dq z3 u3 u2+(0:Int)) fun z0=>
 sh (18446744073709551614:Int) fun jP=>
 sh (jP*M.dq z3 u3 u2+M.uh z0) fun z1=>
 sh (z3*M.dq z3 u3 u2+M.uh z1) fun z8=>
 sh (u0-M.ul z0-(0:Int)) fun z7=>
 sh (u1-M.ul z1-M.ub z7) fun kV=>
 sh (u2-M.ul z8-M.ub kV) fun z5=>
 sh (M.ul z7+z9+(0:Int)) fun z6=>
 sh (M.ul kV+jP+M.uh z6) fun z4=>
 sh (M.ul z5+z3+M.uh z4) fun z2=>
 [M.ul z6,M.ul z4,M.ul z2,IntKind.u64.wrap (M.ul (u3-M.uh z8-M.ub z5)+M.uh z2)]
def ZX (u2 u3:Int):Int:=IntKind.u64.wrap (M.dq (18446744073709551615:Int) u3 u2-(1:Int))
abbrev wX:=DvP [true,false,true] aAc ZJ ZX
def aJv (u1 u2 u3 v3 g0 g1 g2 g3:Int):List Prop:=
 sh (18446744073709551614:Int) fun z3=>
 sh (18446744073709551615:Int) fun z1=>
 sh (0:Int) fun z4=>
 sh (13835058055282163712:Int) fun z8=>
 sh (z8*M.dq z1 z4 u3+z4) fun z2=>
 sh (z3*M.dq z1 z4 u3+M.uh z2) fun z0=>
 sh (z1*M.dq z1 z4 u3+M.uh z0) fun z5=>
 sh (u1-M.ul z2-z4) fun z9=>
 sh (u2-M.ul z0-M.ub z9) fun z6=>
 sh (M.dq z1 z4 u3*z3) fun z7=>
 sh (M.dq z1 z4 u3) fun jP=>
 sh (u3-M.ul z5-M.ub z6) fun kV=>
 [(M.dq z1 z4 u3==z4)=true,(M.ub kV != z4)=false,M.U u3,M.U (M.ul z5),M.K (M.ub z6),u3=u3,M.ul z5=M.ul z5,M.ub z6=M.ub z6,M.U u2,M.U (M.ul z0),M.K (M.ub z9),u2=u2,M.ul z0=M.ul z0,M.ub z9=M.ub z9,M.U u1,M.U (M.ul z2),M.K z4,u1=u1,M.ul z2=M.ul z2,z4=z4,(M.uh z5==z4)=true,M.U z1,M.U jP,M.U (M.uh z0),z1=z1,M.dq z1 z4 u3=M.dq z1 z4 u3,M.uh z0=M.uh z0,M.U z3,M.U jP,M.U (M.uh z2),z3=z3,M.dq z1 z4 u3=M.dq z1 z4 u3,M.uh z2=M.uh z2,M.U z8,M.U jP,M.U z4,z8=z8,M.dq z1 z4 u3=M.dq z1 z4 u3,z4=z4,M.gt (M.uh z7) (M.ul z7) (M.dr z1 z4 u3) u2=false,M.U (M.ul z7),M.U u2,M.uh z7=M.uh z7,M.ul z7=M.ul z7,M.dr z1 z4 u3=M.dr z1 z4 u3,u2=u2,M.U jP,M.U z3,M.dq z1 z4 u3=M.dq z1 z4 u3,z3=z3,M.U z4,M.U u3,z4<z1,z4=z4,u3=u3,(3:Nat)=(3:Nat),(4:Nat)=(4:Nat),M.ul kV=v3,M.ul z2=g0,M.ul z0=g1,M.ul z5=g2,M.uh z5=g3]
def aJg (u1 u2 u3:Int):List Int:=
 sh (18446744073709551615:Int) fun z2=>
 sh (0:Int) fun z4=>
 sh ((13835058055282163712:Int)*M.dq z2 z4 u3+z4) fun z0=>
 sh ((18446744073709551614:Int)*M.dq z2 z4 u3+M.uh z0) fun z1=>
 sh (u1-M.ul z0-z4) fun z3=>
 sh (u2-M.ul z1-M.ub z3) fun z5=>
 [M.ul z3,M.ul z5,M.ul (u3-M.ul (z2*M.dq z2 z4 u3+M.uh z1)-M.ub z5)]
def DvT (c:Yy) (j j':Int) (pre post qs:List Int):Prop:=
 ∀ (eL eM:List SV) (u1 u2 u3 v1 v2 v3 h0 h1 h2 h3 g0 g1 g2 g3:Int),
   fH eR eL eM c.nu c.cu c.nq c.cq c.m 18446744073709551615 1 j j' (.int true .u64 0) (.int false .u64 v3) (wc (pre++[u1,u2,u3]++post)) (wc (pre++[v1,v2,v3]++post)) (wc qs) (wc qs) (wc [h0,h1,h2,h3]) (wc [g0,g1,g2,g3]) [false,true,false,true] =
    some (.at .normal,[],aJv u1 u2 u3 v3 g0 g1 g2 g3++[qs=qs,pre++aJg u1 u2 u3++post=pre++[v1,v2,v3]++post])
theorem aGe:wY ⟨4,7,1,1,1⟩ 0 (-1) [] [0,0,0] [] []:=fun eL eM u0 u1 u2 u3 v0 v1 v2 v3 q0 q1 h0 h1 h2 h3 g0 g1 g2 g3=>by kernel_rfl
theorem aGd:tF ⟨4,7,1,1,1⟩ 0 (-1) [] [0,0,0] [] []:=fun eL eM u0 u1 u2 u3 v0 v1 v2 v3 q0 q1 h0 h1 h2 h3 g0 g1 g2 g3=>by kernel_rfl
theorem VP:pO ⟨4,7,1,1,1⟩ 0 (-1) [] [0,0,0] [] []:=fun eL eM u0 u1 u2 u3 v0 v1 v2 v3 q0 q1 h0 h1 h2 h3 g0 g1 g2 g3=>by kernel_rfl
theorem HV:mR ⟨4,7,1,1,1⟩ 0 (-1) [] [0,0,0] [] []:=fun eL eM u0 u1 u2 u3 v0 v1 v2 v3 q0 q1 h0 h1 h2 h3 g0 g1 g2 g3=>by kernel_rfl
theorem HW:mS ⟨4,7,1,1,1⟩ 0 (-1) [] [0,0,0] [] []:=fun eL eM u0 u1 u2 u3 v0 v1 v2 v3 q0 q1 h0 h1 h2 h3 g0 g1 g2 g3=>by kernel_rfl
theorem aGc:wX ⟨4,7,1,1,1⟩ 0 (-1) [] [0,0,0] [] []:=fun eL eM u0 u1 u2 u3 v0 v1 v2 v3 q0 q1 h0 h1 h2 h3 g0 g1 g2 g3=>by kernel_rfl
theorem aNy (u0 q0:Int):DvT ⟨4,7,1,1,1⟩ 1 0 [u0] [0,0,0] [q0]:=fun eL eM u1 u2 u3 v1 v2 v3 h0 h1 h2 h3 g0 g1 g2 g3=>by kernel_rfl
theorem aGb:wY ⟨4,8,1,1,1⟩ 0 (-1) [] [0,0,0,0] [] []:=fun eL eM u0 u1 u2 u3 v0 v1 v2 v3 q0 q1 h0 h1 h2 h3 g0 g1 g2 g3=>by kernel_rfl
theorem aGa:tF ⟨4,8,1,1,1⟩ 0 (-1) [] [0,0,0,0] [] []:=fun eL eM u0 u1 u2 u3 v0 v1 v2 v3 q0 q1 h0 h1 h2 h3 g0 g1 g2 g3=>by kernel_rfl
theorem VO:pO ⟨4,8,1,1,1⟩ 0 (-1) [] [0,0,0,0] [] []:=fun eL eM u0 u1 u2 u3 v0 v1 v2 v3 q0 q1 h0 h1 h2 h3 g0 g1 g2 g3=>by kernel_rfl
theorem HT:mR ⟨4,8,1,1,1⟩ 0 (-1) [] [0,0,0,0] [] []:=fun eL eM u0 u1 u2 u3 v0 v1 v2 v3 q0 q1 h0 h1 h2 h3 g0 g1 g2 g3=>by kernel_rfl
theorem HU:mS ⟨4,8,1,1,1⟩ 0 (-1) [] [0,0,0,0] [] []:=fun eL eM u0 u1 u2 u3 v0 v1 v2 v3 q0 q1 h0 h1 h2 h3 g0 g1 g2 g3=>by kernel_rfl
theorem aFz:wX ⟨4,8,1,1,1⟩ 0 (-1) [] [0,0,0,0] [] []:=fun eL eM u0 u1 u2 u3 v0 v1 v2 v3 q0 q1 h0 h1 h2 h3 g0 g1 g2 g3=>by kernel_rfl
theorem aNx (u0 q0:Int):DvT ⟨4,8,1,1,1⟩ 1 0 [u0] [0,0,0,0] [q0]:=fun eL eM u1 u2 u3 v1 v2 v3 h0 h1 h2 h3 g0 g1 g2 g3=>by kernel_rfl
theorem VN (z0 y0:Int):wY ⟨5,8,2,6,2⟩ 1 0 [z0] [0,0,0] [y0] [0,0,0,0]:=fun eL eM u0 u1 u2 u3 v0 v1 v2 v3 q0 q1 h0 h1 h2 h3 g0 g1 g2 g3=>by kernel_rfl
theorem VM (z0 y0:Int):tF ⟨5,8,2,6,2⟩ 1 0 [z0] [0,0,0] [y0] [0,0,0,0]:=fun eL eM u0 u1 u2 u3 v0 v1 v2 v3 q0 q1 h0 h1 h2 h3 g0 g1 g2 g3=>by kernel_rfl
theorem HS (z0 y0:Int):pO ⟨5,8,2,6,2⟩ 1 0 [z0] [0,0,0] [y0] [0,0,0,0]:=fun eL eM u0 u1 u2 u3 v0 v1 v2 v3 q0 q1 h0 h1 h2 h3 g0 g1 g2 g3=>by kernel_rfl
theorem Wr (z0 y0:Int):mR ⟨5,8,2,6,2⟩ 1 0 [z0] [0,0,0] [y0] [0,0,0,0]:=fun eL eM u0 u1 u2 u3 v0 v1 v2 v3 q0 q1 h0 h1 h2 h3 g0 g1 g2 g3=>by kernel_rfl
theorem Wt (z0 y0:Int):mS ⟨5,8,2,6,2⟩ 1 0 [z0] [0,0,0] [y0] [0,0,0,0]:=fun eL eM u0 u1 u2 u3 v0 v1 v2 v3 q0 q1 h0 h1 h2 h3 g0 g1 g2 g3=>by kernel_rfl
theorem VL (z0 y0:Int):wX ⟨5,8,2,6,2⟩ 1 0 [z0] [0,0,0] [y0] [0,0,0,0]:=fun eL eM u0 u1 u2 u3 v0 v1 v2 v3 q0 q1 h0 h1 h2 h3 g0 g1 g2 g3=>by kernel_rfl
theorem VK (y1:Int):wY ⟨5,8,2,6,2⟩ 0 (-1) [] [0,0,0,0] [] [y1,0,0,0,0]:=fun eL eM u0 u1 u2 u3 v0 v1 v2 v3 q0 q1 h0 h1 h2 h3 g0 g1 g2 g3=>by kernel_rfl
theorem VJ (y1:Int):tF ⟨5,8,2,6,2⟩ 0 (-1) [] [0,0,0,0] [] [y1,0,0,0,0]:=fun eL eM u0 u1 u2 u3 v0 v1 v2 v3 q0 q1 h0 h1 h2 h3 g0 g1 g2 g3=>by kernel_rfl
theorem HR (y1:Int):pO ⟨5,8,2,6,2⟩ 0 (-1) [] [0,0,0,0] [] [y1,0,0,0,0]:=fun eL eM u0 u1 u2 u3 v0 v1 v2 v3 q0 q1 h0 h1 h2 h3 g0 g1 g2 g3=>by kernel_rfl
theorem Wp (y1:Int):mR ⟨5,8,2,6,2⟩ 0 (-1) [] [0,0,0,0] [] [y1,0,0,0,0]:=fun eL eM u0 u1 u2 u3 v0 v1 v2 v3 q0 q1 h0 h1 h2 h3 g0 g1 g2 g3=>by kernel_rfl
theorem Wq (y1:Int):mS ⟨5,8,2,6,2⟩ 0 (-1) [] [0,0,0,0] [] [y1,0,0,0,0]:=fun eL eM u0 u1 u2 u3 v0 v1 v2 v3 q0 q1 h0 h1 h2 h3 g0 g1 g2 g3=>by kernel_rfl
theorem VI (y1:Int):wX ⟨5,8,2,6,2⟩ 0 (-1) [] [0,0,0,0] [] [y1,0,0,0,0]:=fun eL eM u0 u1 u2 u3 v0 v1 v2 v3 q0 q1 h0 h1 h2 h3 g0 g1 g2 g3=>by kernel_rfl
theorem aNw (z0 u0 q0 q1:Int):DvT ⟨5,8,2,6,2⟩ 2 1 [z0,u0] [0,0,0] [q0,q1,0,0,0,0]:=fun eL eM u1 u2 u3 v1 v2 v3 h0 h1 h2 h3 g0 g1 g2 g3=>by kernel_rfl
theorem VH (z0 y0:Int):wY ⟨5,9,2,6,2⟩ 1 0 [z0] [0,0,0,0] [y0] [0,0,0,0]:=fun eL eM u0 u1 u2 u3 v0 v1 v2 v3 q0 q1 h0 h1 h2 h3 g0 g1 g2 g3=>by kernel_rfl
theorem VG (z0 y0:Int):tF ⟨5,9,2,6,2⟩ 1 0 [z0] [0,0,0,0] [y0] [0,0,0,0]:=fun eL eM u0 u1 u2 u3 v0 v1 v2 v3 q0 q1 h0 h1 h2 h3 g0 g1 g2 g3=>by kernel_rfl
theorem HQ (z0 y0:Int):pO ⟨5,9,2,6,2⟩ 1 0 [z0] [0,0,0,0] [y0] [0,0,0,0]:=fun eL eM u0 u1 u2 u3 v0 v1 v2 v3 q0 q1 h0 h1 h2 h3 g0 g1 g2 g3=>by kernel_rfl
theorem Wn (z0 y0:Int):mR ⟨5,9,2,6,2⟩ 1 0 [z0] [0,0,0,0] [y0] [0,0,0,0]:=fun eL eM u0 u1 u2 u3 v0 v1 v2 v3 q0 q1 h0 h1 h2 h3 g0 g1 g2 g3=>by kernel_rfl
theorem Wo (z0 y0:Int):mS ⟨5,9,2,6,2⟩ 1 0 [z0] [0,0,0,0] [y0] [0,0,0,0]:=fun eL eM u0 u1 u2 u3 v0 v1 v2 v3 q0 q1 h0 h1 h2 h3 g0 g1 g2 g3=>by kernel_rfl
theorem VF (z0 y0:Int):wX ⟨5,9,2,6,2⟩ 1 0 [z0] [0,0,0,0] [y0] [0,0,0,0]:=fun eL eM u0 u1 u2 u3 v0 v1 v2 v3 q0 q1 h0 h1 h2 h3 g0 g1 g2 g3=>by kernel_rfl
theorem VE (y1:Int):wY ⟨5,9,2,6,2⟩ 0 (-1) [] [0,0,0,0,0] [] [y1,0,0,0,0]:=fun eL eM u0 u1 u2 u3 v0 v1 v2 v3 q0 q1 h0 h1 h2 h3 g0 g1 g2 g3=>by kernel_rfl
theorem VD (y1:Int):tF ⟨5,9,2,6,2⟩ 0 (-1) [] [0,0,0,0,0] [] [y1,0,0,0,0]:=fun eL eM u0 u1 u2 u3 v0 v1 v2 v3 q0 q1 h0 h1 h2 h3 g0 g1 g2 g3=>by kernel_rfl
theorem HP (y1:Int):pO ⟨5,9,2,6,2⟩ 0 (-1) [] [0,0,0,0,0] [] [y1,0,0,0,0]:=fun eL eM u0 u1 u2 u3 v0 v1 v2 v3 q0 q1 h0 h1 h2 h3 g0 g1 g2 g3=>by kernel_rfl
theorem Wl (y1:Int):mR ⟨5,9,2,6,2⟩ 0 (-1) [] [0,0,0,0,0] [] [y1,0,0,0,0]:=fun eL eM u0 u1 u2 u3 v0 v1 v2 v3 q0 q1 h0 h1 h2 h3 g0 g1 g2 g3=>by kernel_rfl
theorem Wm (y1:Int):mS ⟨5,9,2,6,2⟩ 0 (-1) [] [0,0,0,0,0] [] [y1,0,0,0,0]:=fun eL eM u0 u1 u2 u3 v0 v1 v2 v3 q0 q1 h0 h1 h2 h3 g0 g1 g2 g3=>by kernel_rfl
theorem VC (y1:Int):wX ⟨5,9,2,6,2⟩ 0 (-1) [] [0,0,0,0,0] [] [y1,0,0,0,0]:=fun eL eM u0 u1 u2 u3 v0 v1 v2 v3 q0 q1 h0 h1 h2 h3 g0 g1 g2 g3=>by kernel_rfl
theorem aNv (z0 u0 q0 q1:Int):DvT ⟨5,9,2,6,2⟩ 2 1 [z0,u0] [0,0,0,0] [q0,q1,0,0,0,0]:=fun eL eM u1 u2 u3 v1 v2 v3 h0 h1 h2 h3 g0 g1 g2 g3=>by kernel_rfl
namespace M
def wd (i:Nat) (n:Int):Int:=n/18446744073709551616^i%18446744073709551616
def n4 (a b c d:Int):Int:=a+18446744073709551616*(b+18446744073709551616*(c+18446744073709551616*d))
def D:Int:=6277101735386680763835789423207666416102355444464034512895-23058430092136939519+0
structure Dig (d0 d1 d2 q u0 u1 u2 u3:Int) (c0 c1 p0 p1 p2 p3 b0 b1 b2 b3 s0 s1 s2 s3:Int):Prop where
 NO:M.ul (d0*q+0)=p0
 yS:M.uh (d0*q+0)=c0
 Zi:M.ul (d1*q+c0)=p1
 Zn:M.uh (d1*q+c0)=c1
 MR:M.ul (d2*q+c1)=p2
 YV:M.uh (d2*q+c1)=p3
 Dk:M.ul (u0-p0-0)=s0
 Cm:M.ub (u0-p0-0)=b0
 iC:M.ul (u1-p1-b0)=s1
 pB:M.ub (u1-p1-b0)=b1
 vI:M.ul (u2-p2-b1)=s2
 nC:M.ub (u2-p2-b1)=b2
 YS:M.ul (u3-p3-b2)=s3
 MZ:M.ub (u3-p3-b2)=b3
theorem vW (d0 d1 d2 q u0 u1 u2 u3:Int):∃ c0 c1 p0 p1 p2 p3 b0 b1 b2 b3 s0 s1 s2 s3,Dig d0 d1 d2 q u0 u1 u2 u3 c0 c1 p0 p1 p2 p3 b0 b1 b2 b3 s0 s1 s2 s3:=
 ⟨_,_,_,_,_,_,_,_,_,_,_,_,_,_,rfl,rfl,rfl,rfl,rfl,rfl,rfl,rfl,rfl,rfl,rfl,rfl,rfl,rfl⟩
theorem lU (n:Int):M.ul n+18446744073709551616*M.uh n=n:=by unfold ul uh;omega
theorem Rc (n:Int):M.ul n-18446744073709551616*M.ub n=n:=by unfold ul ub;omega
theorem zB {d q c:Int} (hd:U d) (hq:U q) (hc:U c):U (uh (d*q+c)):=by
 have h:=eA hd hq
 have:=hc.1
 have:=hc.2
 unfold U uh
 omega
theorem OI {a b c:Int} (ha:U a) (hb:U b) (hc:K c):K (ub (a-b-c)):=by
 have:=ha.1;have:=ha.2;have:=hb.1;have:=hb.2;have:=hc.1;have:=hc.2
 unfold K ub
 omega
structure aLj (c0 c1 p0 p1 p2 p3 b0 b1 b2 b3 s0 s1 s2 s3:Int):Prop where
 c0:U c0
 c1:U c1
 p0:U p0
 p1:U p1
 p2:U p2
 p3:U p3
 b0:K b0
 b1:K b1
 b2:K b2
 b3:K b3
 s0:U s0
 s1:U s1
 s2:U s2
 s3:U s3
theorem U0:U 0:=⟨by decide,by decide⟩
theorem K0:K 0:=⟨by decide,by decide⟩
theorem Dig.u {d0 d1 d2 q u0 u1 u2 u3 c0 c1 p0 p1 p2 p3 b0 b1 b2 b3 s0 s1 s2 s3:Int} (h:Dig d0 d1 d2 q u0 u1 u2 u3 c0 c1 p0 p1 p2 p3 b0 b1 b2 b3 s0 s1 s2 s3)
 (e0:U d0) (e1:U d1) (e2:U d2) (hq:U q) (w0:U u0) (w1:U u1) (w2:U u2) (w3:U u3):aLj c0 c1 p0 p1 p2 p3 b0 b1 b2 b3 s0 s1 s2 s3:=by
 have k0:U c0:=by rw [<- h.yS];exact zB e0 hq U0
 have k1:U c1:=by rw [<- h.Zn];exact zB e1 hq k0
 have r0:U p0:=by rw [<- h.NO];exact dH _
 have r1:U p1:=by rw [<- h.Zi];exact dH _
 have r2:U p2:=by rw [<- h.MR];exact dH _
 have r3:U p3:=by rw [<- h.YV];exact zB e2 hq k1
 have x0:K b0:=by rw [<- h.Cm];exact OI w0 r0 K0
 have x1:K b1:=by rw [<- h.pB];exact OI w1 r1 x0
 have x2:K b2:=by rw [<- h.nC];exact OI w2 r2 x1
 have x3:K b3:=by rw [<- h.MZ];exact OI w3 r3 x2
 exact ⟨k0,k1,r0,r1,r2,r3,x0,x1,x2,x3,by rw [<- h.Dk];exact dH _,by rw [<- h.iC];exact dH _,by rw [<- h.vI];exact dH _,by rw [<- h.YS];exact dH _⟩
theorem Dig.sum {d0 d1 d2 q u0 u1 u2 u3 c0 c1 p0 p1 p2 p3 b0 b1 b2 b3 s0 s1 s2 s3:Int} (h:Dig d0 d1 d2 q u0 u1 u2 u3 c0 c1 p0 p1 p2 p3 b0 b1 b2 b3 s0 s1 s2 s3) :
 n4 s0 s1 s2 s3-18446744073709551616*(18446744073709551616*(18446744073709551616*(18446744073709551616*b3))) =
  n4 u0 u1 u2 u3-(d0*q+18446744073709551616*(d1*q+18446744073709551616*(d2*q))):=by
 have a0:=lU (d0*q+0)
 have a1:=lU (d1*q+c0)
 have a2:=lU (d2*q+c1)
 have z0:=Rc (u0-p0-0)
 have z1:=Rc (u1-p1-b0)
 have z2:=Rc (u2-p2-b1)
 have z3:=Rc (u3-p3-b2)
 rw [h.NO,h.yS] at a0
 rw [h.Zi,h.Zn] at a1
 rw [h.MR,h.YV] at a2
 rw [h.Dk,h.Cm] at z0
 rw [h.iC,h.pB] at z1
 rw [h.vI,h.nC] at z2
 rw [h.YS,h.MZ] at z3
 generalize d0*q=x0 at *
 generalize d1*q=x1 at *
 generalize d2*q=x2 at *
 unfold n4
 omega
def DD:Int:=n4 13835058055282163712 18446744073709551614 18446744073709551615 0
def w0 (n:Int):Int:=n%18446744073709551616
def w1 (n:Int):Int:=n/18446744073709551616%18446744073709551616
def w2 (n:Int):Int:=n/340282366920938463463374607431768211456%18446744073709551616
theorem aJf {a b c d:Int} (ha:U a) (hb:U b) (hc:U c):w0 (n4 a b c d)=a/\w1 (n4 a b c d)=b/\w2 (n4 a b c d)=c:=by
 have:=ha.1;have:=ha.2;have:=hb.1;have:=hb.2;have:=hc.1;have:=hc.2
 unfold w0 w1 w2 n4
 omega
abbrev aLi (q u0 u1 u2 u3:Int):=Dig 13835058055282163712 18446744073709551614 18446744073709551615 q u0 u1 u2 u3
theorem Dig.fits {q u0 u1 u2 u3 c0 c1 p0 p1 p2 p3 b0 b1 b2 b3 s0 s1 s2 s3:Int} (h:aLi q u0 u1 u2 u3 c0 c1 p0 p1 p2 p3 b0 b1 b2 b3 s0 s1 s2 s3)
 (hu:aLj c0 c1 p0 p1 p2 p3 b0 b1 b2 b3 s0 s1 s2 s3) (hq:q=n4 u0 u1 u2 u3/DD) :
 b3=0/\s0=w0 (n4 u0 u1 u2 u3%DD)/\s1=w1 (n4 u0 u1 u2 u3%DD)/\s2=w2 (n4 u0 u1 u2 u3%DD)/\s3=0:=by
 have hs:=h.sum
 obtain ⟨n,hn⟩:∃ n,n=n4 u0 u1 u2 u3:=⟨_,rfl⟩
 rw [<- hn] at hs hq |-
 have e:n-(13835058055282163712*q+18446744073709551616*(18446744073709551614*q+18446744073709551616*(18446744073709551615*q)))=n%DD:=by
  rw [hq]
  unfold DD n4
  omega
 rw [e] at hs
 have r0:0<=n%DD:=Int.emod_nonneg _ (by decide)
 have r1:n%DD<DD:=Int.emod_lt_of_pos _ (by decide)
 obtain ⟨r,hr⟩:∃ r,r=n%DD:=⟨_,rfl⟩
 rw [<- hr] at hs r0 r1 |-
 have rb:r<6277101735386680763835789423207666416102355444464034512896:=by
  refine Int.lt_of_lt_of_le r1 (by decide)
 have x0:=hu.b3.1
 have x1:=hu.b3.2
 have y0:=hu.s0.1
 have y1:=hu.s0.2
 have y2:=hu.s1.1
 have y3:=hu.s1.2
 have y4:=hu.s2.1
 have y5:=hu.s2.2
 have y6:=hu.s3.1
 have y7:=hu.s3.2
 have hb:b3=0:=by unfold n4 at hs;omega
 have h3:s3=0:=by unfold n4 at hs;omega
 rw [hb] at hs
 have Ce:r=n4 s0 s1 s2 s3:=by omega
 have:=aJf (d:=s3) hu.s0 hu.s1 hu.s2
 rw [Ce]
 exact ⟨hb,this.1.symm,this.2.1.symm,this.2.2.symm,h3⟩
end M
open M in
theorem aMy {c:Yy} {j j':Int} {pre post qa qb:List Int} (P:tF c j j' pre post qa qb) (eL eM:List SV) (q0 h0 h1 h2 h3:Int) {u0 u1 u2 u3:Int} (a0:U u0) (a1:U u1) (a2:U u2) (a3:U u3) (hc:u3+u2<18446744073709551615) :
 ∃ g0 g1 g2 g3 ps,fH eR eL eM c.nu c.cu c.nq c.cq c.m 18446744073709551615 1 j j' (.int false .u64 u3) (.int false .u64 (w2 (n4 u0 u1 u2 u3%DD))) (wc (pre++[u0,u1,u2,u3]++post))
   (wc (pre++[w0 (n4 u0 u1 u2 u3%DD),w1 (n4 u0 u1 u2 u3%DD),w2 (n4 u0 u1 u2 u3%DD),0]++post)) (wc (qa++[q0]++qb)) (wc (qa++[n4 u0 u1 u2 u3/DD]++qb)) (wc [h0,h1,h2,h3]) (wc [g0,g1,g2,g3]) [true,false,false]=some (.at .normal,[],ps)/\∀ q∈ps,q:=by
 have z0:=a0.1;have z1:=a0.2;have z2:=a1.1;have z3:=a1.2;have z4:=a2.1;have z5:=a2.2;have z6:=a3.1;have z7:=a3.2
 have e0:U 13835058055282163712:=⟨by decide,by decide⟩
 have e1:U 18446744073709551614:=⟨by decide,by decide⟩
 have e2:U 18446744073709551615:=⟨by decide,by decide⟩
 have aq:U (u3):=by unfold U;omega
 obtain ⟨c0,c1,p0,p1,p2,p3,b0,b1,b2,b3,s0,s1,s2,s3,H⟩:=vW 13835058055282163712 18446744073709551614 18446744073709551615 (u3) u0 u1 u2 u3
 have hu:=H.u e0 e1 e2 aq a0 a1 a2 a3
 have hq:u3=n4 u0 u1 u2 u3/DD:=by unfold DD n4;omega
 obtain ⟨f3,k0,k1,k2,k3⟩:=H.fits hu hq
 have hQ:dq 18446744073709551615 u3 u2=u3:=by unfold dq;omega
 have hR:dr 18446744073709551615 u3 u2=u3+u2:=by unfold dr;omega
 refine ⟨p0,p1,p2,p3,_,P eL eM u0 u1 u2 u3 _ _ _ _ q0 _ h0 h1 h2 h3 _ _ _ _,aB ?_⟩
 simp only [sh,CB,AW,BU,List.cons_append,oR,hQ,hR,bZ,H.NO,H.yS,H.Zi,H.Zn,H.MR,H.YV,H.Dk,H.Cm,H.iC,H.pB,H.vI,H.nC,H.YS,H.MZ,f3,<- k0,<- k1,<- k2,k3,<- hq,hu.c0,hu.c1,hu.p0,hu.p1,hu.p2,hu.p3,hu.b0,hu.b1,hu.b2,U0,K0,e0,e1,e2,a0,a1,a2,a3,and_true,true_and,aq]
 exact ⟨rfl,by unfold gt uh ul;exact nD (by omega),dH _,by omega,bne_iff_ne.2 (by omega)⟩
open M in
theorem aMx {c:Yy} {j j':Int} {pre post qa qb:List Int} (P:tF c j j' pre post qa qb) (eL eM:List SV) (q0 h0 h1 h2 h3:Int) {u0 u1 u2 u3:Int} (a0:U u0) (a1:U u1) (a2:U u2) (a3:U u3) (hd:u3<18446744073709551615) (hc:18446744073709551615<=u3+u2) (hn:gt (uh ((u3+1)*18446744073709551614)) (ul ((u3+1)*18446744073709551614)) (u3+u2-18446744073709551615) u1=false) (hq:u3+1=n4 u0 u1 u2 u3/DD) :
 ∃ g0 g1 g2 g3 ps,fH eR eL eM c.nu c.cu c.nq c.cq c.m 18446744073709551615 1 j j' (.int false .u64 u3) (.int false .u64 (w2 (n4 u0 u1 u2 u3%DD))) (wc (pre++[u0,u1,u2,u3]++post))
   (wc (pre++[w0 (n4 u0 u1 u2 u3%DD),w1 (n4 u0 u1 u2 u3%DD),w2 (n4 u0 u1 u2 u3%DD),0]++post)) (wc (qa++[q0]++qb)) (wc (qa++[n4 u0 u1 u2 u3/DD]++qb)) (wc [h0,h1,h2,h3]) (wc [g0,g1,g2,g3]) [true,false,false]=some (.at .normal,[],ps)/\∀ q∈ps,q:=by
 have z0:=a0.1;have z1:=a0.2;have z2:=a1.1;have z3:=a1.2;have z4:=a2.1;have z5:=a2.2;have z6:=a3.1;have z7:=a3.2
 have e0:U 13835058055282163712:=⟨by decide,by decide⟩
 have e1:U 18446744073709551614:=⟨by decide,by decide⟩
 have e2:U 18446744073709551615:=⟨by decide,by decide⟩
 have aq:U (u3+1):=by unfold U;omega
 obtain ⟨c0,c1,p0,p1,p2,p3,b0,b1,b2,b3,s0,s1,s2,s3,H⟩:=vW 13835058055282163712 18446744073709551614 18446744073709551615 (u3+1) u0 u1 u2 u3
 have hu:=H.u e0 e1 e2 aq a0 a1 a2 a3
 have hq:u3+1=n4 u0 u1 u2 u3/DD:=by exact hq
 obtain ⟨f3,k0,k1,k2,k3⟩:=H.fits hu hq
 have hQ:dq 18446744073709551615 u3 u2=u3+1:=by unfold dq;omega
 have hR:dr 18446744073709551615 u3 u2=u3+u2-18446744073709551615:=by unfold dr;omega
 refine ⟨p0,p1,p2,p3,_,P eL eM u0 u1 u2 u3 _ _ _ _ q0 _ h0 h1 h2 h3 _ _ _ _,aB ?_⟩
 simp only [sh,CB,AW,BU,List.cons_append,oR,hQ,hR,bZ,H.NO,H.yS,H.Zi,H.Zn,H.MR,H.YV,H.Dk,H.Cm,H.iC,H.pB,H.vI,H.nC,H.YS,H.MZ,f3,<- k0,<- k1,<- k2,k3,<- hq,hu.c0,hu.c1,hu.p0,hu.p1,hu.p2,hu.p3,hu.b0,hu.b1,hu.b2,U0,K0,e0,e1,e2,a0,a1,a2,a3,and_true,true_and,aq]
 exact ⟨rfl,hn,dH _,hd,bne_iff_ne.2 (by omega)⟩
open M in
theorem aFd {c:Yy} {j j':Int} {pre post qa qb:List Int} (P:pO c j j' pre post qa qb) (eL eM:List SV) (q0 h0 h1 h2 h3:Int) {u0 u1 u2 u3:Int} (a0:U u0) (a1:U u1) (a2:U u2) (a3:U u3) (hd:u3<18446744073709551615) (hc:18446744073709551615<=u3+u2) (hn:gt (uh ((u3+1)*18446744073709551614)) (ul ((u3+1)*18446744073709551614)) (u3+u2-18446744073709551615) u1=true) (hv:18446744073709551616<=u3+u2) :
 ∃ g0 g1 g2 g3 ps,fH eR eL eM c.nu c.cu c.nq c.cq c.m 18446744073709551615 1 j j' (.int false .u64 u3) (.int false .u64 (w2 (n4 u0 u1 u2 u3%DD))) (wc (pre++[u0,u1,u2,u3]++post))
   (wc (pre++[w0 (n4 u0 u1 u2 u3%DD),w1 (n4 u0 u1 u2 u3%DD),w2 (n4 u0 u1 u2 u3%DD),0]++post)) (wc (qa++[q0]++qb)) (wc (qa++[n4 u0 u1 u2 u3/DD]++qb)) (wc [h0,h1,h2,h3]) (wc [g0,g1,g2,g3]) [true,true,true,false]=some (.at .normal,[],ps)/\∀ q∈ps,q:=by
 have z0:=a0.1;have z1:=a0.2;have z2:=a1.1;have z3:=a1.2;have z4:=a2.1;have z5:=a2.2;have z6:=a3.1;have z7:=a3.2
 have e0:U 13835058055282163712:=⟨by decide,by decide⟩
 have e1:U 18446744073709551614:=⟨by decide,by decide⟩
 have e2:U 18446744073709551615:=⟨by decide,by decide⟩
 have aq:U (u3):=by unfold U;omega
 obtain ⟨c0,c1,p0,p1,p2,p3,b0,b1,b2,b3,s0,s1,s2,s3,H⟩:=vW 13835058055282163712 18446744073709551614 18446744073709551615 (u3) u0 u1 u2 u3
 have hu:=H.u e0 e1 e2 aq a0 a1 a2 a3
 have hW:IntKind.u64.wrap (u3+1-1)=u3:=by rw [bN];unfold ul;omega
 have hq:u3=n4 u0 u1 u2 u3/DD:=by have Me:=hn;unfold gt uh ul at Me;have:=jG Me;unfold DD n4;omega
 obtain ⟨f3,k0,k1,k2,k3⟩:=H.fits hu hq
 have hQ:dq 18446744073709551615 u3 u2=u3+1:=by unfold dq;omega
 have hR:dr 18446744073709551615 u3 u2=u3+u2-18446744073709551615:=by unfold dr;omega
 refine ⟨p0,p1,p2,p3,_,P eL eM u0 u1 u2 u3 _ _ _ _ q0 _ h0 h1 h2 h3 _ _ _ _,aB ?_⟩
 simp only [sh,EX,EC,EN,List.cons_append,oR,hQ,hR,hW,bZ,H.NO,H.yS,H.Zi,H.Zn,H.MR,H.YV,H.Dk,H.Cm,H.iC,H.pB,H.vI,H.nC,H.YS,H.MZ,f3,<- k0,<- k1,<- k2,k3,<- hq,hu.c0,hu.c1,hu.p0,hu.p1,hu.p2,hu.p3,hu.b0,hu.b1,hu.b2,U0,K0,e0,e1,e2,a0,a1,a2,a3,and_true,true_and,aq]
 exact ⟨rfl,decide_eq_true (by rw [bN];unfold ul;omega),hn,dH _,⟨by omega,by omega⟩,hd,bne_iff_ne.2 (by omega)⟩
open M in
theorem TU {c:Yy} {j j':Int} {pre post qa qb:List Int} (P:mR c j j' pre post qa qb) (eL eM:List SV) (q0 h0 h1 h2 h3:Int) {u0 u1 u2 u3:Int} (a0:U u0) (a1:U u1) (a2:U u2) (a3:U u3) (hd:u3<18446744073709551615) (hc:18446744073709551615<=u3+u2) (hn:gt (uh ((u3+1)*18446744073709551614)) (ul ((u3+1)*18446744073709551614)) (u3+u2-18446744073709551615) u1=true) (hv:u3+u2=18446744073709551615) (hb:ul ((u3+1)*18446744073709551614)<18446744073709551614) :
 ∃ g0 g1 g2 g3 ps,fH eR eL eM c.nu c.cu c.nq c.cq c.m 18446744073709551615 1 j j' (.int false .u64 u3) (.int false .u64 (w2 (n4 u0 u1 u2 u3%DD))) (wc (pre++[u0,u1,u2,u3]++post))
   (wc (pre++[w0 (n4 u0 u1 u2 u3%DD),w1 (n4 u0 u1 u2 u3%DD),w2 (n4 u0 u1 u2 u3%DD),0]++post)) (wc (qa++[q0]++qb)) (wc (qa++[n4 u0 u1 u2 u3/DD]++qb)) (wc [h0,h1,h2,h3]) (wc [g0,g1,g2,g3]) [true,true,false,true,false,false]=some (.at .normal,[],ps)/\∀ q∈ps,q:=by
 have z0:=a0.1;have z1:=a0.2;have z2:=a1.1;have z3:=a1.2;have z4:=a2.1;have z5:=a2.2;have z6:=a3.1;have z7:=a3.2
 have e0:U 13835058055282163712:=⟨by decide,by decide⟩
 have e1:U 18446744073709551614:=⟨by decide,by decide⟩
 have e2:U 18446744073709551615:=⟨by decide,by decide⟩
 have aq:U (u3):=by unfold U;omega
 obtain ⟨c0,c1,p0,p1,p2,p3,b0,b1,b2,b3,s0,s1,s2,s3,H⟩:=vW 13835058055282163712 18446744073709551614 18446744073709551615 (u3) u0 u1 u2 u3
 have hu:=H.u e0 e1 e2 aq a0 a1 a2 a3
 have hW:IntKind.u64.wrap (u3+1-1)=u3:=by rw [bN];unfold ul;omega
 have hq:u3=n4 u0 u1 u2 u3/DD:=by have Me:=hn;unfold gt uh ul at Me;have:=jG Me;unfold DD n4;omega
 obtain ⟨f3,k0,k1,k2,k3⟩:=H.fits hu hq
 have hQ:dq 18446744073709551615 u3 u2=u3+1:=by unfold dq;omega
 have hR:dr 18446744073709551615 u3 u2=u3+u2-18446744073709551615:=by unfold dr;omega
 refine ⟨p0,p1,p2,p3,_,P eL eM u0 u1 u2 u3 _ _ _ _ q0 _ h0 h1 h2 h3 _ _ _ _,aB ?_⟩
 simp only [sh,Ta,Sj,Sq,List.cons_append,oR,hQ,hR,hW,bZ,H.NO,H.yS,H.Zi,H.Zn,H.MR,H.YV,H.Dk,H.Cm,H.iC,H.pB,H.vI,H.nC,H.YS,H.MZ,f3,<- k0,<- k1,<- k2,k3,<- hq,hu.c0,hu.c1,hu.p0,hu.p1,hu.p2,hu.p3,hu.b0,hu.b1,hu.b2,U0,K0,e0,e1,e2,a0,a1,a2,a3,and_true,true_and,aq]
 exact ⟨rfl,by
  have hx:(uh ((u3+1)*18446744073709551614)=u3/\ul ((u3+1)*18446744073709551614)=18446744073709551616-2*u3-2/\2*u3+2<=18446744073709551616)\/(uh ((u3+1)*18446744073709551614)=u3-1/\ul ((u3+1)*18446744073709551614)=36893488147419103232-2*u3-2/\18446744073709551616<2*u3+2):=by unfold uh ul;omega
  simp only [bN]
  rcases hx with ⟨x1,x2,x3⟩ | ⟨x1,x2,x3⟩
  .rw [x1,x2];rw [x2] at hb;unfold gt ul;exact nD (by omega)
  .rw [x1,x2];rw [x2] at hb;unfold gt ul;exact nD (by omega),by rw [bN];exact dH _,decide_eq_true hb,nD (by rw [bN];unfold ul;omega),hn,dH _,⟨by omega,by omega⟩,hd,bne_iff_ne.2 (by omega)⟩
open M in
theorem TV {c:Yy} {j j':Int} {pre post qa qb:List Int} (P:mS c j j' pre post qa qb) (eL eM:List SV) (q0 h0 h1 h2 h3:Int) {u0 u1 u2 u3:Int} (a0:U u0) (a1:U u1) (a2:U u2) (a3:U u3) (hd:u3<18446744073709551615) (hc:18446744073709551615<=u3+u2) (hn:gt (uh ((u3+1)*18446744073709551614)) (ul ((u3+1)*18446744073709551614)) (u3+u2-18446744073709551615) u1=true) (hv:u3+u2=18446744073709551615) (hb:¬ ul ((u3+1)*18446744073709551614)<18446744073709551614) :
 ∃ g0 g1 g2 g3 ps,fH eR eL eM c.nu c.cu c.nq c.cq c.m 18446744073709551615 1 j j' (.int false .u64 u3) (.int false .u64 (w2 (n4 u0 u1 u2 u3%DD))) (wc (pre++[u0,u1,u2,u3]++post))
   (wc (pre++[w0 (n4 u0 u1 u2 u3%DD),w1 (n4 u0 u1 u2 u3%DD),w2 (n4 u0 u1 u2 u3%DD),0]++post)) (wc (qa++[q0]++qb)) (wc (qa++[n4 u0 u1 u2 u3/DD]++qb)) (wc [h0,h1,h2,h3]) (wc [g0,g1,g2,g3]) [true,true,false,false,false,false]=some (.at .normal,[],ps)/\∀ q∈ps,q:=by
 have z0:=a0.1;have z1:=a0.2;have z2:=a1.1;have z3:=a1.2;have z4:=a2.1;have z5:=a2.2;have z6:=a3.1;have z7:=a3.2
 have e0:U 13835058055282163712:=⟨by decide,by decide⟩
 have e1:U 18446744073709551614:=⟨by decide,by decide⟩
 have e2:U 18446744073709551615:=⟨by decide,by decide⟩
 have aq:U (u3):=by unfold U;omega
 obtain ⟨c0,c1,p0,p1,p2,p3,b0,b1,b2,b3,s0,s1,s2,s3,H⟩:=vW 13835058055282163712 18446744073709551614 18446744073709551615 (u3) u0 u1 u2 u3
 have hu:=H.u e0 e1 e2 aq a0 a1 a2 a3
 have hW:IntKind.u64.wrap (u3+1-1)=u3:=by rw [bN];unfold ul;omega
 have hq:u3=n4 u0 u1 u2 u3/DD:=by have Me:=hn;unfold gt uh ul at Me;have:=jG Me;unfold DD n4;omega
 obtain ⟨f3,k0,k1,k2,k3⟩:=H.fits hu hq
 have hQ:dq 18446744073709551615 u3 u2=u3+1:=by unfold dq;omega
 have hR:dr 18446744073709551615 u3 u2=u3+u2-18446744073709551615:=by unfold dr;omega
 refine ⟨p0,p1,p2,p3,_,P eL eM u0 u1 u2 u3 _ _ _ _ q0 _ h0 h1 h2 h3 _ _ _ _,aB ?_⟩
 simp only [sh,Tb,Sk,Sr,List.cons_append,oR,hQ,hR,hW,bZ,H.NO,H.yS,H.Zi,H.Zn,H.MR,H.YV,H.Dk,H.Cm,H.iC,H.pB,H.vI,H.nC,H.YS,H.MZ,f3,<- k0,<- k1,<- k2,k3,<- hq,hu.c0,hu.c1,hu.p0,hu.p1,hu.p2,hu.p3,hu.b0,hu.b1,hu.b2,U0,K0,e0,e1,e2,a0,a1,a2,a3,and_true,true_and,aq]
 exact ⟨rfl,by
  have hx:(uh ((u3+1)*18446744073709551614)=u3/\ul ((u3+1)*18446744073709551614)=18446744073709551616-2*u3-2/\2*u3+2<=18446744073709551616)\/(uh ((u3+1)*18446744073709551614)=u3-1/\ul ((u3+1)*18446744073709551614)=36893488147419103232-2*u3-2/\18446744073709551616<2*u3+2):=by unfold uh ul;omega
  simp only [bN]
  rcases hx with ⟨x1,x2,x3⟩ | ⟨x1,x2,x3⟩
  .rw [x1,x2];rw [x2] at hb;unfold gt ul;exact nD (by omega)
  .rw [x1,x2];rw [x2] at hb;unfold gt ul;exact nD (by omega),by rw [bN];exact dH _,nD hb,nD (by rw [bN];unfold ul;omega),hn,dH _,⟨by omega,by omega⟩,hd,bne_iff_ne.2 (by omega)⟩
open M in
theorem aMw {c:Yy} {j j':Int} {pre post qa qb:List Int} (P:wX c j j' pre post qa qb) (eL eM:List SV) (q0 h0 h1 h2 h3:Int) {u0 u1 u2 u3:Int} (a0:U u0) (a1:U u1) (a2:U u2) (a3:U u3) (hd:u3<18446744073709551615) (hc:18446744073709551615<=u3+u2) (hn:gt (uh ((u3+1)*18446744073709551614)) (ul ((u3+1)*18446744073709551614)) (u3+u2-18446744073709551615) u1=false) (hq:u3=n4 u0 u1 u2 u3/DD) :
 ∃ g0 g1 g2 g3 ps,fH eR eL eM c.nu c.cu c.nq c.cq c.m 18446744073709551615 1 j j' (.int false .u64 u3) (.int false .u64 (w2 (n4 u0 u1 u2 u3%DD))) (wc (pre++[u0,u1,u2,u3]++post))
   (wc (pre++[w0 (n4 u0 u1 u2 u3%DD),w1 (n4 u0 u1 u2 u3%DD),w2 (n4 u0 u1 u2 u3%DD),0]++post)) (wc (qa++[q0]++qb)) (wc (qa++[n4 u0 u1 u2 u3/DD]++qb)) (wc [h0,h1,h2,h3]) (wc [g0,g1,g2,g3]) [true,false,true]=some (.at .normal,[],ps)/\∀ q∈ps,q:=by
 have z0:=a0.1;have z1:=a0.2;have z2:=a1.1;have z3:=a1.2;have z4:=a2.1;have z5:=a2.2;have z6:=a3.1;have z7:=a3.2
 have e0:U 13835058055282163712:=⟨by decide,by decide⟩
 have e1:U 18446744073709551614:=⟨by decide,by decide⟩
 have e2:U 18446744073709551615:=⟨by decide,by decide⟩
 have aq:U (u3+1):=by unfold U;omega
 obtain ⟨c0,c1,p0,p1,p2,p3,b0,b1,b2,b3,s0,s1,s2,s3,H⟩:=vW 13835058055282163712 18446744073709551614 18446744073709551615 (u3+1) u0 u1 u2 u3
 have hu:=H.u e0 e1 e2 aq a0 a1 a2 a3
 have hW:IntKind.u64.wrap (u3+1-1)=u3:=by rw [bN];unfold ul;omega
 have hQ:dq 18446744073709551615 u3 u2=u3+1:=by unfold dq;omega
 have hR:dr 18446744073709551615 u3 u2=u3+u2-18446744073709551615:=by unfold dr;omega
 have hs:=H.sum
 obtain ⟨n,hn4⟩:∃ n,n=n4 u0 u1 u2 u3:=⟨_,rfl⟩
 rw [<- hn4] at hs hq |-
 obtain ⟨r,hr⟩:∃ r,r=n%DD:=⟨_,rfl⟩
 have e:n-(13835058055282163712*(u3+1)+18446744073709551616*(18446744073709551614*(u3+1)+18446744073709551616*(18446744073709551615*(u3+1))))=r-DD:=by
  rw [hr]
  unfold DD n4
  unfold DD n4 at hq
  omega
 rw [e] at hs
 have r0:0<=r:=by rw [hr];exact Int.emod_nonneg _ (by decide)
 have r1:r<DD:=by rw [hr];exact Int.emod_lt_of_pos _ (by decide)
 rw [<- hr]
 refine ⟨p0,p1,p2,p3,_,P eL eM u0 u1 u2 u3 _ _ _ _ q0 _ h0 h1 h2 h3 _ _ _ _,aB ?_⟩
 simp only [sh,aAc,ZJ,ZX,List.cons_append,oR,hQ,hR,hW,bZ,H.NO,H.yS,H.Zi,H.Zn,H.MR,H.YV,H.Dk,H.Cm,H.iC,H.pB,H.vI,H.nC,H.YS,H.MZ,<- hq,hu.c0,hu.c1,hu.p0,hu.p1,hu.p2,hu.p3,hu.b0,hu.b1,hu.b2,hu.s0,hu.s1,hu.s2,U0,K0,e0,e1,e2,a0,a1,a2,a3,aq,and_true,true_and]
 obtain ⟨t0,ht0⟩:∃ t,t=ul (s0+13835058055282163712+0):=⟨_,rfl⟩
 obtain ⟨g0,xX⟩:∃ t,t=uh (s0+13835058055282163712+0):=⟨_,rfl⟩
 rw [<- ht0,<- xX]
 obtain ⟨t1,ht1⟩:∃ t,t=ul (s1+18446744073709551614+g0):=⟨_,rfl⟩
 obtain ⟨g1,hg1⟩:∃ t,t=uh (s1+18446744073709551614+g0):=⟨_,rfl⟩
 rw [<- ht1,<- hg1]
 obtain ⟨t2,Mm⟩:∃ t,t=ul (s2+18446744073709551615+g1):=⟨_,rfl⟩
 obtain ⟨g2,hg2⟩:∃ t,t=uh (s2+18446744073709551615+g1):=⟨_,rfl⟩
 rw [<- Mm,<- hg2,bN]
 obtain ⟨t3,ht3⟩:∃ t,t=ul (s3+g2):=⟨_,rfl⟩
 obtain ⟨g3,hg3⟩:∃ t,t=uh (s3+g2):=⟨_,rfl⟩
 rw [<- ht3]
 have m0:=lU (s0+13835058055282163712+0)
 have m1:=lU (s1+18446744073709551614+g0)
 have m2:=lU (s2+18446744073709551615+g1)
 have m3:=lU (s3+g2)
 rw [<- ht0,<- xX] at m0
 rw [<- ht1,<- hg1] at m1
 rw [<- Mm,<- hg2] at m2
 rw [<- ht3,<- hg3] at m3
 have v0:U t0:=by rw [ht0];exact dH _
 have v1:U t1:=by rw [ht1];exact dH _
 have v2:U t2:=by rw [Mm];exact dH _
 have v3:U t3:=by rw [ht3];exact dH _
 have q1:=hu.s0.1;have q2:=hu.s0.2;have q3:=hu.s1.1;have q4:=hu.s1.2
 have q5:=hu.s2.1;have q6:=hu.s2.2;have q7:=hu.s3.1;have q8:=hu.s3.2
 have y0:=v0.1;have y1:=v0.2;have y2:=v1.1;have y3:=v1.2;have y4:=v2.1;have y5:=v2.2;have y6:=v3.1;have y7:=v3.2
 have l1:=hu.b3.1;have l2:=hu.b3.2
 have kg0:K g0:=by unfold K;omega
 have kg1:K g1:=by have:=kg0.1;have:=kg0.2;unfold K;omega
 have hDD:DD=6277101735386680763835789423207666416079297014371897573376:=by decide
 rw [hDD] at hs r1
 have hb:b3=1:=by unfold n4 at hs;omega
 have ht:r=n4 t0 t1 t2 t3:=by unfold n4 at hs |-;omega
 have h3:t3=0:=by unfold n4 at ht;omega
 have W:=aJf (d:=t3) v0 v1 v2
 rw [<- ht] at W
 rw [W.1,W.2.1,W.2.2,h3,hb]
 exact ⟨kg1,kg0,rfl,hn,dH _,hd,bne_iff_ne.2 (by omega),rfl,rfl⟩
open M in
theorem aMz {c:Yy} {j j':Int} {pre post qa qb:List Int} (P:wY c j j' pre post qa qb) (eL eM:List SV) (q0 h0 h1 h2 h3:Int) {u0 u1 u2 u3:Int} (a0:U u0) (a1:U u1) (a2:U u2) (hc:u3=18446744073709551615) (hl:n4 u0 u1 u2 u3<18446744073709551616*DD) :
 ∃ g0 g1 g2 g3 ps,fH eR eL eM c.nu c.cu c.nq c.cq c.m 18446744073709551615 1 j j' (.int false .u64 u3) (.int false .u64 (w2 (n4 u0 u1 u2 u3%DD))) (wc (pre++[u0,u1,u2,u3]++post))
   (wc (pre++[w0 (n4 u0 u1 u2 u3%DD),w1 (n4 u0 u1 u2 u3%DD),w2 (n4 u0 u1 u2 u3%DD),0]++post)) (wc (qa++[q0]++qb)) (wc (qa++[n4 u0 u1 u2 u3/DD]++qb)) (wc [h0,h1,h2,h3]) (wc [g0,g1,g2,g3]) [false,false]=some (.at .normal,[],ps)/\∀ q∈ps,q:=by
 have a3:U u3:=by unfold U;omega
 have z0:=a0.1;have z1:=a0.2;have z2:=a1.1;have z3:=a1.2;have z4:=a2.1;have z5:=a2.2;have z6:=a3.1;have z7:=a3.2
 have e0:U 13835058055282163712:=⟨by decide,by decide⟩
 have e1:U 18446744073709551614:=⟨by decide,by decide⟩
 have e2:U 18446744073709551615:=⟨by decide,by decide⟩
 have H:aLi 18446744073709551615 u0 u1 u2 u3 13835058055282163711 18446744073709551613 4611686018427387904 13835058055282163713 18446744073709551614 18446744073709551614 _ _ _ _ _ _ _ _:=⟨by decide,by decide,by decide,by decide,by decide,by decide,rfl,rfl,rfl,rfl,rfl,rfl,rfl,rfl⟩
 have hu:=H.u e0 e1 e2 e2 a0 a1 a2 a3
 have hq:18446744073709551615=n4 u0 u1 u2 u3/DD:=by unfold DD n4 at *;omega
 obtain ⟨f3,k0,k1,k2,k3⟩:=H.fits hu hq
 refine ⟨4611686018427387904,13835058055282163713,18446744073709551614,18446744073709551614,_,P eL eM u0 u1 u2 u3 _ _ _ _ q0 _ h0 h1 h2 h3 _ _ _ _,aB ?_⟩
 simp only [sh,aAd,ZK,ZY,List.cons_append,oR,bZ,f3,k0,k1,k2,k3,<- hq,hu.b0,hu.b1,hu.b2,U0,K0,e0,e1,e2,a0,a1,a2,a3,and_true,true_and]
 exact ⟨rfl,⟨by decide,by decide⟩,⟨by decide,by decide⟩,⟨by decide,by decide⟩,⟨by decide,by decide⟩,by rw [hc];decide⟩
structure aPv (c:Yy) (j j':Int) (pre post qa qb:List Int):Prop where
 p0:wY c j j' pre post qa qb
 p1:tF c j j' pre post qa qb
 p2a:pO c j j' pre post qa qb
 aRi:mR c j j' pre post qa qb
 aRj:mS c j j' pre post qa qb
 p4:wX c j j' pre post qa qb
open M in
theorem nO {c:Yy} {j j':Int} {pre post qa qb:List Int} (P:aPv c j j' pre post qa qb) (eL eM:List SV) (q0 h0 h1 h2 h3:Int) {u0 u1 u2 u3:Int} (a0:U u0) (a1:U u1) (a2:U u2) (a3:U u3) (hl:n4 u0 u1 u2 u3<18446744073709551616*DD) :
 ∃ hs g0 g1 g2 g3 ps,fH eR eL eM c.nu c.cu c.nq c.cq c.m 18446744073709551615 1 j j' (.int false .u64 u3) (.int false .u64 (w2 (n4 u0 u1 u2 u3%DD))) (wc (pre++[u0,u1,u2,u3]++post))
   (wc (pre++[w0 (n4 u0 u1 u2 u3%DD),w1 (n4 u0 u1 u2 u3%DD),w2 (n4 u0 u1 u2 u3%DD),0]++post)) (wc (qa++[q0]++qb)) (wc (qa++[n4 u0 u1 u2 u3/DD]++qb)) (wc [h0,h1,h2,h3]) (wc [g0,g1,g2,g3]) hs=some (.at .normal,[],ps)/\∀ q∈ps,q:=by
 have z0:=a0.1;have z1:=a0.2;have z2:=a1.1;have z3:=a1.2;have z4:=a2.1;have z5:=a2.2;have z6:=a3.1;have z7:=a3.2
 by_cases hc:u3=18446744073709551615
 .exact ⟨_,aMz P.p0 eL eM q0 h0 h1 h2 h3 a0 a1 a2 hc hl⟩
 have hd:u3<18446744073709551615:=by omega
 by_cases Mp:u3+u2<18446744073709551615
 .exact ⟨_,aMy P.p1 eL eM q0 h0 h1 h2 h3 a0 a1 a2 a3 Mp⟩
 have AK:18446744073709551615<=u3+u2:=by omega
 cases hn:gt (uh ((u3+1)*18446744073709551614)) (ul ((u3+1)*18446744073709551614)) (u3+u2-18446744073709551615) u1 with
 | true=>
   by_cases hv:u3+u2=18446744073709551615
   .by_cases hb:ul ((u3+1)*18446744073709551614)<18446744073709551614
    .exact ⟨_,TU P.aRi eL eM q0 h0 h1 h2 h3 a0 a1 a2 a3 hd AK hn hv hb⟩
    .exact ⟨_,TV P.aRj eL eM q0 h0 h1 h2 h3 a0 a1 a2 a3 hd AK hn hv hb⟩
   .exact ⟨_,aFd P.p2a eL eM q0 h0 h1 h2 h3 a0 a1 a2 a3 hd AK hn (by omega)⟩
 | false=>
   by_cases hq:u3+1=n4 u0 u1 u2 u3/DD
   .exact ⟨_,aMx P.p1 eL eM q0 h0 h1 h2 h3 a0 a1 a2 a3 hd AK hn hq⟩
   .exact ⟨_,aMw P.p4 eL eM q0 h0 h1 h2 h3 a0 a1 a2 a3 hd AK hn (by revert hq;unfold DD n4;omega)⟩
namespace M
theorem rG {n:Int} (h:U n):ub n=0:=by unfold U at h;unfold ub;omega
theorem ul0:ul 0=0:=by decide
theorem Ia:uh 0=0:=by decide
end M
open M in
theorem Gn {c:Yy} {j j':Int} {pre post qs:List Int} (P:DvT c j j' pre post qs) (eL eM:List SV) (h0 h1 h2 h3:Int) {u1 u2 u3:Int} (a1:U u1) (a2:U u2) (a3:U u3) (hd:u3<18446744073709551615) :
 ∃ ps,fH eR eL eM c.nu c.cu c.nq c.cq c.m 18446744073709551615 1 j j' (.int true .u64 0) (.int false .u64 u3) (wc (pre++[u1,u2,u3]++post)) (wc (pre++[u1,u2,u3]++post)) (wc qs) (wc qs) (wc [h0,h1,h2,h3]) (wc [0,0,0,0]) [false,true,false,true]=some (.at .normal,[],ps)/\∀ q∈ps,q:=by
 have z2:=a1.1;have z3:=a1.2;have z4:=a2.1;have z5:=a2.2;have z6:=a3.1;have z7:=a3.2
 have e0:U 13835058055282163712:=⟨by decide,by decide⟩
 have e1:U 18446744073709551614:=⟨by decide,by decide⟩
 have e2:U 18446744073709551615:=⟨by decide,by decide⟩
 have hQ:dq 18446744073709551615 0 u3=0:=by unfold dq;omega
 have hR:dr 18446744073709551615 0 u3=u3:=by unfold dr;omega
 have hg:gt 0 0 u3 u2=false:=by unfold gt;exact nD (by omega)
 refine ⟨_,P eL eM u1 u2 u3 _ _ _ h0 h1 h2 h3 _ _ _ _,aB ?_⟩
 simp only [sh,aJv,aJg,List.cons_append,oR,hQ,hR,bZ,Int.mul_zero,Int.zero_mul,Int.add_zero,Int.sub_zero,ul0,Ia,rG a1,rG a2,rG a3,sZ a1,sZ a2,sZ a3,hg,U0,K0,e0,e1,e2,a1,a2,a3,and_true,true_and]
 and_intros <;> first | rfl | decide
theorem aIk (u0 u1 u2 u3 q0 h0 h1 h2 h3:Int) :
 (xD 100 (bI 100 (Fl eR (wc [u0,u1,u2,u3,0,0,0]) (wc [q0]))) [] (iX 4 7 1 1 1 18446744073709551615 1 (.int true .u64 0) 1) (iW (wc [h0,h1,h2,h3]) (wc [u0,u1,u2,u3,0,0,0]) (wc [q0])) 101 [61,63] iY (Af eR (wc [u0,u1,u2,u3,0,0,0]) (wc [q0]) 4 7 1 1)) =
 sh (0:Int) fun z0=>
 some (.go (.loop vV),Cz,[(3:Nat)=(3:Nat),(4:Nat)=(4:Nat),(11259375:Int)=h0,z0=h1,z0=h2,z0=h3,[q0]=[q0],[u0,u1,u2,u3,z0,z0,z0]=[u0,u1,u2,u3,z0,z0,z0]]):=by kernel_rfl
theorem aIi (x0 x1 x2 x3 y0 u0 u1 u2 u3 q0 h0 h1 h2 h3:Int) :
 fH eR (wc [x0,x1,x2,x3,0,0,0]) (wc [y0]) 4 7 1 1 1 18446744073709551615 1 (-1) (-1) (.int false .u64 u2) (.int false .u64 u2) (wc [u0,u1,u2,u3,0,0,0]) (wc [u0,u1,u2,u3,0,0,0]) (wc [q0]) (wc [q0]) (wc [h0,h1,h2,h3]) (wc [h0,h1,h2,h3]) [] =
 sh (0:Int) fun z0=>
 some (Cf.at (Ex.exit 0),[],[(3:Nat)=(3:Nat),(4:Nat)=(4:Nat),u2=u2,h0=h0,h1=h1,h2=h2,h3=h3,[q0]=[q0],[u0,u1,u2,u3,z0,z0,z0]=[u0,u1,u2,u3,z0,z0,z0]]):=by kernel_rfl
theorem aIj (x0 x1 x2 x3 y0 u0 u1 u2 u3 q0 h0 h1 h2 h3:Int) :
 Kb eR (wc [x0,x1,x2,x3,0,0,0]) (wc [y0]) 4 7 1 1 1 18446744073709551615 1 (.int false .u64 u2) (wc [u0,u1,u2,u3,0,0,0]) (wc [q0]) (wc [h0,h1,h2,h3]) =
 some {val:=SV.eF [],wr:=[(61,SB.own [SV.int false IntKind.u64 q0] 142),(63,SB.own [SV.int false IntKind.u64 u0,SV.int false IntKind.u64 u1,SV.int false IntKind.u64 u2,SV.int false IntKind.u64 u3,SV.int false IntKind.u64 (0:Int),SV.int false IntKind.u64 (0:Int),SV.int false IntKind.u64 (0:Int)] 142)]}:=by kernel_rfl
theorem aIh (u0 u1 u2 u3 q0 h0 h1 h2 h3:Int) :
 (xD 100 (bI 100 (Fl eR (wc [u0,u1,u2,u3,0,0,0,0]) (wc [q0]))) [] (iX 4 8 1 1 1 18446744073709551615 1 (.int true .u64 0) 1) (iW (wc [h0,h1,h2,h3]) (wc [u0,u1,u2,u3,0,0,0,0]) (wc [q0])) 101 [61,63] iY (Af eR (wc [u0,u1,u2,u3,0,0,0,0]) (wc [q0]) 4 8 1 1)) =
 sh (0:Int) fun z0=>
 some (.go (.loop vV),Cz,[(3:Nat)=(3:Nat),(4:Nat)=(4:Nat),(11259375:Int)=h0,z0=h1,z0=h2,z0=h3,[q0]=[q0],[u0,u1,u2,u3,z0,z0,z0,z0]=[u0,u1,u2,u3,z0,z0,z0,z0]]):=by kernel_rfl
theorem aIf (x0 x1 x2 x3 y0 u0 u1 u2 u3 q0 h0 h1 h2 h3:Int) :
 fH eR (wc [x0,x1,x2,x3,0,0,0,0]) (wc [y0]) 4 8 1 1 1 18446744073709551615 1 (-1) (-1) (.int false .u64 u2) (.int false .u64 u2) (wc [u0,u1,u2,u3,0,0,0,0]) (wc [u0,u1,u2,u3,0,0,0,0]) (wc [q0]) (wc [q0]) (wc [h0,h1,h2,h3]) (wc [h0,h1,h2,h3]) [] =
 sh (0:Int) fun z0=>
 some (Cf.at (Ex.exit 0),[],[(3:Nat)=(3:Nat),(4:Nat)=(4:Nat),u2=u2,h0=h0,h1=h1,h2=h2,h3=h3,[q0]=[q0],[u0,u1,u2,u3,z0,z0,z0,z0]=[u0,u1,u2,u3,z0,z0,z0,z0]]):=by kernel_rfl
theorem aIg (x0 x1 x2 x3 y0 u0 u1 u2 u3 q0 h0 h1 h2 h3:Int) :
 Kb eR (wc [x0,x1,x2,x3,0,0,0,0]) (wc [y0]) 4 8 1 1 1 18446744073709551615 1 (.int false .u64 u2) (wc [u0,u1,u2,u3,0,0,0,0]) (wc [q0]) (wc [h0,h1,h2,h3]) =
 sh (0:Int) fun z0=>
 some {val:=SV.eF [],wr:=[(61,SB.own [SV.int false IntKind.u64 q0] 142),(63,SB.own [SV.int false IntKind.u64 u0,SV.int false IntKind.u64 u1,SV.int false IntKind.u64 u2,SV.int false IntKind.u64 u3,SV.int false IntKind.u64 z0,SV.int false IntKind.u64 z0,SV.int false IntKind.u64 z0,SV.int false IntKind.u64 z0] 142)]}:=by kernel_rfl
theorem aIe (u0 u1 u2 u3 u4 q0 q1 h0 h1 h2 h3:Int) :
 (xD 100 (bI 100 (Fl eR (wc [u0,u1,u2,u3,u4,0,0,0]) (wc [q0,q1,0,0,0,0]))) [] (iX 5 8 2 6 2 18446744073709551615 1 (.int true .u64 0) 2) (iW (wc [h0,h1,h2,h3]) (wc [u0,u1,u2,u3,u4,0,0,0]) (wc [q0,q1,0,0,0,0])) 101 [61,63] iY (Af eR (wc [u0,u1,u2,u3,u4,0,0,0]) (wc [q0,q1,0,0,0,0]) 5 8 2 6)) =
 sh (0:Int) fun z0=>
 some (.go (.loop vV),Cz,[(3:Nat)=(3:Nat),(4:Nat)=(4:Nat),(11259375:Int)=h0,z0=h1,z0=h2,z0=h3,[q0,q1,z0,z0,z0,z0]=[q0,q1,z0,z0,z0,z0],[u0,u1,u2,u3,u4,z0,z0,z0]=[u0,u1,u2,u3,u4,z0,z0,z0]]):=by kernel_rfl
theorem aIc (x0 x1 x2 x3 x4 y0 y1 u0 u1 u2 u3 u4 q0 q1 h0 h1 h2 h3:Int) :
 fH eR (wc [x0,x1,x2,x3,x4,0,0,0]) (wc [y0,y1,0,0,0,0]) 5 8 2 6 2 18446744073709551615 1 (-1) (-1) (.int false .u64 u2) (.int false .u64 u2) (wc [u0,u1,u2,u3,u4,0,0,0]) (wc [u0,u1,u2,u3,u4,0,0,0]) (wc [q0,q1,0,0,0,0]) (wc [q0,q1,0,0,0,0]) (wc [h0,h1,h2,h3]) (wc [h0,h1,h2,h3]) [] =
 sh (0:Int) fun z0=>
 some (Cf.at (Ex.exit 0),[],[(3:Nat)=(3:Nat),(4:Nat)=(4:Nat),u2=u2,h0=h0,h1=h1,h2=h2,h3=h3,[q0,q1,z0,z0,z0,z0]=[q0,q1,z0,z0,z0,z0],[u0,u1,u2,u3,u4,z0,z0,z0]=[u0,u1,u2,u3,u4,z0,z0,z0]]):=by kernel_rfl
theorem aId (x0 x1 x2 x3 x4 y0 y1 u0 u1 u2 u3 u4 q0 q1 h0 h1 h2 h3:Int) :
 Kb eR (wc [x0,x1,x2,x3,x4,0,0,0]) (wc [y0,y1,0,0,0,0]) 5 8 2 6 2 18446744073709551615 1 (.int false .u64 u2) (wc [u0,u1,u2,u3,u4,0,0,0]) (wc [q0,q1,0,0,0,0]) (wc [h0,h1,h2,h3]) =
 sh (0:Int) fun z0=>
 some {val:=SV.eF [],wr:=[(61,SB.own [SV.int false IntKind.u64 q0,SV.int false IntKind.u64 q1,SV.int false IntKind.u64 z0,SV.int false IntKind.u64 z0,SV.int false IntKind.u64 z0,SV.int false IntKind.u64 z0] 142),(63,SB.own [SV.int false IntKind.u64 u0,SV.int false IntKind.u64 u1,SV.int false IntKind.u64 u2,SV.int false IntKind.u64 u3,SV.int false IntKind.u64 u4,SV.int false IntKind.u64 z0,SV.int false IntKind.u64 z0,SV.int false IntKind.u64 z0] 142)]}:=by kernel_rfl
theorem aIb (u0 u1 u2 u3 u4 q0 q1 h0 h1 h2 h3:Int) :
 (xD 100 (bI 100 (Fl eR (wc [u0,u1,u2,u3,u4,0,0,0,0]) (wc [q0,q1,0,0,0,0]))) [] (iX 5 9 2 6 2 18446744073709551615 1 (.int true .u64 0) 2) (iW (wc [h0,h1,h2,h3]) (wc [u0,u1,u2,u3,u4,0,0,0,0]) (wc [q0,q1,0,0,0,0])) 101 [61,63] iY (Af eR (wc [u0,u1,u2,u3,u4,0,0,0,0]) (wc [q0,q1,0,0,0,0]) 5 9 2 6)) =
 sh (0:Int) fun z0=>
 some (.go (.loop vV),Cz,[(3:Nat)=(3:Nat),(4:Nat)=(4:Nat),(11259375:Int)=h0,z0=h1,z0=h2,z0=h3,[q0,q1,z0,z0,z0,z0]=[q0,q1,z0,z0,z0,z0],[u0,u1,u2,u3,u4,z0,z0,z0,z0]=[u0,u1,u2,u3,u4,z0,z0,z0,z0]]):=by kernel_rfl
theorem aHz (x0 x1 x2 x3 x4 y0 y1 u0 u1 u2 u3 u4 q0 q1 h0 h1 h2 h3:Int) :
 fH eR (wc [x0,x1,x2,x3,x4,0,0,0,0]) (wc [y0,y1,0,0,0,0]) 5 9 2 6 2 18446744073709551615 1 (-1) (-1) (.int false .u64 u2) (.int false .u64 u2) (wc [u0,u1,u2,u3,u4,0,0,0,0]) (wc [u0,u1,u2,u3,u4,0,0,0,0]) (wc [q0,q1,0,0,0,0]) (wc [q0,q1,0,0,0,0]) (wc [h0,h1,h2,h3]) (wc [h0,h1,h2,h3]) [] =
 sh (0:Int) fun z0=>
 some (Cf.at (Ex.exit 0),[],[(3:Nat)=(3:Nat),(4:Nat)=(4:Nat),u2=u2,h0=h0,h1=h1,h2=h2,h3=h3,[q0,q1,z0,z0,z0,z0]=[q0,q1,z0,z0,z0,z0],[u0,u1,u2,u3,u4,z0,z0,z0,z0]=[u0,u1,u2,u3,u4,z0,z0,z0,z0]]):=by kernel_rfl
theorem aIa (x0 x1 x2 x3 x4 y0 y1 u0 u1 u2 u3 u4 q0 q1 h0 h1 h2 h3:Int) :
 Kb eR (wc [x0,x1,x2,x3,x4,0,0,0,0]) (wc [y0,y1,0,0,0,0]) 5 9 2 6 2 18446744073709551615 1 (.int false .u64 u2) (wc [u0,u1,u2,u3,u4,0,0,0,0]) (wc [q0,q1,0,0,0,0]) (wc [h0,h1,h2,h3]) =
 sh (0:Int) fun z0=>
 some {val:=SV.eF [],wr:=[(61,SB.own [SV.int false IntKind.u64 q0,SV.int false IntKind.u64 q1,SV.int false IntKind.u64 z0,SV.int false IntKind.u64 z0,SV.int false IntKind.u64 z0,SV.int false IntKind.u64 z0] 142),(63,SB.own [SV.int false IntKind.u64 u0,SV.int false IntKind.u64 u1,SV.int false IntKind.u64 u2,SV.int false IntKind.u64 u3,SV.int false IntKind.u64 u4,SV.int false IntKind.u64 z0,SV.int false IntKind.u64 z0,SV.int false IntKind.u64 z0,SV.int false IntKind.u64 z0] 142)]}:=by kernel_rfl
namespace M
def r5 (u0 u1 u2 u3 u4:Int):Int:=n4 u0 (w0 (n4 u1 u2 u3 u4%DD)) (w1 (n4 u1 u2 u3 u4%DD)) (w2 (n4 u1 u2 u3 u4%DD))
theorem aPw:DD<6277101735386680763835789423207666416102355444464034512896:=by decide
theorem Pd:0<DD:=by decide
theorem w_U (n:Int):U (w0 n)/\U (w1 n)/\U (w2 n):=by unfold U w0 w1 w2;omega
theorem Rl {a b c d:Int} (ha:U a) (hb:U b) (hc:U c) (hd:d<9223372036854775808):n4 a b c d<18446744073709551616*DD:=by
 have:=ha.2;have:=hb.2;have:=hc.2
 unfold n4 DD n4
 omega
theorem aRr {r:Int} (h0:0<=r) (h1:r<DD):n4 (w0 r) (w1 r) (w2 r) 0=r:=by
 have:=aPw
 unfold n4 w0 w1 w2
 omega
theorem ZW {u0 u1 u2 u3 u4:Int}:r5 u0 u1 u2 u3 u4=u0+18446744073709551616*(n4 u1 u2 u3 u4%DD):=by
 have h0:0<=n4 u1 u2 u3 u4%DD:=Int.emod_nonneg _ (by decide)
 have h1:n4 u1 u2 u3 u4%DD<DD:=Int.emod_lt_of_pos _ Pd
 have h:=aRr h0 h1
 unfold r5
 generalize n4 u1 u2 u3 u4%DD=r at *
 unfold n4 at *
 omega
theorem ZV {u0 u1 u2 u3 u4:Int} (ha:U u0):r5 u0 u1 u2 u3 u4<18446744073709551616*DD:=by
 rw [ZW]
 have h1:n4 u1 u2 u3 u4%DD<DD:=Int.emod_lt_of_pos _ Pd
 have:=ha.2
 omega
end M
open M in
set_option maxHeartbeats 2000000 in
theorem Ye {u0 u1 u2 u3:Int} (y0:Int) (a0:U u0) (a1:U u1) (a2:U u2) (a3:U u3) (hd:u3<9223372036854775808) :
 aE Tryz.prog Γv 225 (zQ 4 7 1 1) (Fl eR (wc [u0,u1,u2,u3,0,0,0]) (wc [y0])) 100 100 { val:=.eF [],wr:=[(61,.own (wc [n4 u0 u1 u2 u3/DD]) 142),(63,.own (wc [w0 (n4 u0 u1 u2 u3%DD),w1 (n4 u0 u1 u2 u3%DD),w2 (n4 u0 u1 u2 u3%DD),0,0,0,0]) 142)] }:=by
 have hl:=Rl a0 a1 a2 hd
 refine iE kC kD Tryz.func225 (by kernel_rfl) rfl (kJ (by kernel_rfl)) rfl [] ?_
 intro YK Mx V0 Q hb H
 have aW:=kC
 have aY:=kD
 refine G.xD aW aY mix hb [] (aIk u0 u1 u2 u3 y0 11259375 0 0 0) (aB (by simp only [sh,bZ,and_true])) ?_
 have fin:∀ h0 h1 h2 h3,G Tryz.prog Γv YK Mx (bI 100 (Fl eR (wc [u0,u1,u2,u3,0,0,0]) (wc [y0]))) Tryz.f225.ntmps 100 V0 (.at (.exit 0)) Cz
  (cG (iX 4 7 1 1 1 18446744073709551615 1 (.int false .u64 (w2 (n4 u0 u1 u2 u3%DD))) (-1)) (iW (wc [h0,h1,h2,h3]) (wc [w0 (n4 u0 u1 u2 u3%DD),w1 (n4 u0 u1 u2 u3%DD),w2 (n4 u0 u1 u2 u3%DD),0,0,0,0]) (wc [n4 u0 u1 u2 u3/DD])) 101 [61,63] iY) Q:=fun h0 h1 h2 h3=>
  G.fin aW aY mix [] H (aIj u0 u1 u2 u3 y0 _ _ _ _ _ h0 h1 h2 h3) (by simp) rfl rfl rfl
 refine G.loop (fun r s=>(r=2/\s=cG (iX 4 7 1 1 1 18446744073709551615 1 (.int true .u64 0) 1) (iW (wc [11259375,0,0,0]) (wc [u0,u1,u2,u3,0,0,0]) (wc [y0])) 101 [61,63] iY)
  \/ (r=1/\s=cG (iX 4 7 1 1 1 18446744073709551615 1 (.int false .u64 u3) 0) (iW (wc [0,0,0,0]) (wc [u0,u1,u2,u3,0,0,0]) (wc [y0])) 101 [61,63] iY)
  \/ (r=0/\∃ h0 h1 h2 h3,s=cG (iX 4 7 1 1 1 18446744073709551615 1 (.int false .u64 (w2 (n4 u0 u1 u2 u3%DD))) (-1)) (iW (wc [h0,h1,h2,h3]) (wc [w0 (n4 u0 u1 u2 u3%DD),w1 (n4 u0 u1 u2 u3%DD),w2 (n4 u0 u1 u2 u3%DD),0,0,0,0]) (wc [n4 u0 u1 u2 u3/DD])) 101 [61,63] iY)) (r0:=2) (.inl ⟨rfl,rfl⟩) ?_
 rintro r s (⟨rfl,rfl⟩ | ⟨rfl,rfl⟩ | ⟨rfl,h0,h1,h2,h3,rfl⟩)
 .obtain ⟨ps,e,hp⟩:=Gn (aNy u0 y0) (wc [u0,u1,u2,u3,0,0,0]) (wc [y0]) 11259375 0 0 0 a1 a2 a3 (by omega)
  exact G.kE aW aY mix hb _ e hp 1 (by omega) (.inr (.inl ⟨rfl,rfl⟩))
 .obtain ⟨hs,g0,g1,g2,g3,ps,e,hp⟩:=nO ⟨aGe,aGd,VP,HV,HW,aGc⟩ (wc [u0,u1,u2,u3,0,0,0]) (wc [y0]) y0 0 0 0 0 a0 a1 a2 a3 hl
  exact G.kE aW aY mix hb _ e hp 0 (by omega) (.inr (.inr ⟨rfl,g0,g1,g2,g3,rfl⟩))
 .exact G.xD aW aY mix hb [] (aIi u0 u1 u2 u3 y0 _ _ _ _ _ h0 h1 h2 h3) (aB (by simp only [sh,bZ,and_true])) (G.leave (fun h=>by cases h) (fin h0 h1 h2 h3))
open M in
set_option maxHeartbeats 2000000 in
theorem Yd {u0 u1 u2 u3:Int} (y0:Int) (a0:U u0) (a1:U u1) (a2:U u2) (a3:U u3) (hd:u3<9223372036854775808) :
 aE Tryz.prog Γv 225 (zQ 4 8 1 1) (Fl eR (wc [u0,u1,u2,u3,0,0,0,0]) (wc [y0])) 100 100 { val:=.eF [],wr:=[(61,.own (wc [n4 u0 u1 u2 u3/DD]) 142),(63,.own (wc [w0 (n4 u0 u1 u2 u3%DD),w1 (n4 u0 u1 u2 u3%DD),w2 (n4 u0 u1 u2 u3%DD),0,0,0,0,0]) 142)] }:=by
 have hl:=Rl a0 a1 a2 hd
 refine iE kC kD Tryz.func225 (by kernel_rfl) rfl (kJ (by kernel_rfl)) rfl [] ?_
 intro YK Mx V0 Q hb H
 have aW:=kC
 have aY:=kD
 refine G.xD aW aY mix hb [] (aIh u0 u1 u2 u3 y0 11259375 0 0 0) (aB (by simp only [sh,bZ,and_true])) ?_
 have fin:∀ h0 h1 h2 h3,G Tryz.prog Γv YK Mx (bI 100 (Fl eR (wc [u0,u1,u2,u3,0,0,0,0]) (wc [y0]))) Tryz.f225.ntmps 100 V0 (.at (.exit 0)) Cz
  (cG (iX 4 8 1 1 1 18446744073709551615 1 (.int false .u64 (w2 (n4 u0 u1 u2 u3%DD))) (-1)) (iW (wc [h0,h1,h2,h3]) (wc [w0 (n4 u0 u1 u2 u3%DD),w1 (n4 u0 u1 u2 u3%DD),w2 (n4 u0 u1 u2 u3%DD),0,0,0,0,0]) (wc [n4 u0 u1 u2 u3/DD])) 101 [61,63] iY) Q:=fun h0 h1 h2 h3=>
  G.fin aW aY mix [] H (aIg u0 u1 u2 u3 y0 _ _ _ _ _ h0 h1 h2 h3) (by simp) rfl rfl rfl
 refine G.loop (fun r s=>(r=2/\s=cG (iX 4 8 1 1 1 18446744073709551615 1 (.int true .u64 0) 1) (iW (wc [11259375,0,0,0]) (wc [u0,u1,u2,u3,0,0,0,0]) (wc [y0])) 101 [61,63] iY)
  \/ (r=1/\s=cG (iX 4 8 1 1 1 18446744073709551615 1 (.int false .u64 u3) 0) (iW (wc [0,0,0,0]) (wc [u0,u1,u2,u3,0,0,0,0]) (wc [y0])) 101 [61,63] iY)
  \/ (r=0/\∃ h0 h1 h2 h3,s=cG (iX 4 8 1 1 1 18446744073709551615 1 (.int false .u64 (w2 (n4 u0 u1 u2 u3%DD))) (-1)) (iW (wc [h0,h1,h2,h3]) (wc [w0 (n4 u0 u1 u2 u3%DD),w1 (n4 u0 u1 u2 u3%DD),w2 (n4 u0 u1 u2 u3%DD),0,0,0,0,0]) (wc [n4 u0 u1 u2 u3/DD])) 101 [61,63] iY)) (r0:=2) (.inl ⟨rfl,rfl⟩) ?_
 rintro r s (⟨rfl,rfl⟩ | ⟨rfl,rfl⟩ | ⟨rfl,h0,h1,h2,h3,rfl⟩)
 .obtain ⟨ps,e,hp⟩:=Gn (aNx u0 y0) (wc [u0,u1,u2,u3,0,0,0,0]) (wc [y0]) 11259375 0 0 0 a1 a2 a3 (by omega)
  exact G.kE aW aY mix hb _ e hp 1 (by omega) (.inr (.inl ⟨rfl,rfl⟩))
 .obtain ⟨hs,g0,g1,g2,g3,ps,e,hp⟩:=nO ⟨aGb,aGa,VO,HT,HU,aFz⟩ (wc [u0,u1,u2,u3,0,0,0,0]) (wc [y0]) y0 0 0 0 0 a0 a1 a2 a3 hl
  exact G.kE aW aY mix hb _ e hp 0 (by omega) (.inr (.inr ⟨rfl,g0,g1,g2,g3,rfl⟩))
 .exact G.xD aW aY mix hb [] (aIf u0 u1 u2 u3 y0 _ _ _ _ _ h0 h1 h2 h3) (aB (by simp only [sh,bZ,and_true])) (G.leave (fun h=>by cases h) (fin h0 h1 h2 h3))
open M in
set_option maxHeartbeats 4000000 in
theorem Yc {u0 u1 u2 u3 u4:Int} (y0 y1:Int) (a0:U u0) (a1:U u1) (a2:U u2) (a3:U u3) (a4:U u4) (hd:u4<9223372036854775808) :
 aE Tryz.prog Γv 225 (zQ 5 8 2 6) (Fl eR (wc [u0,u1,u2,u3,u4,0,0,0]) (wc [y0,y1,0,0,0,0])) 100 100 { val:=.eF [],wr:=[(61,.own (wc [r5 u0 u1 u2 u3 u4/DD,n4 u1 u2 u3 u4/DD,0,0,0,0]) 142),(63,.own (wc [w0 (r5 u0 u1 u2 u3 u4%DD),w1 (r5 u0 u1 u2 u3 u4%DD),w2 (r5 u0 u1 u2 u3 u4%DD),0,0,0,0,0]) 142)] }:=by
 have hl:=Rl a1 a2 a3 hd
 obtain ⟨b0,b1,b2⟩:=w_U (n4 u1 u2 u3 u4%DD)
 refine iE kC kD Tryz.func225 (by kernel_rfl) rfl (kJ (by kernel_rfl)) rfl [] ?_
 intro YK Mx V0 Q hb H
 have aW:=kC
 have aY:=kD
 refine G.xD aW aY mix hb [] (aIe u0 u1 u2 u3 u4 y0 y1 11259375 0 0 0) (aB (by simp only [sh,bZ,and_true])) ?_
 have fin:∀ h0 h1 h2 h3,G Tryz.prog Γv YK Mx (bI 100 (Fl eR (wc [u0,u1,u2,u3,u4,0,0,0]) (wc [y0,y1,0,0,0,0]))) Tryz.f225.ntmps 100 V0 (.at (.exit 0)) Cz
  (cG (iX 5 8 2 6 2 18446744073709551615 1 (.int false .u64 (w2 (r5 u0 u1 u2 u3 u4%DD))) (-1)) (iW (wc [h0,h1,h2,h3]) (wc [w0 (r5 u0 u1 u2 u3 u4%DD),w1 (r5 u0 u1 u2 u3 u4%DD),w2 (r5 u0 u1 u2 u3 u4%DD),0,0,0,0,0]) (wc [r5 u0 u1 u2 u3 u4/DD,n4 u1 u2 u3 u4/DD,0,0,0,0])) 101 [61,63] iY) Q:=fun h0 h1 h2 h3=>
  G.fin aW aY mix [] H (aId u0 u1 u2 u3 u4 y0 y1 _ _ _ _ _ _ _ h0 h1 h2 h3) (by simp) rfl rfl rfl
 refine G.loop (fun r s=>(r=3/\s=cG (iX 5 8 2 6 2 18446744073709551615 1 (.int true .u64 0) 2) (iW (wc [11259375,0,0,0]) (wc [u0,u1,u2,u3,u4,0,0,0]) (wc [y0,y1,0,0,0,0])) 101 [61,63] iY)
  \/ (r=2/\s=cG (iX 5 8 2 6 2 18446744073709551615 1 (.int false .u64 u4) 1) (iW (wc [0,0,0,0]) (wc [u0,u1,u2,u3,u4,0,0,0]) (wc [y0,y1,0,0,0,0])) 101 [61,63] iY)
  \/ (r=1/\∃ h0 h1 h2 h3,s=cG (iX 5 8 2 6 2 18446744073709551615 1 (.int false .u64 (w2 (n4 u1 u2 u3 u4%DD))) 0) (iW (wc [h0,h1,h2,h3]) (wc [u0,w0 (n4 u1 u2 u3 u4%DD),w1 (n4 u1 u2 u3 u4%DD),w2 (n4 u1 u2 u3 u4%DD),0,0,0,0]) (wc [y0,n4 u1 u2 u3 u4/DD,0,0,0,0])) 101 [61,63] iY)
  \/ (r=0/\∃ h0 h1 h2 h3,s=cG (iX 5 8 2 6 2 18446744073709551615 1 (.int false .u64 (w2 (r5 u0 u1 u2 u3 u4%DD))) (-1)) (iW (wc [h0,h1,h2,h3]) (wc [w0 (r5 u0 u1 u2 u3 u4%DD),w1 (r5 u0 u1 u2 u3 u4%DD),w2 (r5 u0 u1 u2 u3 u4%DD),0,0,0,0,0]) (wc [r5 u0 u1 u2 u3 u4/DD,n4 u1 u2 u3 u4/DD,0,0,0,0])) 101 [61,63] iY)) (r0:=3) (.inl ⟨rfl,rfl⟩) ?_
 rintro r s (⟨rfl,rfl⟩ | ⟨rfl,rfl⟩ | ⟨rfl,h0,h1,h2,h3,rfl⟩ | ⟨rfl,h0,h1,h2,h3,rfl⟩)
 .obtain ⟨ps,e,hp⟩:=Gn (aNw u0 u1 y0 y1) (wc [u0,u1,u2,u3,u4,0,0,0]) (wc [y0,y1,0,0,0,0]) 11259375 0 0 0 a2 a3 a4 (by omega)
  exact G.kE aW aY mix hb _ e hp 2 (by omega) (.inr (.inl ⟨rfl,rfl⟩))
 .obtain ⟨hs,g0,g1,g2,g3,ps,e,hp⟩:=nO ⟨VN u0 y0,VM u0 y0,HS u0 y0,Wr u0 y0,Wt u0 y0,VL u0 y0⟩ (wc [u0,u1,u2,u3,u4,0,0,0]) (wc [y0,y1,0,0,0,0]) y1 0 0 0 0 a1 a2 a3 a4 hl
  exact G.kE aW aY mix hb _ e hp 1 (by omega) (.inr (.inr (.inl ⟨rfl,g0,g1,g2,g3,rfl⟩)))
 .obtain ⟨hs,g0,g1,g2,g3,ps,e,hp⟩:=nO ⟨VK (n4 u1 u2 u3 u4/DD),VJ (n4 u1 u2 u3 u4/DD),HR (n4 u1 u2 u3 u4/DD),Wp (n4 u1 u2 u3 u4/DD),Wq (n4 u1 u2 u3 u4/DD),VI (n4 u1 u2 u3 u4/DD)⟩ (wc [u0,u1,u2,u3,u4,0,0,0]) (wc [y0,y1,0,0,0,0]) y0 h0 h1 h2 h3 a0 b0 b1 b2 (ZV a0)
  exact G.kE aW aY mix hb _ e hp 0 (by omega) (.inr (.inr (.inr ⟨rfl,g0,g1,g2,g3,rfl⟩)))
 .exact G.xD aW aY mix hb [] (aIc u0 u1 u2 u3 u4 y0 y1 _ _ _ _ _ _ _ h0 h1 h2 h3) (aB (by simp only [sh,bZ,and_true])) (G.leave (fun h=>by cases h) (fin h0 h1 h2 h3))
open M in
set_option maxHeartbeats 4000000 in
theorem Yb {u0 u1 u2 u3 u4:Int} (y0 y1:Int) (a0:U u0) (a1:U u1) (a2:U u2) (a3:U u3) (a4:U u4) (hd:u4<9223372036854775808) :
 aE Tryz.prog Γv 225 (zQ 5 9 2 6) (Fl eR (wc [u0,u1,u2,u3,u4,0,0,0,0]) (wc [y0,y1,0,0,0,0])) 100 100 { val:=.eF [],wr:=[(61,.own (wc [r5 u0 u1 u2 u3 u4/DD,n4 u1 u2 u3 u4/DD,0,0,0,0]) 142),(63,.own (wc [w0 (r5 u0 u1 u2 u3 u4%DD),w1 (r5 u0 u1 u2 u3 u4%DD),w2 (r5 u0 u1 u2 u3 u4%DD),0,0,0,0,0,0]) 142)] }:=by
 have hl:=Rl a1 a2 a3 hd
 obtain ⟨b0,b1,b2⟩:=w_U (n4 u1 u2 u3 u4%DD)
 refine iE kC kD Tryz.func225 (by kernel_rfl) rfl (kJ (by kernel_rfl)) rfl [] ?_
 intro YK Mx V0 Q hb H
 have aW:=kC
 have aY:=kD
 refine G.xD aW aY mix hb [] (aIb u0 u1 u2 u3 u4 y0 y1 11259375 0 0 0) (aB (by simp only [sh,bZ,and_true])) ?_
 have fin:∀ h0 h1 h2 h3,G Tryz.prog Γv YK Mx (bI 100 (Fl eR (wc [u0,u1,u2,u3,u4,0,0,0,0]) (wc [y0,y1,0,0,0,0]))) Tryz.f225.ntmps 100 V0 (.at (.exit 0)) Cz
  (cG (iX 5 9 2 6 2 18446744073709551615 1 (.int false .u64 (w2 (r5 u0 u1 u2 u3 u4%DD))) (-1)) (iW (wc [h0,h1,h2,h3]) (wc [w0 (r5 u0 u1 u2 u3 u4%DD),w1 (r5 u0 u1 u2 u3 u4%DD),w2 (r5 u0 u1 u2 u3 u4%DD),0,0,0,0,0,0]) (wc [r5 u0 u1 u2 u3 u4/DD,n4 u1 u2 u3 u4/DD,0,0,0,0])) 101 [61,63] iY) Q:=fun h0 h1 h2 h3=>
  G.fin aW aY mix [] H (aIa u0 u1 u2 u3 u4 y0 y1 _ _ _ _ _ _ _ h0 h1 h2 h3) (by simp) rfl rfl rfl
 refine G.loop (fun r s=>(r=3/\s=cG (iX 5 9 2 6 2 18446744073709551615 1 (.int true .u64 0) 2) (iW (wc [11259375,0,0,0]) (wc [u0,u1,u2,u3,u4,0,0,0,0]) (wc [y0,y1,0,0,0,0])) 101 [61,63] iY)
  \/ (r=2/\s=cG (iX 5 9 2 6 2 18446744073709551615 1 (.int false .u64 u4) 1) (iW (wc [0,0,0,0]) (wc [u0,u1,u2,u3,u4,0,0,0,0]) (wc [y0,y1,0,0,0,0])) 101 [61,63] iY)
  \/ (r=1/\∃ h0 h1 h2 h3,s=cG (iX 5 9 2 6 2 18446744073709551615 1 (.int false .u64 (w2 (n4 u1 u2 u3 u4%DD))) 0) (iW (wc [h0,h1,h2,h3]) (wc [u0,w0 (n4 u1 u2 u3 u4%DD),w1 (n4 u1 u2 u3 u4%DD),w2 (n4 u1 u2 u3 u4%DD),0,0,0,0,0]) (wc [y0,n4 u1 u2 u3 u4/DD,0,0,0,0])) 101 [61,63] iY)
  \/ (r=0/\∃ h0 h1 h2 h3,s=cG (iX 5 9 2 6 2 18446744073709551615 1 (.int false .u64 (w2 (r5 u0 u1 u2 u3 u4%DD))) (-1)) (iW (wc [h0,h1,h2,h3]) (wc [w0 (r5 u0 u1 u2 u3 u4%DD),w1 (r5 u0 u1 u2 u3 u4%DD),w2 (r5 u0 u1 u2 u3 u4%DD),0,0,0,0,0,0]) (wc [r5 u0 u1 u2 u3 u4/DD,n4 u1 u2 u3 u4/DD,0,0,0,0])) 101 [61,63] iY)) (r0:=3) (.inl ⟨rfl,rfl⟩) ?_
 rintro r s (⟨rfl,rfl⟩ | ⟨rfl,rfl⟩ | ⟨rfl,h0,h1,h2,h3,rfl⟩ | ⟨rfl,h0,h1,h2,h3,rfl⟩)
 .obtain ⟨ps,e,hp⟩:=Gn (aNv u0 u1 y0 y1) (wc [u0,u1,u2,u3,u4,0,0,0,0]) (wc [y0,y1,0,0,0,0]) 11259375 0 0 0 a2 a3 a4 (by omega)
  exact G.kE aW aY mix hb _ e hp 2 (by omega) (.inr (.inl ⟨rfl,rfl⟩))
 .obtain ⟨hs,g0,g1,g2,g3,ps,e,hp⟩:=nO ⟨VH u0 y0,VG u0 y0,HQ u0 y0,Wn u0 y0,Wo u0 y0,VF u0 y0⟩ (wc [u0,u1,u2,u3,u4,0,0,0,0]) (wc [y0,y1,0,0,0,0]) y1 0 0 0 0 a1 a2 a3 a4 hl
  exact G.kE aW aY mix hb _ e hp 1 (by omega) (.inr (.inr (.inl ⟨rfl,g0,g1,g2,g3,rfl⟩)))
 .obtain ⟨hs,g0,g1,g2,g3,ps,e,hp⟩:=nO ⟨VE (n4 u1 u2 u3 u4/DD),VD (n4 u1 u2 u3 u4/DD),HP (n4 u1 u2 u3 u4/DD),Wl (n4 u1 u2 u3 u4/DD),Wm (n4 u1 u2 u3 u4/DD),VC (n4 u1 u2 u3 u4/DD)⟩ (wc [u0,u1,u2,u3,u4,0,0,0,0]) (wc [y0,y1,0,0,0,0]) y0 h0 h1 h2 h3 a0 b0 b1 b2 (ZV a0)
  exact G.kE aW aY mix hb _ e hp 0 (by omega) (.inr (.inr (.inr ⟨rfl,g0,g1,g2,g3,rfl⟩)))
 .exact G.xD aW aY mix hb [] (aHz u0 u1 u2 u3 u4 y0 y1 _ _ _ _ _ _ _ h0 h1 h2 h3) (aB (by simp only [sh,bZ,and_true])) (G.leave (fun h=>by cases h) (fin h0 h1 h2 h3))
theorem aF.aR {P:Program} {Γ Γ':Env} {f:FuncId} {S:Sum} (h:aF P Γ f S) (hg:Γ'.aR=Γ.aR):aF P Γ' f S:=
 fun vs T lab F e he ho w0 M V T2 w xs aO hT Ur=>h vs T lab F e he ho w0 M V T2 w xs aO hT (fun n l hl=>Ur n l (by rw [hg];exact hl))
namespace M
def nl:List Int->Nat
 | []=>0
 | x::r=>match nl r with
   | 0=>if x=0 then 0 else 1
   | k+1=>k+2
end M
def nmT (ws:List SV):bB:=fun l=>look l [(63,.own ws 142)]
noncomputable def Dv (n cap:Nat) (ws:List SV) (h:List Bool):Option bK:=aJ Γv Tryz.f145 true h 400 [.aG 63 true 0 n cap] (nmT ws) 100 100
namespace M
theorem CF:∀ l:List Int,nl l<=l.length
 | []=>dF _
 | x::r=>by
   have:=CF r
   simp only [nl,List.length_cons]
   split
   .split <;> omega
   .omega
end M
def nmH (n:Nat):Nat->List Bool
 | 0=>List.replicate n true
 | k+1=>List.replicate (n-(k+1)) true++[false]
def nmO (ws:List Int):Nat->List Prop
 | 0=>ws.map fun a=>(a==0)=true
 | k+1=>((ws.getD k 0==0)=false)::(ws.drop (k+1)).map fun a=>(a==0)=true
theorem EY:∀ ws:List Int,∀ q∈nmO ws (M.nl ws),q
 | [],q,h=>by cases h
 | x::r,q,h=>by
   have ih:=EY r
   unfold M.nl at h
   cases hn:M.nl r with
   | zero=>
     rw [hn] at h ih
     simp only at h
     by_cases hx:x=0
     .rw [if_pos hx] at h
      rcases List.mem_cons.1 h with rfl | h
      .simpa using hx
      .exact ih q h
     .rw [if_neg hx] at h
      rcases List.mem_cons.1 h with rfl | h
      .simpa using hx
      .exact ih q h
   | succ k=>
     rw [hn] at h ih
     exact ih q h
theorem nm1 {cap:Nat} (hc:cap=1\/cap=1) (zs:List SV) (a0:Int) (k:Nat) (hk:k<=1):Dv 1 cap (wc [a0]++zs) (nmH 1 k)=some { bO:=nmO [a0] k,val:=.aG 63 true 0 k cap }:=by
 rcases hc with rfl | rfl <;> rcases (by omega:k=0\/k=1) with rfl | rfl <;> kernel_rfl
theorem nm2 {cap:Nat} (hc:cap=6\/cap=6) (zs:List SV) (a0 a1:Int) (k:Nat) (hk:k<=2):Dv 2 cap (wc [a0,a1]++zs) (nmH 2 k)=some { bO:=nmO [a0,a1] k,val:=.aG 63 true 0 k cap }:=by
 rcases hc with rfl | rfl <;> rcases (by omega:k=0\/k=1\/k=2) with rfl | rfl | rfl <;> kernel_rfl
theorem nm3 {cap:Nat} (hc:cap=7\/cap=7) (zs:List SV) (a0 a1 a2:Int) (k:Nat) (hk:k<=3):Dv 3 cap (wc [a0,a1,a2]++zs) (nmH 3 k)=some { bO:=nmO [a0,a1,a2] k,val:=.aG 63 true 0 k cap }:=by
 rcases hc with rfl | rfl <;> rcases (by omega:k=0\/k=1\/k=2\/k=3) with rfl | rfl | rfl | rfl <;> kernel_rfl
theorem nm4 {cap:Nat} (hc:cap=7\/cap=8) (zs:List SV) (a0 a1 a2 a3:Int) (k:Nat) (hk:k<=4):Dv 4 cap (wc [a0,a1,a2,a3]++zs) (nmH 4 k)=some { bO:=nmO [a0,a1,a2,a3] k,val:=.aG 63 true 0 k cap }:=by
 rcases hc with rfl | rfl <;> rcases (by omega:k=0\/k=1\/k=2\/k=3\/k=4) with rfl | rfl | rfl | rfl | rfl <;> kernel_rfl
theorem nm5 {cap:Nat} (hc:cap=8\/cap=9) (zs:List SV) (a0 a1 a2 a3 a4:Int) (k:Nat) (hk:k<=5):Dv 5 cap (wc [a0,a1,a2,a3,a4]++zs) (nmH 5 k)=some { bO:=nmO [a0,a1,a2,a3,a4] k,val:=.aG 63 true 0 k cap }:=by
 rcases hc with rfl | rfl <;> rcases (by omega:k=0\/k=1\/k=2\/k=3\/k=4\/k=5) with rfl | rfl | rfl | rfl | rfl | rfl <;> kernel_rfl
theorem oF {n cap:Nat} {ws:List Int} {zs:List SV} (h:∀ k,k<=ws.length->Dv n cap (wc ws++zs) (nmH n k)=some { bO:=nmO ws k,val:=.aG 63 true 0 k cap }):aE Tryz.prog Γv 145 [.aG 63 true 0 n cap] (nmT (wc ws++zs)) 100 100 { val:=.aG 63 false 0 (M.nl ws) cap }:=
 ((aM kC kD mix Tryz.func145 (by kernel_rfl) true _ 400).call (h _ (M.CF ws)) (EY ws)).words rfl (fun _=>rfl) (fun _ _ h=>h) (fun _=>rfl) rfl rfl
def CE (vs:List SV) (T:bB):Option Canon:=match vs with
 | [.aG l true 0 n cap]=>match T l with
   | some (.own cs 142)=>match cR .u64 cs with
     | some [a0]=>match Nat.beq n 1&&Nat.beq cap 1 with
       | true=>some { eN:=[.aG 63 true 0 1 1],T0:=[(63,.own (wc [a0]) 142)],vl:=[(63,.lab l 0)],e0:={ val:=.aG 63 false 0 (M.nl [a0]) 1,wr:=[(63,.own (wc [a0]) 142)] } }
       | false=>none
     | some [a0,a1,_,_,_,_]=>match Nat.beq n 2&&Nat.beq cap 6 with
       | true=>some { eN:=[.aG 63 true 0 2 6],T0:=[(63,.own (wc [a0,a1,0,0,0,0]) 142)],vl:=[(63,.lab l 0)],e0:={ val:=.aG 63 false 0 (M.nl [a0,a1]) 6,wr:=[(63,.own (wc [a0,a1,0,0,0,0]) 142)] } }
       | false=>none
     | some [a0,a1,a2,a3,_,_,_]=>match Nat.beq cap 7 with
       | true=>match Nat.beq n 4 with
         | true=>some { eN:=[.aG 63 true 0 4 7],T0:=[(63,.own (wc [a0,a1,a2,a3,0,0,0]) 142)],vl:=[(63,.lab l 0)],e0:={ val:=.aG 63 false 0 (M.nl [a0,a1,a2,a3]) 7,wr:=[(63,.own (wc [a0,a1,a2,a3,0,0,0]) 142)] } }
         | false=>match Nat.beq n 3 with
           | true=>some { eN:=[.aG 63 true 0 3 7],T0:=[(63,.own (wc [a0,a1,a2,0,0,0,0]) 142)],vl:=[(63,.lab l 0)],e0:={ val:=.aG 63 false 0 (M.nl [a0,a1,a2]) 7,wr:=[(63,.own (wc [a0,a1,a2,0,0,0,0]) 142)] } }
           | false=>none
       | false=>none
     | some [a0,a1,a2,a3,a4,_,_,_]=>match Nat.beq cap 8 with
       | true=>match Nat.beq n 4 with
         | true=>some { eN:=[.aG 63 true 0 4 8],T0:=[(63,.own (wc [a0,a1,a2,a3,0,0,0,0]) 142)],vl:=[(63,.lab l 0)],e0:={ val:=.aG 63 false 0 (M.nl [a0,a1,a2,a3]) 8,wr:=[(63,.own (wc [a0,a1,a2,a3,0,0,0,0]) 142)] } }
         | false=>match Nat.beq n 5 with
           | true=>some { eN:=[.aG 63 true 0 5 8],T0:=[(63,.own (wc [a0,a1,a2,a3,a4,0,0,0]) 142)],vl:=[(63,.lab l 0)],e0:={ val:=.aG 63 false 0 (M.nl [a0,a1,a2,a3,a4]) 8,wr:=[(63,.own (wc [a0,a1,a2,a3,a4,0,0,0]) 142)] } }
           | false=>none
       | false=>none
     | some [a0,a1,a2,a3,a4,_,_,_,_]=>match Nat.beq n 5&&Nat.beq cap 9 with
       | true=>some { eN:=[.aG 63 true 0 5 9],T0:=[(63,.own (wc [a0,a1,a2,a3,a4,0,0,0,0]) 142)],vl:=[(63,.lab l 0)],e0:={ val:=.aG 63 false 0 (M.nl [a0,a1,a2,a3,a4]) 9,wr:=[(63,.own (wc [a0,a1,a2,a3,a4,0,0,0,0]) 142)] } }
       | false=>none
     | _=>none
   | _=>none
 | _=>none
theorem aAe (Γ:Env) (hg:Γ.aR=aA) {vs:List SV} {T:bB} {c:Canon} (hd:CE vs T=some c):aE Tryz.prog Γ 145 c.eN (fun l=>look l c.T0) 100 100 c.e0:=by
 unfold CE at hd
 split at hd
 case h_2=>cases hd
 split at hd
 case h_2=>cases hd
 split at hd
 case h_6=>cases hd
 .split at hd
  case h_2=>cases hd
  cases hd
  exact ((oF (ws:=[_]) (zs:=wc []) (nm1 (.inl rfl) _ _)).bC 63 _ rfl (by decide)).words (by rw [hg];rfl) (fun _=>rfl) (fun _ _ h=>h) (fun _=>rfl) rfl rfl
 .split at hd
  case h_2=>cases hd
  cases hd
  exact ((oF (ws:=[_,_]) (zs:=wc [0,0,0,0]) (nm2 (.inl rfl) _ _ _)).bC 63 _ rfl (by decide)).words (by rw [hg];rfl) (fun _=>rfl) (fun _ _ h=>h) (fun _=>rfl) rfl rfl
 .split at hd
  case h_2=>cases hd
  split at hd
  .cases hd
   exact ((oF (ws:=[_,_,_,_]) (zs:=wc [0,0,0]) (nm4 (.inl rfl) _ _ _ _ _)).bC 63 _ rfl (by decide)).words (by rw [hg];rfl) (fun _=>rfl) (fun _ _ h=>h) (fun _=>rfl) rfl rfl
  .split at hd
   case h_2=>cases hd
   cases hd
   exact ((oF (ws:=[_,_,_]) (zs:=wc [0,0,0,0]) (nm3 (.inl rfl) _ _ _ _)).bC 63 _ rfl (by decide)).words (by rw [hg];rfl) (fun _=>rfl) (fun _ _ h=>h) (fun _=>rfl) rfl rfl
 .split at hd
  case h_2=>cases hd
  split at hd
  .cases hd
   exact ((oF (ws:=[_,_,_,_]) (zs:=wc [0,0,0,0]) (nm4 (.inr rfl) _ _ _ _ _)).bC 63 _ rfl (by decide)).words (by rw [hg];rfl) (fun _=>rfl) (fun _ _ h=>h) (fun _=>rfl) rfl rfl
  .split at hd
   case h_2=>cases hd
   cases hd
   exact ((oF (ws:=[_,_,_,_,_]) (zs:=wc [0,0,0]) (nm5 (.inl rfl) _ _ _ _ _ _)).bC 63 _ rfl (by decide)).words (by rw [hg];rfl) (fun _=>rfl) (fun _ _ h=>h) (fun _=>rfl) rfl rfl
 .split at hd
  case h_2=>cases hd
  cases hd
  exact ((oF (ws:=[_,_,_,_,_]) (zs:=wc [0,0,0,0]) (nm5 (.inr rfl) _ _ _ _ _ _)).bC 63 _ rfl (by decide)).words (by rw [hg];rfl) (fun _=>rfl) (fun _ _ h=>h) (fun _=>rfl) rfl rfl
def rV (iq ir:Nat) (vs:List SV) (T:bB):Option Canon:=match CE vs T with
 | some c=>match c.eN,c.e0.val with
   | [.aG _ _ _ n _],.aG 63 false 0 k cap=>match Nat.ble n 2 with
     | true=>some { c with e0:={ c.e0 with val:=.aG 63 true 0 iq cap },conds:=[k=iq] }
     | false=>some { c with e0:={ c.e0 with val:=.aG 63 true 0 ir cap },conds:=[k=ir] }
   | _,_=>none
 | none=>none
theorem Aq (iq ir:Nat) (Γ:Env) (hg:Γ.aR=aA):aF Tryz.prog Γ 145 (aL aA 100 (rV iq ir)):=by
 refine aU hg fun vs T c hd hc=>?_
 unfold rV at hd
 split at hd
 case h_2=>cases hd
 rename_i c0 h0
 split at hd
 case h_2=>cases hd
 rename_i hv
 split at hd
 .cases hd
  have hk:=hc _ dB
  refine (aAe Γ hg h0).words rfl (fun _=>rfl) (fun _ _ h=>h) (fun V=>?_) rfl rfl
  rw [hv,hk];rfl
 .cases hd
  have hk:=hc _ dB
  refine (aAe Γ hg h0).words rfl (fun _=>rfl) (fun _ _ h=>h) (fun V=>?_) rfl rfl
  rw [hv,hk];rfl
def aCn (c c':Nat):List SV:=[.aG 61 true 0 3 c,.aG 62 true 0 3 c']
def cmT (xs ys:List Int):bB:=fun l=>look l [(61,.nA .u64 xs),(62,.nA .u64 ys)]
noncomputable def wV (c c':Nat) (xs ys:List Int) (h:List Bool):Option bK:=aJ Γv Tryz.f114 true h 400 (aCn c c') (cmT xs ys) 100 100
theorem aVl (c c':Nat) (x0 x1 x2 y0 y1 y2:Int) (xs ys:List Int) :
 wV c c' (x0::x1::x2::xs) (y0::y1::y2::ys) [false,true] =
 sh (x0::x1::x2::xs) fun z0=>
 sh (y0::y1::y2::ys) fun z1=>
 sh (2:Nat) fun z2=>
 sh (0:Int) fun z3=>
 sh (3:Nat) fun z4=>
 some {bO:=[decide (z0.getD z2 z3<z1.getD z2 z3)=true,z4<=z1.length,z4<=z0.length,(z0.getD z2 z3==z1.getD z2 z3)=false,z4<=z1.length,z4<=z0.length],val:=SV.int true IntKind.i64 (Int.negSucc 0)}:=by kernel_rfl
theorem aVk (c c':Nat) (x0 x1 x2 y0 y1 y2:Int) (xs ys:List Int) :
 wV c c' (x0::x1::x2::xs) (y0::y1::y2::ys) [false,false,true] =
 sh (x0::x1::x2::xs) fun z0=>
 sh (y0::y1::y2::ys) fun z1=>
 sh (2:Nat) fun z2=>
 sh (0:Int) fun z3=>
 sh (3:Nat) fun z4=>
 some {bO:=[decide (z0.getD z2 z3>z1.getD z2 z3)=true,z4<=z1.length,z4<=z0.length,decide (z0.getD z2 z3<z1.getD z2 z3)=false,z4<=z1.length,z4<=z0.length,(z0.getD z2 z3==z1.getD z2 z3)=false,z4<=z1.length,z4<=z0.length],val:=SV.int true IntKind.i64 (1:Int)}:=by kernel_rfl
theorem aVj (c c':Nat) (x0 x1 x2 y0 y1 y2:Int) (xs ys:List Int) :
 wV c c' (x0::x1::x2::xs) (y0::y1::y2::ys) [true,false,true] =
 sh (x0::x1::x2::xs) fun z0=>
 sh (y0::y1::y2::ys) fun z1=>
 sh (0:Int) fun z2=>
 sh (2:Nat) fun z3=>
 sh (1:Nat) fun z4=>
 some {bO:=[decide (z0.getD z4 z2<z1.getD z4 z2)=true,z3<=z1.length,z3<=z0.length,(z0.getD z4 z2==z1.getD z4 z2)=false,z3<=z1.length,z3<=z0.length,(z0.getD z3 z2==z1.getD z3 z2)=true,(3:Nat)<=z1.length,(3:Nat)<=z0.length],val:=SV.int true IntKind.i64 (Int.negSucc 0)}:=by kernel_rfl
theorem aVi (c c':Nat) (x0 x1 x2 y0 y1 y2:Int) (xs ys:List Int) :
 wV c c' (x0::x1::x2::xs) (y0::y1::y2::ys) [true,false,false,true] =
 sh (x0::x1::x2::xs) fun z0=>
 sh (y0::y1::y2::ys) fun z1=>
 sh (0:Int) fun z2=>
 sh (2:Nat) fun z3=>
 sh (1:Nat) fun z4=>
 some {bO:=[decide (z0.getD z4 z2>z1.getD z4 z2)=true,z3<=z1.length,z3<=z0.length,decide (z0.getD z4 z2<z1.getD z4 z2)=false,z3<=z1.length,z3<=z0.length,(z0.getD z4 z2==z1.getD z4 z2)=false,z3<=z1.length,z3<=z0.length,(z0.getD z3 z2==z1.getD z3 z2)=true,(3:Nat)<=z1.length,(3:Nat)<=z0.length],val:=SV.int true IntKind.i64 (1:Int)}:=by kernel_rfl
theorem aVh (c c':Nat) (x0 x1 x2 y0 y1 y2:Int) (xs ys:List Int) :
 wV c c' (x0::x1::x2::xs) (y0::y1::y2::ys) [true,true,true] =
 sh (x0::x1::x2::xs) fun z0=>
 sh (y0::y1::y2::ys) fun z1=>
 sh (0:Int) fun z2=>
 sh (1:Nat) fun z3=>
 sh (2:Nat) fun z4=>
 some {bO:=[decide (z0.getD (0:Nat) z2<z1.getD (0:Nat) z2)=true,z3<=z1.length,z3<=z0.length,(z0.getD z3 z2==z1.getD z3 z2)=true,z4<=z1.length,z4<=z0.length,(z0.getD z4 z2==z1.getD z4 z2)=true,(3:Nat)<=z1.length,(3:Nat)<=z0.length],val:=SV.int true IntKind.i64 (Int.negSucc 0)}:=by kernel_rfl
theorem aVg (c c':Nat) (x0 x1 x2 y0 y1 y2:Int) (xs ys:List Int) :
 wV c c' (x0::x1::x2::xs) (y0::y1::y2::ys) [true,true,false,true] =
 sh (x0::x1::x2::xs) fun z0=>
 sh (y0::y1::y2::ys) fun z1=>
 sh (0:Int) fun z2=>
 sh (1:Nat) fun z3=>
 sh (0:Nat) fun z4=>
 sh (2:Nat) fun z5=>
 some {bO:=[decide (z0.getD z4 z2>z1.getD z4 z2)=true,z3<=z1.length,z3<=z0.length,decide (z0.getD z4 z2<z1.getD z4 z2)=false,z3<=z1.length,z3<=z0.length,(z0.getD z3 z2==z1.getD z3 z2)=true,z5<=z1.length,z5<=z0.length,(z0.getD z5 z2==z1.getD z5 z2)=true,(3:Nat)<=z1.length,(3:Nat)<=z0.length],val:=SV.int true IntKind.i64 (1:Int)}:=by kernel_rfl
theorem aVf (c c':Nat) (x0 x1 x2 y0 y1 y2:Int) (xs ys:List Int) :
 wV c c' (x0::x1::x2::xs) (y0::y1::y2::ys) [true,true,false,false] =
 sh (x0::x1::x2::xs) fun z0=>
 sh (y0::y1::y2::ys) fun z1=>
 sh (0:Int) fun z2=>
 sh (1:Nat) fun z3=>
 sh (0:Nat) fun z4=>
 sh (2:Nat) fun z5=>
 some {bO:=[decide (z0.getD z4 z2>z1.getD z4 z2)=false,z3<=z1.length,z3<=z0.length,decide (z0.getD z4 z2<z1.getD z4 z2)=false,z3<=z1.length,z3<=z0.length,(z0.getD z3 z2==z1.getD z3 z2)=true,z5<=z1.length,z5<=z0.length,(z0.getD z5 z2==z1.getD z5 z2)=true,(3:Nat)<=z1.length,(3:Nat)<=z0.length],val:=SV.int true IntKind.i64 z2}:=by kernel_rfl
namespace M
def cmp (x y:Int):Int:=if x<y then -1 else if y<x then 1 else 0
def n3 (a b c:Int):Int:=a+18446744073709551616*(b+18446744073709551616*c)
end M
def CP:SB->Option (IntKind × List Int)
 | .ints k xs _=>some (k,xs)
 | .own cs _=>tC cs
 | .fL cs=>tC cs
 | .nA k xs=>some (k,xs)
 | _=>none
def Ru (vs:List SV) (T:bB):Option Canon:=match vs with
 | [.aG l _ 0 3 c,.aG l' _ 0 3 c']=>match (T l).bind CP,(T l').bind CP with
   | some (.u64,x0::x1::x2::xs),some (.u64,y0::y1::y2::ys)=>some { eN:=aCn c c',T0:=[(61,.nA .u64 (x0::x1::x2::xs)),(62,.nA .u64 (y0::y1::y2::ys))],vl:=[(61,.lab l 0),(62,.lab l' 0)],e0:={ val:=.int false .i64 (M.cmp (M.n3 x0 x1 x2) (M.n3 y0 y1 y2)) },conds:=[M.U x0,M.U x1,M.U x2,M.U y0,M.U y1,M.U y2] }
   | _,_=>none
 | _=>none
theorem aAr (Γ:Env) (hg:Γ.aR=aA):aF Tryz.prog Γ 114 (aL aA 100 Ru):=by
 refine aU hg fun vs T c hd hc=>?_
 unfold Ru at hd
 split at hd
 case h_2=>cases hd
 split at hd
 case h_2=>cases hd
 rename_i c _ _ c' _ _ x0 x1 x2 xs y0 y1 y2 ys _ _
 cases hd
 have a0:M.U x0:=hc _ (by simp)
 have a1:M.U x1:=hc _ (by simp)
 have a2:M.U x2:=hc _ (by simp)
 have b0:M.U y0:=hc _ (by simp)
 have b1:M.U y1:=hc _ (by simp)
 have b2:M.U y2:=hc _ (by simp)
 have:=a0.1;have:=a0.2;have:=a1.1;have:=a1.2;have:=a2.1;have:=a2.2
 have:=b0.1;have:=b0.2;have:=b1.1;have:=b1.2;have:=b2.1;have:=b2.2
 have hs:∀ hs,aF Tryz.prog Γv 114 (aJ Γv Tryz.f114 true hs 400):=fun hs=>aM kC kD mix Tryz.func114 (by kernel_rfl) true hs 400
 have fin:∀ {hs:List Bool} {ob:List Prop} {s:Bool} {r:Int},wV c c' (x0::x1::x2::xs) (y0::y1::y2::ys) hs=some { bO:=ob,val:=.int s .i64 r }->(∀ q∈ob,q)->M.cmp (M.n3 x0 x1 x2) (M.n3 y0 y1 y2)=r ->
  aE Tryz.prog Γ 114 (aCn c c') (fun l=>look l [(61,.nA .u64 (x0::x1::x2::xs)),(62,.nA .u64 (y0::y1::y2::ys))]) 100 100 { val:=.int false .i64 (M.cmp (M.n3 x0 x1 x2) (M.n3 y0 y1 y2)) }:=by
  intro h ob s r e ho hr
  exact ((hs h).call e ho).words (by rw [hg];rfl) (fun _=>rfl) (fun _ _ h=>h) (fun V=>by simp only [den,hr]) rfl rfl
 rcases Int.lt_trichotomy x2 y2 with h | rfl | h
 .exact fin (aVl c c' x0 x1 x2 y0 y1 y2 xs ys) (aB (by simp [bZ];omega)) (by unfold M.cmp M.n3;rw [if_pos (by omega)];rfl)
 .rcases Int.lt_trichotomy x1 y1 with h | rfl | h
  .exact fin (aVj c c' x0 x1 x2 y0 y1 x2 xs ys) (aB (by simp [bZ];omega)) (by unfold M.cmp M.n3;rw [if_pos (by omega)];rfl)
  .rcases Int.lt_trichotomy x0 y0 with h | rfl | h
   .exact fin (aVh c c' x0 x1 x2 y0 x1 x2 xs ys) (aB (by simp [bZ];omega)) (by unfold M.cmp M.n3;rw [if_pos (by omega)];rfl)
   .exact fin (aVf c c' x0 x1 x2 x0 x1 x2 xs ys) (aB (by simp [bZ])) (by unfold M.cmp M.n3;rw [if_neg (by omega),if_neg (by omega)])
   .exact fin (aVg c c' x0 x1 x2 y0 x1 x2 xs ys) (aB (by simp [bZ];omega)) (by unfold M.cmp M.n3;rw [if_neg (by omega),if_pos (by omega)])
  .exact fin (aVi c c' x0 x1 x2 y0 y1 x2 xs ys) (aB (by simp [bZ];omega)) (by unfold M.cmp M.n3;rw [if_neg (by omega),if_pos (by omega)])
 .exact fin (aVk c c' x0 x1 x2 y0 y1 y2 xs ys) (aB (by simp [bZ];omega)) (by unfold M.cmp M.n3;rw [if_neg (by omega),if_pos (by omega)])
noncomputable def zS (ex:Nat->Option Sum) (f0:Nat) (hs:List Bool) (f:Nat):Option Sum:=match Nat.beq f f0 with
 | true=>match Tryz.prog.funcs[f0]? with
   | some fn=>some (aJ (env ex 22) fn true hs 400)
   | none=>none
 | false=>ex f
theorem kT {ex:Nat->Option Sum} (hex:∀ f S,ex f=some S->∀ Γ:Env,Γ.aR=aA->aF Tryz.prog Γ f S) (f0:Nat) (hs:List Bool):∀ f S,zS ex f0 hs f=some S->∀ Γ:Env,Γ.aR=aA->aF Tryz.prog Γ f S:=by
 intro f S h Γ hg
 unfold zS at h
 split at h
 .rename_i e
  rw [cM e]
  split at h
  .rename_i fn sR
   cases h
   exact (aM (bL ex 22) (bS ex hex 22) mix sR (names f0 fn sR) true hs 400).aR (by rw [hg];rfl)
  .cases h
 .exact hex f S h Γ hg
noncomputable def dI (ex:Nat->Option Sum) (f0:Nat) (S0:Sum) (f:Nat):Option Sum:=match Nat.beq f f0 with
 | true=>some S0
 | false=>ex f
theorem bD {ex:Nat->Option Sum} (hex:∀ f S,ex f=some S->∀ Γ:Env,Γ.aR=aA->aF Tryz.prog Γ f S) (f0:Nat) (S0:Sum) (h0:∀ Γ:Env,Γ.aR=aA->aF Tryz.prog Γ f0 S0):∀ f S,dI ex f0 S0 f=some S->∀ Γ:Env,Γ.aR=aA->aF Tryz.prog Γ f S:=by
 intro f S h Γ hg
 unfold dI at h
 split at h
 .rename_i e;cases h;rw [cM e];exact h0 Γ hg
 .exact hex f S h Γ hg
noncomputable def orB (ex:Nat->Option Sum) (f0:Nat) (S0:Sum):Sum:=match Tryz.prog.funcs[f0]? with
 | some fn=>orS S0 (aJ (env ex 22) fn true [] 400)
 | none=>S0
theorem ES {ex:Nat->Option Sum} (hex:∀ f S,ex f=some S->∀ Γ:Env,Γ.aR=aA->aF Tryz.prog Γ f S) (f0:Nat) (S0:Sum) (h0:∀ Γ:Env,Γ.aR=aA->aF Tryz.prog Γ f0 S0):∀ Γ:Env,Γ.aR=aA->aF Tryz.prog Γ f0 (orB ex f0 S0):=by
 intro Γ hg
 unfold orB
 split
 .rename_i fn sR
  exact ER (h0 Γ hg) ((aM (bL ex 22) (bS ex hex 22) mix sR (names f0 fn sR) true [] 400).aR (by rw [hg];rfl))
 .exact h0 Γ hg
theorem uT {i:Nat} (h:i<1000000):IntKind.i64.wrap ((i:Int)+1)=((i+1:Nat):Int):=by rw [IntWalk.i64_in _ (by omega)];omega
theorem QQ {xs b:List Int} {t:TypeId} {off:Nat} (hb:b.length=64) (hx:off+64<=xs.length) :
 aE Tryz.prog yX 84 (aAx off b) (sO xs t) 100 100 { val:=.eF [],wr:=[(60,.ints .u8 (Q.qW off 64 (b.getD · 0) xs) t)] }:=by
 have aW:=Gt
 have aY:=Gu
 refine iE aW aY Tryz.func84 (by kernel_rfl) rfl (kJ (by kernel_rfl)) rfl [] ?_
 intro w0 M V0 Q' fB H
 refine G.hZ aW aY mix fB [] (aQg xs xs b b t off off 0) (aB ?_) ?_
 .exact ⟨rfl,rfl,⟨rfl,rfl⟩,⟨rfl,rfl⟩,trivial⟩
 refine G.loop (fun r s=>∃ i:Nat,i<=64/\r=64-i/\s=cG (Mv off i) (Mu (Q.Z off 64 (fun m=>decide (m<i)) (b.getD · 0) xs) b t) 101 [60] []) (r0:=64) ⟨0,by omega,rfl,?_⟩ ?_
 .rw [Q.kU (P':=fun _=>false) _ _ fun m _=>nD (by omega),Q.FX];rfl
 rintro r s ⟨i,hi,rfl,rfl⟩
 have hl:=Q.Ln off 64 (fun m=>decide (m<i)) (b.getD · 0) xs
 by_cases h:i<64
 .refine G.pN aW aY mix fB [true] (aQf xs _ (Q.Z off 64 (fun m=>decide (m<i+1)) (b.getD · 0) xs) b b t off off i ((i+1:Nat):Int)) (aB ?_) (64-(i+1)) (by omega) ⟨i+1,by omega,rfl,rfl⟩
  have e1:off+(i:Int).toNat*1=off+i:=by omega
  refine ⟨by rw [hl];omega,by omega,by rw [hb];omega,by omega,by rw [hl];omega,by omega,decide_eq_true (by omega),rfl,uT (by omega),⟨?_,rfl⟩,⟨rfl,rfl⟩,trivial⟩
  rw [e1,Nat.add_zero,show 0+(i:Int).toNat*1+0=i by omega]
  rw [show b.getD i 0=(fun j=>b.getD j 0) i from rfl,Q.aAv h (by omega) (nD (by omega))]
  refine Q.kU _ _ fun m hm=>?_
  rw [Bool.eq_iff_iff]
  simp only [Bool.or_eq_true,decide_eq_true_eq,beq_iff_eq]
  omega
 .have e:i=64:=by omega
  subst e
  refine G.hZ aW aY mix fB [false] (aQe xs _ (Q.Z off 64 (fun m=>decide (m<64)) (b.getD · 0) xs) b b t off off (64:Nat) (64:Nat)) (aB ?_) (G.leave (by simp) ?_)
  .exact ⟨nD (by omega),rfl,rfl,⟨rfl,rfl⟩,⟨rfl,rfl⟩,trivial⟩
  refine G.sX (cl:=[]) aW aY mix [] H (aQd xs _ b t off (64:Nat)) gM rfl rfl ?_
  rw [Q.kU (P':=fun _=>true) _ _ fun m hm=>decide_eq_true (by omega),Q.aAw]
theorem WK {xs s:List Int} {t:TypeId} {off:Nat} (hs:s.length=16) (hx:off+256<=xs.length) :
 aE Tryz.prog yX 83 (PN off s) (sO xs t) 100 100 { val:=.eF [],wr:=[(60,.ints .u8 (Q.qW off 256 (Q.iK s) xs) t)] }:=by
 have aW:=Gt
 have aY:=Gu
 have PM:=Q.Qo s
 refine iE aW aY Tryz.func83 (by kernel_rfl) rfl (kJ (by kernel_rfl)) rfl [] ?_
 intro w0 M V0 Q' fB H
 refine G.hZ aW aY mix fB [] (aUj xs xs s (Q.iU s) (Q.iU s) t off off 0) (aB ?_) ?_
 .exact ⟨rfl,rfl,⟨rfl,rfl⟩,⟨rfl,rfl⟩,(dU PM).symm,trivial⟩
 refine G.loop (fun r s'=>∃ i:Nat,i<=10/\r=10-i/\s'=cG (Iw off i) (Iu xs (Q.iU s) (Q.it (Q.iU s) i) t) 102 [60] []) (r0:=10) ⟨0,by omega,rfl,rfl⟩ ?_
 rintro r s' ⟨i,hi,rfl,rfl⟩
 by_cases h:i<10
 .refine G.pN aW aY mix fB [true] (aUi xs xs xs (Q.iU s) (Q.it (Q.iU s) i) (Q.iU s) (Q.it (Q.iU s) (i+1)) t off off i ((i+1:Nat):Int)) (aB ?_) (10-(i+1)) (by omega) ⟨i+1,by omega,rfl,rfl⟩
  exact ⟨decide_eq_true (by omega),rfl,uT (by omega),⟨rfl,rfl⟩,⟨rfl,rfl⟩,(dU (Q.Es _ PM (i+1))).symm,trivial⟩
 have e:i=10:=by omega
 subst e
 clear hi h
 have hv:=Q.Es _ PM 10
 refine G.hZ aW aY mix fB [false] (aUh xs xs xs (Q.iU s) (Q.it (Q.iU s) 10) (Q.iU s) (Q.it (Q.iU s) 10) t off off (10:Nat) (10:Nat)) (aB ?_) (G.leave (by simp) ?_)
 .exact ⟨nD (by omega),rfl,rfl,⟨rfl,rfl⟩,⟨rfl,rfl⟩,rfl,trivial⟩
 refine G.hZ aW aY mix fB [] (aUg xs xs xs (Q.iU s) (Q.it (Q.iU s) 10) (Q.iU s) (Q.it (Q.iU s) 10) t off off (10:Nat) 0) (aB ?_) ?_
 .exact ⟨rfl,rfl,⟨rfl,rfl⟩,⟨rfl,rfl⟩,⟨dU hv,rfl⟩,trivial⟩
 refine G.loop (fun r s'=>∃ i:Nat,i<=16/\r=16-i/\s'=cG (Iv off i) (rN (Q.Z off 256 (Q.dn i 0) (Q.iK s) xs) (Q.iU s) (Q.it (Q.iU s) 10) t) 102 [60] []) (r0:=16) ⟨0,by omega,rfl,by rw [Q.aVd];rfl⟩ ?_
 rintro r s' ⟨i,hi,rfl,rfl⟩
 by_cases h:i<16
 .refine G.hZ aW aY mix fB [true] (aUd xs _ (Q.Z off 256 (Q.dn i 0) (Q.iK s) xs) (Q.iU s) (Q.it (Q.iU s) 10) (Q.iU s) (Q.it (Q.iU s) 10) t off off i i 0) (aB ?_) ?_
  .exact ⟨decide_eq_true (by omega),rfl,rfl,rfl,rfl,⟨rfl,rfl⟩,⟨rfl,rfl⟩,⟨rfl,rfl⟩,trivial⟩
  refine G.loop (fun r s'=>∃ k:Nat,k<=4/\r=4-k/\s'=cG (Nf off i k) (rN (Q.Z off 256 (Q.dn i k) (Q.iK s) xs) (Q.iU s) (Q.it (Q.iU s) 10) t) 102 [60] []) (r0:=4) ⟨0,by omega,rfl,rfl⟩ ?_
  rintro r s' ⟨k,hk,rfl,rfl⟩
  have hl:=Q.Ln off 256 (Q.dn i k) (Q.iK s) xs
  by_cases h4:k<4
  .refine G.pN aW aY mix fB [true] (aUc xs _ (Q.Z off 256 (Q.dn i (k+1)) (Q.iK s) xs) (Q.iU s) (Q.it (Q.iU s) 10) (Q.iU s) (Q.it (Q.iU s) 10) t off off i i k ((k+1:Nat):Int)) ?_ (4-(k+1)) (by omega) ⟨k+1,by omega,rfl,rfl⟩
   have ho:∀ n,n<=4->∀ r:List Prop,(∀ q∈r,q)->∀ q∈Q.ob off (Q.it (Q.iU s) 10) (Q.iU s) i k (Q.Z off 256 (Q.dn i k) (Q.iK s) xs) n r,q:=by
    intro n
    induction n with
    | zero=>intro _ r hr;exact hr
    | succ n ih=>
      intro hn r hr
      have e1:=Q.aAu off h h4 (n:=n) (by omega)
      have e2:=Q.aAh h h4 (n:=n) (by omega)
      have e3:=Q.Lo off (Q.it (Q.iU s) 10) (Q.iU s) i k (Q.Z off 256 (Q.dn i k) (Q.iK s) xs) n
      rw [Q.ob,e1,e2,e3,hl]
      exact aN (by omega) (aN (by omega) (aN (by omega) (aN (by omega) (ih (by omega) r hr))))
   refine ho 4 (dF 4) _ (aB ?_)
   refine ⟨by rw [PM];omega,by omega,by omega,by rw [hv];omega,by omega,by omega,decide_eq_true (by omega),rfl,rfl,rfl,uT (by omega),⟨Q.aVz hs h h4 hx,rfl⟩,⟨rfl,rfl⟩,⟨rfl,rfl⟩,trivial⟩
  .have e:k=4:=by omega
   subst e
   refine G.hZ aW aY mix fB [false] (aUb xs _ (Q.Z off 256 (Q.dn i 4) (Q.iK s) xs) (Q.iU s) (Q.it (Q.iU s) 10) (Q.iU s) (Q.it (Q.iU s) 10) t off off i i (4:Nat) (4:Nat)) (aB ?_) (G.leave (by simp) ?_)
   .exact ⟨nD (by omega),rfl,rfl,rfl,rfl,⟨rfl,rfl⟩,⟨rfl,rfl⟩,⟨rfl,rfl⟩,trivial⟩
   refine G.pN aW aY mix fB [] (aUa xs _ (Q.Z off 256 (Q.dn (i+1) 0) (Q.iK s) xs) (Q.iU s) (Q.it (Q.iU s) 10) (Q.iU s) (Q.it (Q.iU s) 10) t off off i ((i+1:Nat):Int) (4:Nat)) (aB ?_) (16-(i+1)) (by omega) ⟨i+1,by omega,rfl,rfl⟩
   exact ⟨rfl,uT (by omega),⟨Q.XU _ _ _ _,rfl⟩,⟨rfl,rfl⟩,⟨rfl,rfl⟩,trivial⟩
 .have e:i=16:=by omega
  subst e
  refine G.hZ aW aY mix fB [false] (aUf xs _ (Q.Z off 256 (Q.dn 16 0) (Q.iK s) xs) (Q.iU s) (Q.it (Q.iU s) 10) (Q.iU s) (Q.it (Q.iU s) 10) t off off (16:Nat) (16:Nat)) (aB ?_) (G.leave (by simp) ?_)
  .exact ⟨nD (by omega),rfl,rfl,⟨rfl,rfl⟩,⟨rfl,rfl⟩,⟨rfl,rfl⟩,trivial⟩
  refine G.sX (cl:=[]) aW aY mix [] H (aUe xs _ (Q.iU s) (Q.it (Q.iU s) 10) t off (16:Nat)) gM rfl rfl ?_
  rw [Q.aPk]
namespace Q
def one (s:List Int):List Int:=B.out (B.rounds 10 s) s
def x4 (off:Nat) (s xs:List Int):List Int:=qW off 256 (iK s) xs
def tn (off:Nat) (b xs:List Int):List Int:=qW off 64 (b.getD · 0) xs
end Q
theorem RC (V:bA) (key aC:List Int) (c:Int):den V (.agg (siV key aC c))=den V (.ai .u32 (B.init key aC c)):=rfl
theorem QX (key aC:List Int) (c:Int) (hk:key.length=32) (hn:aC.length=12) (Γ:Env) (hg:Γ.aR=aA) :
 aE Tryz.prog Γ 79 [.ai .u8 key,.int false .u32 c,.ai .u8 aC] Cb 100 100 { val:=.ai .u32 (B.init key aC c) }:=by
 have hs:aF Tryz.prog (env fF 4) 79 (aJ (env fF 4) Tryz.f79 true [] 400):=aM (bL fF 4) (lY 4) mix Tryz.func79 (by kernel_rfl) true [] 400
 refine (hs.call (aDl key aC c) gM).words (by rw [hg];rfl) (fun V=>?_) (fun _ _ h=>h) (fun V=>RC V _ _ _) rfl rfl
 simp only [aI,bF V hk,bF V hn]
theorem GU (s:List Int) (hl:s.length=16) (Γ:Env) (hg:Γ.aR=aA):aE Tryz.prog Γ 85 [.ai .u32 s] Cb 100 100 { val:=.ai .u8 (Q.one s) }:=by
 have hs:aF Tryz.prog (env fF 4) 85 (aJ (env fF 4) Tryz.f85 true [] 400):=aM (bL fF 4) (lY 4) mix Tryz.func85 (by kernel_rfl) true [] 400
 have h:=hs.call (TZ s) gM
 rw [dU hl] at h
 refine h.words (by rw [hg];rfl) (fun V=>?_) (fun _ _ h=>h) (fun V=>mD V _ _) rfl rfl
 simp only [aI,bF V hl]
theorem HO (s b:Bool) (Γ:Env) (hg:Γ.aR=aA):aE Tryz.prog Γ 80 [.raw (.pointer none),.bool s b] Cb 100 100 { val:=.bool s b }:=by
 have hs:aF Tryz.prog (env fF 2) 80 (aJ (env fF 2) Tryz.f80 true [] 400):=aM (bL fF 2) (lY 2) mix Tryz.func80 (by kernel_rfl) true [] 400
 have h1:aJ (env fF 2) Tryz.f80 true [] 400 [.raw (.pointer none),.bool true true] (fun _=>none) 100 100=some { val:=.bool true true }:=by kernel_rfl
 have h2:aJ (env fF 2) Tryz.f80 true [] 400 [.raw (.pointer none),.bool true false] (fun _=>none) 100 100=some { val:=.bool true false }:=by kernel_rfl
 cases b with
 | true=>exact (hs.call h1 gM).words (by rw [hg];rfl) (fun _=>rfl) (fun _ _ h=>by cases h) (fun _=>rfl) rfl rfl
 | false=>exact (hs.call h2 gM).words (by rw [hg];rfl) (fun _=>rfl) (fun _ _ h=>by cases h) (fun _=>rfl) rfl rfl
def rY (vs:List SV) (_:bB):Option Canon:=match vs with
 | [.raw (.pointer none),.bool s b]=>some { eN:=[.raw (.pointer none),.bool s b],T0:=[],vl:=[],e0:={ val:=.bool s b } }
 | _=>none
theorem As (Γ:Env) (hg:Γ.aR=aA):aF Tryz.prog Γ 80 (aL aA 100 rY):=by
 refine aU hg fun vs T c hd hc=>?_
 unfold rY at hd
 split at hd
 case h_2=>cases hd
 cases hd
 exact HO _ _ Γ hg
def BC (si:List Int->List Int->Int->List Int) (vs:List SV) (_:bB):Option Canon:=match vs with
 | [ks,.int _ .u32 c,ns]=>match cJ ks,cJ ns with
   | some (.u8,k),some (.u8,n)=>some { eN:=[.ai .u8 k,.int false .u32 c,.ai .u8 n],T0:=[],vl:=[],e0:={ val:=.ai .u32 (si k n c) },conds:=[si k n c=B.init k n c,k.length=32,n.length=12] }
   | _,_=>none
 | _=>none
theorem aDk (si:List Int->List Int->Int->List Int) (Γ:Env) (hg:Γ.aR=aA):aF Tryz.prog Γ 79 (aL aA 100 (BC si)):=by
 refine aU hg fun vs T c hd hc=>?_
 unfold BC at hd
 split at hd
 case h_2=>cases hd
 split at hd
 case h_2=>cases hd
 cases hd
 have e:=hc _ dB
 rw [e]
 exact QX _ _ _ (hc _ (eK _ dB)) (hc _ (eK _ (eK _ dB))) Γ hg
def Nt (on:List Int->List Int) (vs:List SV) (_:bB):Option Canon:=match vs with
 | [v]=>match cJ v with
   | some (.u32,s)=>some { eN:=[.ai .u32 s],T0:=[],vl:=[],e0:={ val:=.ai .u8 (on s) },conds:=[on s=Q.one s,s.length=16] }
   | _=>none
 | _=>none
theorem aFf (on:List Int->List Int) (Γ:Env) (hg:Γ.aR=aA):aF Tryz.prog Γ 85 (aL aA 100 (Nt on)):=by
 refine aU hg fun vs T c hd hc=>?_
 unfold Nt at hd
 split at hd
 case h_2=>cases hd
 split at hd
 case h_2=>cases hd
 cases hd
 have e:=hc _ dB
 have h:=GU _ (hc _ (eK _ dB)) Γ hg
 rw [<- e] at h
 exact h
def CX (x4:Nat->List Int->List Int->List Int) (vs:List SV) (T:bB):Option Canon:=match vs with
 | [v,.ptr l _ off]=>match cJ v,T l with
   | some (.u32,s),some B=>match Ea B with
     | some (.u8,xs,t)=>some { eN:=[.ai .u32 s,.ptr 60 false off],T0:=[(60,.ints .u8 xs t)],vl:=[(60,.lab l 0)],e0:={ val:=.eF [],wr:=[(60,.ints .u8 (x4 off s xs) t)] },conds:=[x4 off s xs=Q.x4 off s xs,s.length=16,off+256<=xs.length] }
     | _=>none
   | _,_=>none
 | _=>none
theorem aGo (x4:Nat->List Int->List Int->List Int) (Γ:Env) (hg:Γ.aR=aA):aF Tryz.prog Γ 83 (aL aA 100 (CX x4)):=by
 refine aU hg fun vs T c hd hc=>?_
 unfold CX at hd
 split at hd
 case h_2=>cases hd
 split at hd
 case h_2=>cases hd
 split at hd
 case h_2=>cases hd
 cases hd
 have e:=hc _ dB
 have hl:=hc _ (eK _ dB)
 rw [e]
 exact (WK hl (hc _ (eK _ (eK _ dB)))).words (by rw [hg];rfl) (fun V=>by simp only [PN,aI,bF V hl]) (fun _ _ h=>h) (fun _=>rfl) rfl rfl
def AY (tn:Nat->List Int->List Int->List Int) (vs:List SV) (T:bB):Option Canon:=match vs with
 | [.ptr l _ off,v]=>match cJ v,T l with
   | some (.u8,b),some B=>match Ea B with
     | some (.u8,xs,t)=>some { eN:=[.ptr 60 false off,.ai .u8 b],T0:=[(60,.ints .u8 xs t)],vl:=[(60,.lab l 0)],e0:={ val:=.eF [],wr:=[(60,.ints .u8 (tn off b xs) t)] },conds:=[tn off b xs=Q.tn off b xs,b.length=64,off+64<=xs.length] }
     | _=>none
   | _,_=>none
 | _=>none
theorem aDh (tn:Nat->List Int->List Int->List Int) (Γ:Env) (hg:Γ.aR=aA):aF Tryz.prog Γ 84 (aL aA 100 (AY tn)):=by
 refine aU hg fun vs T c hd hc=>?_
 unfold AY at hd
 split at hd
 case h_2=>cases hd
 split at hd
 case h_2=>cases hd
 split at hd
 case h_2=>cases hd
 cases hd
 have e:=hc _ dB
 rw [e]
 exact (QQ (hc _ (eK _ dB)) (hc _ (eK _ (eK _ dB)))).words (by rw [hg];rfl) (fun _=>rfl) (fun _ _ h=>h) (fun _=>rfl) rfl rfl
noncomputable def aKu (si:List Int->List Int->Int->List Int) (x4 tn:Nat->List Int->List Int->List Int) (on:List Int->List Int):Nat->Option Sum:=
 dI (dI (dI (dI (dI fF 80 (aL aA 100 rY)) 79 (aL aA 100 (BC si))) 85 (aL aA 100 (Nt on))) 83 (aL aA 100 (CX x4))) 84 (aL aA 100 (AY tn))
theorem fV:∀ f S,fF f=some S->∀ Γ:Env,Γ.aR=aA->aF Tryz.prog Γ f S:=fun f S h Γ _=>sB f S h Γ
theorem WZ (si:List Int->List Int->Int->List Int) (x4 tn:Nat->List Int->List Int->List Int) (on:List Int->List Int):∀ f S,aKu si x4 tn on f=some S->∀ Γ:Env,Γ.aR=aA->aF Tryz.prog Γ f S:=
 bD (bD (bD (bD (bD fV 80 _ As) 79 _ (aDk si)) 85 _ (aFf on)) 83 _ (aGo x4)) 84 _ (aDh tn)
namespace P
def W (n:Int):Int:=IntKind.u64.wrap n
def sh (n:Int):Int:=bU .u64 n 26
def lo (n:Int):Int:=bR .u64 n 67108863
def c1 (x:List Int):Int:=W (x.getD 1 0+sh (x.getD 0 0))
def c2 (x:List Int):Int:=W (x.getD 2 0+sh (c1 x))
def c3 (x:List Int):Int:=W (x.getD 3 0+sh (c2 x))
def c4 (x:List Int):Int:=W (x.getD 4 0+sh (c3 x))
def pass (x:List Int):List Int:=[W (lo (x.getD 0 0)+W (5*sh (c4 x))),lo (c1 x),lo (c2 x),lo (c3 x),lo (c4 x)]
def settled (x:List Int):List Int:=pass (pass x)
theorem mF (x:List Int):(settled x).length=5:=rfl
def word (a b c d:Int):Int:=jQ .u64 (jQ .u64 (jQ .u64 (W a) (cZ .u64 (W b) 8)) (cZ .u64 (W c) 16)) (cZ .u64 (W d) 24)
def jJ (b:List Int):List Int:=[lo (word (b.getD 0 0) (b.getD 1 0) (b.getD 2 0) (b.getD 3 0)),lo (bU .u64 (word (b.getD 3 0) (b.getD 4 0) (b.getD 5 0) (b.getD 6 0)) 2),
 lo (bU .u64 (word (b.getD 6 0) (b.getD 7 0) (b.getD 8 0) (b.getD 9 0)) 4),bU .u64 (word (b.getD 9 0) (b.getD 10 0) (b.getD 11 0) (b.getD 12 0)) 6,word (b.getD 13 0) (b.getD 14 0) (b.getD 15 0) (b.getD 16 0)]
def num (b:List Int):List Int:=settled (jJ b)
def Gp (b:List Int) (i:Nat):Int:=match i%4 with
 | 3=>bR .u8 (b.getD i 0) 15
 | 0=>match i with
   | 0=>b.getD i 0
   | _=>bR .u8 (b.getD i 0) 252
 | _=>b.getD i 0
def dE (b:List Int):List Int:=(List.range 16).map (Gp b)++[0]
def Jh (a b:List Int):List Int:=(List.range 5).map fun j=>W (a.getD j 0+b.getD j 0)
def add (a b:List Int):List Int:=settled (Jh a b)
def rW (a b:List Int) (i:Nat):Nat->List Int->List Int
 | 0,d=>d
 | k+1,d=>(rW a b i k d).set (i+k) (W ((rW a b i k d).getD (i+k) 0+W (a.getD i 0*b.getD k 0)))
def PD (a b:List Int):Nat->List Int
 | 0=>List.replicate 10 0
 | i+1=>rW a b i 5 (PD a b i)
def mulL (a b:List Int):List Int:=(List.range 5).map fun j=>W ((PD a b 5).getD j 0+W (5*(PD a b 5).getD (j+5) 0))
def mul (a b:List Int):List Int:=settled (mulL a b)
end P
namespace P
def g0 (t:List Int):Int:=W (t.getD 0 0+5)
def g1 (t:List Int):Int:=W (t.getD 1 0+sh (g0 t))
def g2 (t:List Int):Int:=W (t.getD 2 0+sh (g1 t))
def g3 (t:List Int):Int:=W (t.getD 3 0+sh (g2 t))
def g4 (t:List Int):Int:=W (t.getD 4 0+sh (g3 t))
def pick (x a b:Int):Int:=gW .u64 b (bR .u64 (W (0-bR .u64 x 1)) (gW .u64 a b))
def vT (t:List Int):List Int:=[pick (sh (g4 t)) (lo (g0 t)) (t.getD 0 0),pick (sh (g4 t)) (lo (g1 t)) (t.getD 1 0),pick (sh (g4 t)) (lo (g2 t)) (t.getD 2 0),pick (sh (g4 t)) (lo (g3 t)) (t.getD 3 0),pick (sh (g4 t)) (lo (g4 t)) (t.getD 4 0)]
def least (a:List Int):List Int:=vT (settled a)
def low (t:List Int):Int:=jQ .u64 (jQ .u64 (t.getD 0 0) (cZ .u64 (t.getD 1 0) 26)) (cZ .u64 (t.getD 2 0) 52)
def high (t:List Int):Int:=jQ .u64 (jQ .u64 (bU .u64 (t.getD 2 0) 12) (cZ .u64 (t.getD 3 0) 14)) (cZ .u64 (t.getD 4 0) 40)
def byteOf (x:Int) (i:Nat):Int:=IntKind.u8.wrap (bU .u64 x (8*(i:Int)))
def kG (t:List Int):List Int:=(List.range 8).map (byteOf (low t))++((List.range 8).map (byteOf (high t))++[IntKind.u8.wrap (bU .u64 (t.getD 4 0) 24)])
def acc (b:List Int) (k:Nat):Nat->Int
 | 0=>0
 | i+1=>jQ .u64 (acc b k i) (cZ .u64 (W (b.getD (k+i) 0)) (8*(i:Int)))
def AZ (b s:List Int):Int:=(acc b 0 8+acc s 0 8+0)%18446744073709551616
def BA (b s:List Int):Int:=(acc b 8 8+acc s 8 8+(acc b 0 8+acc s 0 8+0)/18446744073709551616)%18446744073709551616
def aAz (b s:List Int):List Int:=(List.range 8).map (byteOf (AZ b s))++(List.range 8).map (byteOf (BA b s))
end P
def P.tag (a s:List Int):List Int:=P.aAz (P.kG (P.least a)) s
structure P.MS where
 eG:List Int
 sum:List Int
 mask:List Int
 aT:List Int
 held:Nat
def P.plus (s b y:List Int):List Int:=P.mul (P.add s (P.num b)) y
namespace P
def mI:List Int:=List.replicate 16 0
def byte (S:MS) (c:Int):MS:=
 if S.held=15 then ⟨S.eG,plus S.sum (S.aT.set S.held c++[1]) S.eG,S.mask,mI,0⟩
 else ⟨S.eG,S.sum,S.mask,S.aT.set S.held c,S.held+1⟩
def put (S:MS) (d:List Int):MS:=d.foldl byte S
theorem TP (S:MS):put S []=S:=rfl
theorem kR (S:MS) (a b:List Int):put S (a++b)=put (put S a) b:=List.foldl_append
structure MS.WF (S:MS):Prop where
 b5:S.eG.length=5
 s5:S.sum.length=5
 Mj:S.mask.length=16
 Mk:S.aT.length=16
 hl:S.held<16
 z:S.aT.drop S.held=List.replicate (16-S.held) 0
theorem YA {S:MS} (h:S.WF) (c:Int):(byte S c).WF:=by
 obtain ⟨eG,sum,mask,aT,held⟩:=S
 obtain ⟨h1,h2,h3,h4,h5,h6⟩:=h
 simp only at h1 h2 h3 h4 h5 h6
 unfold byte
 simp only
 split
 .exact ⟨h1,rfl,h3,rfl,by simp only;omega,rfl⟩
 .refine ⟨h1,h2,h3,by simpa using h4,by simp only;omega,?_⟩
  simp only
  have e:(aT.set held c).drop (held+1)=aT.drop (held+1):=by
   rw [List.drop_set];simp
  rw [e,<- List.drop_drop,h6,List.drop_replicate]
  congr 1
theorem Gd {S:MS} (h:S.WF) (d:List Int):(put S d).WF:=by
 induction d generalizing S with
 | nil=>exact h
 | cons c d ih=>exact ih (YA h c)
theorem tO (eG sum mask:List Int):∀ (d aT:List Int) (held:Nat),aT.length=16->held+d.length<16 ->
 put ⟨eG,sum,mask,aT,held⟩ d=⟨eG,sum,mask,aT.take held++d++aT.drop (held+d.length),held+d.length⟩
 | [],aT,held,hb,_=>by simp [put]
 | c::d,aT,held,hb,hl=>by
   rw [List.length_cons] at hl
   have e:put ⟨eG,sum,mask,aT,held⟩ (c::d)=put ⟨eG,sum,mask,aT.set held c,held+1⟩ d:=by
    show put (byte _ c) d=_
    unfold byte
    rw [if_neg (by simp only;omega)]
   rw [e,tO eG sum mask d (aT.set held c) (held+1) (by simpa using hb) (by omega)]
   have e1:(aT.set held c).take (held+1)=aT.take held++[c]:=by
    rw [List.take_set,List.take_add_one,List.getElem?_eq_getElem (show held<aT.length by omega)]
    apply List.ext_getElem
    .simp;omega
    .intro i h1 h2
     simp only [List.length_set,List.length_append,List.length_take,List.length_cons,List.length_nil] at h1 h2
     by_cases hi:i=held
     .subst hi;simp [List.getElem_append];omega
     .rw [List.getElem_set_ne (by omega)]
      have:i<held:=by simp at h1;omega
      simp [List.getElem_append]
      intro h;omega
   have e2:(aT.set held c).drop (held+1+d.length)=aT.drop (held+1+d.length):=by
    rw [List.drop_set,if_pos (by omega)]
   rw [e1,e2,List.length_cons]
   simp only [List.append_assoc,List.cons_append,oR,show held+1+d.length=held+(d.length+1) by omega]
theorem Bd (eG sum mask:List Int) (d aT:List Int) (held:Nat) (hb:aT.length=16) (hl:held+d.length=16) (hd:d≠[]) :
 put ⟨eG,sum,mask,aT,held⟩ d=⟨eG,plus sum (aT.take held++d++[1]) eG,mask,mI,0⟩:=by
 obtain ⟨a,c,rfl⟩:∃ a c,d=a++[c]:=⟨d.dropLast,d.getLast hd,(List.dropLast_concat_getLast hd).symm⟩
 rw [List.length_append,List.length_singleton] at hl
 rw [kR,tO eG sum mask a aT held hb (by omega)]
 show byte _ c=_
 unfold byte
 rw [if_pos (by simp only;omega)]
 simp only
 have e:(aT.take held++a++aT.drop (held+a.length)).set (held+a.length) c=aT.take held++(a++[c]):=by
  have cL:(aT.take held++a).length=held+a.length:=by simp;omega
  obtain ⟨z,hz⟩:∃ z,aT.drop (held+a.length)=[z]:=by
   have:(aT.drop (held+a.length)).length=1:=by simp;omega
   match aT.drop (held+a.length),this with
   | [z],_=>exact ⟨z,rfl⟩
  rw [hz,List.set_append_right _ _ (by omega),cL,Nat.sub_self]
  simp
 rw [e]
end P
theorem aQk (x:List Int):aJ (env fF 3) Tryz.f193 true [] 1500 [.agg (cK .u64 5 x)] Cb 100 100=some { val:=.agg ((P.settled x).map (.int false .u64)) }:=by kernel_rfl
theorem QW (x:List Int) (hl:x.length=5) (Γ:Env) (hg:Γ.aR=aA):aE Tryz.prog Γ 193 [.ai .u64 x] Cb 100 100 { val:=.agg (cK .u64 5 (P.settled x)) }:=by
 have hs:aF Tryz.prog (env fF 3) 193 (aJ (env fF 3) Tryz.f193 true [] 1500):=aM (bL fF 3) (bS fF (fun f S h Γ _=>sB f S h Γ) 3) mix Tryz.func193 (by kernel_rfl) true [] 1500
 refine (hs.call (aQk x) (by simp)).words (by rw [hg];rfl) (fun V=>?_) (fun _ _ h=>h) (fun V=>(mD V _ _).trans (bF V rfl).symm) rfl rfl
 simp only [aI,bF V hl]
def BB (fJ:List Int->List Int) (vs:List SV) (_:bB):Option Canon:=match vs with
 | [v]=>match cJ v with
   | some (.u64,x)=>some { eN:=[.ai .u64 x],T0:=[],vl:=[],e0:={ val:=.agg (cK .u64 5 (fJ x)) },conds:=[x.length=5,fJ x=P.settled x] }
   | _=>none
 | _=>none
theorem aDj (fJ:List Int->List Int) (Γ:Env) (hg:Γ.aR=aA):aF Tryz.prog Γ 193 (aL aA 100 (BB fJ)):=by
 refine aU hg fun vs T c hd hc=>?_
 unfold BB at hd
 split at hd
 case h_2=>cases hd
 split at hd
 case h_2=>cases hd
 cases hd
 have e:=hc _ (eK _ dB)
 have h:=QW _ (hc _ dB) Γ hg
 rw [<- e] at h
 exact h
noncomputable def Ni (fJ:List Int->List Int):Nat->Option Sum:=dI fF 193 (aL aA 100 (BB fJ))
theorem WX (fJ:List Int->List Int):∀ f S,Ni fJ f=some S->∀ Γ:Env,Γ.aR=aA->aF Tryz.prog Γ f S:=bD fV 193 _ (aDj fJ)
def pOb (fJ:List Int->List Int) (Y:List Int):List Prop:=[Y.length=5,fJ Y=P.settled Y,Y=Y]
def pV (fJ:List Int->List Int) (Y:List Int):SV:=.agg (cK .u64 5 (fJ Y))
theorem aVp (fJ:List Int->List Int) (b:List Int):aJ (env (Ni fJ) 4) Tryz.f163 true [] 1500 [.agg (cK .u8 17 b)] Cb 100 100=some { bO:=pOb fJ (P.jJ b),val:=pV fJ (P.jJ b) }:=by kernel_rfl
theorem aVm (fJ:List Int->List Int) (b:List Int):aJ (env (Ni fJ) 4) Tryz.f129 true [] 1500 [.agg (cK .u8 16 b)] Cb 100 100=some { bO:=pOb fJ (P.jJ (P.dE b)),val:=pV fJ (P.jJ (P.dE b)) }:=by kernel_rfl
theorem aRh (fJ:List Int->List Int) (a b:List Int):aJ (env (Ni fJ) 4) Tryz.f162 true [] 1500 [.raw (.pointer none),.agg (cK .u64 5 a),.agg (cK .u64 5 b)] Cb 100 100=some { bO:=pOb fJ (P.Jh a b),val:=pV fJ (P.Jh a b) }:=by kernel_rfl
theorem aRf (fJ:List Int->List Int) (a b:List Int):aJ (env (Ni fJ) 4) Tryz.f161 true [] 1500 [.raw (.pointer none),.agg (cK .u64 5 a),.agg (cK .u64 5 b)] Cb 100 100=some { bO:=pOb fJ (P.mulL a b),val:=pV fJ (P.mulL a b) }:=by kernel_rfl
theorem Ap {Y:List Int} (h:Y.length=5):∀ q∈pOb P.settled Y,q:=aB (l:=pOb P.settled Y) (show _/\_/\_/\True from ⟨h,rfl,rfl,trivial⟩)
theorem Rh (V:bA) (Y:List Int):den V (pV P.settled Y)=den V (.ai .u64 (P.settled Y)):=bF V rfl
noncomputable def xF:Env:=env (Ni P.settled) 4
theorem tH:cH Tryz.prog xF:=bS _ (WX _) 4
theorem tG:cA Tryz.prog xF:=bL _ 4
theorem YE (b:List Int) (hl:b.length=17) (Γ:Env) (hg:Γ.aR=aA):aE Tryz.prog Γ 163 [.ai .u8 b] Cb 100 100 { val:=.ai .u64 (P.num b) }:=by
 have hs:aF Tryz.prog xF 163 (aJ xF Tryz.f163 true [] 1500):=aM tG tH mix Tryz.func163 (by kernel_rfl) true [] 1500
 refine (hs.call (aVp _ b) (Ap rfl)).words (by rw [hg];rfl) (fun V=>?_) (fun _ _ h=>h) (fun V=>Rh V _) rfl rfl
 simp only [aI,bF V hl]
theorem LV (b:List Int) (hl:b.length=16) (Γ:Env) (hg:Γ.aR=aA):aE Tryz.prog Γ 129 [.ai .u8 b] Cb 100 100 { val:=.ai .u64 (P.num (P.dE b)) }:=by
 have hs:aF Tryz.prog xF 129 (aJ xF Tryz.f129 true [] 1500):=aM tG tH mix Tryz.func129 (by kernel_rfl) true [] 1500
 refine (hs.call (aVm _ b) (Ap rfl)).words (by rw [hg];rfl) (fun V=>?_) (fun _ _ h=>h) (fun V=>Rh V _) rfl rfl
 simp only [aI,bF V hl]
theorem GS (a b:List Int) (ha:a.length=5) (hb:b.length=5) (Γ:Env) (hg:Γ.aR=aA):aE Tryz.prog Γ 162 [.raw (.pointer none),.ai .u64 a,.ai .u64 b] Cb 100 100 { val:=.ai .u64 (P.add a b) }:=by
 have hs:aF Tryz.prog xF 162 (aJ xF Tryz.f162 true [] 1500):=aM tG tH mix Tryz.func162 (by kernel_rfl) true [] 1500
 refine (hs.call (aRh _ a b) (Ap rfl)).words (by rw [hg];rfl) (fun V=>?_) (fun _ _ h=>h) (fun V=>Rh V _) rfl rfl
 simp only [aI,bF V ha,bF V hb]
theorem GP (a b:List Int) (ha:a.length=5) (hb:b.length=5) (Γ:Env) (hg:Γ.aR=aA):aE Tryz.prog Γ 161 [.raw (.pointer none),.ai .u64 a,.ai .u64 b] Cb 100 100 { val:=.ai .u64 (P.mul a b) }:=by
 have hs:aF Tryz.prog xF 161 (aJ xF Tryz.f161 true [] 1500):=aM tG tH mix Tryz.func161 (by kernel_rfl) true [] 1500
 refine (hs.call (aRf _ a b) (Ap rfl)).words (by rw [hg];rfl) (fun V=>?_) (fun _ _ h=>h) (fun V=>Rh V _) rfl rfl
 simp only [aI,bF V ha,bF V hb]
def agV (x:List Int):SV:=.agg (cK .u64 5 x)
def aiV (x:List Int):SV:=.ai .u64 x
def DV (be:List Int->List Int) (vs:List SV) (_:bB):Option Canon:=match vs with
 | [v]=>match cJ v with
   | some (.u8,b)=>some { eN:=[.ai .u8 b],T0:=[],vl:=[],e0:={ val:=.ai .u64 (be b) },conds:=[b.length=17,be b=P.num b] }
   | _=>none
 | _=>none
def Rt (cp:List Int->List Int) (vs:List SV) (_:bB):Option Canon:=match vs with
 | [v]=>match cJ v with
   | some (.u8,b)=>some { eN:=[.ai .u8 b],T0:=[],vl:=[],e0:={ val:=agV (cp b) },conds:=[b.length=16,cp b=P.num (P.dE b)] }
   | _=>none
 | _=>none
def Ri (wv:List Int->SV) (g g':List Int->List Int->List Int) (vs:List SV) (_:bB):Option Canon:=match vs with
 | [.raw (.pointer none),v,u]=>match cJ v,cJ u with
   | some (.u64,a),some (.u64,b)=>some { eN:=[.raw (.pointer none),.ai .u64 a,.ai .u64 b],T0:=[],vl:=[],e0:={ val:=wv (g a b) },conds:=[a.length=5,b.length=5,g a b=g' a b] }
   | _,_=>none
 | _=>none
theorem aIw (be:List Int->List Int) (Γ:Env) (hg:Γ.aR=aA):aF Tryz.prog Γ 163 (aL aA 100 (DV be)):=by
 refine aU hg fun vs T c hd hc=>?_
 unfold DV at hd
 split at hd
 case h_2=>cases hd
 split at hd
 case h_2=>cases hd
 cases hd
 have e:=hc _ (eK _ dB)
 have h:=YE _ (hc _ dB) Γ hg
 rw [<- e] at h
 exact h
theorem FP (cp:List Int->List Int) (Γ:Env) (hg:Γ.aR=aA):aF Tryz.prog Γ 129 (aL aA 100 (Rt cp)):=by
 refine aU hg fun vs T c hd hc=>?_
 unfold Rt at hd
 split at hd
 case h_2=>cases hd
 split at hd
 case h_2=>cases hd
 cases hd
 have e:=hc _ (eK _ dB)
 have h:=(LV _ (hc _ dB) Γ hg).words (e':={ val:=agV (P.num (P.dE _)) }) rfl (fun _=>rfl) (fun _ _ h=>h) (fun V=>(bF V (P.mF _)).symm) rfl rfl
 rw [<- e] at h
 exact h
theorem aAa {wv:List Int->SV} {g':List Int->List Int->List Int} {f:Nat} (hw:∀ (V:bA) (a b:List Int),den V (.ai .u64 (g' a b))=den V (wv (g' a b))) (g:List Int->List Int->List Int)
 (hN:∀ (a b:List Int),a.length=5->b.length=5->∀ (Γ:Env),Γ.aR=aA->aE Tryz.prog Γ f [.raw (.pointer none),.ai .u64 a,.ai .u64 b] Cb 100 100 { val:=.ai .u64 (g' a b) })
 (Γ:Env) (hg:Γ.aR=aA):aF Tryz.prog Γ f (aL aA 100 (Ri wv g g')):=by
 refine aU hg fun vs T c hd hc=>?_
 unfold Ri at hd
 split at hd
 .split at hd
  case h_2=>cases hd
  cases hd
  have e:=hc _ (eK _ (eK _ dB))
  have h:=(hN _ _ (hc _ dB) (hc _ (eK _ dB)) Γ hg).words (e':={ val:=wv (g' _ _) }) rfl (fun _=>rfl) (fun _ _ h=>h) (fun V=>hw V _ _) rfl rfl
  rw [<- e] at h
  exact h
 .cases hd
noncomputable def aKt (be:List Int->List Int) (al mu:List Int->List Int->List Int):Nat->Option Sum:=dI (dI (dI (dI (dI fF 80 (aL aA 100 rY)) 163 (aL aA 100 (DV be))) 129 (aL aA 100 (Rt fun b=>P.num (P.dE b)))) 162 (aL aA 100 (Ri aiV al P.add))) 161 (aL aA 100 (Ri agV mu P.mul))
theorem WW (be:List Int->List Int) (al mu:List Int->List Int->List Int):∀ f S,aKt be al mu f=some S->∀ Γ:Env,Γ.aR=aA->aF Tryz.prog Γ f S:=
 bD (bD (bD (bD (bD fV 80 _ As) 163 _ (aIw be)) 129 _ (FP _)) 162 _ (aAa (fun _ _ _=>rfl) al GS)) 161 _ (aAa (fun V a b=>(bF V (P.mF _)).symm) mu GP)
theorem aRg (fJ:List Int->List Int) (a:List Int):aJ (env (Ni fJ) 4) Tryz.f195 true [] 1500 [.agg (cK .u64 5 a)] Cb 100 100=some { bO:=pOb fJ ((List.range 5).map fun j=>a.getD j 0),val:=.agg ((P.vT (fJ ((List.range 5).map fun j=>a.getD j 0))).map (.int false .u64)) }:=by kernel_rfl
theorem TT (a:List Int) (ha:a.length=5) (Γ:Env) (hg:Γ.aR=aA):aE Tryz.prog Γ 195 [.ai .u64 a] Cb 100 100 { val:=.agg (cK .u64 5 (P.least a)) }:=by
 have hs:aF Tryz.prog xF 195 (aJ xF Tryz.f195 true [] 1500):=aM tG tH mix Tryz.func195 (by kernel_rfl) true [] 1500
 have e:(List.range 5).map (fun j=>a.getD j 0)=a:=by
  match a,ha with
  | [_,_,_,_,_],_=>rfl
 have h:=aRg P.settled a
 rw [e] at h
 refine (hs.call h (Ap ha)).words (by rw [hg];rfl) (fun V=>?_) (fun _ _ h=>h) (fun V=>(mD V _ _).trans (bF V rfl).symm) rfl rfl
 simp only [aI,bF V ha]
def Nx (mG:List Int->List Int) (vs:List SV) (_:bB):Option Canon:=match vs with
 | [v]=>match cJ v with
   | some (.u64,a)=>some { eN:=[.ai .u64 a],T0:=[],vl:=[],e0:={ val:=.agg (cK .u64 5 (mG a)) },conds:=[a.length=5,mG a=P.least a] }
   | _=>none
 | _=>none
theorem aFv (mG:List Int->List Int) (Γ:Env) (hg:Γ.aR=aA):aF Tryz.prog Γ 195 (aL aA 100 (Nx mG)):=by
 refine aU hg fun vs T c hd hc=>?_
 unfold Nx at hd
 split at hd
 case h_2=>cases hd
 split at hd
 case h_2=>cases hd
 cases hd
 have e:=hc _ (eK _ dB)
 have h:=TT _ (hc _ dB) Γ hg
 rw [<- e] at h
 exact h
noncomputable def PS (mG:List Int->List Int):Nat->Option Sum:=dI fF 195 (aL aA 100 (Nx mG))
theorem WV (mG:List Int->List Int):∀ f S,PS mG f=some S->∀ Γ:Env,Γ.aR=aA->aF Tryz.prog Γ f S:=bD fV 195 _ (aFv mG)
def aBb (b s:List Int):List Prop:=[0<=P.acc b 8 8/\0<=P.acc s 8 8/\0<=(P.acc b 0 8+P.acc s 0 8+0)/18446744073709551616/\(P.acc b 0 8+P.acc s 0 8+0)/18446744073709551616<=1,0<=P.acc b 0 8/\0<=P.acc s 0 8/\(0:Int)<=0/\(0:Int)<=1]
def c5 (a:List Int):List Int:=(List.range 5).map fun j=>a.getD j 0
theorem aRd (mG:List Int->List Int) (a s:List Int):aJ (env (PS mG) 4) Tryz.f132 true [] 3000 [.agg (cK .u64 5 a),.agg (cK .u8 16 s)] Cb 100 100 =
 some { bO:=aBb (P.kG (mG (c5 a))) s++[(c5 a).length=5,mG (c5 a)=P.least (c5 a),c5 a=c5 a],val:=.agg ((P.aAz (P.kG (mG (c5 a))) s).map (.int false .u8)) }:=by kernel_rfl
theorem P.aPq (n:Int):0<=IntKind.u64.wrap n/\IntKind.u64.wrap n<18446744073709551616:=by
 have e:IntKind.u64.wrap n=n%18446744073709551616:=rfl
 rw [e];omega
theorem P.yK (b:List Int) (k:Nat):∀ n,0<=P.acc b k n/\P.acc b k n<18446744073709551616
 | 0=>⟨Int.le_refl 0,(by decide:(0:Int)<18446744073709551616)⟩
 | _+1=>P.aPq _
theorem RB (b s:List Int):∀ q∈aBb b s,q:=by
 have h1:=P.yK b 0 8
 have h2:=P.yK s 0 8
 have h3:=P.yK b 8 8
 have h4:=P.yK s 8 8
 refine aB (l:=aBb b s) (show _/\_/\True from ⟨⟨h3.1,h4.1,?_,?_⟩,⟨h1.1,h2.1,Int.le_refl 0,by decide⟩,trivial⟩)
 .omega
 .omega
theorem TO (a s:List Int) (ha:a.length=5) (Ce:s.length=16) (Γ:Env) (hg:Γ.aR=aA):aE Tryz.prog Γ 132 [.ai .u64 a,.ai .u8 s] Cb 100 100 { val:=.agg (cK .u8 16 (P.tag a s)) }:=by
 have hs:aF Tryz.prog (env (PS P.least) 4) 132 (aJ (env (PS P.least) 4) Tryz.f132 true [] 3000):=aM (bL _ 4) (bS _ (WV _) 4) mix Tryz.func132 (by kernel_rfl) true [] 3000
 have e:c5 a=a:=by
  match a,ha with
  | [_,_,_,_,_],_=>rfl
 have h:=aRd P.least a s
 rw [e] at h
 refine (hs.call h (fun q hq=>(List.mem_append.1 hq).elim (RB _ _ q) (aB (l:=[a.length=5,P.least a=P.least a,a=a]) (show _/\_/\_/\True from ⟨ha,rfl,rfl,trivial⟩) q))).words (by rw [hg];rfl) (fun V=>?_) (fun _ _ h=>h) (fun V=>(mD V _ _).trans (bF V (k:=.u8) (n:=16) (xs:=P.tag a s) rfl).symm) rfl rfl
 simp only [aI,bF V ha,bF V Ce]
def Rg (vs:List SV) (_:bB):Option Canon:=match vs with
 | [v,u]=>match cJ v,cJ u with
   | some (.u64,a),some (.u8,s)=>some { eN:=[.ai .u64 a,.ai .u8 s],T0:=[],vl:=[],e0:={ val:=.agg (cK .u8 16 (P.tag a s)) },conds:=[a.length=5,s.length=16] }
   | _,_=>none
 | _=>none
theorem EO (Γ:Env) (hg:Γ.aR=aA):aF Tryz.prog Γ 132 (aL aA 100 Rg):=by
 refine aU hg fun vs T c hd hc=>?_
 unfold Rg at hd
 split at hd
 case h_2=>cases hd
 split at hd
 case h_2=>cases hd
 cases hd
 exact TO _ _ (hc _ (by simp)) (hc _ (by simp)) Γ hg
noncomputable def aAp (be:List Int->List Int) (al mu:List Int->List Int->List Int):Nat->Option Sum:=dI (aKt be al mu) 132 (aL aA 100 Rg)
theorem LA (be:List Int->List Int) (al mu:List Int->List Int->List Int):∀ f S,aAp be al mu f=some S->∀ Γ:Env,Γ.aR=aA->aF Tryz.prog Γ f S:=bD (WW be al mu) 132 _ EO
theorem aE.same {P:Program} {Γ:Env} {f:FuncId} {vs:List SV} {T:bB} {lab F l0:Nat} {B:SB} {e:bK} (h:aE P Γ f vs T lab F e) (hT:T l0=some B) (hn:look l0 (e.fA lab)=none) :
 aE P Γ f vs T lab F { e with wr:=(l0,B)::e.wr }:=by
 intro w0 M V T2 w ys aO hT1 hg hf hF hx op a K Q hK
 refine h w0 M V T2 w ys aO hT1 hg hf hF hx op a K Q fun V' x w' h1 h2 h3=>hK V' x w' h1 h2 ?_
 have e1:eQ T2 lab { e with wr:=(l0,B)::e.wr }=eQ T2 lab e:=by
  funext l
  simp only [eQ,bK.fA,List.cons_append] at hn |-
  by_cases q:l=l0
  .subst q;rw [aK,hn,aO l B hT]
  .rw [aH (fun r=>q r.symm)]
 rw [e1]
 exact h3
noncomputable def Zr (be:List Int->List Int) (al mu:List Int->List Int->List Int):Env:=env (aAp be al mu) 4
theorem QH (be:List Int->List Int) (al mu:List Int->List Int->List Int):cA Tryz.prog (Zr be al mu):=bL _ 4
theorem QI (be:List Int->List Int) (al mu:List Int->List Int->List Int):cH Tryz.prog (Zr be al mu):=bS _ (LA be al mu) 4
def mN (S:P.MS):List SV:=.raw (.pointer none)::(cK .u64 5 S.eG++(cK .u64 5 S.sum++(cK .u8 16 S.mask++(cK .u8 16 S.aT++[.int false .i64 (S.held:Int)]))))
def mnL (S:P.MS):List (Nat × SB):=[(60,.own (mN S) 179)]
def mnT (S:P.MS):bB:=fun l=>look l (mnL S)
def mtL (S:P.MS) (d:List Int):List (Nat × SB):=[(60,.own (mN S) 179),(61,.iT .u8 d)]
def ML (S:P.MS) (d:List Int):bB:=fun l=>look l (mtL S d)
def Uu (b:List Int):List Int:=(List.range 17).map fun j=>b.getD j 0
def plX (be:List Int->List Int) (al mu:List Int->List Int->List Int) (S:P.MS) (s b:List Int):List Int:=mu (al (c5 s) (be (Uu b))) (c5 S.eG)
def pnO (be:List Int->List Int) (al mu:List Int->List Int->List Int) (S:P.MS) (s b:List Int):List Prop:=
 let A:=al (c5 s) (be (Uu b))
 [A.length=5,(c5 S.eG).length=5,mu A (c5 S.eG)=P.mul A (c5 S.eG),A=A,c5 S.eG=c5 S.eG,
  (c5 s).length=5,(be (Uu b)).length=5,al (c5 s) (be (Uu b))=P.add (c5 s) (be (Uu b)),c5 s=c5 s,be (Uu b)=be (Uu b),
  (Uu b).length=17,be (Uu b)=P.num (Uu b),Uu b=Uu b]
theorem aRe (be:List Int->List Int) (al mu:List Int->List Int->List Int) (S:P.MS) (s b:List Int):aJ (Zr be al mu) Tryz.f131 true [] 1500 [.ptr 60 true 0,.agg (cK .u64 5 s),.agg (cK .u8 17 b)] (mnT S) 100 100 =
 some { bO:=pnO be al mu S s b,val:=agV (plX be al mu S s b) }:=by kernel_rfl
theorem iL {a:List Int} (ha:a.length=5):c5 a=a:=by
 match a,ha with
 | [_,_,_,_,_],_=>rfl
theorem FQ {a:List Int} (ha:a.length=17):Uu a=a:=by
 match a,ha with
 | [_,_,_,_,_,_,_,_,_,_,_,_,_,_,_,_,_],_=>rfl
def NM (x:SV) (S:P.MS):bK:={ val:=x,wr:=[(60,.own (mN S) 179)] }
theorem TR (S:P.MS) (s b:List Int) (hS:S.eG.length=5) (hs5:s.length=5) (hb:b.length=17) (Γ:Env) (hg:Γ.aR=aA) :
 aE Tryz.prog Γ 131 [.ptr 60 true 0,.ai .u64 s,.ai .u8 b] (mnT S) 100 100 (NM (agV (P.plus s b S.eG)) S):=by
 have hs:aF Tryz.prog (Zr P.num P.add P.mul) 131 (aJ (Zr P.num P.add P.mul) Tryz.f131 true [] 1500):=aM (QH _ _ _) (QI _ _ _) mix Tryz.func131 (by kernel_rfl) true [] 1500
 have h:=hs.call (aRe P.num P.add P.mul S s b) (by
  rw [pnO,iL hS,iL hs5,FQ hb]
  exact aB (show _/\_/\_/\_/\_/\_/\_/\_/\_/\_/\_/\_/\_/\True from ⟨rfl,hS,rfl,rfl,rfl,hs5,rfl,rfl,rfl,rfl,hb,rfl,rfl,trivial⟩))
 rw [plX,iL hS,iL hs5,FQ hb] at h
 refine (h.same (l0:=60) (by simp only [mnT,mnL,aK]) rfl).words (by rw [hg];rfl) (fun V=>?_) (fun _ _ h=>h) (fun V=>rfl) rfl rfl
 simp only [aI,bF V hs5,bF V hb]
def msN (cs:List SV):Option P.MS:=match cs with
 | .raw (.pointer none)::r=>match cR .u64 (r.take 5),cR .u64 ((r.drop 5).take 5),cR .u8 ((r.drop 10).take 16),cR .u8 ((r.drop 26).take 16),r.drop 42 with
   | some b,some s,some m,some k,[.int _ .i64 h]=>some ⟨b,s,m,k,h.toNat⟩
   | _,_,_,_,_=>none
 | _=>none
def P.nf (S:P.MS):P.MS:=⟨c5 S.eG,c5 S.sum,dA 16 S.mask,dA 16 S.aT,(S.held:Int).toNat⟩
def BW (pl:List Int->List Int->List Int->List Int) (vs:List SV) (T:bB):Option Canon:=match vs with
 | [.ptr l _ _,v,u]=>match T l,cJ v,cJ u with
   | some (.own cs ty),some (.u64,s),some (.u8,b)=>match Nat.beq ty 179,msN cs with
     | true,some S=>some { eN:=[.ptr 60 true 0,.ai .u64 s,.ai .u8 b],T0:=mnL S,vl:=[(60,.lab l 0)],e0:=NM (agV (pl s b S.eG)) S,conds:=[pl s b S.eG=P.plus s b S.eG,S.eG.length=5,s.length=5,b.length=17] }
     | _,_=>none
   | _,_,_=>none
 | _=>none
theorem aFc (pl:List Int->List Int->List Int->List Int) (Γ:Env) (hg:Γ.aR=aA):aF Tryz.prog Γ 131 (aL aA 100 (BW pl)):=by
 refine aU hg fun vs T c hd hc=>?_
 unfold BW at hd
 split at hd
 case h_2=>cases hd
 split at hd
 case h_2=>cases hd
 split at hd
 case h_2=>cases hd
 cases hd
 have e:=hc _ dB
 have h:=TR _ _ _ (hc _ (eK _ dB)) (hc _ (eK _ (eK _ dB))) (hc _ (eK _ (eK _ (eK _ dB)))) Γ hg
 rw [<- e] at h
 exact h
noncomputable def aCc (pl:List Int->List Int->List Int->List Int):Nat->Option Sum:=dI (dI fF 80 (aL aA 100 rY)) 131 (aL aA 100 (BW pl))
theorem Tq (pl:List Int->List Int->List Int->List Int):∀ f S,aCc pl f=some S->∀ Γ:Env,Γ.aR=aA->aF Tryz.prog Γ f S:=bD (bD fV 80 _ As) 131 _ (aFc pl)
def qM (b s:List Int) (mk bk:Nat->Int) (h:Int) (S':P.MS):List Prop:=
 ((List.range 5).map fun j=>b.getD j 0=S'.eG.getD j 0)++(((List.range 5).map fun j=>s.getD j 0=S'.sum.getD j 0)++(((List.range 16).map fun j=>mk j=S'.mask.getD j 0)++(((List.range 16).map fun j=>bk j=S'.aT.getD j 0)++[h=(S'.held:Int)])))
def qMS (S S':P.MS):List Prop:=qM S.eG S.sum (S.mask.getD · 0) (S.aT.getD · 0) S.held S'
def tkG (pl:List Int->List Int->List Int->List Int) (y s:List Int) (mk bk:Nat->Int) (h:Int) (N:P.MS) (b:List Int) (r:List Prop):List Prop:=
 (pl (c5 s) b (c5 y)=P.plus (c5 s) b (c5 y))::((c5 y).length=5)::((c5 s).length=5)::(b.length=17)::(c5 s=c5 s)::(b=b)::(qM y s mk bk h N++r)
def tkD (d:List Int):List Int:=(d.take 16).take ((d.take 16).length.min 16)
def OL (d:List Int):List Int:=(List.replicate 17 0).take 0++tkD d++(List.replicate 17 0).drop (0+(tkD d).length)
def tqL (d:List Int):List Int:=(OL d).set 16 1
noncomputable def Ms (pl:List Int->List Int->List Int->List Int):Env:=env (aCc pl) 4
theorem Sd (pl:List Int->List Int->List Int->List Int):cA Tryz.prog (Ms pl):=bL _ 4
theorem Se (pl:List Int->List Int->List Int->List Int):cH Tryz.prog (Ms pl):=bS _ (Tq pl) 4
def Zs (n:Nat):List SV:=[.ptr 60 true 0,.iA 61 n]
def yZ (n:Nat):List (Nat × SV):=[(0,.ptr 60 true 0),(1,.iA 100 n)]
noncomputable def YO (pl:List Int->List Int->List Int->List Int) (S:P.MS) (d:List Int) (cf:Cf) (K:List Fr) (s:St):Option qH:=gV (Ms pl) (bI 100 (ML S d)) 100 Tryz.f87.ntmps [8] 400 3000 cf K s
def zJ (S:P.MS) (d:List Int):List (Nat × SB):=[(60,.own (mN S) 179),(100,.iT .u8 d)]
noncomputable def mwR:Option qH:=YO (fun a _ _=>a) ⟨[],[],[],[],0⟩ [] (.go (codeOf Tryz.f87)) [] ((Dg (Zs 0) 100).hint [false])
noncomputable def Va:Code:=Jd mwR
noncomputable def mwK:List Fr:=Jc mwR
def gT (h:Nat):Bool:=decide ((h:Int)>0)
def mM (d:List Int) (h:Nat):Nat:=d.length.min (16-(h:Int).toNat)
def hq (h m:Nat):Int:=IntKind.i64.wrap ((h:Int)+(m:Int))
def oM (h:Nat):Nat:=if (16:Int)=(h:Int) then 27 else 27+(h:Int).toNat*1
def spM (S:P.MS) (d:List Int) (o m:Nat):List Int:=(dA 16 S.mask++dA 16 S.aT).take (o-11)++d.take m++(dA 16 S.mask++dA 16 S.aT).drop (o-11+(d.take m).length)
def mcO (h n m:Nat) (d:List Int) (r:List Prop):List Prop:=
 (0<=(m:Int)/\(m:Int)<=(n:Int)/\(n:Int)<=(n:Int))::(11<=oM h/\oM h+(d.take m).length<=11+32)::((0:Int)<=16/\(16:Int)<=(16:Nat)/\(0:Int)<=16/\(16:Int)<=16/\0<=(h:Int)/\(h:Int)<=16) ::
  (gT h=true)::(gT h=gT h)::r
theorem aSh (pl:List Int->List Int->List Int->List Int) (S S':P.MS) (d d':List Int) (n n':Nat):hZ 100 Tryz.f87.ntmps (bI 100 (ML S d)) [.ZF 1] (yZ n') (zJ S' d') 101 [60] [] (YO pl S d (.go (codeOf Tryz.f87)) [] ((Dg (Zs n) 100).hint [false])) =
 some (.go (.loop Va),mwK,(gT S.held=false)::(gT S.held=gT S.held)::(n=n')::(qMS S S'++[d=d'])):=by kernel_rfl
theorem aSg (pl:List Int->List Int->List Int->List Int) (S S':P.MS) (d d':List Int) (n n':Nat):hZ 100 Tryz.f87.ntmps (bI 100 (ML S d)) [.ZF 1] (yZ n') (zJ S' d') 101 [60] [] (YO pl S d (.go (codeOf Tryz.f87)) [] ((Dg (Zs n) 100).hint [true,false])) =
 some (.go (.loop Va),mwK,((hq S.held (mM d S.held)==16)=false)::((hq S.held (mM d S.held)==16)=(hq S.held (mM d S.held)==16))::(mcO S.held n (mM d S.held) d (((n:Int).toNat-(mM d S.held:Int).toNat=n') ::
  (qM S.eG S.sum (fun j=>(spM S d (oM S.held) (mM d S.held)).getD j 0) (fun j=>(spM S d (oM S.held) (mM d S.held)).getD (16+j) 0) (hq S.held (mM d S.held)) S' ++
   [(d.drop (mM d S.held:Int).toNat).take ((n:Int).toNat-(mM d S.held:Int).toNat)=d'])))):=by kernel_rfl
def Qu (f:Nat->Int):List Int:=(List.range 16).map f
def YM (S:P.MS) (d:List Int) (j:Nat):Int:=(spM S d (oM S.held) (mM d S.held)).getD j 0
def spN (S:P.MS) (d:List Int):P.MS:=⟨c5 S.eG,c5 S.sum,Qu (YM S d),Qu fun j=>YM S d (16+j),(hq S.held (mM d S.held)).toNat⟩
def Zv (S:P.MS) (d:List Int):List Int:=Qu (fun j=>YM S d (16+j))++[1]
theorem aSf (pl:List Int->List Int->List Int->List Int) (S S':P.MS) (d d':List Int) (n n':Nat):hZ 100 Tryz.f87.ntmps (bI 100 (ML S d)) [.ZF 1] (yZ n') (zJ S' d') 101 [60] [] (YO pl S d (.go (codeOf Tryz.f87)) [] ((Dg (Zs n) 100).hint [true,true])) =
 some (.go (.loop Va),mwK,tkG pl S.eG S.sum (YM S d) (fun j=>YM S d (16+j)) (hq S.held (mM d S.held)) (spN S d) (Zv S d) (((hq S.held (mM d S.held)==16)=true)::((hq S.held (mM d S.held)==16)=(hq S.held (mM d S.held)==16))::(mcO S.held n (mM d S.held) d (((n:Int).toNat-(mM d S.held:Int).toNat=n') ::
  (qM S.eG (pl (c5 S.sum) (Zv S d) (c5 S.eG)) (YM S d) (fun _=>0) 0 S' ++
   [(d.drop (mM d S.held:Int).toNat).take ((n:Int).toNat-(mM d S.held:Int).toNat)=d']))))):=by kernel_rfl
def lT (n:Nat):Bool:=decide ((n:Int)>=16)
def d16 (d:List Int):List Int:=(d.drop (0:Int).toNat).take ((16:Int).toNat-(0:Int).toNat)
theorem aSd (pl:List Int->List Int->List Int->List Int) (S0 S S':P.MS) (d0 d d':List Int) (n n':Nat):hZ 100 Tryz.f87.ntmps (bI 100 (ML S0 d0)) [] (yZ n') (zJ S' d') 101 [60] [] (YO pl S0 d0 (.go Va) [] ((cG (yZ n) (zJ S d) 101 [60] []).hint [false])) =
 some (.at (.exit 0),[],(lT n=false)::(lT n=lT n)::(n=n')::(qMS S S'++[d=d'])):=by kernel_rfl
theorem aSe (pl:List Int->List Int->List Int->List Int) (S0 S S':P.MS) (d0 d d':List Int) (n n':Nat):hZ 100 Tryz.f87.ntmps (bI 100 (ML S0 d0)) [] (yZ n') (zJ S' d') 101 [60] [] (YO pl S0 d0 (.go Va) [] ((cG (yZ n) (zJ S d) 101 [60] []).hint [true])) =
 some (.at .normal,[],((0:Int)<=16/\(16:Int)<=(n:Int)/\(n:Int)<=(n:Int))::tkG pl S.eG S.sum (S.mask.getD · 0) (S.aT.getD · 0) S.held (P.nf S) (tqL (d16 d)) ([(tqL (d16 d)).length=17,16<(OL (d16 d)).length,(0:Nat)<=0/\0+(tkD (d16 d)).length<=17,16<=(d16 d).length,16<=16,(0:Int)<=0/\(0:Int)<=16/\(16:Int)<=(n:Int)] ++
  (lT n=true)::(lT n=lT n)::((n:Int).toNat-(16:Int).toNat=n') ::
  (qM S.eG (pl (c5 S.sum) (tqL (d16 d)) (c5 S.eG)) (S.mask.getD · 0) (S.aT.getD · 0) S.held S' ++
   [(d.drop (16:Int).toNat).take ((n:Int).toNat-(16:Int).toNat)=d']))):=by kernel_rfl
def gP (n:Nat):Bool:=decide ((n:Int)>0)
theorem aSb (pl:List Int->List Int->List Int->List Int) (S0 S:P.MS) (d0 d:List Int) (n:Nat):xP (Ms pl) (ML S0 d0) 100 100 Tryz.f87 [] (YO pl S0 d0 (.at (.exit 0)) mwK ((cG (yZ n) (zJ S d) 101 [60] []).hint [false])) =
 some { NM (.eF []) S with bO:=[gP n=false,gP n=gP n] }:=by kernel_rfl
def spE (S:P.MS) (d:List Int) (j:Nat):Int:=(spM S d 27 (d.length.min 16)).getD j 0
def spF (S:P.MS) (d:List Int):P.MS:=⟨S.eG,S.sum,Qu (spE S d),Qu fun j=>spE S d (16+j),d.length.min 16⟩
theorem aSc (pl:List Int->List Int->List Int->List Int) (S0 S:P.MS) (d0 d:List Int) (n:Nat):xP (Ms pl) (ML S0 d0) 100 100 Tryz.f87 [] (YO pl S0 d0 (.at (.exit 0)) mwK ((cG (yZ n) (zJ S d) 101 [60] []).hint [true])) =
 some { NM (.eF []) (spF S d) with bO:=[11<=27/\27+(d.take (d.length.min 16)).length<=11+32,gP n=true,gP n=gP n] }:=by kernel_rfl
namespace P
theorem gN {n:Int} (h:0<=n/\n<18446744073709551616):W n=n:=by
 show n%18446744073709551616=n
 omega
theorem rH {n:Int}:sh n=n/67108864:=by
 show n.fdiv (2^26)=_
 rw [Int.fdiv_eq_ediv_of_nonneg _ (by decide)]
 rfl
theorem nM {n:Int} (h:0<=n/\n<18446744073709551616):lo n=n%67108864:=by
 obtain ⟨h0,h1⟩:=h
 obtain ⟨m,rfl⟩:=pD h0
 have hm:m<18446744073709551616:=by omega
 show ((BitVec.ofInt 64 (m:Int) &&& BitVec.ofInt 64 67108863).toNat:Int)%18446744073709551616=_
 have e:(BitVec.ofInt 64 (m:Int) &&& BitVec.ofInt 64 67108863).toNat=m%67108864:=by
  rw [BitVec.toNat_and,BitVec.ofInt_natCast,BitVec.toNat_ofNat,Nat.mod_eq_of_lt (show m<2^64 by omega)]
  exact Nat.and_two_pow_sub_one_eq_mod m 26
 rw [e]
 omega
def L (x:List Int):Int:=x.getD 0 0+67108864*x.getD 1 0+4503599627370496*x.getD 2 0+302231454903657293676544*x.getD 3 0+20282409603651670423947251286016*x.getD 4 0
def p:Int:=1361129467683753853853498429727072845819
structure Ok (x:List Int):Prop where
 len:x.length=5
 a0:0<=x.getD 0 0/\x.getD 0 0<67108864+5
 a1:0<=x.getD 1 0/\x.getD 1 0<67108864
 a2:0<=x.getD 2 0/\x.getD 2 0<67108864
 a3:0<=x.getD 3 0/\x.getD 3 0<67108864
 a4:0<=x.getD 4 0/\x.getD 4 0<67108864
theorem Gy {x:List Int} {m:Int} (hm:m<=1152921504606846976) (h0:0<=x.getD 0 0/\x.getD 0 0<m) (h1:0<=x.getD 1 0/\x.getD 1 0<m) (h2:0<=x.getD 2 0/\x.getD 2 0<m) (h3:0<=x.getD 3 0/\x.getD 3 0<m) (h4:0<=x.getD 4 0/\x.getD 4 0<m) :
 ∃ k1 k2 k3 k4:Int,k1=x.getD 1 0+x.getD 0 0/67108864/\k2=x.getD 2 0+k1/67108864/\k3=x.getD 3 0+k2/67108864/\k4=x.getD 4 0+k3/67108864 /\
   pass x=[x.getD 0 0%67108864+5*(k4/67108864),k1%67108864,k2%67108864,k3%67108864,k4%67108864]:=by
 generalize fU:x.getD 0 0=x0 at *
 generalize fO:x.getD 1 0=x1 at *
 generalize mJ:x.getD 2 0=x2 at *
 generalize Fi:x.getD 3 0=x3 at *
 generalize hx4:x.getD 4 0=x4 at *
 have e1:c1 x=x1+x0/67108864:=by unfold c1;rw [fU,fO,rH,gN (by omega)]
 have e2:c2 x=x2+(x1+x0/67108864)/67108864:=by unfold c2;rw [mJ,e1,rH,gN (by omega)]
 have e3:c3 x=x3+(x2+(x1+x0/67108864)/67108864)/67108864:=by unfold c3;rw [Fi,e2,rH,gN (by omega)]
 have e4:c4 x=x4+(x3+(x2+(x1+x0/67108864)/67108864)/67108864)/67108864:=by unfold c4;rw [hx4,e3,rH,gN (by omega)]
 refine ⟨_,_,_,_,rfl,rfl,rfl,rfl,?_⟩
 unfold pass
 rw [fU,e1,e2,e3,e4,rH,nM (by omega),nM (by omega),nM (by omega),nM (by omega),nM (by omega),gN (n:=5*_) (by omega),gN (by omega)]
end P
namespace P
theorem Ai (a b c d e:Int):L [a,b,c,d,e]=a+67108864*b+4503599627370496*c+302231454903657293676544*d+20282409603651670423947251286016*e:=rfl
theorem Nr {x:List Int} {m:Int} (hm:m<=1152921504606846976) (h0:0<=x.getD 0 0/\x.getD 0 0<m) (h1:0<=x.getD 1 0/\x.getD 1 0<m) (h2:0<=x.getD 2 0/\x.getD 2 0<m) (h3:0<=x.getD 3 0/\x.getD 3 0<m) (h4:0<=x.getD 4 0/\x.getD 4 0<m) :
 ∃ q:Int,0<=q/\q=(x.getD 4 0+(x.getD 3 0+(x.getD 2 0+(x.getD 1 0+x.getD 0 0/67108864)/67108864)/67108864)/67108864)/67108864/\L (pass x)=L x-p*q/\(pass x).length=5/\(0<=(pass x).getD 0 0/\(pass x).getD 0 0<=67108863+5*q)/\(0<=(pass x).getD 1 0/\(pass x).getD 1 0<67108864)/\(0<=(pass x).getD 2 0/\(pass x).getD 2 0<67108864)/\(0<=(pass x).getD 3 0/\(pass x).getD 3 0<67108864)/\(0<=(pass x).getD 4 0/\(pass x).getD 4 0<67108864):=by
 obtain ⟨k1,k2,k3,k4,e1,e2,e3,e4,e⟩:=Gy hm h0 h1 h2 h3 h4
 refine ⟨k4/67108864,?_⟩
 rw [e]
 simp only [List.getD_cons_zero,List.getD_cons_succ,List.length_cons,List.length_nil,Ai]
 unfold L p
 generalize x.getD 0 0=x0 at *
 generalize x.getD 1 0=x1 at *
 generalize x.getD 2 0=x2 at *
 generalize x.getD 3 0=x3 at *
 generalize x.getD 4 0=x4 at *
 refine ⟨by omega,by rw [e4,e3,e2,e1],?_,(by first | rfl | trivial),⟨by omega,by omega⟩,⟨by omega,by omega⟩,⟨by omega,by omega⟩,⟨by omega,by omega⟩,⟨by omega,by omega⟩⟩
 have d0:=Int.emod_add_mul_ediv x0 67108864
 have d1:=Int.emod_add_mul_ediv k1 67108864
 have d2:=Int.emod_add_mul_ediv k2 67108864
 have d3:=Int.emod_add_mul_ediv k3 67108864
 have d4:=Int.emod_add_mul_ediv k4 67108864
 generalize x0%67108864=l0 at *
 generalize k1%67108864=l1 at *
 generalize k2%67108864=l2 at *
 generalize k3%67108864=l3 at *
 generalize k4%67108864=l4 at *
 generalize x0/67108864=q0 at *
 generalize k1/67108864=q1 at *
 generalize k2/67108864=q2 at *
 generalize k3/67108864=q3 at *
 generalize k4/67108864=q4 at *
 omega
theorem sE {x:List Int} {m:Int} (hm:m<=1152921504606846976) (h0:0<=x.getD 0 0/\x.getD 0 0<m) (h1:0<=x.getD 1 0/\x.getD 1 0<m) (h2:0<=x.getD 2 0/\x.getD 2 0<m) (h3:0<=x.getD 3 0/\x.getD 3 0<m) (h4:0<=x.getD 4 0/\x.getD 4 0<m) :
 Ok (settled x)/\∃ q,L (settled x)=L x-p*q:=by
 obtain ⟨q,a1,a2,a3,a4,a5,a6,a7,a8,a9⟩:=Nr hm h0 h1 h2 h3 h4
 have hq:q<=17179869440:=by omega
 obtain ⟨r,b1,b2,b3,b4,b5,b6,b7,b8,b9⟩:=Nr (x:=pass x) (m:=85966456064) (by omega) ⟨a5.1,by omega⟩ ⟨a6.1,by omega⟩ ⟨a7.1,by omega⟩ ⟨a8.1,by omega⟩ ⟨a9.1,by omega⟩
 have hr:r<=1:=by omega
 refine ⟨⟨b4,⟨b5.1,by unfold settled;omega⟩,b6,b7,b8,b9⟩,q+r,?_⟩
 show L (pass (pass x))=_
 rw [b3,a3,Int.mul_add]
 omega
end P
namespace P
theorem EL (f:Nat->Int):(List.range 5).map f=[f 0,f 1,f 2,f 3,f 4]:=rfl
theorem aJb {a b:List Int} (ha:Ok a) (hb:Ok b):Ok (add a b)/\∃ q,L (add a b)=L a+L b-p*q:=by
 obtain ⟨_,a0,a1,a2,a3,a4⟩:=ha
 obtain ⟨_,b0,b1,b2,b3,b4⟩:=hb
 have e:Jh a b=[a.getD 0 0+b.getD 0 0,a.getD 1 0+b.getD 1 0,a.getD 2 0+b.getD 2 0,a.getD 3 0+b.getD 3 0,a.getD 4 0+b.getD 4 0]:=by
  unfold Jh
  rw [EL,gN (by omega),gN (by omega),gN (by omega),gN (by omega),gN (by omega)]
 obtain ⟨h1,q,h2⟩:=sE (x:=Jh a b) (m:=1073741824) (by omega) (by rw [e];simp only [List.getD_cons_zero];omega) (by rw [e];simp only [List.getD_cons_zero,List.getD_cons_succ];omega) (by rw [e];simp only [List.getD_cons_zero,List.getD_cons_succ];omega) (by rw [e];simp only [List.getD_cons_zero,List.getD_cons_succ];omega) (by rw [e];simp only [List.getD_cons_zero,List.getD_cons_succ];omega)
 refine ⟨h1,q,?_⟩
 show L (settled (Jh a b))=_
 rw [h2,e,Ai]
 unfold L
 omega
end P
namespace P
theorem Ti {x y:Int} (hx:0<=x/\x<67108869) (hy:0<=y/\y<67108869):0<=x*y/\x*y<=4503600164241424:=by
 refine ⟨Int.mul_nonneg hx.1 hy.1,?_⟩
 have h1:x*y<=x*67108868:=Int.mul_le_mul_of_nonneg_left (by omega) hx.1
 have h2:x*67108868<=67108868*67108868:=Int.mul_le_mul_of_nonneg_right (by omega) (by decide)
 omega
def w0 (a b:Nat->Int):Int:=a 0*b 0
def w1 (a b:Nat->Int):Int:=a 0*b 1+a 1*b 0
def w2 (a b:Nat->Int):Int:=a 0*b 2+a 1*b 1+a 2*b 0
def w3 (a b:Nat->Int):Int:=a 0*b 3+a 1*b 2+a 2*b 1+a 3*b 0
def w4 (a b:Nat->Int):Int:=a 0*b 4+a 1*b 3+a 2*b 2+a 3*b 1+a 4*b 0
def w5 (a b:Nat->Int):Int:=a 1*b 4+a 2*b 3+a 3*b 2+a 4*b 1
def w6 (a b:Nat->Int):Int:=a 2*b 4+a 3*b 3+a 4*b 2
def w7 (a b:Nat->Int):Int:=a 3*b 4+a 4*b 3
def w8 (a b:Nat->Int):Int:=a 4*b 4
def B:Int:=4503600164241424
theorem aCs {a:Int} (ha:0<=a/\a<=4503600164241424):W (0+W a)=a:=by rw [gN (n:=a) (by omega),Int.zero_add,gN (by omega)]
theorem aCr {a b:Int} (ha:0<=a/\a<=4503600164241424) (hb:0<=b/\b<=4503600164241424):W (W (0+W a)+W b)=a+b:=by rw [aCs ha,gN (n:=b) (by omega),gN (by omega)]
theorem aCq {a b c:Int} (ha:0<=a/\a<=4503600164241424) (hb:0<=b/\b<=4503600164241424) (hc:0<=c/\c<=4503600164241424):W (W (W (0+W a)+W b)+W c)=a+b+c:=by rw [aCr ha hb,gN (n:=c) (by omega),gN (by omega)]
theorem aCp {a b c d:Int} (ha:0<=a/\a<=4503600164241424) (hb:0<=b/\b<=4503600164241424) (hc:0<=c/\c<=4503600164241424) (hd:0<=d/\d<=4503600164241424):W (W (W (W (0+W a)+W b)+W c)+W d)=a+b+c+d:=by rw [aCq ha hb hc,gN (n:=d) (by omega),gN (by omega)]
theorem aVy {a b c d e:Int} (ha:0<=a/\a<=4503600164241424) (hb:0<=b/\b<=4503600164241424) (hc:0<=c/\c<=4503600164241424) (hd:0<=d/\d<=4503600164241424) (he:0<=e/\e<=4503600164241424):W (W (W (W (W (0+W a)+W b)+W c)+W d)+W e)=a+b+c+d+e:=by rw [aCp ha hb hc hd,gN (n:=e) (by omega),gN (by omega)]
theorem AN {x y:Int} (hx:0<=x/\x<=22518000821207120) (hy:0<=y/\y<=22518000821207120):W (x+W (5*y))=x+5*y:=by rw [gN (n:=5*y) (by omega),gN (by omega)]
theorem aOv {x:Int} (hx:0<=x/\x<=22518000821207120):W (x+W (5*0))=x:=by rw [AN hx ⟨Int.le_refl 0,by decide⟩];omega
theorem Ok.get {a:List Int} (h:Ok a):∀ i,i<5->0<=a.getD i 0/\a.getD i 0<67108869:=by
 intro i hi
 have:=h.a0;have:=h.a1;have:=h.a2;have:=h.a3;have:=h.a4
 match i,hi with
 | 0,_=>omega
 | 1,_=>omega
 | 2,_=>omega
 | 3,_=>omega
 | 4,_=>omega
theorem OO {a b:Int} (ha:0<=a/\a<=4503600164241424) (hb:0<=b/\b<=4503600164241424):0<=a+b/\a+b<=22518000821207120:=by omega
theorem ON {a b c:Int} (ha:0<=a/\a<=4503600164241424) (hb:0<=b/\b<=4503600164241424) (hc:0<=c/\c<=4503600164241424):0<=a+b+c/\a+b+c<=22518000821207120:=by omega
theorem OM {a b c d:Int} (ha:0<=a/\a<=4503600164241424) (hb:0<=b/\b<=4503600164241424) (hc:0<=c/\c<=4503600164241424) (hd:0<=d/\d<=4503600164241424):0<=a+b+c+d/\a+b+c+d<=22518000821207120:=by omega
theorem aJh {a b c d e:Int} (ha:0<=a/\a<=4503600164241424) (hb:0<=b/\b<=4503600164241424) (hc:0<=c/\c<=4503600164241424) (hd:0<=d/\d<=4503600164241424) (he:0<=e/\e<=4503600164241424):0<=a+b+c+d+e/\a+b+c+d+e<=22518000821207120:=by omega
theorem OP {a:Int} (ha:0<=a/\a<=4503600164241424):0<=a/\a<=22518000821207120:=by omega
theorem UI (a b:List Int):PD a b 5=[W (0+W (a.getD 0 0*b.getD 0 0)),W (W (0+W (a.getD 0 0*b.getD 1 0))+W (a.getD 1 0*b.getD 0 0)),
 W (W (W (0+W (a.getD 0 0*b.getD 2 0))+W (a.getD 1 0*b.getD 1 0))+W (a.getD 2 0*b.getD 0 0)),
 W (W (W (W (0+W (a.getD 0 0*b.getD 3 0))+W (a.getD 1 0*b.getD 2 0))+W (a.getD 2 0*b.getD 1 0))+W (a.getD 3 0*b.getD 0 0)),
 W (W (W (W (W (0+W (a.getD 0 0*b.getD 4 0))+W (a.getD 1 0*b.getD 3 0))+W (a.getD 2 0*b.getD 2 0))+W (a.getD 3 0*b.getD 1 0))+W (a.getD 4 0*b.getD 0 0)),
 W (W (W (W (0+W (a.getD 1 0*b.getD 4 0))+W (a.getD 2 0*b.getD 3 0))+W (a.getD 3 0*b.getD 2 0))+W (a.getD 4 0*b.getD 1 0)),
 W (W (W (0+W (a.getD 2 0*b.getD 4 0))+W (a.getD 3 0*b.getD 3 0))+W (a.getD 4 0*b.getD 2 0)),
 W (W (0+W (a.getD 3 0*b.getD 4 0))+W (a.getD 4 0*b.getD 3 0)),W (0+W (a.getD 4 0*b.getD 4 0)),0]:=by kernel_rfl
theorem UJ {a b:List Int} (ha:Ok a) (hb:Ok b) :
 mulL a b=[w0 (a.getD · 0) (b.getD · 0)+5*w5 (a.getD · 0) (b.getD · 0),w1 (a.getD · 0) (b.getD · 0)+5*w6 (a.getD · 0) (b.getD · 0),w2 (a.getD · 0) (b.getD · 0)+5*w7 (a.getD · 0) (b.getD · 0),w3 (a.getD · 0) (b.getD · 0)+5*w8 (a.getD · 0) (b.getD · 0),w4 (a.getD · 0) (b.getD · 0)]:=by
 have r:∀ i k,i<5->k<5->0<=a.getD i 0*b.getD k 0/\a.getD i 0*b.getD k 0<=4503600164241424:=fun i k hi hk=>Ti (ha.get i hi) (hb.get k hk)
 have e:=UI a b
 have q:∀ i k,i<5->k<5->0<=a.getD i 0*b.getD k 0/\a.getD i 0*b.getD k 0<=4503600164241424:=r
 have t00:=r 0 0 (by decide) (by decide);have t01:=r 0 1 (by decide) (by decide);have t02:=r 0 2 (by decide) (by decide);have t03:=r 0 3 (by decide) (by decide);have t04:=r 0 4 (by decide) (by decide)
 have t10:=r 1 0 (by decide) (by decide);have t11:=r 1 1 (by decide) (by decide);have t12:=r 1 2 (by decide) (by decide);have t13:=r 1 3 (by decide) (by decide);have t14:=r 1 4 (by decide) (by decide)
 have t20:=r 2 0 (by decide) (by decide);have t21:=r 2 1 (by decide) (by decide);have t22:=r 2 2 (by decide) (by decide);have t23:=r 2 3 (by decide) (by decide);have t24:=r 2 4 (by decide) (by decide)
 have t30:=r 3 0 (by decide) (by decide);have t31:=r 3 1 (by decide) (by decide);have t32:=r 3 2 (by decide) (by decide);have t33:=r 3 3 (by decide) (by decide);have t34:=r 3 4 (by decide) (by decide)
 have t40:=r 4 0 (by decide) (by decide);have t41:=r 4 1 (by decide) (by decide);have t42:=r 4 2 (by decide) (by decide);have t43:=r 4 3 (by decide) (by decide);have t44:=r 4 4 (by decide) (by decide)
 rw [aCs t00,aCr t01 t10,aCq t02 t11 t20,aCp t03 t12 t21 t30,aVy t04 t13 t22 t31 t40,aCp t14 t23 t32 t41,aCq t24 t33 t42,aCr t34 t43,aCs t44] at e
 unfold mulL
 rw [EL,e]
 simp only [List.getD_cons_zero,List.getD_cons_succ,w0,w1,w2,w3,w4,w5,w6,w7,w8]
 rw [AN (OP t00) (OM t14 t23 t32 t41),AN (OO t01 t10) (ON t24 t33 t42),AN (ON t02 t11 t20) (OO t34 t43),AN (OM t03 t12 t21 t30) (OP t44),aOv (aJh t04 t13 t22 t31 t40)]
end P
namespace P
theorem ex (c d x y:Int):(c*x)*(d*y)=(c*d)*(x*y):=by rw [Int.mul_assoc,Int.mul_left_comm x d y,<- Int.mul_assoc]
theorem aFa (a0 a1 a2 a3 a4 b0 b1 b2 b3 b4:Int) :
 (1*a0+67108864*a1+4503599627370496*a2+302231454903657293676544*a3+20282409603651670423947251286016*a4)*(1*b0+67108864*b1+4503599627370496*b2+302231454903657293676544*b3+20282409603651670423947251286016*b4) =
  (a0*b0+5*(a1*b4+a2*b3+a3*b2+a4*b1))+67108864*(a0*b1+a1*b0+5*(a2*b4+a3*b3+a4*b2))+4503599627370496*(a0*b2+a1*b1+a2*b0+5*(a3*b4+a4*b3))+302231454903657293676544*(a0*b3+a1*b2+a2*b1+a3*b0+5*(a4*b4))+20282409603651670423947251286016*(a0*b4+a1*b3+a2*b2+a3*b1+a4*b0) +
   1361129467683753853853498429727072845819*((a1*b4+a2*b3+a3*b2+a4*b1)+67108864*(a2*b4+a3*b3+a4*b2)+4503599627370496*(a3*b4+a4*b3)+302231454903657293676544*(a4*b4)):=by
 simp only [Int.add_mul,Int.mul_add]
 rw [ex 1 1 a0 b0,ex 1 67108864 a0 b1,ex 1 4503599627370496 a0 b2,ex 1 302231454903657293676544 a0 b3,ex 1 20282409603651670423947251286016 a0 b4,ex 67108864 1 a1 b0,ex 67108864 67108864 a1 b1,ex 67108864 4503599627370496 a1 b2,ex 67108864 302231454903657293676544 a1 b3,ex 67108864 20282409603651670423947251286016 a1 b4,ex 4503599627370496 1 a2 b0,ex 4503599627370496 67108864 a2 b1,ex 4503599627370496 4503599627370496 a2 b2,ex 4503599627370496 302231454903657293676544 a2 b3,ex 4503599627370496 20282409603651670423947251286016 a2 b4,ex 302231454903657293676544 1 a3 b0,ex 302231454903657293676544 67108864 a3 b1,ex 302231454903657293676544 4503599627370496 a3 b2,ex 302231454903657293676544 302231454903657293676544 a3 b3,ex 302231454903657293676544 20282409603651670423947251286016 a3 b4,ex 20282409603651670423947251286016 1 a4 b0,ex 20282409603651670423947251286016 67108864 a4 b1,ex 20282409603651670423947251286016 4503599627370496 a4 b2,ex 20282409603651670423947251286016 302231454903657293676544 a4 b3,ex 20282409603651670423947251286016 20282409603651670423947251286016 a4 b4]
 generalize a0*b0=m00
 generalize a0*b1=m01
 generalize a0*b2=m02
 generalize a0*b3=m03
 generalize a0*b4=m04
 generalize a1*b0=m10
 generalize a1*b1=m11
 generalize a1*b2=m12
 generalize a1*b3=m13
 generalize a1*b4=m14
 generalize a2*b0=m20
 generalize a2*b1=m21
 generalize a2*b2=m22
 generalize a2*b3=m23
 generalize a2*b4=m24
 generalize a3*b0=m30
 generalize a3*b1=m31
 generalize a3*b2=m32
 generalize a3*b3=m33
 generalize a3*b4=m34
 generalize a4*b0=m40
 generalize a4*b1=m41
 generalize a4*b2=m42
 generalize a4*b3=m43
 generalize a4*b4=m44
 omega
theorem aFl {a b:List Int} (ha:Ok a) (hb:Ok b):Ok (mul a b)/\∃ q,L (mul a b)=L a*L b-p*q:=by
 have r:∀ i k,i<5->k<5->0<=a.getD i 0*b.getD k 0/\a.getD i 0*b.getD k 0<=4503600164241424:=fun i k hi hk=>Ti (ha.get i hi) (hb.get k hk)
 have t00:=r 0 0 (by decide) (by decide);have t01:=r 0 1 (by decide) (by decide);have t02:=r 0 2 (by decide) (by decide);have t03:=r 0 3 (by decide) (by decide);have t04:=r 0 4 (by decide) (by decide)
 have t10:=r 1 0 (by decide) (by decide);have t11:=r 1 1 (by decide) (by decide);have t12:=r 1 2 (by decide) (by decide);have t13:=r 1 3 (by decide) (by decide);have t14:=r 1 4 (by decide) (by decide)
 have t20:=r 2 0 (by decide) (by decide);have t21:=r 2 1 (by decide) (by decide);have t22:=r 2 2 (by decide) (by decide);have t23:=r 2 3 (by decide) (by decide);have t24:=r 2 4 (by decide) (by decide)
 have t30:=r 3 0 (by decide) (by decide);have t31:=r 3 1 (by decide) (by decide);have t32:=r 3 2 (by decide) (by decide);have t33:=r 3 3 (by decide) (by decide);have t34:=r 3 4 (by decide) (by decide)
 have t40:=r 4 0 (by decide) (by decide);have t41:=r 4 1 (by decide) (by decide);have t42:=r 4 2 (by decide) (by decide);have t43:=r 4 3 (by decide) (by decide);have t44:=r 4 4 (by decide) (by decide)
 have f:∀ {x y:Int},0<=x/\x<=22518000821207120->0<=y/\y<=22518000821207120->0<=x+5*y/\x+5*y<1152921504606846976:=fun h1 h2=>by omega
 have g:∀ {x:Int},0<=x/\x<=22518000821207120->0<=x/\x<1152921504606846976:=fun h1=>by omega
 have e:=UJ ha hb
 obtain ⟨h1,q,h2⟩:=sE (x:=mulL a b) (m:=1152921504606846976) (Int.le_refl _) (by rw [e];exact f (OP t00) (OM t14 t23 t32 t41)) (by rw [e];exact f (OO t01 t10) (ON t24 t33 t42)) (by rw [e];exact f (ON t02 t11 t20) (OO t34 t43)) (by rw [e];exact f (OM t03 t12 t21 t30) (OP t44)) (by rw [e];exact g (aJh t04 t13 t22 t31 t40))
 refine ⟨h1,q+(w5 (a.getD · 0) (b.getD · 0)+67108864*w6 (a.getD · 0) (b.getD · 0)+4503599627370496*w7 (a.getD · 0) (b.getD · 0)+302231454903657293676544*w8 (a.getD · 0) (b.getD · 0)),?_⟩
 show L (settled (mulL a b))=_
 have hp:=aFa (a.getD 0 0) (a.getD 1 0) (a.getD 2 0) (a.getD 3 0) (a.getD 4 0) (b.getD 0 0) (b.getD 1 0) (b.getD 2 0) (b.getD 3 0) (b.getD 4 0)
 have lx:∀ x:List Int,L x=1*x.getD 0 0+67108864*x.getD 1 0+4503599627370496*x.getD 2 0+302231454903657293676544*x.getD 3 0+20282409603651670423947251286016*x.getD 4 0:=fun x=>by unfold L;rw [Int.one_mul]
 rw [h2,e,Ai,Int.mul_add,lx a,lx b,hp]
 simp only [w0,w1,w2,w3,w4,w5,w6,w7,w8,p]
 clear h1 h2 hp lx e f g r t00 t01 t02 t03 t04 t10 t11 t12 t13 t14 t20 t21 t22 t23 t24 t30 t31 t32 t33 t34 t40 t41 t42 t43 t44
 omega
end P
namespace P
def rF (x:Int):Prop:=0<=x/\x<256
theorem or_eq {x y k:Nat} (hx:x<2^k) (h:y*2^k+x<18446744073709551616):jQ .u64 (x:Int) ((y*2^k:Nat):Int)=((y*2^k+x:Nat):Int):=by
 show (((BitVec.ofInt 64 (x:Int) ||| BitVec.ofInt 64 ((y*2^k:Nat):Int)).toNat:Nat):Int)%18446744073709551616=_
 have e:(BitVec.ofInt 64 (x:Int) ||| BitVec.ofInt 64 ((y*2^k:Nat):Int)).toNat=y*2^k+x:=by
  rw [BitVec.toNat_or,BitVec.ofInt_natCast,BitVec.ofInt_natCast,BitVec.toNat_ofNat,BitVec.toNat_ofNat,Nat.mod_eq_of_lt (show x<2^64 by omega),Nat.mod_eq_of_lt (show y*2^k<2^64 by omega),Nat.or_comm,<- Nat.shiftLeft_eq]
  exact (Nat.shiftLeft_add_eq_or_of_lt hx y).symm
 rw [e]
 omega
theorem aQq {y:Int} (h:rF y):cZ .u64 (W y) 8=y*256:=by
 have:=h.1;have:=h.2
 rw [gN (by omega)]
 show (y*256)%18446744073709551616=_
 omega
theorem aMg {y:Int} (h:rF y):cZ .u64 (W y) 16=y*65536:=by
 have:=h.1;have:=h.2
 rw [gN (by omega)]
 show (y*65536)%18446744073709551616=_
 omega
theorem aMf {y:Int} (h:rF y):cZ .u64 (W y) 24=y*16777216:=by
 have:=h.1;have:=h.2
 rw [gN (by omega)]
 show (y*16777216)%18446744073709551616=_
 omega
theorem BZ {x y:Int} {k:Nat} {m:Int} (hm:m=((2^k:Nat):Int)) (hk:k<=24) (hx:0<=x/\x<m) (hy:rF y):jQ .u64 x (y*m)=x+y*m:=by
 obtain ⟨a,rfl⟩:=pD hx.1
 obtain ⟨b,rfl⟩:=pD hy.1
 have hb:=hy.2
 subst hm
 have h1:a<2^k:=by have:=hx.2;omega
 have h2:(2:Nat)^k<=2^24:=Nat.pow_le_pow_right (by decide) hk
 have h3:b*2^k<=255*2^24:=Nat.mul_le_mul (by omega) h2
 have h4:(255:Nat)*2^24+2^24<18446744073709551616:=by decide
 rw [<- Int.natCast_mul,or_eq h1 (by omega)]
 rw [Int.natCast_add];omega
theorem tJ {a b c d:Int} (ha:rF a) (hb:rF b) (hc:rF c) (hd:rF d):word a b c d=a+256*b+65536*c+16777216*d:=by
 have:=ha.1;have:=ha.2;have:=hb.1;have:=hb.2;have:=hc.1;have:=hc.2
 unfold word
 rw [aQq hb,aMg hc,aMf hd,gN (by omega),BZ (k:=8) (m:=256) rfl (by decide) (by omega) hb,BZ (k:=16) (m:=65536) rfl (by decide) (by omega) hc,BZ (k:=24) (m:=16777216) rfl (by decide) (by omega) hd]
 omega
theorem Ak (n:Int) (k:Nat) (hk:k<=64):bU .u64 n (k:Int)=n/((2^k:Nat):Int):=by
 unfold bU
 rw [qZ,show min k IntKind.u64.bits=k from Nat.min_eq_left hk,Int.fdiv_eq_ediv_of_nonneg _ (Int.le_of_lt (Int.pow_pos (by decide))),Int.natCast_pow]
 rfl
theorem OR (n:Int):bU .u64 n 2=n/4:=Ak n 2 (by decide)
theorem aQp (n:Int):bU .u64 n 4=n/16:=Ak n 4 (by decide)
theorem aQo (n:Int):bU .u64 n 6=n/64:=Ak n 6 (by decide)
def Mq (b:List Int):Int:=b.getD 0 0+256*b.getD 1 0+65536*b.getD 2 0+16777216*b.getD 3 0+4294967296*b.getD 4 0+1099511627776*b.getD 5 0+281474976710656*b.getD 6 0+72057594037927936*b.getD 7 0+18446744073709551616*b.getD 8 0+4722366482869645213696*b.getD 9 0+1208925819614629174706176*b.getD 10 0+309485009821345068724781056*b.getD 11 0+79228162514264337593543950336*b.getD 12 0+20282409603651670423947251286016*b.getD 13 0+5192296858534827628530496329220096*b.getD 14 0+1329227995784915872903807060280344576*b.getD 15 0+340282366920938463463374607431768211456*b.getD 16 0
theorem HC {b:List Int} (hb:∀ i,rF (b.getD i 0)):L (jJ b)=Mq b/\(0<=(jJ b).getD 0 0/\(jJ b).getD 0 0<4294967296)/\(0<=(jJ b).getD 1 0/\(jJ b).getD 1 0<4294967296)/\(0<=(jJ b).getD 2 0/\(jJ b).getD 2 0<4294967296)/\(0<=(jJ b).getD 3 0/\(jJ b).getD 3 0<4294967296)/\(0<=(jJ b).getD 4 0/\(jJ b).getD 4 0<4294967296):=by
 have h0:=hb 0;have h1:=hb 1;have h2:=hb 2;have h3:=hb 3;have h4:=hb 4;have h5:=hb 5;have h6:=hb 6;have h7:=hb 7;have h8:=hb 8;have h9:=hb 9;have h10:=hb 10;have h11:=hb 11;have h12:=hb 12;have h13:=hb 13;have h14:=hb 14;have h15:=hb 15;have sN:=hb 16
 unfold jJ
 rw [tJ h0 h1 h2 h3,tJ h3 h4 h5 h6,tJ h6 h7 h8 h9,tJ h9 h10 h11 h12,tJ h13 h14 h15 sN,OR,aQp,aQo]
 unfold Mq
 unfold rF at *
 clear hb
 generalize b.getD 0 0=b0 at *
 generalize b.getD 1 0=b1 at *
 generalize b.getD 2 0=b2 at *
 generalize b.getD 3 0=b3 at *
 generalize b.getD 4 0=b4 at *
 generalize b.getD 5 0=b5 at *
 generalize b.getD 6 0=b6 at *
 generalize b.getD 7 0=b7 at *
 generalize b.getD 8 0=b8 at *
 generalize b.getD 9 0=b9 at *
 generalize b.getD 10 0=cV at *
 generalize b.getD 11 0=cU at *
 generalize b.getD 12 0=cT at *
 generalize b.getD 13 0=cY at *
 generalize b.getD 14 0=cX at *
 generalize b.getD 15 0=fW at *
 generalize b.getD 16 0=iI at *
 have l0:lo (b0+256*b1+65536*b2+16777216*b3)=b0+256*b1+65536*b2+16777216*(b3%4):=by
  rw [nM (by omega)];omega
 have l1:lo ((b3+256*b4+65536*b5+16777216*b6)/4)=b3/4+64*b4+16384*b5+4194304*(b6%16):=by
  rw [nM (by omega)];omega
 have l2:lo ((b6+256*b7+65536*b8+16777216*b9)/16)=b6/16+16*b7+4096*b8+1048576*(b9%64):=by
  rw [nM (by omega)];omega
 have l3:(b9+256*cV+65536*cU+16777216*cT)/64=b9/64+4*cV+1024*cU+262144*cT:=by omega
 rw [l0,l1,l2,l3]
 simp only [List.getD_cons_zero,List.getD_cons_succ,Ai]
 have d3:=Int.emod_add_mul_ediv b3 4
 have d6:=Int.emod_add_mul_ediv b6 16
 have d9:=Int.emod_add_mul_ediv b9 64
 refine ⟨?_,by omega,by omega,by omega,by omega,by omega⟩
 generalize b3%4=r3 at *
 generalize b3/4=q3 at *
 generalize b6%16=r6 at *
 generalize b6/16=q6 at *
 generalize b9%64=r9 at *
 generalize b9/64=q9 at *
 omega
theorem Gf {b:List Int} (hb:∀ i,rF (b.getD i 0)):Ok (num b)/\∃ q,L (num b)=Mq b-p*q:=by
 obtain ⟨h,a0,a1,a2,a3,a4⟩:=HC hb
 obtain ⟨h1,q,h2⟩:=sE (x:=jJ b) (m:=4294967296) (by omega) a0 a1 a2 a3 a4
 exact ⟨h1,q,by rw [<- h];exact h2⟩
end P
namespace P
theorem Gb (x y:Int):gW .u64 x y=((BitVec.ofInt 64 x ^^^ BitVec.ofInt 64 y).toNat:Int):=by
 show ((BitVec.ofInt 64 x ^^^ BitVec.ofInt 64 y).toNat:Int)%18446744073709551616=_
 have:=(BitVec.ofInt 64 x ^^^ BitVec.ofInt 64 y).isLt
 omega
theorem FW (x y:Int):bR .u64 x y=((BitVec.ofInt 64 x &&& BitVec.ofInt 64 y).toNat:Int):=by
 show ((BitVec.ofInt 64 x &&& BitVec.ofInt 64 y).toNat:Int)%18446744073709551616=_
 have:=(BitVec.ofInt 64 x &&& BitVec.ofInt 64 y).isLt
 omega
theorem Gq (x:BitVec 64):BitVec.ofInt 64 (x.toNat:Int)=x:=by rw [BitVec.ofInt_natCast,BitVec.ofNat_toNat,BitVec.setWidth_eq]
theorem FB {x:Int} (h:0<=x/\x<18446744073709551616):((BitVec.ofInt 64 x).toNat:Int)=x:=by
 obtain ⟨m,rfl⟩:=pD h.1
 rw [BitVec.ofInt_natCast,BitVec.toNat_ofNat,Nat.mod_eq_of_lt (show m<2^64 by omega)]
theorem Jp {a b:Int} (hb:0<=b/\b<18446744073709551616):pick 0 a b=b:=by
 unfold pick
 rw [show W (0-bR .u64 0 1)=0 by decide,Gb a b,FW,Gq,show BitVec.ofInt 64 0=0#64 from rfl,BitVec.zero_and,Gb,Gq,BitVec.xor_zero]
 exact FB hb
theorem Jo {a b:Int} (ha:0<=a/\a<18446744073709551616):pick 1 a b=a:=by
 unfold pick
 rw [show W (0-bR .u64 1 1)=18446744073709551615 by decide,Gb a b,FW,Gq,show BitVec.ofInt 64 18446744073709551615=BitVec.allOnes 64 by decide,BitVec.allOnes_and,Gb,Gq,BitVec.xor_comm (BitVec.ofInt 64 a),<- BitVec.xor_assoc,BitVec.xor_self,BitVec.zero_xor]
 exact FB ha
structure NC (x:List Int):Prop where
 len:x.length=5
 a0:0<=x.getD 0 0/\x.getD 0 0<67108864
 a1:0<=x.getD 1 0/\x.getD 1 0<67108864
 a2:0<=x.getD 2 0/\x.getD 2 0<67108864
 a3:0<=x.getD 3 0/\x.getD 3 0<67108864
 a4:0<=x.getD 4 0/\x.getD 4 0<67108864
theorem GQ {x:List Int} (h:Ok x):NC (pass x)/\∃ q,L (pass x)=L x-p*q:=by
 obtain ⟨q,_,b2,b3,b4,b5,b6,b7,b8,b9⟩:=Nr (x:=x) (m:=67108869) (by omega) h.a0 ⟨h.a1.1,by have:=h.a1.2;omega⟩ ⟨h.a2.1,by have:=h.a2.2;omega⟩ ⟨h.a3.1,by have:=h.a3.2;omega⟩ ⟨h.a4.1,by have:=h.a4.2;omega⟩
 obtain ⟨k1,k2,k3,k4,e1,e2,e3,e4,e⟩:=Gy (x:=x) (m:=67108869) (by omega) h.a0 ⟨h.a1.1,by have:=h.a1.2;omega⟩ ⟨h.a2.1,by have:=h.a2.2;omega⟩ ⟨h.a3.1,by have:=h.a3.2;omega⟩ ⟨h.a4.1,by have:=h.a4.2;omega⟩
 refine ⟨⟨b4,⟨b5.1,?_⟩,b6,b7,b8,b9⟩,q,b3⟩
 rw [e]
 simp only [List.getD_cons_zero]
 have h0:=h.a0;have h1:=h.a1;have h2:=h.a2;have h3:=h.a3;have h4:=h.a4
 omega
theorem Wf {x:List Int} (h:NC x):pass x=x:=by
 have h0:=h.a0;have h1:=h.a1;have h2:=h.a2;have h3:=h.a3;have h4:=h.a4
 obtain ⟨k1,k2,k3,k4,e1,e2,e3,e4,e⟩:=Gy (x:=x) (m:=67108864) (by omega) h0 h1 h2 h3 h4
 rw [e]
 clear e
 obtain ⟨hl,_,_,_,_,_⟩:=h
 match x,hl with
 | [x0,x1,x2,x3,x4],_=>
   simp only [List.getD_cons_zero,List.getD_cons_succ] at *
   have z0:x0/67108864=0:=Int.ediv_eq_zero_of_lt h0.1 h0.2
   rw [z0,Int.add_zero] at e1
   have z1:x1/67108864=0:=Int.ediv_eq_zero_of_lt h1.1 h1.2
   rw [e1,z1,Int.add_zero] at e2
   have z2:x2/67108864=0:=Int.ediv_eq_zero_of_lt h2.1 h2.2
   rw [e2,z2,Int.add_zero] at e3
   have z3:x3/67108864=0:=Int.ediv_eq_zero_of_lt h3.1 h3.2
   rw [e3,z3,Int.add_zero] at e4
   have z4:x4/67108864=0:=Int.ediv_eq_zero_of_lt h4.1 h4.2
   rw [e1,e2,e3,e4,z4,Int.emod_eq_of_lt h0.1 h0.2,Int.emod_eq_of_lt h1.1 h1.2,Int.emod_eq_of_lt h2.1 h2.2,Int.emod_eq_of_lt h3.1 h3.2,Int.emod_eq_of_lt h4.1 h4.2,Int.mul_zero,Int.add_zero]
theorem Ls {x:List Int} (h:Ok x):NC (settled x)/\∃ q,L (settled x)=L x-p*q:=by
 obtain ⟨h1,q,h2⟩:=GQ h
 have e:settled x=pass x:=Wf h1
 rw [e]
 exact ⟨h1,q,h2⟩
end P
namespace P
theorem Wj {t:List Int} (h:NC t):NC (vT t)/\L (vT t)=L t%p:=by
 have h':=h
 obtain ⟨hl,h0,h1,h2,h3,h4⟩:=h
 match t,hl with
 | [t0,t1,t2,t3,t4],_=>
   simp only [List.getD_cons_zero,List.getD_cons_succ] at h0 h1 h2 h3 h4
   have e0:g0 [t0,t1,t2,t3,t4]=t0+5:=by unfold g0;simp only [List.getD_cons_zero];rw [gN (by omega)]
   obtain ⟨q0,Mn⟩:∃ q,q=(t0+5)/67108864:=⟨_,rfl⟩
   have r0:0<=q0/\q0<=1:=by omega
   have e1:g1 [t0,t1,t2,t3,t4]=t1+q0:=by unfold g1;rw [e0,rH,<- Mn];simp only [List.getD_cons_zero,List.getD_cons_succ];rw [gN (by omega)]
   obtain ⟨q1,xV⟩:∃ q,q=(t1+q0)/67108864:=⟨_,rfl⟩
   have r1:0<=q1/\q1<=1:=by clear Mn;omega
   have e2:g2 [t0,t1,t2,t3,t4]=t2+q1:=by unfold g2;rw [e1,rH,<- xV];simp only [List.getD_cons_zero,List.getD_cons_succ];rw [gN (by clear Mn xV;omega)]
   obtain ⟨q2,Qw⟩:∃ q,q=(t2+q1)/67108864:=⟨_,rfl⟩
   have r2:0<=q2/\q2<=1:=by clear Mn xV;omega
   have e3:g3 [t0,t1,t2,t3,t4]=t3+q2:=by unfold g3;rw [e2,rH,<- Qw];simp only [List.getD_cons_zero,List.getD_cons_succ];rw [gN (by clear Mn xV Qw;omega)]
   obtain ⟨q3,MQ⟩:∃ q,q=(t3+q2)/67108864:=⟨_,rfl⟩
   have r3:0<=q3/\q3<=1:=by clear Mn xV Qw;omega
   have e4:g4 [t0,t1,t2,t3,t4]=t4+q3:=by unfold g4;rw [e3,rH,<- MQ];simp only [List.getD_cons_zero,List.getD_cons_succ];rw [gN (by clear Mn xV Qw MQ;omega)]
   obtain ⟨q4,YT⟩:∃ q,q=(t4+q3)/67108864:=⟨_,rfl⟩
   have r4:q4=0\/q4=1:=by clear Mn xV Qw MQ;omega
   have d0:=Int.emod_add_mul_ediv (t0+5) 67108864
   have d1:=Int.emod_add_mul_ediv (t1+q0) 67108864
   have d2:=Int.emod_add_mul_ediv (t2+q1) 67108864
   have d3:=Int.emod_add_mul_ediv (t3+q2) 67108864
   have d4:=Int.emod_add_mul_ediv (t4+q3) 67108864
   rw [<- Mn] at d0
   rw [<- xV] at d1
   rw [<- Qw] at d2
   rw [<- MQ] at d3
   rw [<- YT] at d4
   have m0:=Int.emod_nonneg (t0+5) (show (67108864:Int)≠0 by decide)
   have m1:=Int.emod_nonneg (t1+q0) (show (67108864:Int)≠0 by decide)
   have m2:=Int.emod_nonneg (t2+q1) (show (67108864:Int)≠0 by decide)
   have m3:=Int.emod_nonneg (t3+q2) (show (67108864:Int)≠0 by decide)
   have m4:=Int.emod_nonneg (t4+q3) (show (67108864:Int)≠0 by decide)
   have n0:=Int.emod_lt_of_pos (t0+5) (show (0:Int)<67108864 by decide)
   have n1:=Int.emod_lt_of_pos (t1+q0) (show (0:Int)<67108864 by decide)
   have n2:=Int.emod_lt_of_pos (t2+q1) (show (0:Int)<67108864 by decide)
   have n3:=Int.emod_lt_of_pos (t3+q2) (show (0:Int)<67108864 by decide)
   have n4:=Int.emod_lt_of_pos (t4+q3) (show (0:Int)<67108864 by decide)
   have s:sh (g4 [t0,t1,t2,t3,t4])=q4:=by rw [e4,rH,YT]
   have l0:lo (t0+5)=(t0+5)%67108864:=nM (by clear Mn xV Qw MQ YT d0 d1 d2 d3 d4;omega)
   have l1:lo (t1+q0)=(t1+q0)%67108864:=nM (by clear Mn xV Qw MQ YT d0 d1 d2 d3 d4;omega)
   have l2:lo (t2+q1)=(t2+q1)%67108864:=nM (by clear Mn xV Qw MQ YT d0 d1 d2 d3 d4;omega)
   have l3:lo (t3+q2)=(t3+q2)%67108864:=nM (by clear Mn xV Qw MQ YT d0 d1 d2 d3 d4;omega)
   have l4:lo (t4+q3)=(t4+q3)%67108864:=nM (by clear Mn xV Qw MQ YT d0 d1 d2 d3 d4;omega)
   unfold vT
   rw [s,e0,e1,e2,e3,e4,l0,l1,l2,l3,l4]
   simp only [List.getD_cons_zero,List.getD_cons_succ]
   clear Mn xV Qw MQ YT e0 e1 e2 e3 e4 s l0 l1 l2 l3 l4
   generalize (t0+5)%67108864=x0 at *
   generalize (t1+q0)%67108864=x1 at *
   generalize (t2+q1)%67108864=x2 at *
   generalize (t3+q2)%67108864=x3 at *
   generalize (t4+q3)%67108864=x4 at *
   have c:∀ x:Int,0<=x/\x<67108864->0<=x/\x<18446744073709551616:=fun x hx=>by clear d0 d1 d2 d3 d4;omega
   rcases r4 with rfl | rfl
   .rw [Jp (c _ h0),Jp (c _ h1),Jp (c _ h2),Jp (c _ h3),Jp (c _ h4)]
    refine ⟨h',?_⟩
    rw [Ai]
    unfold p
    rw [Int.emod_eq_of_lt (by omega) (by omega)]
   .rw [Jo (c _ ⟨m0,n0⟩),Jo (c _ ⟨m1,n1⟩),Jo (c _ ⟨m2,n2⟩),Jo (c _ ⟨m3,n3⟩),Jo (c _ ⟨m4,n4⟩)]
    refine ⟨⟨rfl,⟨m0,n0⟩,⟨m1,n1⟩,⟨m2,n2⟩,⟨m3,n3⟩,⟨m4,n4⟩⟩,?_⟩
    rw [Ai,Ai]
    unfold p
    have hd:x0+67108864*x1+4503599627370496*x2+302231454903657293676544*x3+20282409603651670423947251286016*x4=t0+67108864*t1+4503599627370496*t2+302231454903657293676544*t3+20282409603651670423947251286016*t4-1361129467683753853853498429727072845819:=by omega
    have z0:0<=x0+67108864*x1+4503599627370496*x2+302231454903657293676544*x3+20282409603651670423947251286016*x4:=by clear hd d0 d1 d2 d3 d4;omega
    have z1:t0+67108864*t1+4503599627370496*t2+302231454903657293676544*t3+20282409603651670423947251286016*t4<1361129467683753853853498429727072845824:=by clear hd d0 d1 d2 d3 d4;omega
    rw [hd] at z0 |-
    clear hd d0 d1 d2 d3 d4
    generalize t0+67108864*t1+4503599627370496*t2+302231454903657293676544*t3+20282409603651670423947251286016*t4=z at *
    have k:z=(z-1361129467683753853853498429727072845819)+1361129467683753853853498429727072845819*1:=by omega
    have e:z%1361129467683753853853498429727072845819=(z-1361129467683753853853498429727072845819)%1361129467683753853853498429727072845819:=by
     conv=>lhs;rw [k]
     rw [Int.add_mul_emod_self_left]
    rw [e,Int.emod_eq_of_lt z0 (by omega)]
theorem HD {a:List Int} (h:Ok a):NC (least a)/\L (least a)=L a%p:=by
 obtain ⟨h1,q,h2⟩:=Ls h
 obtain ⟨h3,h4⟩:=Wj h1
 refine ⟨h3,?_⟩
 show L (vT (settled a))=_
 rw [h4,h2,Int.sub_eq_add_neg,<- Int.mul_neg,Int.add_mul_emod_self_left]
end P
namespace P
theorem Al {y:Int} (k:Nat) (hk:k<=64):cZ .u64 y (k:Int)=(y*((2^k:Nat):Int))%18446744073709551616:=by
 unfold cZ
 rw [qZ,show min k IntKind.u64.bits=k from Nat.min_eq_left hk]
 show (y*2^k)%18446744073709551616=_
 rw [Int.natCast_pow];rfl
theorem aMe (y:Int):cZ .u64 y 26=(y*67108864)%18446744073709551616:=Al 26 (by decide)
theorem aMc (y:Int):cZ .u64 y 52=(y*4503599627370496)%18446744073709551616:=Al 52 (by decide)
theorem aMh (y:Int):cZ .u64 y 14=(y*16384)%18446744073709551616:=Al 14 (by decide)
theorem aMd (y:Int):cZ .u64 y 40=(y*1099511627776)%18446744073709551616:=Al 40 (by decide)
theorem aMb (n:Int):bU .u64 n 12=n/4096:=Ak n 12 (by decide)
theorem Jq {x y:Int} {k:Nat} {m:Int} (hm:m=((2^k:Nat):Int)) (hx:0<=x/\x<m) (hy:0<=y) (h:y*m+x<18446744073709551616):jQ .u64 x (y*m)=x+y*m:=by
 obtain ⟨a,rfl⟩:=pD hx.1
 obtain ⟨b,rfl⟩:=pD hy
 subst hm
 have h1:a<2^k:=by have:=hx.2;omega
 rw [<- Int.natCast_mul] at h |-
 rw [or_eq h1 (by omega),Int.natCast_add];omega
theorem aFu {t:List Int} (h:NC t):low t=t.getD 0 0+67108864*t.getD 1 0+4503599627370496*(t.getD 2 0%4096):=by
 obtain ⟨_,h0,h1,h2,_,_⟩:=h
 unfold low
 generalize t.getD 0 0=t0 at *
 generalize t.getD 1 0=t1 at *
 generalize t.getD 2 0=t2 at *
 rw [aMe,aMc,show (t1*67108864)%18446744073709551616=t1*67108864 by omega,show (t2*4503599627370496)%18446744073709551616=(t2%4096)*4503599627370496 by omega,
  Jq (k:=26) (m:=67108864) rfl h0 h1.1 (by omega),Jq (k:=52) (m:=4503599627370496) rfl (by omega) (by omega) (by omega)]
 omega
theorem VQ {t:List Int} (h:NC t):high t=t.getD 2 0/4096+16384*t.getD 3 0+1099511627776*(t.getD 4 0%16777216):=by
 obtain ⟨_,_,_,h2,h3,h4⟩:=h
 unfold high
 generalize t.getD 2 0=t2 at *
 generalize t.getD 3 0=t3 at *
 generalize t.getD 4 0=t4 at *
 rw [aMb,aMh,aMd,show (t3*16384)%18446744073709551616=t3*16384 by omega,show (t4*1099511627776)%18446744073709551616=(t4%16777216)*1099511627776 by omega,
  Jq (k:=14) (m:=16384) rfl (by omega) h3.1 (by omega),Jq (k:=40) (m:=1099511627776) rfl (by omega) (by omega) (by omega)]
 omega
theorem Ki {t:List Int} (h:NC t):low t+18446744073709551616*high t=L t%340282366920938463463374607431768211456/\(0<=low t/\low t<18446744073709551616)/\(0<=high t/\high t<18446744073709551616):=by
 rw [aFu h,VQ h]
 obtain ⟨_,h0,h1,h2,h3,h4⟩:=h
 unfold L
 generalize t.getD 0 0=t0 at *
 generalize t.getD 1 0=t1 at *
 generalize t.getD 2 0=t2 at *
 generalize t.getD 3 0=t3 at *
 generalize t.getD 4 0=t4 at *
 refine ⟨?_,by omega,by omega⟩
 have d2:=Int.emod_add_mul_ediv t2 4096
 have d4:=Int.emod_add_mul_ediv t4 16777216
 have m2:=Int.emod_nonneg t2 (show (4096:Int)≠0 by decide)
 have n2:=Int.emod_lt_of_pos t2 (show (0:Int)<4096 by decide)
 have m4:=Int.emod_nonneg t4 (show (16777216:Int)≠0 by decide)
 have n4:=Int.emod_lt_of_pos t4 (show (0:Int)<16777216 by decide)
 have q2:0<=t2/4096/\t2/4096<16384:=by omega
 generalize t2%4096=r2 at *
 generalize t2/4096=s2 at *
 generalize t4%16777216=r4 at *
 generalize t4/16777216=s4 at *
 have e:t0+67108864*t1+4503599627370496*t2+302231454903657293676544*t3+20282409603651670423947251286016*t4=(t0+67108864*t1+4503599627370496*r2+18446744073709551616*(s2+16384*t3+1099511627776*r4))+340282366920938463463374607431768211456*s4:=by omega
 rw [e,Int.add_mul_emod_self_left,Int.emod_eq_of_lt (by omega) (by omega)]
end P
namespace P
def S (b:List Int) (k:Nat):Nat->Int
 | 0=>0
 | n+1=>S b k n+b.getD (k+n) 0*((256^n:Nat):Int)
theorem Kd {b:List Int} (hb:∀ i,rF (b.getD i 0)) (k:Nat):∀ n,0<=S b k n/\S b k n<((256^n:Nat):Int)
 | 0=>⟨Int.le_refl 0,(by decide:(0:Int)<((256^0:Nat):Int))⟩
 | n+1=>by
   obtain ⟨h1,h2⟩:=Kd hb k n
   have hy:=hb (k+n)
   have hp:(0:Int)<((256^n:Nat):Int):=Int.natCast_pos.2 (Nat.pow_pos (by decide))
   have e:((256^(n+1):Nat):Int)=256*((256^n:Nat):Int):=by rw [Nat.pow_succ,Nat.mul_comm,Int.natCast_mul];rfl
   have a1:0<=b.getD (k+n) 0*((256^n:Nat):Int):=Int.mul_nonneg hy.1 (Int.le_of_lt hp)
   have a2:b.getD (k+n) 0*((256^n:Nat):Int)<=255*((256^n:Nat):Int):=Int.mul_le_mul_of_nonneg_right (by have:=hy.2;omega) (Int.le_of_lt hp)
   simp only [S]
   rw [e]
   omega
theorem Au {b:List Int} (hb:∀ i,rF (b.getD i 0)) (k:Nat):∀ n,n<=8->acc b k n=S b k n
 | 0,_=>rfl
 | n+1,hn=>by
   obtain ⟨h1,h2⟩:=Kd hb k n
   obtain ⟨h3,h4⟩:=Kd hb k (n+1)
   have hy:=hb (k+n)
   have hw:W (b.getD (k+n) 0)=b.getD (k+n) 0:=gN (by have:=hy.1;have:=hy.2;omega)
   have aKb:(256^n:Nat)=2^(8*n):=by rw [Nat.pow_mul]
   have aWi:((256^(n+1):Nat):Int)<=18446744073709551616:=by
    have:(256:Nat)^(n+1)<=256^8:=Nat.pow_le_pow_right (by decide) hn
    have e8:(256:Nat)^8=18446744073709551616:=by decide
    omega
   have hnn:0<=b.getD (k+n) 0*((256^n:Nat):Int):=Int.mul_nonneg hy.1 (Int.natCast_nonneg _)
   simp only [S] at h3 h4 |-
   simp only [acc]
   rw [Au hb k n (by omega),hw,show (8:Int)*(n:Int)=((8*n:Nat):Int) by omega,Al (8*n) (by omega),<- aKb,Int.emod_eq_of_lt hnn (by omega)]
   exact Jq (k:=8*n) (by rw [aKb]) ⟨h1,h2⟩ hy.1 (by omega)
end P
namespace P
theorem qU {x:Int} (hx:0<=x) {i:Nat} (hi:i<8):byteOf x i=x/((256^i:Nat):Int)%256:=by
 unfold byteOf
 rw [show (8:Int)*(i:Int)=((8*i:Nat):Int) by omega,Ak x (8*i) (by omega),show (2:Nat)^(8*i)=256^i by rw [Nat.pow_mul]]
 rfl
theorem Bz (x:Int) (i:Nat):rF (byteOf x i):=by
 have e:byteOf x i=(bU .u64 x (8*(i:Int)))%256:=rfl
 unfold rF
 rw [e];omega
theorem mod_succ (x:Int) (n:Nat):x%((256^(n+1):Nat):Int)=x%((256^n:Nat):Int)+(x/((256^n:Nat):Int)%256)*((256^n:Nat):Int):=by
 have hp:(0:Int)<((256^n:Nat):Int):=Int.natCast_pos.2 (Nat.pow_pos (by decide))
 have e:((256^(n+1):Nat):Int)=((256^n:Nat):Int)*256:=by rw [Nat.pow_succ,Int.natCast_mul];rfl
 rw [e]
 generalize ((256^n:Nat):Int)=m at *
 have h1:=Int.emod_add_mul_ediv x m
 have h2:=Int.emod_nonneg x (show m≠0 by omega)
 have h3:=Int.emod_lt_of_pos x hp
 have h4:=Int.emod_add_mul_ediv (x/m) 256
 have h5:=Int.emod_nonneg (x/m) (show (256:Int)≠0 by omega)
 have h6:=Int.emod_lt_of_pos (x/m) (show (0:Int)<256 by omega)
 generalize x/m%256=s at *
 generalize x/m/256=q at *
 generalize x%m=r at *
 have k:x=(r+s*m)+m*256*q:=by
  rw [<- h1,<- h4,Int.mul_add,Int.mul_comm m s,<- Int.mul_assoc];omega
 have l:r+s*m<m*256:=by
  have:s*m<=255*m:=Int.mul_le_mul_of_nonneg_right (by omega) (by omega)
  omega
 have l0:0<=r+s*m:=by
  have:0<=s*m:=Int.mul_nonneg h5 (by omega)
  omega
 rw [k,Int.add_mul_emod_self_left,Int.emod_eq_of_lt l0 l]
theorem Ug {b:List Int} {k:Nat} {x:Int} (h:∀ i,i<8->b.getD (k+i) 0=x/((256^i:Nat):Int)%256):∀ n,n<=8->S b k n=x%((256^n:Nat):Int)
 | 0,_=>by simp [S,Int.emod_one]
 | n+1,hn=>by
   simp only [S]
   rw [Ug h n (by omega),h n (by omega),mod_succ]
theorem S8 {b:List Int} {k:Nat} {x:Int} (h:∀ i,i<8->b.getD (k+i) 0=x/((256^i:Nat):Int)%256) (hx:0<=x/\x<18446744073709551616):S b k 8=x:=by
 rw [Ug h 8 (dF 8)]
 exact Int.emod_eq_of_lt hx.1 hx.2
theorem aGj (f g:Nat->Int) (r:List Int) {i:Nat} (hi:i<8):((List.range 8).map f++((List.range 8).map g++r)).getD i 0=f i:=by
 rw [gH,List.getElem?_append_left (by simpa using hi)]
 simp [hi]
theorem aGk (f g:Nat->Int) (r:List Int) {i:Nat} (hi:i<8):((List.range 8).map f++((List.range 8).map g++r)).getD (8+i) 0=g i:=by
 rw [gH,List.getElem?_append_right (by simp),List.getElem?_append_left (by simp;omega)]
 simp [hi]
theorem aVx {t:List Int} (h:NC t) (hb:∀ i,rF ((kG t).getD i 0)):acc (kG t) 0 8=low t/\acc (kG t) 8 8=high t:=by
 obtain ⟨_,hl,hh⟩:=Ki h
 rw [Au hb 0 8 (dF 8),Au hb 8 8 (dF 8)]
 refine ⟨S8 (fun i hi=>?_) hl,S8 (fun i hi=>?_) hh⟩
 .rw [Nat.zero_add]
  unfold kG
  rw [aGj _ _ _ hi,qU hl.1 hi]
 .unfold kG
  rw [aGk _ _ _ hi,qU hh.1 hi]
end P
namespace P
theorem qP {l:List Int} (h:∀ x∈l,rF x) (i:Nat):rF (l.getD i 0):=by
 rw [gH]
 cases hi:l[i]? with
 | none=>exact ⟨Int.le_refl 0,(by decide:(0:Int)<256)⟩
 | some x=>exact h x (List.mem_of_getElem? hi)
theorem Ql (t:List Int):∀ i,rF ((kG t).getD i 0):=qP fun x hx=>by
 unfold kG at hx
 simp only [List.mem_append,List.mem_map,List.mem_singleton] at hx
 rcases hx with ⟨i,_,rfl⟩ | ⟨i,_,rfl⟩ | rfl
 .exact Bz _ _
 .exact Bz _ _
 .have e:IntKind.u8.wrap (bU .u64 (t.getD 4 0) 24)=(bU .u64 (t.getD 4 0) 24)%256:=rfl
  unfold rF
  rw [e];omega
def V2 (s:List Int):Int:=S s 0 8+18446744073709551616*S s 8 8
theorem Vx {a s:List Int} (ha:Ok a) (hs:∀ i,rF (s.getD i 0)) :
 AZ (kG (least a)) s=(L a%p+V2 s)%340282366920938463463374607431768211456%18446744073709551616/\BA (kG (least a)) s=(L a%p+V2 s)%340282366920938463463374607431768211456/18446744073709551616:=by
 obtain ⟨hR,hL⟩:=HD ha
 obtain ⟨hw,hl,hh⟩:=Ki hR
 obtain ⟨a0,a8⟩:=aVx hR (Ql _)
 have s0:=Kd hs 0 8
 have s8:=Kd hs 8 8
 have e8:((256^8:Nat):Int)=18446744073709551616:=by decide
 rw [e8] at s0 s8
 unfold AZ BA V2
 rw [a0,a8,Au hs 0 8 (dF 8),Au hs 8 8 (dF 8),<- hL]
 clear hL a0 a8 e8
 generalize low (least a)=l at *
 generalize high (least a)=h at *
 generalize S s 0 8=x at *
 generalize S s 8 8=y at *
 generalize L (least a)=z at *
 have hz:=Int.emod_add_mul_ediv z 340282366920938463463374607431768211456
 rw [<- hw] at hz
 generalize z/340282366920938463463374607431768211456=k at *
 have d1:=Int.emod_add_mul_ediv (l+x+0) 18446744073709551616
 have m1:=Int.emod_nonneg (l+x+0) (show (18446744073709551616:Int)≠0 by decide)
 have n1:=Int.emod_lt_of_pos (l+x+0) (show (0:Int)<18446744073709551616 by decide)
 generalize (l+x+0)%18446744073709551616=lo at *
 generalize (l+x+0)/18446744073709551616=c at *
 have d2:=Int.emod_add_mul_ediv (h+y+c) 18446744073709551616
 have m2:=Int.emod_nonneg (h+y+c) (show (18446744073709551616:Int)≠0 by decide)
 have n2:=Int.emod_lt_of_pos (h+y+c) (show (0:Int)<18446744073709551616 by decide)
 generalize (h+y+c)%18446744073709551616=hi at *
 generalize (h+y+c)/18446744073709551616=d at *
 have e:z+(x+18446744073709551616*y)=(lo+18446744073709551616*hi)+340282366920938463463374607431768211456*(d+k):=by clear hw hl hh s0 s8;omega
 rw [e,Int.add_mul_emod_self_left,Int.emod_eq_of_lt (a:=lo+18446744073709551616*hi) (by clear e hz d1 d2 hw;omega) (by clear e hz d1 d2 hw;omega),Int.add_mul_emod_self_left,Int.emod_eq_of_lt m1 n1,Int.add_mul_ediv_left _ _ (by decide),Int.ediv_eq_zero_of_lt m1 n1,Int.zero_add]
 exact ⟨rfl,rfl⟩
end P
namespace P
theorem Rd {x q:Int}:(x-p*q)%p=x%p:=by rw [Int.sub_eq_add_neg,<- Int.mul_neg,Int.add_mul_emod_self_left]
theorem Ss {s b y:List Int} (hs:Ok s) (hy:Ok y) (hb:∀ i,rF (b.getD i 0)):Ok (plus s b y)/\L (plus s b y)%p=((L s%p+Mq b)*L y)%p:=by
 obtain ⟨hn,q1,e1⟩:=Gf hb
 obtain ⟨hm,q2,e2⟩:=aJb hs hn
 obtain ⟨hr,q3,e3⟩:=aFl hm hy
 refine ⟨hr,?_⟩
 show L (mul (add s (num b)) y)%p=_
 have h1:L (add s (num b))%p=(L s%p+Mq b)%p:=by
  rw [e2,Rd,e1,show L s+(Mq b-p*q1)=(L s+Mq b)-p*q1 by omega,Rd]
  unfold p
  omega
 rw [e3,Rd,Int.mul_emod,h1,<- Int.mul_emod]
theorem aLk:Ok (List.replicate 5 0):=⟨rfl,by decide,by decide,by decide,by decide,by decide⟩
theorem aPx:L (List.replicate 5 0)=0:=by decide
end P
namespace P
theorem aEy {S:MS} (hS:S.WF) (h0:S.held=0) {d:List Int} (hd:d.length=16):put S d=⟨S.eG,plus S.sum (d++[1]) S.eG,S.mask,mI,0⟩:=by
 obtain ⟨eG,sum,mask,aT,held⟩:=S
 simp only at h0
 subst h0
 rw [Bd eG sum mask d aT 0 hS.Mk (by omega) (fun e=>by rw [e] at hd;cases hd)]
 rfl
def YW (r:Int) (d:List Int):Nat->Int
 | 0=>0
 | j+1=>((YW r d j+Mq ((d.drop (16*j)).take 16++[1]))*r)%p
theorem YC {d:List Int} (hd:∀ x∈d,rF x) (j:Nat):∀ i,rF (((d.drop (16*j)).take 16++[1]).getD i 0):=qP fun x hx=>by
 rcases List.mem_append.1 hx with h | h
 .exact hd x (List.mem_of_mem_drop (List.mem_of_mem_take h))
 .simp only [List.mem_singleton] at h
  subst h
  exact ⟨by decide,by decide⟩
theorem Bw {eG mask:List Int} (hb:Ok eG) (hm:mask.length=16) {d:List Int} (hd:∀ x∈d,rF x):∀ j,16*j<=d.length ->
 ∃ s,put ⟨eG,List.replicate 5 0,mask,mI,0⟩ (d.take (16*j))=⟨eG,s,mask,mI,0⟩/\Ok s/\L s%p=YW (L eG) d j
 | 0,_=>⟨List.replicate 5 0,by rw [Nat.mul_zero,List.take_zero,TP],aLk,by rw [aPx];rfl⟩
 | j+1,h=>by
   obtain ⟨s,e,hs,hL⟩:=Bw hb hm hd j (by omega)
   have hl:((d.drop (16*j)).take 16).length=16:=by rw [List.length_take,List.length_drop];omega
   have hw:(⟨eG,s,mask,mI,0⟩:MS).WF:=⟨hb.len,hs.len,hm,rfl,(by decide:0<16),rfl⟩
   obtain ⟨h1,h2⟩:=Ss hs hb (YC hd j)
   refine ⟨plus s ((d.drop (16*j)).take 16++[1]) eG,?_,h1,?_⟩
   .have et:d.take (16*(j+1))=d.take (16*j)++(d.drop (16*j)).take 16:=by rw [Nat.mul_add,Nat.mul_one,List.take_add]
    rw [et,kR,e,aEy hw rfl hl]
   .rw [h2,hL];rfl
end P
namespace P
def Cw (S:MS):List Int:=if 0<S.held then plus S.sum ((S.aT++[0]).set S.held 1) S.eG else S.sum
def Nc (r:Int) (d:List Int):Int:=if d.length%16=0 then YW r d (d.length/16) else ((YW r d (d.length/16)+Mq (d.drop (16*(d.length/16))++1::List.replicate (16-d.length%16) 0))*r)%p
theorem HJ {r:List Int} (h:r.length<16):((mI.take 0++r++mI.drop (0+r.length))++[0]).set (0+r.length) 1=r++1::List.replicate (16-r.length) 0:=by
 have e:mI.drop (0+r.length)++[0]=0::List.replicate (16-r.length) 0:=by
  unfold mI
  rw [List.drop_replicate,Nat.zero_add,<- List.replicate_succ,<- List.replicate_succ']
 rw [List.take_zero,oR,List.append_assoc,e,Nat.zero_add,List.set_append_right _ _ (dF _),Nat.sub_self]
 rfl
theorem aGp {eG mask:List Int} (hb:Ok eG) (hm:mask.length=16) {d:List Int} (hd:∀ x∈d,rF x) :
 Ok (Cw (put ⟨eG,List.replicate 5 0,mask,mI,0⟩ d))/\L (Cw (put ⟨eG,List.replicate 5 0,mask,mI,0⟩ d))%p=Nc (L eG) d/\(put ⟨eG,List.replicate 5 0,mask,mI,0⟩ d).mask=mask:=by
 obtain ⟨s,e,hs,hL⟩:=Bw hb hm hd (d.length/16) (by omega)
 have hr:(d.drop (16*(d.length/16))).length=d.length%16:=by rw [List.length_drop];omega
 have ed:put ⟨eG,List.replicate 5 0,mask,mI,0⟩ d=put ⟨eG,s,mask,mI,0⟩ (d.drop (16*(d.length/16))):=by
  rw [<- e,<- kR,List.take_append_drop]
 have ef:=tO eG s mask (d.drop (16*(d.length/16))) mI 0 rfl (by rw [hr];omega)
 rw [ed,ef]
 unfold Cw Nc
 simp only
 by_cases h0:d.length%16=0
 .rw [if_neg (by omega),if_pos h0]
  exact ⟨hs,hL,trivial⟩
 .rw [if_pos (by omega),if_neg h0,HJ (by omega),hr]
  obtain ⟨h1,h2⟩:=Ss (s:=s) (y:=eG) (b:=d.drop (16*(d.length/16))++1::List.replicate (16-d.length%16) 0) hs hb (qP fun x hx=>by
   rcases List.mem_append.1 hx with h | h
   .exact hd x (List.mem_of_mem_drop h)
   .rcases List.mem_cons.1 h with rfl | h
    .exact ⟨by decide,by decide⟩
    .rw [List.eq_of_mem_replicate h];exact ⟨by decide,by decide⟩)
  exact ⟨h1,by rw [h2,hL],trivial⟩
end P
theorem yC {L:List Int} (h:L.length=16):Qu (fun j=>L.getD j 0)=L:=dU h
theorem aEx {L K:List Int} (h:L.length=16):Qu (fun j=>(L++K).getD j 0)=L:=by
 rw [<- yC h]
 refine List.map_congr_left fun j hj=>?_
 have hj:j<16:=by simpa using hj
 rw [yC h,gH,List.getElem?_append_left (by omega),<- gH]
theorem EM {L K:List Int} (h:L.length=16) (hk:K.length=16):Qu (fun j=>(L++K).getD (16+j) 0)=K:=by
 conv=>rhs;rw [<- yC hk]
 refine List.map_congr_left fun j hj=>?_
 rw [gH,List.getElem?_append_right (by omega),h,show 16+j-16=j by omega,<- gH]
theorem Dr {S':P.MS} {b s:List Int} {mk bk:Nat->Int} {h:Int} (h1:b=S'.eG) (h2:s=S'.sum) (h3:∀ j<16,mk j=S'.mask.getD j 0) (h4:∀ j<16,bk j=S'.aT.getD j 0) (h5:h=(S'.held:Int)):∀ q∈qM b s mk bk h S',q:=by
 subst h1 h2 h5
 intro q hq
 simp only [qM,List.mem_append,List.mem_map,List.mem_range,List.mem_cons,List.not_mem_nil,or_false] at hq
 rcases hq with ⟨j,_,rfl⟩ | ⟨j,_,rfl⟩ | ⟨j,hj,rfl⟩ | ⟨j,hj,rfl⟩ | rfl
 .trivial
 .trivial
 .exact h3 j hj
 .exact h4 j hj
 .trivial
theorem An {S S':P.MS} (h:S=S'):∀ q∈qMS S S',q:=by
 subst h
 exact Dr rfl rfl (fun _ _=>rfl) (fun _ _=>rfl) rfl
theorem P.Jt {S:P.MS} (h:S.WF):P.nf S=S:=by
 obtain ⟨eG,sum,mask,aT,held⟩:=S
 obtain ⟨h1,h2,h3,h4,h5,h6⟩:=h
 simp only [P.nf,iL h1,iL h2,dU h3,dU h4,qZ]
theorem Nl {y s:List Int} {mk bk:Nat->Int} {h:Int} {N:P.MS} {b:List Int} {r:List Prop} (hy:y.length=5) (hs:s.length=5) (hb:b.length=17)
 (hq:∀ q∈qM y s mk bk h N,q) (hr:∀ q∈r,q):∀ q∈tkG P.plus y s mk bk h N b r,q:=
 aN rfl (aN (by rw [iL hy];exact hy) (aN (by rw [iL hs];exact hs) (aN hb (aN rfl (aN rfl (pL hq hr))))))
theorem EE {d:List Int} (h:16<=d.length):tkD d=d.take 16:=by
 unfold tkD
 rw [List.take_of_length_le]
 have:(d.take 16).length=16:=by rw [List.length_take];omega
 rw [this];decide
theorem ED {d:List Int} (h:16<=d.length):tqL d=d.take 16++[1]:=by
 have hl:(d.take 16).length=16:=by rw [List.length_take];omega
 unfold tqL OL
 rw [EE h,hl,List.take_zero,oR]
 show ((d.take 16)++[0]).set 16 1=_
 rw [List.set_append_right _ _ (by omega),hl]
 rfl
theorem aIo (d:List Int):d16 d=d.take 16:=rfl
theorem P.aMu {S:P.MS} (hS:S.WF) (h0:S.held=0) {d:List Int} (hd:d.length=16):P.put S d=⟨S.eG,P.plus S.sum (d++[1]) S.eG,S.mask,P.mI,0⟩:=by
 obtain ⟨eG,sum,mask,aT,held⟩:=S
 simp only at h0
 subst h0
 rw [P.Bd eG sum mask d aT 0 hS.Mk (by omega) (fun e=>by rw [e] at hd;cases hd)]
 rfl
theorem P.Sh (j:Nat):P.mI.getD j 0=0:=by
 unfold P.mI
 rw [gH,List.getElem?_replicate]
 split <;> rfl
theorem P.aVo {S:P.MS} (hS:S.WF) (h0:S.held=0):S.aT=P.mI:=by
 have:=hS.z
 rw [h0] at this
 exact this
theorem EH {S:P.MS} (hS:S.WF) (d:List Int) (h m:Nat):spM S d (27+h) m=S.mask++(S.aT.take h++d.take m++S.aT.drop (h+(d.take m).length)):=by
 unfold spM
 rw [dU hS.Mj,dU hS.Mk,show 27+h-11=S.mask.length+h by rw [hS.Mj];omega,List.take_length_add_append,Nat.add_assoc,List.drop_length_add_append]
 simp only [List.append_assoc]
theorem Tj {S:P.MS} (hS:S.WF) {d:List Int} {h m:Nat} (hm:h+(d.take m).length<=16):(S.aT.take h++d.take m++S.aT.drop (h+(d.take m).length)).length=16:=by
 have:=hS.Mk
 simp only [List.length_append,List.length_drop,List.length_take] at *
 omega
theorem UH {S:P.MS} (d:List Int) (hS:S.WF) (hl:d.length<=1000000000000) :
 aE Tryz.prog (Ms P.plus) 87 (Zs d.length) (ML S d) 100 100 (NM (.eF []) (P.put S d)):=by
 refine iE (Sd _) (Se _) Tryz.func87 (by kernel_rfl) rfl (kJ (by kernel_rfl)) rfl [] ?_
 intro w0 M V0 Q hb H
 have aW:=Sd P.plus
 have aY:=Se P.plus
 have key:∀ (S1:P.MS) (d2:List Int),S1.WF->(S1.held=0\/d2=[])->P.put S1 d2=P.put S d->d2.length<=1000000000000 ->
  G Tryz.prog (Ms P.plus) w0 M (bI 100 (ML S d)) Tryz.f87.ntmps 100 V0 (.go (.loop Va)) mwK (cG (yZ d2.length) (zJ S1 d2) 101 [60] []) Q:=by
  intro S1 d2 hw h0 he hel
  refine G.loop (fun r s=>∃ (S1:P.MS) (d2:List Int),S1.WF/\(S1.held=0\/d2=[])/\P.put S1 d2=P.put S d/\d2.length<=1000000000000/\r=d2.length/\s=cG (yZ d2.length) (zJ S1 d2) 101 [60] []) (r0:=d2.length)
   ⟨S1,d2,hw,h0,he,hel,rfl,rfl⟩ ?_
  clear hw h0 he hel S1 d2
  rintro r s ⟨S1,d2,hw,h0,he,hel,rfl,rfl⟩
  by_cases sN:16<=d2.length
  .have hT:lT d2.length=true:=decide_eq_true (by omega)
   have h0:S1.held=0:=h0.resolve_right fun e=>by rw [e] at sN;simp at sN
   have ht:(d2.take 16).length=16:=by rw [List.length_take];omega
   have e1:=P.aMu hw h0 ht
   have h:=aSe P.plus S S1 (P.put S1 (d2.take 16)) d d2 (d2.drop 16) d2.length (d2.drop 16).length
   rw [aIo,ED (by omega),EE (by omega),List.take_take,Nat.min_self,ht] at h
   refine G.pN aW aY mix hb [true] h ?_ (d2.drop 16).length (by rw [List.length_drop];omega) ⟨_,_,P.Gd hw _,?_,?_,?_,rfl,rfl⟩
   .have Zk:(OL (d2.take 16)).length=17:=by
     have:=congrArg List.length (ED (d:=d2.take 16) (by omega))
     rw [List.take_take] at this
     simpa [tqL,ht] using this
    have aKf:(d2.take 16++[1]).length=17:=by rw [List.length_append,ht];rfl
    refine aN ⟨by omega,by omega,by omega⟩ (Nl hw.b5 hw.s5 aKf (by rw [P.Jt hw];exact An rfl) (pL ?_ (aN hT (aN rfl (aN (by rw [List.length_drop];omega) (pL ?_ (aN ?_ gM)))))))
    .refine aB (show _/\_/\_/\_/\_/\_/\True from ⟨aKf,by rw [Zk];decide,⟨dF 0,by omega⟩,by omega,dF _,⟨by omega,by omega,by omega⟩,trivial⟩)
    .rw [e1]
     refine Dr rfl ?_ (fun _ _=>rfl) (fun j _=>by rw [P.aVo hw h0]) (by rw [h0])
     show P.plus _ _ _=P.plus _ _ _
     rw [iL hw.s5,iL hw.b5]
    .rw [List.take_of_length_le (by rw [List.length_drop];omega)];rfl
   .left;rw [e1]
   .rw [<- P.kR,List.take_append_drop];exact he
   .rw [List.length_drop];omega
  .have hT:lT d2.length=false:=nD (by omega)
   refine G.hZ aW aY mix hb [false] (aSd P.plus S S1 S1 d d2 d2 d2.length d2.length) (aN hT (aN rfl (aN rfl (pL (An rfl) (aN rfl gM))))) (G.leave (by simp) ?_)
   by_cases hz:d2.length=0
   .have hd:d2=[]:=List.length_eq_zero_iff.1 hz
    subst hd
    have hP:gP 0=false:=rfl
    have h6:=aSb P.plus S S1 d [] 0
    have e3:S1=P.put S d:=he
    rw [e3] at h6
    rw [e3]
    exact G.sX (cl:=[]) aW aY mix [false] H h6 (aN hP (aN rfl gM)) rfl rfl rfl
   .have h0:S1.held=0:=h0.resolve_right fun e=>hz (by rw [e];rfl)
    have hP:gP d2.length=true:=decide_eq_true (by omega)
    have h5:=aSc P.plus S S1 d d2 d2.length
    have e3:spF S1 d2=P.put S d:=by
     rw [<- he]
     have aTh:d2.length.min 16=d2.length:=Nat.min_eq_left (by omega)
     have em:=EH hw d2 0 d2.length
     rw [List.take_length,List.take_zero,oR,Nat.zero_add] at em
     have hlen:=Tj hw (d:=d2) (h:=0) (m:=d2.length) (by rw [List.take_length];omega)
     rw [List.take_length,List.take_zero,oR,Nat.zero_add] at hlen
     have ep:=P.tO S1.eG S1.sum S1.mask d2 S1.aT 0 hw.Mk (by omega)
     rw [List.take_zero,oR,Nat.zero_add] at ep
     have eS:S1=⟨S1.eG,S1.sum,S1.mask,S1.aT,0⟩:=by rw [<- h0]
     rw [eS,ep]
     unfold spF spE
     simp only [aTh]
     have em':spM ⟨S1.eG,S1.sum,S1.mask,S1.aT,0⟩ d2 27 d2.length=S1.mask++(d2++S1.aT.drop d2.length):=em
     rw [em',aEx hw.Mj,EM hw.Mj hlen]
    rw [e3] at h5
    exact G.sX (cl:=[]) aW aY mix [true] H h5 (aN ⟨by omega,by rw [List.length_take];omega⟩ (aN hP (aN rfl gM))) rfl rfl rfl
 by_cases hz:S.held=0
 .have hG:gT S.held=false:=nD (by omega)
  refine G.hZ aW aY mix hb [false] (aSh P.plus S S d d d.length d.length) (aN hG (aN rfl (aN rfl (pL (An rfl) (aN rfl gM))))) ?_
  exact key S d hS (.inl hz) rfl hl
 .have hG:gT S.held=true:=decide_eq_true (by omega)
  have hh:=hS.hl
  have hm:mM d S.held=min d.length (16-S.held):=rfl
  have hmd:mM d S.held<=d.length:=by rw [hm];omega
  have aWk:S.held+mM d S.held<=16:=by rw [hm];omega
  have hmz:mM d S.held=d.length\/S.held+mM d S.held=16:=by rw [hm];omega
  clear hm
  generalize hmm:mM d S.held=m at *
  have YR:(d.take m).length=m:=by rw [List.length_take];omega
  have ho:oM S.held=27+S.held:=by unfold oM;rw [if_neg (by omega),qZ];omega
  have hhq:hq S.held m=((S.held+m:Nat):Int):=by unfold hq;rw [IntWalk.i64_in _ (by omega)];omega
  have em:=EH hS d S.held m
  have hlen:=Tj hS (d:=d) (h:=S.held) (m:=m) (by omega)
  have ej:YM S d=fun j=>(S.mask++(S.aT.take S.held++d.take m++S.aT.drop (S.held+(d.take m).length))).getD j 0:=by
   funext j;unfold YM;rw [ho,hmm,em]
  rw [YR] at ej hlen em
  have hmc:∀ {r:List Prop},(∀ q∈r,q)->∀ q∈mcO S.held d.length m d r,q:=fun hr=>
   aN ⟨by omega,by omega,by omega⟩ (aN ⟨by rw [ho];omega,by rw [ho,YR];omega⟩ (aN ⟨by omega,by omega,by omega,by omega,Int.natCast_nonneg _,by omega⟩ (aN hG (aN rfl hr))))
  have hdl:(d.drop m).length=d.length-m:=List.length_drop
  have htd:(d.drop (m:Int).toNat).take ((d.length:Int).toNat-(m:Int).toNat)=d.drop m:=by
   rw [qZ,qZ,List.take_of_length_le (by rw [hdl];omega)]
  have MO:=P.Gd hS (d.take m)
  have hpp:P.put (P.put S (d.take m)) (d.drop m)=P.put S d:=by rw [<- P.kR,List.take_append_drop]
  by_cases hf:S.held+m=16
  .have hbq:(hq S.held m==16)=true:=by rw [hhq,hf];rfl
   have ep:=P.Bd S.eG S.sum S.mask (d.take m) S.aT S.held hS.Mk (by omega) (fun e=>by rw [e] at YR;simp at YR;omega)
   have eS:P.put S (d.take m)=⟨S.eG,P.plus S.sum (S.aT.take S.held++d.take m++[1]) S.eG,S.mask,P.mI,0⟩:=ep
   have aLd:S.aT.drop (S.held+m)=[]:=List.drop_eq_nil_of_le (by rw [hf];exact Nat.le_of_eq hS.Mk)
   have hB:Zv S d=S.aT.take S.held++d.take m++[1]:=by
    unfold Zv
    rw [ej,EM hS.Mj hlen,aLd,List.append_nil]
   have aTr:(Zv S d).length=17:=by rw [hB];rw [aLd,List.append_nil] at hlen;rw [List.length_append,hlen];rfl
   have h2:=aSf P.plus S (P.put S (d.take m)) d (d.drop m) d.length (d.drop m).length
   rw [hmm] at h2
   refine G.hZ aW aY mix hb [true,true] h2 (Nl hS.b5 hS.s5 aTr ?_ (aN hbq (aN rfl (hmc (aN (by rw [hdl];omega) (pL ?_ (aN htd gM))))))) ?_
   .unfold spN
    refine Dr (iL hS.b5).symm (iL hS.s5).symm (fun j hj=>?_) (fun j hj=>?_) ?_
    .simp [Qu,gH,hj]
    .simp [Qu,gH,hj]
    .rw [hmm,hhq,qZ]
   .rw [eS]
    refine Dr rfl (by show P.plus _ _ _=P.plus _ _ _;rw [iL hS.s5,iL hS.b5,hB]) (fun j hj=>?_) (fun j hj=>?_) rfl
    .rw [ej];simp only
     rw [gH,List.getElem?_append_left (by rw [hS.Mj];exact hj),<- gH]
    .exact (P.Sh j).symm
   .exact key _ _ MO (.inl (by rw [eS])) hpp (by rw [hdl];omega)
  .have aWj:m=d.length:=hmz.resolve_right hf
   have hbq:(hq S.held m==16)=false:=by rw [hhq];simpa using by omega
   have ep:=P.tO S.eG S.sum S.mask (d.take m) S.aT S.held hS.Mk (by omega)
   have eS:P.put S (d.take m)=⟨S.eG,S.sum,S.mask,S.aT.take S.held++d.take m++S.aT.drop (S.held+(d.take m).length),S.held+(d.take m).length⟩:=ep
   rw [YR] at eS
   have h1:=aSg P.plus S (P.put S (d.take m)) d (d.drop m) d.length (d.drop m).length
   rw [hmm,ho,em] at h1
   refine G.hZ aW aY mix hb [true,false] h1 (aN hbq (aN rfl (hmc (aN (by rw [hdl];omega) (pL ?_ (aN htd gM)))))) ?_
   .rw [eS]
    refine Dr rfl rfl (fun j hj=>?_) (fun j hj=>?_) hhq
    .rw [gH,List.getElem?_append_left (by rw [hS.Mj];exact hj),<- gH]
    .rw [gH,List.getElem?_append_right (by rw [hS.Mj];omega),hS.Mj,show 16+j-16=j by omega,<- gH]
   .exact key _ _ MO (.inr (List.drop_eq_nil_of_le (by omega))) hpp (by rw [hdl];omega)
noncomputable def Nh (pl:List Int->List Int->List Int->List Int):Nat->Option Sum:=dI (aCc pl) 132 (aL aA 100 Rg)
theorem Tp (pl:List Int->List Int->List Int->List Int):∀ f S,Nh pl f=some S->∀ Γ:Env,Γ.aR=aA->aF Tryz.prog Γ f S:=bD (Tq pl) 132 _ EO
theorem aLu (pl:List Int->List Int->List Int->List Int) (S:P.MS):aJ (env (Nh pl) 4) Tryz.f88 true [false] 1500 [.ptr 60 true 0] (mnT S) 100 100 =
 some { bO:=[(c5 S.sum).length=5,(dA 16 S.mask).length=16,c5 S.sum=c5 S.sum,dA 16 S.mask=dA 16 S.mask,gT S.held=false,gT S.held=gT S.held],val:=.agg (cK .u8 16 (P.tag (c5 S.sum) (dA 16 S.mask))) }:=by kernel_rfl
def tgB (S:P.MS):List Int:=(dA 16 S.aT++[0]).set (0+(S.held:Int).toNat*1) 1
def tgX (pl:List Int->List Int->List Int->List Int) (S:P.MS):List Int:=c5 (pl (c5 S.sum) (tgB S) (c5 S.eG))
def Mk (a b:List Int):List Prop:=[a.length=5,b.length=16,a=a,b=b]
theorem aLt (pl:List Int->List Int->List Int->List Int) (S:P.MS):aJ (env (Nh pl) 4) Tryz.f88 true [true] 1500 [.ptr 60 true 0] (mnT S) 100 100 =
 some { NM (.agg (cK .u8 16 (P.tag (tgX pl S) (dA 16 S.mask)))) (P.nf S) with bO:=Mk (tgX pl S) (dA 16 S.mask)++tkG pl S.eG S.sum (S.mask.getD · 0) (S.aT.getD · 0) S.held (P.nf S) (tgB S) [(tgB S).length=17,0+(S.held:Int).toNat*1<(dA 16 S.aT++[0]).length,0<=(S.held:Int)/\(S.held:Int)<(17:Nat),gT S.held=true,gT S.held=gT S.held] }:=by kernel_rfl
namespace P
def Dm (S:MS):List Int:=tag (Cw S) S.mask
end P
theorem GF {S:P.MS} (hS:S.WF) (Γ:Env) (hg:Γ.aR=aA):aE Tryz.prog Γ 88 [.ptr 60 true 0] (mnT S) 100 100 (NM (.agg (cK .u8 16 (P.Dm S))) S):=by
 have hk:∀ {a b:List Int},a.length=5->b.length=16->∀ q∈Mk a b,q:=fun h1 h2=>aB (show _/\_/\_/\_/\True from ⟨h1,h2,rfl,rfl,trivial⟩)
 by_cases hz:S.held=0
 .have hG:gT S.held=false:=nD (by omega)
  have hs:aF Tryz.prog (env (Nh P.plus) 4) 88 (aJ (env (Nh P.plus) 4) Tryz.f88 true [false] 1500):=aM (bL _ 4) (bS _ (Tp _) 4) mix Tryz.func88 (by kernel_rfl) true [false] 1500
  have h:=hs.call (aLu P.plus S) (aN (by rw [iL hS.s5];exact hS.s5) (aN (by rw [dU hS.Mj];exact hS.Mj) (aN rfl (aN rfl (aN hG (aN rfl gM))))))
  have e1:P.Dm S=P.tag (c5 S.sum) (dA 16 S.mask):=by unfold P.Dm P.Cw;rw [if_neg (by omega),iL hS.s5,dU hS.Mj]
  rw [e1]
  exact (h.same (l0:=60) (by simp only [mnT,mnL,aK]) rfl).words (by rw [hg];rfl) (fun _=>rfl) (fun _ _ h=>h) (fun V=>rfl) rfl rfl
 .have hG:gT S.held=true:=decide_eq_true (by omega)
  have hh:=hS.hl
  have hs:aF Tryz.prog (env (Nh P.plus) 4) 88 (aJ (env (Nh P.plus) 4) Tryz.f88 true [true] 1500):=aM (bL _ 4) (bS _ (Tp _) 4) mix Tryz.func88 (by kernel_rfl) true [true] 1500
  have eB:tgB S=(S.aT++[0]).set S.held 1:=by unfold tgB;rw [dU hS.Mk,qZ,Nat.mul_one,Nat.zero_add]
  have hB:(tgB S).length=17:=by rw [eB,List.length_set,List.length_append,hS.Mk];rfl
  have eX:tgX P.plus S=P.Cw S:=by unfold tgX P.Cw;rw [if_pos (by omega),iL hS.s5,iL hS.b5,iL rfl,eB]
  have h:=hs.call (aLt P.plus S) (pL (hk (by rw [eX];unfold P.Cw;rw [if_pos (by omega)];rfl) (by rw [dU hS.Mj];exact hS.Mj)) (Nl hS.b5 hS.s5 hB (by rw [P.Jt hS];exact An rfl)
   (aN hB (aN (by rw [dU hS.Mk,List.length_append,hS.Mk,qZ,List.length_singleton];omega) (aN ⟨by omega,by omega⟩ (aN hG (aN rfl gM)))))))
  rw [P.Jt hS,eX,dU hS.Mj] at h
  exact h.words (by rw [hg];rfl) (fun _=>rfl) (fun _ _ h=>h) (fun V=>rfl) rfl rfl
def CJ (vs:List SV) (T:bB):Option Canon:=match vs with
 | [.ptr l _ _,p]=>match T l with
   | some (.own cs ty)=>match Nat.beq ty 179,msN cs,dR T .u8 p with
     | true,some S,some (ob,d)=>some { eN:=[.ptr 60 true 0,.iA 61 d.length],T0:=mtL S d,vl:=[(60,.lab l 0),(61,.arg 1)],e0:=NM (.eF []) (P.put S d),conds:=S.WF::(d.length<=1000000000000)::ob }
     | _,_,_=>none
   | _=>none
 | _=>none
theorem aFk (Γ:Env) (hg:Γ.aR=aA):aF Tryz.prog Γ 87 (aL aA 100 CJ):=by
 refine aU hg fun vs T c hd hc=>?_
 unfold CJ at hd
 split at hd
 case h_2=>cases hd
 split at hd
 case h_2=>cases hd
 split at hd
 case h_2=>cases hd
 cases hd
 exact (UH _ (hc _ dB) (hc _ (eK _ dB))).words (by rw [hg];rfl) (fun _=>rfl) (fun _ _ h=>h) (fun _=>rfl) rfl rfl
def Nm (vs:List SV) (T:bB):Option Canon:=match vs with
 | [.ptr l _ _]=>match T l with
   | some (.own cs ty)=>match Nat.beq ty 179,msN cs with
     | true,some S=>some { eN:=[.ptr 60 true 0],T0:=mnL S,vl:=[(60,.lab l 0)],e0:=NM (.agg (cK .u8 16 (P.Dm S))) S,conds:=[S.WF] }
     | _,_=>none
   | _=>none
 | _=>none
theorem QR (Γ:Env) (hg:Γ.aR=aA):aF Tryz.prog Γ 88 (aL aA 100 Nm):=by
 refine aU hg fun vs T c hd hc=>?_
 unfold Nm at hd
 split at hd
 case h_2=>cases hd
 split at hd
 case h_2=>cases hd
 split at hd
 case h_2=>cases hd
 cases hd
 exact GF (hc _ dB) Γ hg
open M in
def DS (vs:List SV) (T:bB):Option Canon:=match vs with
 | [.aG lq true 0 nq cq,.ptr ls true 0,.aG lu true 0 nu cu,.dD lv 0 3 0]=>match T lq,T ls,T lu,T lv with
   | some (.own qs 142),some (.own [.raw (.pointer none)] 282),some (.own us 142),some (.row 1 _ 142)=>match cR .u64 qs,cR .u64 us,Nat.beq nu 4 with
     | some [y0],some [u0,u1,u2,u3,_,_,_],true=>match Nat.beq cu 7&&(Nat.beq nq 1&&Nat.beq cq 1) with
       | true=>some { eN:=zQ 4 7 1 1,T0:=[(61,.own (wc [y0]) 142),(62,.own [.raw (.pointer none)] 282),(63,.own (wc [u0,u1,u2,u3,0,0,0]) 142),(64,.row 1 eR 142)],vl:=[(61,.lab lq 0),(62,.lab ls 0),(63,.lab lu 0),(64,.lab lv 0)]
                      e0:={ val:=.eF [],wr:=[(61,.own (wc [n4 u0 u1 u2 u3/DD]) 142),(63,.own (wc [w0 (n4 u0 u1 u2 u3%DD),w1 (n4 u0 u1 u2 u3%DD),w2 (n4 u0 u1 u2 u3%DD),0,0,0,0]) 142),(62,.own [.raw (.pointer none)] 282),(64,.row 1 eR 142)] },conds:=[U u0,U u1,U u2,U u3,u3<9223372036854775808] }
       | false=>none
     | some [y0],some [u0,u1,u2,u3,_,_,_,_],true=>match Nat.beq cu 8&&(Nat.beq nq 1&&Nat.beq cq 1) with
       | true=>some { eN:=zQ 4 8 1 1,T0:=[(61,.own (wc [y0]) 142),(62,.own [.raw (.pointer none)] 282),(63,.own (wc [u0,u1,u2,u3,0,0,0,0]) 142),(64,.row 1 eR 142)],vl:=[(61,.lab lq 0),(62,.lab ls 0),(63,.lab lu 0),(64,.lab lv 0)]
                      e0:={ val:=.eF [],wr:=[(61,.own (wc [n4 u0 u1 u2 u3/DD]) 142),(63,.own (wc [w0 (n4 u0 u1 u2 u3%DD),w1 (n4 u0 u1 u2 u3%DD),w2 (n4 u0 u1 u2 u3%DD),0,0,0,0,0]) 142),(62,.own [.raw (.pointer none)] 282),(64,.row 1 eR 142)] },conds:=[U u0,U u1,U u2,U u3,u3<9223372036854775808] }
       | false=>none
     | some [y0,y1,_,_,_,_],some [u0,u1,u2,u3,u4,_,_,_],false=>match Nat.beq nu 5&&(Nat.beq cu 8&&(Nat.beq nq 2&&Nat.beq cq 6)) with
       | true=>some { eN:=zQ 5 8 2 6,T0:=[(61,.own (wc [y0,y1,0,0,0,0]) 142),(62,.own [.raw (.pointer none)] 282),(63,.own (wc [u0,u1,u2,u3,u4,0,0,0]) 142),(64,.row 1 eR 142)],vl:=[(61,.lab lq 0),(62,.lab ls 0),(63,.lab lu 0),(64,.lab lv 0)]
                      e0:={ val:=.eF [],wr:=[(61,.own (wc [r5 u0 u1 u2 u3 u4/DD,n4 u1 u2 u3 u4/DD,0,0,0,0]) 142),(63,.own (wc [w0 (r5 u0 u1 u2 u3 u4%DD),w1 (r5 u0 u1 u2 u3 u4%DD),w2 (r5 u0 u1 u2 u3 u4%DD),0,0,0,0,0]) 142),(62,.own [.raw (.pointer none)] 282),(64,.row 1 eR 142)] },conds:=[U u0,U u1,U u2,U u3,U u4,u4<9223372036854775808] }
       | false=>none
     | some [y0,y1,_,_,_,_],some [u0,u1,u2,u3,u4,_,_,_,_],false=>match Nat.beq nu 5&&(Nat.beq cu 9&&(Nat.beq nq 2&&Nat.beq cq 6)) with
       | true=>some { eN:=zQ 5 9 2 6,T0:=[(61,.own (wc [y0,y1,0,0,0,0]) 142),(62,.own [.raw (.pointer none)] 282),(63,.own (wc [u0,u1,u2,u3,u4,0,0,0,0]) 142),(64,.row 1 eR 142)],vl:=[(61,.lab lq 0),(62,.lab ls 0),(63,.lab lu 0),(64,.lab lv 0)]
                      e0:={ val:=.eF [],wr:=[(61,.own (wc [r5 u0 u1 u2 u3 u4/DD,n4 u1 u2 u3 u4/DD,0,0,0,0]) 142),(63,.own (wc [w0 (r5 u0 u1 u2 u3 u4%DD),w1 (r5 u0 u1 u2 u3 u4%DD),w2 (r5 u0 u1 u2 u3 u4%DD),0,0,0,0,0,0]) 142),(62,.own [.raw (.pointer none)] 282),(64,.row 1 eR 142)] },conds:=[U u0,U u1,U u2,U u3,U u4,u4<9223372036854775808] }
       | false=>none
     | _,_,_=>none
   | _,_,_,_=>none
 | _=>none
theorem aPi (Γ:Env) (hg:Γ.aR=aA):aF Tryz.prog Γ 225 (aL aA 100 DS):=by
 refine aU hg fun vs T c hd hc=>?_
 unfold DS at hd
 split at hd
 case h_2=>cases hd
 split at hd
 case h_2=>cases hd
 split at hd
 case h_5=>cases hd
 .split at hd
  case h_2=>cases hd
  cases hd
  exact (((Ye _ (hc _ (by simp)) (hc _ (by simp)) (hc _ (by simp)) (hc _ (by simp)) (hc _ (by simp))).bC 62 _ rfl (by decide)).bC 64 _ rfl (by decide)).words (by rw [hg];rfl) (fun _=>rfl) (fun _ _ h=>h) (fun _=>rfl) rfl rfl
 .split at hd
  case h_2=>cases hd
  cases hd
  exact (((Yd _ (hc _ (by simp)) (hc _ (by simp)) (hc _ (by simp)) (hc _ (by simp)) (hc _ (by simp))).bC 62 _ rfl (by decide)).bC 64 _ rfl (by decide)).words (by rw [hg];rfl) (fun _=>rfl) (fun _ _ h=>h) (fun _=>rfl) rfl rfl
 .split at hd
  case h_2=>cases hd
  cases hd
  exact (((Yc _ _ (hc _ (by simp)) (hc _ (by simp)) (hc _ (by simp)) (hc _ (by simp)) (hc _ (by simp)) (hc _ (by simp))).bC 62 _ rfl (by decide)).bC 64 _ rfl (by decide)).words (by rw [hg];rfl) (fun _=>rfl) (fun _ _ h=>h) (fun _=>rfl) rfl rfl
 .split at hd
  case h_2=>cases hd
  cases hd
  exact (((Yb _ _ (hc _ (by simp)) (hc _ (by simp)) (hc _ (by simp)) (hc _ (by simp)) (hc _ (by simp)) (hc _ (by simp))).bC 62 _ rfl (by decide)).bC 64 _ rfl (by decide)).words (by rw [hg];rfl) (fun _=>rfl) (fun _ _ h=>h) (fun _=>rfl) rfl rfl
theorem oH:∀ f S,Ut f=some S->∀ Γ:Env,Γ.aR=aA->aF Tryz.prog Γ f S:=FN
noncomputable def aCe:Nat->Option Sum:=dI Ut 225 (aL aA 100 DS)
theorem Tt:∀ f S,aCe f=some S->∀ Γ:Env,Γ.aR=aA->aF Tryz.prog Γ f S:=bD oH 225 _ aPi
noncomputable def aKv (iq ir:Nat):Nat->Option Sum:=dI (dI aCe 145 (aL aA 100 (rV iq ir))) 114 (orB aCe 114 (aL aA 100 Ru))
theorem XA (iq ir:Nat):∀ f S,aKv iq ir f=some S->∀ Γ:Env,Γ.aR=aA->aF Tryz.prog Γ f S:=bD (bD Tt 145 _ (Aq iq ir)) 114 _ (ES Tt 114 _ aAr)
noncomputable def nY (lt:Bool) (iq ir:Nat):Nat->Option Sum:=zS (aKv iq ir) 170 [lt]
theorem mQ (lt:Bool) (iq ir:Nat):∀ f S,nY lt iq ir f=some S->∀ Γ:Env,Γ.aR=aA->aF Tryz.prog Γ f S:=kT (XA iq ir) 170 _
def pH:List SV:=[.ptr 61 true 0,.ptr 61 true 0,.ptr 62 true 0]
def Cg:List SV:=[.int true .u64 18446744073709551611,.int true .u64 18446744073709551615,.int true .u64 3,.int true .u64 0,.int true .u64 0,.int true .u64 0,.int true .u64 0,.int true .u64 0]
def YP (n cap:Nat) (ws:List SV):bB:=fun l=>look l [(61,.own [.bool true false,.aG 63 true 0 n cap] 102),(62,.own [.bool true false,.aG 66 true 0 3 8] 102),(63,.own ws 142),(66,.own Cg 142),(18,.fL [.int true .i64 40])]
noncomputable def zW (lt:Bool) (iq ir n cap:Nat) (ws:List SV):Option bK:=aJ (env (nY lt iq ir) 22) Tryz.f98 true [] 400 pH (YP n cap ws) 100 100
namespace M
def s0 (a:Int):Int:=cZ .u64 a 62
def s1 (a b:Int):Int:=jQ .u64 (cZ .u64 b 62) (bU .u64 a 2)
def s2 (a:Int):Int:=bU .u64 a 2
def t0 (x:Int):Int:=jQ .u64 (bU .u64 (w0 x) 62) (cZ .u64 (w1 x) 2)
def t1 (x:Int):Int:=jQ .u64 (bU .u64 (w1 x) 62) (cZ .u64 (w2 x) 2)
def t2 (x:Int):Int:=jQ .u64 (bU .u64 (w2 x) 62) 0
def x3 (a0 a1 a2:Int):Int:=n4 (s0 a0) (s1 a0 a1) (s1 a1 a2) (s2 a2)
def h4 (a0 a1 a2 a3:Int):Int:=n4 (s1 a0 a1) (s1 a1 a2) (s1 a2 a3) (s2 a3)
def x4 (a0 a1 a2 a3:Int):Int:=r5 (s0 a0) (s1 a0 a1) (s1 a1 a2) (s1 a2 a3) (s2 a3)
end M
theorem aFr (a0:Int) :
 zW true 0 0 1 6 (wc [a0,0,0,0,0,0]) =
 some {val:=.ptr 61 true 0,wr:=[(61,.own [.bool true false,.aG 63 true 0 1 6] 102),(63,.own [.int false .u64 a0,.int false .u64 0,.int false .u64 0,.int false .u64 0,.int false .u64 0,.int false .u64 0] 142)]}:=by kernel_rfl
theorem aFq (a0 a1:Int) :
 zW true 0 0 2 6 (wc [a0,a1,0,0,0,0]) =
 some {val:=.ptr 61 true 0,wr:=[(61,.own [.bool true false,.aG 63 true 0 2 6] 102),(63,.own [.int false .u64 a0,.int false .u64 a1,.int false .u64 0,.int false .u64 0,.int false .u64 0,.int false .u64 0] 142)]}:=by kernel_rfl
theorem aFp (a0 a1:Int) :
 zW true 0 0 2 7 (wc [a0,a1,0,0,0,0,0]) =
 some {val:=.ptr 61 true 0,wr:=[(61,.own [.bool true false,.aG 63 true 0 2 7] 102),(63,.own [.int false .u64 a0,.int false .u64 a1,.int false .u64 0,.int false .u64 0,.int false .u64 0,.int false .u64 0,.int false .u64 0] 142)]}:=by kernel_rfl
theorem aFo (a0 a1 a2:Int) :
 zW true 0 0 3 7 (wc [a0,a1,a2,0,0,0,0]) =
 some {bO:=[decide (M.cmp (M.n3 a0 a1 a2) 1361129467683753853853498429727072845819<0)=true,M.U a0,M.U a1,M.U a2,M.U 18446744073709551611,M.U 18446744073709551615,M.U 3,[a0,a1,a2,0,0,0,0]=[a0,a1,a2,0,0,0,0],([18446744073709551611,18446744073709551615,3,0,0,0,0,0]:List Int)=[18446744073709551611,18446744073709551615,3,0,0,0,0,0]],val:=.ptr 61 true 0,wr:=[(61,.own [.bool true false,.aG 63 true 0 3 7] 102),(63,.own [.int false .u64 a0,.int false .u64 a1,.int false .u64 a2,.int false .u64 0,.int false .u64 0,.int false .u64 0,.int false .u64 0] 142)]}:=by kernel_rfl
theorem aFn (a0 a1 a2:Int) :
 zW true 0 0 3 8 (wc [a0,a1,a2,0,0,0,0,0]) =
 some {bO:=[decide (M.cmp (M.n3 a0 a1 a2) 1361129467683753853853498429727072845819<0)=true,M.U a0,M.U a1,M.U a2,M.U 18446744073709551611,M.U 18446744073709551615,M.U 3,[a0,a1,a2,0,0,0,0,0]=[a0,a1,a2,0,0,0,0,0],([18446744073709551611,18446744073709551615,3,0,0,0,0,0]:List Int)=[18446744073709551611,18446744073709551615,3,0,0,0,0,0]],val:=.ptr 61 true 0,wr:=[(61,.own [.bool true false,.aG 63 true 0 3 8] 102),(63,.own [.int false .u64 a0,.int false .u64 a1,.int false .u64 a2,.int false .u64 0,.int false .u64 0,.int false .u64 0,.int false .u64 0,.int false .u64 0] 142)]}:=by kernel_rfl
theorem aNo {c ir:Nat} (hc:c=7\/c=8) (hr:ir<=3) (a0 a1 a2:Int) :
 zW false 1 ir 3 c (wc ([a0,a1,a2]++List.replicate (c-3) 0)) =
 sh (M.x3 a0 a1 a2%M.DD) fun z0=>
 some {bO:=[M.nl [M.t0 z0,M.t1 z0,M.t2 z0,0]=ir,[M.t0 z0,M.t1 z0,M.t2 z0]++List.replicate (c-3) 0=[M.t0 z0,M.t1 z0,M.t2 z0]++List.replicate (c-3) 0,M.nl [M.x3 a0 a1 a2/M.DD]=1,[M.x3 a0 a1 a2/M.DD]=[M.x3 a0 a1 a2/M.DD],M.U (M.s0 a0),M.U (M.s1 a0 a1),M.U (M.s1 a1 a2),M.U (M.s2 a2),M.s2 a2<9223372036854775808,3=3,([0]:List Int)=[0],[M.s0 a0,M.s1 a0 a1,M.s1 a1 a2,M.s2 a2]++List.replicate (c-4) 0=[M.s0 a0,M.s1 a0 a1,M.s1 a1 a2,M.s2 a2]++List.replicate (c-4) 0,decide (M.cmp (M.n3 a0 a1 a2) 1361129467683753853853498429727072845819<0)=false,M.U a0,M.U a1,M.U a2,M.U 18446744073709551611,M.U 18446744073709551615,M.U 3,[a0,a1,a2]++List.replicate (c-3) 0=[a0,a1,a2]++List.replicate (c-3) 0,([18446744073709551611,18446744073709551615,3,0,0,0,0,0]:List Int)=[18446744073709551611,18446744073709551615,3,0,0,0,0,0]],val:=.ptr 61 true 0,wr:=[(61,.own [.bool true false,.aG 63 true 0 ir c] 102),(63,.own (wc ([M.t0 z0,M.t1 z0,M.t2 z0]++List.replicate (c-3) 0)) 142)]}:=by rcases hc with rfl | rfl <;> rcases (by omega:ir=0\/ir=1\/ir=2\/ir=3) with rfl | rfl | rfl | rfl <;> kernel_rfl
theorem aNn {c iq ir:Nat} (hc:c=8\/c=9) (hq:iq=1\/iq=2) (hr:ir<=3) (a0 a1 a2 a3:Int) :
 zW false iq ir 4 c (wc ([a0,a1,a2,a3]++List.replicate (c-4) 0)) =
 sh (M.x4 a0 a1 a2 a3%M.DD) fun z0=>
 some {bO:=[M.nl [M.t0 z0,M.t1 z0,M.t2 z0,0,0]=ir,[M.t0 z0,M.t1 z0,M.t2 z0,0]++List.replicate (c-4) 0=[M.t0 z0,M.t1 z0,M.t2 z0,0]++List.replicate (c-4) 0,M.nl [M.x4 a0 a1 a2 a3/M.DD,M.h4 a0 a1 a2 a3/M.DD]=iq,[M.x4 a0 a1 a2 a3/M.DD,M.h4 a0 a1 a2 a3/M.DD,0,0,0,0]=[M.x4 a0 a1 a2 a3/M.DD,M.h4 a0 a1 a2 a3/M.DD,0,0,0,0],M.U (M.s0 a0),M.U (M.s1 a0 a1),M.U (M.s1 a1 a2),M.U (M.s1 a2 a3),M.U (M.s2 a3),M.s2 a3<9223372036854775808,3=3,([0,0,0,0,0,0]:List Int)=[0,0,0,0,0,0],[M.s0 a0,M.s1 a0 a1,M.s1 a1 a2,M.s1 a2 a3,M.s2 a3]++List.replicate (c-5) 0=[M.s0 a0,M.s1 a0 a1,M.s1 a1 a2,M.s1 a2 a3,M.s2 a3]++List.replicate (c-5) 0],val:=.ptr 61 true 0,wr:=[(61,.own [.bool true false,.aG 63 true 0 ir c] 102),(63,.own (wc ([M.t0 z0,M.t1 z0,M.t2 z0,0]++List.replicate (c-4) 0)) 142)]}:=by rcases hc with rfl | rfl <;> rcases hq with rfl | rfl <;> rcases (by omega:ir=0\/ir=1\/ir=2\/ir=3) with rfl | rfl | rfl | rfl <;> kernel_rfl
def kK:SB->SB->Prop
 | .own cs t,.own ds t'=>t=t'/\∀ V,aI V ds=aI V cs
 | B,C=>B=C
def vR:List SB->List SB->Prop
 | [],[]=>True
 | B::r,C::t=>kK B C/\vR r t
 | _,_=>False
def nK:List (Nat × SB)->List (Nat × SB)->Prop
 | [],[]=>True
 | (l,B)::r,(k,C)::t=>l=k/\kK B C/\nK r t
 | _,_=>False
theorem bW (B:SB):kK B B:=by cases B <;> simp [kK]
theorem jX {B C:SB} (h:kK B C) (V:bA) (w:World) (l:Nat):(okB V w l B->okB V w l C)/\C.aT V l=B.aT V l/\C.owned=B.owned:=by
 cases B with
 | own cs t=>
   cases C with
   | own ds t'=>
     obtain ⟨rfl,hd⟩:=h
     exact ⟨fun ⟨us,hu,hr⟩=>⟨us,(hd V).trans hu,hr⟩,rfl,rfl⟩
   | _=>simp [kK] at h
 | _=>simp only [kK] at h;subst h;exact ⟨id,rfl,rfl⟩
theorem oK {l:Nat}:∀ {r t:List (Nat × SB)},nK r t->(look l r=none/\look l t=none)\/∃ B C,look l r=some B/\look l t=some C/\kK B C
 | [],[],_=>.inl ⟨rfl,rfl⟩
 | [],(k,C)::t,h=>by simp [nK] at h
 | (k,B)::r,[],h=>by simp [nK] at h
 | (k,B)::r,(k',C)::t,h=>by
   obtain ⟨rfl,h1,h2⟩:=h
   by_cases e:k=l
   .subst e;exact .inr ⟨B,C,aK _ _ _,aK _ _ _,h1⟩
   .rw [aH e,aH e];exact oK h2
theorem Bs:∀ {r t:List SB} (lab:Nat),vR r t->nK (gC lab r) (gC lab t)
 | [],[],_,_=>trivial
 | [],_::_,_,h=>by simp [vR] at h
 | _::_,[],_,h=>by simp [vR] at h
 | B::r,C::t,lab,h=>⟨rfl,h.1,Bs (lab+1) h.2⟩
theorem uW:∀ {r t r' t':List (Nat × SB)},nK r t->nK r' t'->nK (r++r') (t++t')
 | [],[],_,_,_,h=>h
 | [],_::_,_,_,h,_=>by simp [nK] at h
 | _::_,[],_,_,h,_=>by simp [nK] at h
 | (_,_)::_,(_,_)::_,_,_,h,h'=>⟨h.1,h.2.1,uW h.2.2 h'⟩
theorem aE.re {P:Program} {Γ Γ':Env} {f:FuncId} {vs:List SV} {T:bB} {lab F:Nat} {e e':bK} (h:aE P Γ f vs T lab F e) (hg:Γ'.aR=Γ.aR) (he:∀ V,den V e.val=den V e'.val) (hn:vR e.new e'.new) (hw:nK e.wr e'.wr):aE P Γ' f vs T lab F e':=by
 intro w0 M V T2 w xs aO Fv Ur hf hF hx o a K Q hK
 refine h w0 M V T2 w xs aO Fv (fun n l hl=>Ur n l (by rw [hg];exact hl)) hf hF hx o a K Q fun V' x w' h1 h2 h3=>hK V' x w' h1 ((he V').symm.trans h2) ?_
 have kB:nK (e.fA lab) (e'.fA lab):=uW hw (Bs lab hn)
 have src:∀ l B,eQ T2 lab e' l=some B->∃ C,eQ T2 lab e l=some C/\kK C B:=by
  intro l B hl
  unfold eQ at hl |-
  rcases oK (l:=l) kB with ⟨e1,e2⟩ | ⟨C,D,e1,e2,e3⟩
  .rw [e2] at hl;rw [e1];exact ⟨B,hl,bW B⟩
  .rw [e2] at hl;cases hl;rw [e1];exact ⟨C,rfl,e3⟩
 refine ⟨fun l B hl=>?_,fun l B l' B' n dJ hl sP ho hb iD=>?_,fun l B n hl ho hb=>?_,h3.frame⟩
 .obtain ⟨C,hC,hs⟩:=src l B hl
  exact (jX hs V' w' l).1 (h3.ok l C hC)
 .obtain ⟨C,hC,hs⟩:=src l B hl
  obtain ⟨C',hC',Ce⟩:=src l' B' sP
  obtain ⟨_,b1,b2⟩:=jX hs V' w' l
  obtain ⟨_,b1',b2'⟩:=jX Ce V' w' l'
  exact h3.jI l C l' C' n dJ hC hC' (b2 ▸ ho) (b1 ▸ hb) (b1' ▸ iD)
 .obtain ⟨C,hC,hs⟩:=src l B hl
  obtain ⟨_,b1,b2⟩:=jX hs V' w' l
  exact h3.perm l C n hC (b2 ▸ ho) (b1 ▸ hb)
namespace M
def aX:Int:=1361129467683753853853498429727072845819
theorem EA:DD=4611686018427387904*aX:=by decide
theorem Zc {k y i:Nat} (hy:y<2^i) (hk:k*2^i+y<18446744073709551616):jQ .u64 ((k*2^i:Nat):Int) (y:Int)=((k*2^i+y:Nat):Int):=by
 have h:=bits_or_u64_nat (k*2^i) y (by omega) (by omega)
 have e:k*2^i ||| y=k*2^i+y:=by
  rw [<- Nat.shiftLeft_eq]
  exact (Nat.shiftLeft_add_eq_or_of_lt hy k).symm
 rw [e] at h
 exact h
theorem Zd (x y:Int):jQ .u64 x y=jQ .u64 y x:=by unfold jQ;rw [BitVec.or_comm]
theorem ZP (a:Int):cZ .u64 a 62=ul (a*4611686018427387904):=by unfold cZ;rw [bN];rfl
theorem aJi (a:Int):cZ .u64 a 2=ul (a*4):=by unfold cZ;rw [bN];rfl
theorem BG (a:Int):bU .u64 a 62=a/4611686018427387904:=by
 show Int.fdiv a 4611686018427387904=_
 rw [Int.fdiv_eq_ediv_of_nonneg _ (by decide)]
theorem OR (a:Int):bU .u64 a 2=a/4:=by
 show Int.fdiv a 4=_
 rw [Int.fdiv_eq_ediv_of_nonneg _ (by decide)]
theorem BQ (a:Int):s0 a=a%4*4611686018427387904:=by unfold s0;rw [ZP];unfold ul;omega
theorem BP (a:Int):s2 a=a/4:=OR a
theorem aJu (k y:Int) (hk:0<=k) (hk4:k<4) (eU:0<=y) (hy:y<4611686018427387904):jQ .u64 (k*4611686018427387904) y=k*4611686018427387904+y:=by
 obtain ⟨k,rfl⟩:=pD hk
 obtain ⟨y,rfl⟩:=pD eU
 have e:(k:Int)*4611686018427387904=((k*2^62:Nat):Int):=by rw [Int.natCast_mul];rfl
 have NA:(2:Nat)^62=4611686018427387904:=rfl
 rw [e,Zc (by omega) (by omega)]
 omega
theorem or2 (k y:Int) (hk:0<=k) (hk4:k<4611686018427387904) (eU:0<=y) (hy:y<4):jQ .u64 (k*4) y=k*4+y:=by
 obtain ⟨k,rfl⟩:=pD hk
 obtain ⟨y,rfl⟩:=pD eU
 have e:(k:Int)*4=((k*2^2:Nat):Int):=by rw [Int.natCast_mul];rfl
 have NA:(2:Nat)^2=4:=rfl
 rw [e,Zc (by omega) (by omega)]
 omega
theorem Dq {a b:Int} (ha:U a):s1 a b=b%4*4611686018427387904+a/4:=by
 have:=ha.1;have:=ha.2
 unfold s1
 rw [ZP,OR]
 have e:ul (b*4611686018427387904)=b%4*4611686018427387904:=by unfold ul;omega
 rw [e]
 exact aJu (b%4) (a/4) (by omega) (by omega) (by omega) (by omega)
theorem aLy (x:Int):t0 x=w0 x/4611686018427387904+w1 x%4611686018427387904*4:=by
 obtain ⟨h0,h1,h2⟩:=w_U x
 have:=h0.1;have:=h0.2;have:=h1.1;have:=h1.2
 unfold t0
 rw [BG,aJi,Zd]
 have e:ul (w1 x*4)=w1 x%4611686018427387904*4:=by unfold ul;omega
 rw [e,or2 (w1 x%4611686018427387904) (w0 x/4611686018427387904) (by omega) (by omega) (by omega) (by omega)]
 omega
theorem aLx (x:Int):t1 x=w1 x/4611686018427387904+w2 x%4611686018427387904*4:=by
 obtain ⟨h0,h1,h2⟩:=w_U x
 have:=h1.1;have:=h1.2;have:=h2.1;have:=h2.2
 unfold t1
 rw [BG,aJi,Zd]
 have e:ul (w2 x*4)=w2 x%4611686018427387904*4:=by unfold ul;omega
 rw [e,or2 (w2 x%4611686018427387904) (w1 x/4611686018427387904) (by omega) (by omega) (by omega) (by omega)]
 omega
theorem aLw (x:Int):t2 x=w2 x/4611686018427387904:=by
 obtain ⟨h0,h1,h2⟩:=w_U x
 have:=h2.1;have:=h2.2
 unfold t2
 have:=aJu 0 (w2 x/4611686018427387904) (by omega) (by omega) (by omega) (by omega)
 rw [Int.zero_mul] at this
 rw [BG,Zd,this]
 omega
theorem EG {R:Int} (h0:0<=R) (h1:R<aX):t0 (4611686018427387904*R)=w0 R/\t1 (4611686018427387904*R)=w1 R/\t2 (4611686018427387904*R)=w2 R:=by
 have Mp:R<1361129467683753853853498429727072845819:=h1
 rw [aLy,aLx,aLw]
 unfold w0 w1 w2
 refine ⟨?_,?_,?_⟩ <;> omega
theorem ZI {a0 a1 a2:Int} (h0:U a0) (h1:U a1) (h2:U a2):x3 a0 a1 a2=4611686018427387904*n3 a0 a1 a2:=by
 have:=h0.1;have:=h0.2;have:=h1.1;have:=h1.2;have:=h2.1;have:=h2.2
 unfold x3
 rw [BQ,Dq h0,Dq h1,BP]
 unfold n4 n3
 omega
theorem aAo {a0 a1 a2 a3:Int} (h0:U a0) (h1:U a1) (h2:U a2) (h3:U a3):s0 a0+18446744073709551616*h4 a0 a1 a2 a3=4611686018427387904*n4 a0 a1 a2 a3:=by
 have:=h0.1;have:=h0.2;have:=h1.1;have:=h1.2;have:=h2.1;have:=h2.2;have:=h3.1;have:=h3.2
 unfold h4
 rw [BQ,Dq h0,Dq h1,Dq h2,BP]
 unfold n4
 omega
theorem FC (n:Int):4611686018427387904*n%DD=4611686018427387904*(n%aX):=by
 rw [EA];exact Int.mul_emod_mul_of_pos _ _ (by decide)
theorem aIm (n:Int):4611686018427387904*n/DD=n/aX:=by
 rw [EA];exact Int.mul_ediv_mul_of_pos _ _ (by decide)
theorem aDc {a0 a1 a2:Int} (h0:U a0) (h1:U a1) (h2:U a2):x3 a0 a1 a2%DD=4611686018427387904*(n3 a0 a1 a2%aX):=by
 rw [ZI h0 h1 h2,FC]
theorem aDd {a0 a1 a2:Int} (h0:U a0) (h1:U a1) (h2:U a2):x3 a0 a1 a2/DD=n3 a0 a1 a2/aX:=by
 rw [ZI h0 h1 h2,aIm]
theorem ZH {a0 a1 a2 a3:Int}:x4 a0 a1 a2 a3=s0 a0+18446744073709551616*(h4 a0 a1 a2 a3%DD):=ZW
theorem aDa {a0 a1 a2 a3:Int} (h0:U a0) (h1:U a1) (h2:U a2) (h3:U a3):x4 a0 a1 a2 a3%DD=4611686018427387904*(n4 a0 a1 a2 a3%aX):=by
 rw [<- FC,<- aAo h0 h1 h2 h3,ZH]
 rw [Int.add_emod,Int.mul_emod,Int.emod_emod_of_dvd _ (Int.dvd_refl DD),<- Int.mul_emod,<- Int.add_emod]
theorem aDb {a0 a1 a2 a3:Int} (h0:U a0) (h1:U a1) (h2:U a2) (h3:U a3) (hp:aX<=n4 a0 a1 a2 a3) (hz:h4 a0 a1 a2 a3/DD=0):x4 a0 a1 a2 a3/DD≠0:=by
 have hh:=aAo h0 h1 h2 h3
 have hx:=ZH (a0:=a0) (a1:=a1) (a2:=a2) (a3:=a3)
 have hd:=EA
 have e1:=Int.emod_add_mul_ediv (h4 a0 a1 a2 a3) DD
 rw [hz] at e1
 have e2:h4 a0 a1 a2 a3%DD=h4 a0 a1 a2 a3:=by omega
 rw [e2,hh] at hx
 intro e
 have e3:=Int.emod_lt_of_pos (x4 a0 a1 a2 a3) Pd
 have e4:=Int.emod_add_mul_ediv (x4 a0 a1 a2 a3) DD
 rw [e] at e4
 omega
theorem sU {a:Int} (h:U a):U (s0 a)/\U (s2 a)/\s2 a<9223372036854775808:=by
 have:=h.1;have:=h.2
 rw [BQ,BP]
 unfold U
 omega
theorem s1U {a b:Int} (h:U a):U (s1 a b):=by
 have:=h.1;have:=h.2
 rw [Dq h]
 unfold U
 omega
theorem ZT (n:Int):0<=n%aX/\n%aX<aX:=⟨Int.emod_nonneg _ (by decide),Int.emod_lt_of_pos _ (by decide)⟩
def ln (R:Int):Nat:=nl [w0 R,w1 R,w2 R]
theorem fS:∀ l:List Int,nl (l++[0])=nl l
 | []=>rfl
 | x::r=>by simp only [List.cons_append,nl,fS r]
theorem nl4 (a b c:Int):nl [a,b,c,0]=nl [a,b,c]:=fS [a,b,c]
theorem nl5 (a b c:Int):nl [a,b,c,0,0]=nl [a,b,c]:=(fS [a,b,c,0]).trans (nl4 a b c)
theorem aAg (R:Int):ln R<=3:=CF _
theorem Ou {x y:Int}:decide (cmp x y<0)=decide (x<y):=by
 unfold cmp
 by_cases h:x<y
 .rw [if_pos h];simp [h]
 .rw [if_neg h];split <;> simp [h]
end M
open M in
theorem Pr {a0:Int} (h0:U a0) (hz:a0≠0):aE Tryz.prog Γv 98 pH (YP 1 6 (wc [a0,0,0,0,0,0])) 100 100
 { val:=.ptr 61 true 0,wr:=[(61,.own [.bool true false,.aG 63 false 0 (ln (a0%aX)) 6] 102),(63,.own (wc [w0 (a0%aX),w1 (a0%aX),w2 (a0%aX),0,0,0]) 142)] }:=by
 have:=h0.1;have:=h0.2
 have hs:aF Tryz.prog (env (nY true 0 0) 22) 98 (aJ (env (nY true 0 0) 22) Tryz.f98 true [] 400):=aM (bL _ 22) (bS _ (mQ true 0 0) 22) mix Tryz.func98 (by kernel_rfl) true [] 400
 have hR:a0%aX=a0:=Int.emod_eq_of_lt (by omega) (by unfold aX;omega)
 have e0:w0 (a0)=a0:=by unfold w0;omega
 have e1:w1 (a0)=0:=by unfold w1;omega
 have e2:w2 (a0)=0:=by unfold w2;omega
 have hl:ln (a0)=1:=by unfold ln;rw [e0,e1,e2];simp only [nl,if_true,if_neg hz]
 rw [hR,e0,e1,e2,hl]
 refine (hs.call (aFr a0) ?_).re rfl (fun _=>rfl) trivial ⟨rfl,⟨rfl,fun _=>rfl⟩,rfl,⟨rfl,fun _=>rfl⟩,trivial⟩
 simp
open M in
theorem Pq {a0 a1:Int} (h0:U a0) (h1:U a1) (hz:a1≠0):aE Tryz.prog Γv 98 pH (YP 2 6 (wc [a0,a1,0,0,0,0])) 100 100
 { val:=.ptr 61 true 0,wr:=[(61,.own [.bool true false,.aG 63 false 0 (ln ((a0+18446744073709551616*a1)%aX)) 6] 102),(63,.own (wc [w0 ((a0+18446744073709551616*a1)%aX),w1 ((a0+18446744073709551616*a1)%aX),w2 ((a0+18446744073709551616*a1)%aX),0,0,0]) 142)] }:=by
 have:=h0.1;have:=h0.2;have:=h1.1;have:=h1.2
 have hs:aF Tryz.prog (env (nY true 0 0) 22) 98 (aJ (env (nY true 0 0) 22) Tryz.f98 true [] 400):=aM (bL _ 22) (bS _ (mQ true 0 0) 22) mix Tryz.func98 (by kernel_rfl) true [] 400
 have hR:(a0+18446744073709551616*a1)%aX=(a0+18446744073709551616*a1):=Int.emod_eq_of_lt (by omega) (by unfold aX;omega)
 have e0:w0 ((a0+18446744073709551616*a1))=a0:=by unfold w0;omega
 have e1:w1 ((a0+18446744073709551616*a1))=a1:=by unfold w1;omega
 have e2:w2 ((a0+18446744073709551616*a1))=0:=by unfold w2;omega
 have hl:ln ((a0+18446744073709551616*a1))=2:=by unfold ln;rw [e0,e1,e2];simp only [nl,if_true,if_neg hz]
 rw [hR,e0,e1,e2,hl]
 refine (hs.call (aFq a0 a1) ?_).re rfl (fun _=>rfl) trivial ⟨rfl,⟨rfl,fun _=>rfl⟩,rfl,⟨rfl,fun _=>rfl⟩,trivial⟩
 simp
open M in
theorem Pp {a0 a1:Int} (h0:U a0) (h1:U a1) (hz:a1≠0):aE Tryz.prog Γv 98 pH (YP 2 7 (wc [a0,a1,0,0,0,0,0])) 100 100
 { val:=.ptr 61 true 0,wr:=[(61,.own [.bool true false,.aG 63 false 0 (ln ((a0+18446744073709551616*a1)%aX)) 7] 102),(63,.own (wc [w0 ((a0+18446744073709551616*a1)%aX),w1 ((a0+18446744073709551616*a1)%aX),w2 ((a0+18446744073709551616*a1)%aX),0,0,0,0]) 142)] }:=by
 have:=h0.1;have:=h0.2;have:=h1.1;have:=h1.2
 have hs:aF Tryz.prog (env (nY true 0 0) 22) 98 (aJ (env (nY true 0 0) 22) Tryz.f98 true [] 400):=aM (bL _ 22) (bS _ (mQ true 0 0) 22) mix Tryz.func98 (by kernel_rfl) true [] 400
 have hR:(a0+18446744073709551616*a1)%aX=(a0+18446744073709551616*a1):=Int.emod_eq_of_lt (by omega) (by unfold aX;omega)
 have e0:w0 ((a0+18446744073709551616*a1))=a0:=by unfold w0;omega
 have e1:w1 ((a0+18446744073709551616*a1))=a1:=by unfold w1;omega
 have e2:w2 ((a0+18446744073709551616*a1))=0:=by unfold w2;omega
 have hl:ln ((a0+18446744073709551616*a1))=2:=by unfold ln;rw [e0,e1,e2];simp only [nl,if_true,if_neg hz]
 rw [hR,e0,e1,e2,hl]
 refine (hs.call (aFp a0 a1) ?_).re rfl (fun _=>rfl) trivial ⟨rfl,⟨rfl,fun _=>rfl⟩,rfl,⟨rfl,fun _=>rfl⟩,trivial⟩
 simp
open M in
theorem Po {a0 a1 a2:Int} (h0:U a0) (h1:U a1) (h2:U a2) (hz:a2≠0) (hp:n3 a0 a1 a2<aX):aE Tryz.prog Γv 98 pH (YP 3 7 (wc [a0,a1,a2,0,0,0,0])) 100 100
 { val:=.ptr 61 true 0,wr:=[(61,.own [.bool true false,.aG 63 false 0 (ln (n3 a0 a1 a2%aX)) 7] 102),(63,.own (wc [w0 (n3 a0 a1 a2%aX),w1 (n3 a0 a1 a2%aX),w2 (n3 a0 a1 a2%aX),0,0,0,0]) 142)] }:=by
 have:=h0.1;have:=h0.2;have:=h1.1;have:=h1.2;have:=h2.1;have:=h2.2
 have hs:aF Tryz.prog (env (nY true 0 0) 22) 98 (aJ (env (nY true 0 0) 22) Tryz.f98 true [] 400):=aM (bL _ 22) (bS _ (mQ true 0 0) 22) mix Tryz.func98 (by kernel_rfl) true [] 400
 have hR:n3 a0 a1 a2%aX=n3 a0 a1 a2:=Int.emod_eq_of_lt (by unfold n3;omega) (by exact hp)
 have e0:w0 (n3 a0 a1 a2)=a0:=by unfold w0 n3;omega
 have e1:w1 (n3 a0 a1 a2)=a1:=by unfold w1 n3;omega
 have e2:w2 (n3 a0 a1 a2)=a2:=by unfold w2 n3;omega
 have hl:ln (n3 a0 a1 a2)=3:=by unfold ln;rw [e0,e1,e2];simp only [nl,if_true,if_neg hz]
 rw [hR,e0,e1,e2,hl]
 refine (hs.call (aFo a0 a1 a2) ?_).re rfl (fun _=>rfl) trivial ⟨rfl,⟨rfl,fun _=>rfl⟩,rfl,⟨rfl,fun _=>rfl⟩,trivial⟩
 refine aB ?_
 simp only [sh,bZ,Ou,and_true,true_and,h0,h1,h2]
 exact ⟨decide_eq_true hp,⟨by decide,by decide⟩,⟨by decide,by decide⟩,⟨by decide,by decide⟩⟩
open M in
theorem Pn {a0 a1 a2:Int} (h0:U a0) (h1:U a1) (h2:U a2) (hz:a2≠0) (hp:n3 a0 a1 a2<aX):aE Tryz.prog Γv 98 pH (YP 3 8 (wc [a0,a1,a2,0,0,0,0,0])) 100 100
 { val:=.ptr 61 true 0,wr:=[(61,.own [.bool true false,.aG 63 false 0 (ln (n3 a0 a1 a2%aX)) 8] 102),(63,.own (wc [w0 (n3 a0 a1 a2%aX),w1 (n3 a0 a1 a2%aX),w2 (n3 a0 a1 a2%aX),0,0,0,0,0]) 142)] }:=by
 have:=h0.1;have:=h0.2;have:=h1.1;have:=h1.2;have:=h2.1;have:=h2.2
 have hs:aF Tryz.prog (env (nY true 0 0) 22) 98 (aJ (env (nY true 0 0) 22) Tryz.f98 true [] 400):=aM (bL _ 22) (bS _ (mQ true 0 0) 22) mix Tryz.func98 (by kernel_rfl) true [] 400
 have hR:n3 a0 a1 a2%aX=n3 a0 a1 a2:=Int.emod_eq_of_lt (by unfold n3;omega) (by exact hp)
 have e0:w0 (n3 a0 a1 a2)=a0:=by unfold w0 n3;omega
 have e1:w1 (n3 a0 a1 a2)=a1:=by unfold w1 n3;omega
 have e2:w2 (n3 a0 a1 a2)=a2:=by unfold w2 n3;omega
 have hl:ln (n3 a0 a1 a2)=3:=by unfold ln;rw [e0,e1,e2];simp only [nl,if_true,if_neg hz]
 rw [hR,e0,e1,e2,hl]
 refine (hs.call (aFn a0 a1 a2) ?_).re rfl (fun _=>rfl) trivial ⟨rfl,⟨rfl,fun _=>rfl⟩,rfl,⟨rfl,fun _=>rfl⟩,trivial⟩
 refine aB ?_
 simp only [sh,bZ,Ou,and_true,true_and,h0,h1,h2]
 exact ⟨decide_eq_true hp,⟨by decide,by decide⟩,⟨by decide,by decide⟩,⟨by decide,by decide⟩⟩
open M in
theorem Eo {c:Nat} (hc:c=7\/c=8) {a0 a1 a2:Int} (h0:U a0) (h1:U a1) (h2:U a2) (hp:aX<=n3 a0 a1 a2):aE Tryz.prog Γv 98 pH (YP 3 c (wc ([a0,a1,a2]++List.replicate (c-3) 0))) 100 100
 { val:=.ptr 61 true 0,wr:=[(61,.own [.bool true false,.aG 63 false 0 (ln (n3 a0 a1 a2%aX)) c] 102),(63,.own (wc ([w0 (n3 a0 a1 a2%aX),w1 (n3 a0 a1 a2%aX),w2 (n3 a0 a1 a2%aX)]++List.replicate (c-3) 0)) 142)] }:=by
 have hs:∀ iq ir,aF Tryz.prog (env (nY false iq ir) 22) 98 (aJ (env (nY false iq ir) 22) Tryz.f98 true [] 400):=fun iq ir=>aM (bL _ 22) (bS _ (mQ false iq ir) 22) mix Tryz.func98 (by kernel_rfl) true [] 400
 obtain ⟨r0,r1⟩:=ZT (n3 a0 a1 a2)
 obtain ⟨b0,b1,b2⟩:=EG r0 r1
 obtain ⟨v0,v1,v2⟩:=sU h0
 obtain ⟨_,v3,v4⟩:=sU h2
 have hm:=aDc h0 h1 h2
 have hq:x3 a0 a1 a2/DD≠0:=by
  rw [aDd h0 h1 h2]
  have:=Int.emod_add_mul_ediv (n3 a0 a1 a2) aX
  intro e
  rw [e] at this
  omega
 have xV:nl [x3 a0 a1 a2/DD]=1:=by simp only [nl,if_neg hq]
 refine ((hs 1 _).call (aNo hc (aAg (n3 a0 a1 a2%aX)) a0 a1 a2) (aB ?_)).re rfl (fun _=>rfl) trivial ⟨rfl,⟨rfl,fun _=>rfl⟩,rfl,⟨rfl,fun _=>by rw [hm,b0,b1,b2]⟩,trivial⟩
 simp only [sh,bZ,hm,b0,b1,b2,nl4,ln,xV,and_true,true_and,h0,h1,h2,v0,v3,v4,s1U h0,s1U h1,Ou]
 exact ⟨nD (by show ¬ n3 a0 a1 a2<aX;omega),⟨by decide,by decide⟩,⟨by decide,by decide⟩,⟨by decide,by decide⟩⟩
open M in
theorem En {c:Nat} (hc:c=8\/c=9) {a0 a1 a2 a3:Int} (h0:U a0) (h1:U a1) (h2:U a2) (h3:U a3) (hp:aX<=n4 a0 a1 a2 a3):aE Tryz.prog Γv 98 pH (YP 4 c (wc ([a0,a1,a2,a3]++List.replicate (c-4) 0))) 100 100
 { val:=.ptr 61 true 0,wr:=[(61,.own [.bool true false,.aG 63 false 0 (ln (n4 a0 a1 a2 a3%aX)) c] 102),(63,.own (wc ([w0 (n4 a0 a1 a2 a3%aX),w1 (n4 a0 a1 a2 a3%aX),w2 (n4 a0 a1 a2 a3%aX),0]++List.replicate (c-4) 0)) 142)] }:=by
 have hs:∀ iq ir,aF Tryz.prog (env (nY false iq ir) 22) 98 (aJ (env (nY false iq ir) 22) Tryz.f98 true [] 400):=fun iq ir=>aM (bL _ 22) (bS _ (mQ false iq ir) 22) mix Tryz.func98 (by kernel_rfl) true [] 400
 obtain ⟨r0,r1⟩:=ZT (n4 a0 a1 a2 a3)
 obtain ⟨b0,b1,b2⟩:=EG r0 r1
 obtain ⟨v0,v1,v2⟩:=sU h0
 obtain ⟨_,v3,v4⟩:=sU h3
 have hm:=aDa h0 h1 h2 h3
 have xV:nl [x4 a0 a1 a2 a3/DD,h4 a0 a1 a2 a3/DD]=1\/nl [x4 a0 a1 a2 a3/DD,h4 a0 a1 a2 a3/DD]=2:=by
  by_cases hz:h4 a0 a1 a2 a3/DD=0
  .exact .inl (by simp only [nl,hz,if_true,if_neg (aDb h0 h1 h2 h3 hp hz)])
  .exact .inr (by simp only [nl,if_neg hz])
 refine ((hs _ _).call (aNn hc xV (aAg (n4 a0 a1 a2 a3%aX)) a0 a1 a2 a3) (aB ?_)).re rfl (fun _=>rfl) trivial ⟨rfl,⟨rfl,fun _=>rfl⟩,rfl,⟨rfl,fun _=>by rw [hm,b0,b1,b2]⟩,trivial⟩
 simp only [sh,bZ,hm,b0,b1,b2,nl5,ln,and_true,true_and,h0,h1,h2,h3,v0,v3,v4,s1U h0,s1U h1,s1U h2]
end Go.Proofs.YtnodfocobmghiaaGreatDoor.Sx
