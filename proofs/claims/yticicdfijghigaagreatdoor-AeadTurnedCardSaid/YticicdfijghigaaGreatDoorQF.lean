/- Plain Lean for the fast stream: bytes turned by a row of bytes; four blocks at once. -/
import Derived.KernelRfl
import Derived.Lib.Mul64
import Derived.Laws.Bits64b
import Derived.Test.YticicdfijghigaaGreatDoorQE
open Go
set_option maxRecDepth 100000
namespace Go.Proofs.YticicdfijghigaaGreatDoor.Sx
namespace Q
def tK (off n:Nat) (f:Nat->Int) (xs:List Int):List Int:=
 (List.range xs.length).map fun m=>if off<=m/\m<off+n then eZ .u8 (xs.getD m 0) (f (m-off)) else xs.getD m 0
theorem vZ (key nonce:List Int) (c:Int) (off n:Nat) (xs:List Int):cL key nonce c off n xs=tK off n (As key nonce c) xs:=rfl
theorem hH (off n:Nat) (f:Nat->Int) (xs:List Int):(tK off n f xs).length=xs.length:=by simp [tK]
def Z (off n:Nat) (P:Nat->Bool) (f:Nat->Int) (xs:List Int):List Int:=
 (List.range xs.length).map fun m=>if off<=m/\m<off+n/\P (m-off)=true then eZ .u8 (xs.getD m 0) (f (m-off)) else xs.getD m 0
theorem Qj (off n:Nat) (P:Nat->Bool) (f:Nat->Int) (xs:List Int):(Z off n P f xs).length=xs.length:=by simp [Z]
theorem aYv (off n:Nat) (P:Nat->Bool) (f:Nat->Int) (xs:List Int) {m:Nat} (h:m<xs.length):(Z off n P f xs).getD m 0=if off<=m/\m<off+n/\P (m-off)=true then eZ .u8 (xs.getD m 0) (f (m-off)) else xs.getD m 0:=by
 simp [Z,zzG,h]
theorem mG {off n:Nat} {P P':Nat->Bool} (f:Nat->Int) (xs:List Int) (h:∀ m,m<n->P m=P' m):Z off n P f xs=Z off n P' f xs:=by
 unfold Z
 refine List.map_congr_left fun m _=>?_
 by_cases hm:off<=m/\m<off+n
 .rw [h (m-off) (by omega)]
 .rw [if_neg (fun q=>hm ⟨q.1,q.2.1⟩),if_neg (fun q=>hm ⟨q.1,q.2.1⟩)]
theorem MZ (off n:Nat) (f:Nat->Int) (xs:List Int):Z off n (fun _=>false) f xs=xs:=by
 apply List.ext_getElem
 .simp [Z]
 .intro i h1 h2
  simp [Z,zzG,h2]
theorem aId (off n:Nat) (f:Nat->Int) (xs:List Int):Z off n (fun _=>true) f xs=tK off n f xs:=by
 unfold Z tK
 refine List.map_congr_left fun m _=>?_
 simp only [and_true]
theorem aIc {off n q:Nat} {P:Nat->Bool} {f:Nat->Int} {xs:List Int} (hq:q<n) (hx:off+q<xs.length) (hP:P q=false) :
 (Z off n P f xs).set (off+q) (eZ .u8 ((Z off n P f xs).getD (off+q) 0) (f q))=Z off n (fun m=>P m||m==q) f xs:=by
 apply List.ext_getElem
 .simp [Z]
 .intro i h1 h2
  have hl:i<xs.length:=by simpa [Z] using h2
  rw [List.getElem_set]
  split
  .rename_i e
   subst e
   rw [aYv _ _ _ _ _ hx,if_neg (by rw [Nat.add_sub_cancel_left,hP];simp)]
   simp only [Z,List.getElem_map,List.getElem_range,Nat.add_sub_cancel_left]
   rw [if_pos ⟨by omega,by omega,by simp⟩]
  .rename_i e
   simp only [Z,List.getElem_map,List.getElem_range]
   by_cases hc:off<=i/\i<off+n
   .have:(i-off==q)=false:=by simp;omega
    simp only [this,Bool.or_false]
   .rw [if_neg (fun q=>hc ⟨q.1,q.2.1⟩),if_neg (fun q=>hc ⟨q.1,q.2.1⟩)]
theorem yZ (v:List Int) (a b c d:Nat):(B.qr v a b c d).length=v.length:=by simp [B.qr]
theorem Jk (v:List Int):(B.dr v).length=v.length:=by simp [B.dr,yZ]
theorem jM (k:Nat) (v:List Int):(lane k v).length=16:=by simp [lane]
theorem xJ (k:Nat) (v:List Int) {i:Nat} (h:i<16):(lane k v).getD i 0=v.getD (4*i+k) 0:=by simp [lane,zzG,h]
theorem xH (a b c d:List Int) {i:Nat} (hi:i<16):(Ar a b c d).getD (4*i+0) 0=a.getD i 0/\(Ar a b c d).getD (4*i+1) 0=b.getD i 0/\(Ar a b c d).getD (4*i+2) 0=c.getD i 0/\(Ar a b c d).getD (4*i+3) 0=d.getD i 0:=by
 have g:∀ j,j<64->(Ar a b c d).getD j 0=Ia a b c d j:=fun j hj=>by simp [Ar,zzG,hj]
 refine ⟨?_,?_,?_,?_⟩
 .rw [g _ (by omega)];unfold Ia;rw [show (4*i+0)%4=0 by omega,show (4*i+0)/4=i by omega];rfl
 .rw [g _ (by omega)];unfold Ia;rw [show (4*i+1)%4=1 by omega,show (4*i+1)/4=i by omega];rfl
 .rw [g _ (by omega)];unfold Ia;rw [show (4*i+2)%4=2 by omega,show (4*i+2)/4=i by omega];rfl
 .rw [g _ (by omega)];unfold Ia;rw [show (4*i+3)%4=3 by omega,show (4*i+3)/4=i by omega];rfl
theorem Ef {a b:List Int} (ha:a.length=16) (hb:b.length=16) (h:∀ i,i<16->a.getD i 0=b.getD i 0):a=b:=by
 apply List.ext_getElem (by omega)
 intro i h1 h2
 have:=h i (by omega)
 rw [zzG,zzG,List.getElem?_eq_getElem h1,List.getElem?_eq_getElem h2] at this
 simpa using this
theorem CJ {a b c d:List Int} (ha:a.length=16) (hb:b.length=16) (hc:c.length=16) (hd:d.length=16) :
 lane 0 (Ar a b c d)=a/\lane 1 (Ar a b c d)=b/\lane 2 (Ar a b c d)=c/\lane 3 (Ar a b c d)=d:=by
 refine ⟨Ef (jM _ _) ha fun i hi=>?_,Ef (jM _ _) hb fun i hi=>?_,Ef (jM _ _) hc fun i hi=>?_,Ef (jM _ _) hd fun i hi=>?_⟩ <;> rw [xJ _ _ hi]
 .exact (xH a b c d hi).1
 .exact (xH a b c d hi).2.1
 .exact (xH a b c d hi).2.2.1
 .exact (xH a b c d hi).2.2.2
theorem OO (v:List Int) {k:Nat} (hk:k<4):lane k (dr4 v)=B.dr (lane k v):=by
 have l:∀ k,(B.dr (lane k v)).length=16:=fun k=>by rw [Jk,jM]
 have h:=CJ (l 0) (l 1) (l 2) (l 3)
 rcases (by omega:k=0\/k=1\/k=2\/k=3) with rfl | rfl | rfl | rfl
 .exact h.1
 .exact h.2.1
 .exact h.2.2.1
 .exact h.2.2.2
def it (v:List Int):Nat->List Int
 | 0=>v
 | n+1=>dr4 (it v n)
theorem Jb (v:List Int) (hv:v.length=64):∀ n,(it v n).length=64
 | 0=>hv
 | n+1=>by simp [it,dr4,Ar]
theorem Vb (n:Nat):∀ v:List Int,B.rounds n (B.dr v)=B.dr (B.rounds n v):=by
 induction n with
 | zero=>intro v;rfl
 | succ n ih=>intro v;rw [B.rounds,ih,B.rounds,ih]
theorem Ze (v:List Int) {k:Nat} (hk:k<4):∀ n,lane k (it v n)=B.rounds n (lane k v)
 | 0=>rfl
 | n+1=>by rw [it,OO _ hk,Ze v hk n,B.rounds,Vb]
def st4 (s:List Int) (k:Nat):List Int:=s.set 12 (IntKind.u32.wrap (s.getD 12 0+(k:Int)))
theorem Wk (s:List Int):(jR s).length=64:=by simp [jR]
theorem OP {s:List Int} (hs:s.length=16) {k:Nat} (hk:k<4):lane k (jR s)=st4 s k:=by
 have g:∀ j,j<64->(jR s).getD j 0=KS s j:=fun j hj=>by simp [jR,zzG,hj]
 refine Ef (jM _ _) (by simp [st4,hs]) fun i hi=>?_
 rw [xJ _ _ hi,g _ (by omega)]
 unfold KS
 rw [show (4*i+k)/4=i by omega,show (4*i+k)%4=k by omega,IntWalk.u32_in (k:Int) (by omega)]
 unfold st4
 by_cases h:i=12
 .subst h
  simp [zzG,hs]
 .have e:Nat.beq i 12=false:=by
   cases hb:Nat.beq i 12 with
   | false=>rfl
   | true=>exact absurd (zzN hb) h
  rw [e]
  simp only [zzG]
  rw [List.getElem?_set_ne (by omega)]
def jJ (s:List Int) (m:Nat):Int:=(B.out (B.rounds 10 (st4 s (m/64))) (st4 s (m/64))).getD (m%64) 0
theorem aBn (v w:List Int) {j:Nat} (h:j<64):(B.out v w).getD j 0=IntKind.u8.wrap (cB .u32 (IntKind.u32.wrap (v.getD (j/4) 0+w.getD (j/4) 0)) (IntKind.i64.wrap (8*(j%4:Nat)))):=by
 simp [B.out,zzG,h]
theorem aQo {s:List Int} (hs:s.length=16) {i k n:Nat} (hi:i<16) (hk:k<4) (hn:n<4):byt (it (jR s) 10) (jR s) i k n=jJ s (64*k+4*i+n):=by
 unfold jJ
 rw [show (64*k+4*i+n)/64=k by omega,show (64*k+4*i+n)%64=4*i+n by omega,aBn _ _ (by omega),show (4*i+n)/4=i by omega,show (4*i+n)%4=n by omega]
 rw [<- OP hs hk,<- Ze _ hk,xJ _ _ hi,xJ _ _ hi,IntWalk.i64_in _ (by omega)]
 unfold byt wd
 rw [zzt,zzt,show 0+i*4+k*1+0=4*i+k by omega]
theorem aHm {i k n:Nat} (hi:i<16) (hk:k<4) (hn:n<4):ix i k n=((64*k+4*i+n:Nat):Int):=by
 unfold ix
 rw [IntWalk.i64_in (64*(k:Int)) (by omega),IntWalk.i64_in (4*(i:Int)) (by omega),IntWalk.i64_in (64*(k:Int)+4*(i:Int)) (by omega),IntWalk.i64_in _ (by omega)]
 omega
theorem aIb (off:Nat) {i k n:Nat} (hi:i<16) (hk:k<4) (hn:n<4):ad off i k n=off+(64*k+4*i+n):=by
 unfold ad
 rw [aHm hi hk hn,zzt,Nat.mul_one]
def dn (i k:Nat) (m:Nat):Bool:=decide (m%64/4<i\/(m%64/4=i/\m/64<k))
theorem Qk (off:Nat) (v w:List Int) (i k:Int) (xs:List Int):∀ n,(X off v w i k xs n).length=xs.length
 | 0=>rfl
 | n+1=>by rw [X,List.length_set,Qk off v w i k xs n]
theorem X_Z {s xs:List Int} (hs:s.length=16) {off i k:Nat} (hi:i<16) (hk:k<4) (hx:off+256<=xs.length):∀ n,n<=4 ->
 X off (it (jR s) 10) (jR s) i k (Z off 256 (dn i k) (jJ s) xs) n=Z off 256 (fun m=>dn i k m||decide (64*k+4*i<=m/\m<64*k+4*i+n)) (jJ s) xs
 | 0,_=>by
   rw [X]
   refine mG _ _ fun m _=>?_
   have:decide (64*k+4*i<=m/\m<64*k+4*i+0)=false:=zzF (by omega)
   rw [this,Bool.or_false]
 | n+1,hn=>by
   rw [X,X_Z hs hi hk hx n (by omega),aIb off hi hk (by omega),Nat.add_zero,aQo hs hi hk (by omega),aIc (by omega) (by omega) (by simp [dn];omega)]
   refine mG _ _ fun m hm=>?_
   rw [Bool.or_assoc]
   congr 1
   rw [Bool.eq_iff_iff]
   simp only [Bool.or_eq_true,decide_eq_true_eq,beq_iff_eq]
   omega
theorem bGv {s xs:List Int} (hs:s.length=16) {off i k:Nat} (hi:i<16) (hk:k<4) (hx:off+256<=xs.length) :
 X off (it (jR s) 10) (jR s) i k (Z off 256 (dn i k) (jJ s) xs) 4=Z off 256 (dn i (k+1)) (jJ s) xs:=by
 rw [X_Z hs hi hk hx 4 (by omega)]
 refine mG _ _ fun m hm=>?_
 unfold dn
 rw [Bool.eq_iff_iff]
 simp only [Bool.or_eq_true,decide_eq_true_eq]
 omega
theorem aFo (off i:Nat) (f:Nat->Int) (xs:List Int):Z off 256 (dn i 4) f xs=Z off 256 (dn (i+1) 0) f xs:=mG _ _ fun m hm=>by
 unfold dn
 rw [Bool.eq_iff_iff]
 simp only [decide_eq_true_eq]
 omega
theorem bFa (off:Nat) (f:Nat->Int) (xs:List Int):Z off 256 (dn 0 0) f xs=xs:=by
 rw [mG (P':=fun _=>false) _ _ fun m hm=>by unfold dn;exact zzF (by omega)]
 exact MZ _ _ _ _
theorem aXv (off:Nat) (f:Nat->Int) (xs:List Int):Z off 256 (dn 16 0) f xs=tK off 256 f xs:=by
 rw [mG (P':=fun _=>true) _ _ fun m hm=>by unfold dn;exact decide_eq_true (by omega)]
 exact aId _ _ _ _
end Q
def Ds (m:Int) (v:List Int):Prop:=∀ x∈v,0<=x/\x<=m
theorem Ds.get {m:Int} {v:List Int} (h:Ds m v) (hm:0<=m) (i:Nat):0<=v.getD i 0/\v.getD i 0<=m:=by
 rw [zzG]
 cases hv:v[i]? with
 | none=>exact ⟨Int.le_refl _,hm⟩
 | some x=>exact h x (List.mem_of_getElem? hv)
namespace M
def cy (xs:List Int):Nat->Int
 | 0=>0
 | i+1=>(cy xs i+xs.getD i 0)/256
def val:List Int->Int
 | []=>0
 | x::r=>x+256*val r
end M
namespace M
def h (xs:List Int) (i:Nat):Int:=xs.getD i 0/4+xs.getD (i+1) 0%4*64
end M
namespace M
end M
namespace M
def vs (f:Nat->Int):Nat->Int
 | 0=>0
 | n+1=>f 0+256*vs (fun i=>f (i+1)) n
theorem En {f g:Nat->Int}:∀ {n:Nat},(∀ i,i<n->f i=g i)->vs f n=vs g n
 | 0,_=>rfl
 | n+1,h=>by
   unfold vs
   rw [h 0 (by omega),En (f:=fun i=>f (i+1)) (g:=fun i=>g (i+1)) fun i hi=>h (i+1) (by omega)]
theorem Dy (f:Nat->Int) (m:Nat):∀ n:Nat,vs f (n+m)=vs f n+256^n*vs (fun i=>f (n+i)) m:=by
 intro n
 induction n generalizing f with
 | zero=>simp [vs]
 | succ n ih=>
   rw [show n+1+m=(n+m)+1 from by omega,vs,vs,ih]
   rw [show (fun i=>f (n+i+1))=fun i=>f (n+1+i) from by funext i;congr 1;omega,Int.pow_succ]
   rw [Int.mul_add,Int.mul_comm (256^n) 256,Int.mul_assoc]
   omega
theorem Ye {f:Nat->Int}:∀ {n:Nat},(∀ i,i<n->f i=0)->vs f n=0
 | 0,_=>rfl
 | n+1,h=>by
   unfold vs
   rw [h 0 (by omega),Ye (f:=fun i=>f (i+1)) fun i hi=>h (i+1) (by omega)]
   rfl
theorem yY {f:Nat->Int}:∀ {n:Nat},(∀ i,i<n->0<=f i)->0<=vs f n
 | 0,_=>Int.le_refl _
 | n+1,h=>by
   have h1:=h 0 (by omega)
   have h2:=yY (f:=fun i=>f (i+1)) (n:=n) fun i hi=>h (i+1) (by omega)
   unfold vs
   omega
theorem Bm (f:Nat->Int) (n:Nat):vs f (n+1)=vs f n+256^n*f n:=by
 rw [Dy f 1 n];simp [vs]
def V (xs:List Int):Int:=vs (fun i=>xs.getD i 0) xs.length
theorem aTn (xs:List Int) (n:Nat) (h:xs.length<=n):vs (fun i=>xs.getD i 0) n=V xs:=by
 obtain ⟨m,rfl⟩:∃ m,n=xs.length+m:=⟨n-xs.length,by omega⟩
 rw [Dy]
 have:vs (fun i=>xs.getD (xs.length+i) 0) m=0:=Ye fun i _=>by
  rw [zzG,List.getElem?_eq_none (by omega)];rfl
 rw [this];unfold V;omega
theorem TK (a b:List Int):V (a++b)=V a+256^a.length*V b:=by
 unfold V
 rw [List.length_append,Dy]
 congr 1
 .exact En fun i hi=>by simp [zzG,List.getElem?_append,hi]
 .congr 1
  exact En fun i _=>by rw [zzG,zzG,List.getElem?_append_right (Nat.le_add_right _ _),Nat.add_sub_cancel_left]
theorem uT (x:Int) (r:List Int):V (x::r)=x+256*V r:=by
 unfold V
 rw [List.length_cons,vs]
 simp
theorem Dw:V []=0:=rfl
end M
namespace M
def p:Int:=1361129467683753853853498429727072845819
def num (n:Int):List Int:=(List.range 17).map fun i=>n/256^i%256
theorem Yy (n:Int) {i:Nat} (h:i<17):(num n).getD i 0=n/256^i%256:=by simp [num,zzG,h]
theorem Rw {d:List Int} (hd:Ds 255 d) (h:V d<1361129467683753853853498429727072845824):V d=d.getD 0 0+256*vs (fun i=>d.getD (i+1) 0) 16:=by
 have ha:∀ i,0<=d.getD i 0/\d.getD i 0<=255:=hd.get (by omega)
 have e:=Dy (fun i=>d.getD i 0) d.length 17
 rw [Nat.add_comm,aTn d (d.length+17) (by omega)] at e
 have h2:=yY (f:=fun i=>d.getD (17+i) 0) (n:=d.length) fun i _=>(ha _).1
 have h3:=yY (f:=fun i=>d.getD i 0) (n:=17) fun i _=>(ha _).1
 rw [show ((256:Int)^17)=87112285931760246646623899502532662132736 from rfl] at e
 have:vs (fun i=>d.getD (17+i) 0) d.length=0:=by omega
 rw [this] at e
 rw [e,vs]
 omega
end M
namespace M
end M
namespace M
def Nq (a b:List Int):List Int:=(List.range 17).map fun j=>IntKind.i64.wrap (a.getD j 0+b.getD j 0)
end M
namespace M
def Kz (b:List Int) (i:Nat):Int:=match i%4 with
 | 3=>(IntKind.i64.wrap (b.getD i 0)).tmod 16
 | 0=>match i with
   | 0=>IntKind.i64.wrap (b.getD i 0)
   | _=>IntKind.i64.wrap (IntKind.i64.wrap (b.getD i 0)-(IntKind.i64.wrap (b.getD i 0)).tmod 4)
 | _=>IntKind.i64.wrap (b.getD i 0)
def Un (b:List Int):List Int:=(List.range 16).map (Kz b)
def sc (a s:List Int):Nat->Int
 | 0=>0
 | i+1=>IntKind.i64.wrap ((IntKind.i64.wrap (IntKind.i64.wrap (sc a s i+a.getD i 0)+IntKind.i64.wrap (s.getD i 0))).tdiv 256)
def Se (a s:List Int):List Int:=(List.range 16).map fun i=>IntKind.u8.wrap ((IntKind.i64.wrap (IntKind.i64.wrap (sc a s i+a.getD i 0)+IntKind.i64.wrap (s.getD i 0))).tmod 256)
end M
namespace M
def uN (a b:List Int) (i:Nat):Nat->List Int->List Int
 | 0,d=>d
 | k+1,d=>(uN a b i k d).set (i+k) (IntKind.i64.wrap ((uN a b i k d).getD (i+k) 0+IntKind.i64.wrap (a.getD i 0*b.getD k 0)))
def mulL (a b:List Int):Nat->List Int
 | 0=>List.replicate 33 0
 | i+1=>uN a b i 17 (mulL a b i)
end M
namespace R
def plus (x y:Int):Int:=(IntKind.i64.wrap (x+y)).tmod 4294967296
def VZ (x u:Int):Int:=IntKind.i64.wrap ((IntKind.i64.wrap (x*u)).tmod 4294967296+IntKind.i64.wrap ((IntKind.i64.wrap (x*u)).tdiv 4294967296))
def qr (v:List Int) (a b c d:Nat):List Int:=
 let v:=v.set a (plus (v.getD a 0) (v.getD b 0))
 let v:=v.set d (VZ (eZ .i64 (v.getD d 0) (v.getD a 0)) 65536)
 let v:=v.set c (plus (v.getD c 0) (v.getD d 0))
 let v:=v.set b (VZ (eZ .i64 (v.getD b 0) (v.getD c 0)) 4096)
 let v:=v.set a (plus (v.getD a 0) (v.getD b 0))
 let v:=v.set d (VZ (eZ .i64 (v.getD d 0) (v.getD a 0)) 256)
 let v:=v.set c (plus (v.getD c 0) (v.getD d 0))
 v.set b (VZ (eZ .i64 (v.getD b 0) (v.getD c 0)) 128)
end R
namespace R
def word (l:List Int) (i:Nat):Int:=IntKind.i64.wrap (IntKind.i64.wrap (IntKind.i64.wrap (IntKind.i64.wrap (l.getD (4*i) 0)+IntKind.i64.wrap (256*IntKind.i64.wrap (l.getD (4*i+1) 0)))+IntKind.i64.wrap (65536*IntKind.i64.wrap (l.getD (4*i+2) 0)))+IntKind.i64.wrap (16777216*IntKind.i64.wrap (l.getD (4*i+3) 0)))
def aHn (key nonce:List Int) (c:Int):List Int:=(List.range 8).map (word key)++[IntKind.i64.wrap c]++(List.range 3).map (word nonce)
def init (key nonce:List Int) (c:Int):List Int:=[1634760805,857760878,2036477234,1797285236]++aHn key nonce c
def dr (v:List Int):List Int:=
 qr (qr (qr (qr (qr (qr (qr (qr v 0 4 8 12) 1 5 9 13) 2 6 10 14) 3 7 11 15) 0 5 10 15) 1 6 11 12) 2 7 8 13) 3 4 9 14
def MU (x:Int):Nat->Int
 | 0=>IntKind.u8.wrap (x.tmod 256)
 | n+1=>MU (IntKind.i64.wrap (x.tdiv 256)) n
def out (v w:List Int):List Int:=(List.range 64).map fun j=>MU ((IntKind.i64.wrap (v.getD (j/4) 0+w.getD (j/4) 0)).tmod 4294967296) (j%4)
def rounds:Nat->List Int->List Int
 | 0,v=>v
 | n+1,v=>dr (rounds n v)
end R
theorem R.yZ (v:List Int) (a b c d:Nat):(R.qr v a b c d).length=v.length:=by simp [R.qr]
theorem R.Jk (v:List Int):(R.dr v).length=v.length:=by simp [R.dr,R.yZ]
def R.block (key nonce:List Int) (c:Int):List Int:=R.out (R.rounds 10 (R.init key nonce c)) (R.init key nonce c)
def W (x:Int):Prop:=0<=x/\x<4294967296
theorem W.nat {x:Int} (h:W x):∃ a:Nat,x=a/\a<4294967296:=⟨x.toNat,by unfold W at h;omega,by unfold W at h;omega⟩
def Ws (v:List Int):Prop:=∀ x∈v,W x
theorem Ws.get {v:List Int} (h:Ws v) (i:Nat):W (v.getD i 0):=by
 rw [zzG]
 cases hv:v[i]? with
 | none=>exact ⟨by decide,by decide⟩
 | some x=>exact h x (List.mem_of_getElem? hv)
theorem Ws.set {v:List Int} (h:Ws v) (i:Nat) {x:Int} (hx:W x):Ws (v.set i x):=by
 intro y hy
 rcases List.mem_or_eq_of_mem_set hy with hy | hy
 .exact h y hy
 .subst hy;exact hx
def Bt (x:Int):Prop:=0<=x/\x<256
def bI (v:List Int):Prop:=∀ x∈v,Bt x
theorem bI.get {v:List Int} (h:bI v) (i:Nat):Bt (v.getD i 0):=by
 rw [zzG]
 cases hv:v[i]? with
 | none=>exact ⟨by decide,by decide⟩
 | some x=>exact h x (List.mem_of_getElem? hv)
theorem Bt.nat {x:Int} (h:Bt x):∃ a:Nat,x=a/\a<256:=⟨x.toNat,by unfold Bt at h;omega,by unfold Bt at h;omega⟩
namespace M
theorem aKu (n:Int):∀ k:Nat,vs (fun i=>n/256^i%256) k=n%256^k:=by
 intro k
 induction k with
 | zero=>simp [vs,Int.emod_one]
 | succ k ih=>
   rw [Bm,ih,Int.pow_succ]
   have c:(0:Int)<256^k:=Int.pow_pos (by omega)
   have h1:=Int.emod_add_mul_ediv n (256^k)
   have h2:=Int.emod_nonneg n (show (256:Int)^k≠0 by omega)
   have h3:=Int.emod_lt_of_pos n c
   have h4:=Int.emod_add_mul_ediv (n/256^k) 256
   have h5:=Int.emod_nonneg (n/256^k) (show (256:Int)≠0 by omega)
   have h6:=Int.emod_lt_of_pos (n/256^k) (show (0:Int)<256 by omega)
   generalize n/256^k%256=s at *
   generalize n/256^k/256=q at *
   generalize n%256^k=r at *
   have e:n=(r+256^k*s)+256^k*256*q:=by
    rw [<- h1,<- h4,Int.mul_add,Int.mul_assoc];omega
   have l:r+256^k*s<256^k*256:=by
    have:256^k*s<=256^k*255:=Int.mul_le_mul_of_nonneg_left (by omega) (Int.le_of_lt c)
    omega
   have l0:0<=r+256^k*s:=by
    have:0<=256^k*s:=Int.mul_nonneg (Int.le_of_lt c) h5
    omega
   have:n%(256^k*256)=r+256^k*s:=by
    rw [e,Int.add_mul_emod_self_left,Int.emod_eq_of_lt l0 l]
   exact this.symm
end M
theorem bI.Ds {b:List Int} (h:bI b):Ds 255 b:=fun x hx=>by have:=h x hx;unfold Bt at this;omega
namespace M
end M
end Go.Proofs.YticicdfijghigaaGreatDoor.Sx
section
namespace Go.Proofs.YticicdfijghigaaGreatDoor.Sx
end Go.Proofs.YticicdfijghigaaGreatDoor.Sx
end
namespace Go.Proofs.YticicdfijghigaaGreatDoor.Sx
namespace M
def aN (data:List Int) (i:Int) (m:Nat):List Int:=((List.range m).map fun j:Nat=>data.getD (IntKind.i64.wrap (i+(j:Int))).toNat 0)++1::List.replicate (16-m) 0
end M
namespace M
def lo (key:List Int):List Int:=(List.range 16).map fun j=>key.getD j 0
def hi (key:List Int):List Int:=(List.range 16).map fun j=>key.getD (16+j) 0
def cl (key:List Int):List Int:=Un (lo key)++[0]
def acc (r:Int) (data:List Int):Nat->Int
 | 0=>0
 | j+1=>((acc r data j+V (aN data (16*(j:Int)) (min 16 (data.length-16*j))))*r)%p
def tag (key data:List Int):List Int:=Se (num (acc (V (cl key)) data ((data.length+15)/16))) (hi key)
theorem aFy {data:List Int} (hd:bI data) (i:Int) (m:Nat):bI (aN data i m):=by
 intro x hx
 simp only [aN,List.mem_append,List.mem_map,List.mem_cons,List.mem_replicate] at hx
 rcases hx with ⟨j,_,rfl⟩ | rfl | ⟨_,rfl⟩
 .exact hd.get _
 .exact ⟨by decide,by decide⟩
 .exact ⟨by decide,by decide⟩
end M
namespace M
def U (x:Int):Prop:=0<=x/\x<18446744073709551616
def uh (n:Int):Int:=n/18446744073709551616
def ul (n:Int):Int:=n%18446744073709551616
theorem dW (n:Int):U (ul n):=by unfold U ul;omega
theorem vO {n:Int} (h:U n):ul n=n:=by unfold U at h;unfold ul;omega
theorem eR {x y:Int} (hx:U x) (hy:U y):0<=x*y/\x*y<=340282366920938463426481119284349108225:=by
 refine ⟨Int.mul_nonneg hx.1 hy.1,?_⟩
 have h1:=hx.2
 have h2:=hy.2
 exact Int.le_trans (Int.mul_le_mul (show x<=18446744073709551615 by omega) (show y<=18446744073709551615 by omega) hy.1 (by decide)) (by decide)
theorem bT (n:Int):IntKind.u64.wrap n=ul n:=by rw [IntKind.wrap_u64];rfl
end M
theorem aVy (x y:Int) :
 aF (env fD 3) Tryz.f199 true [] 400 [.int false .u64 x,.int false .u64 y] (fun _=>none) 100 100 =
 sh (32:Int) fun z2=>
 sh (4294967295:Int) fun z1=>
 sh (IntKind.u64.wrap (IntKind.u64.wrap (cB IntKind.u64 x z2*bW IntKind.u64 y z1)+cB IntKind.u64 (IntKind.u64.wrap (bW IntKind.u64 x z1*bW IntKind.u64 y z1)) z2)) fun z0=>
 some {val:=SV.eP [SV.int false IntKind.u64 (IntKind.u64.wrap (IntKind.u64.wrap (IntKind.u64.wrap (cB IntKind.u64 x z2*cB IntKind.u64 y z2)+cB IntKind.u64 z0 z2)+cB IntKind.u64 (IntKind.u64.wrap (bW IntKind.u64 z0 z1+IntKind.u64.wrap (bW IntKind.u64 x z1*cB IntKind.u64 y z2))) z2)),SV.int false IntKind.u64 (IntKind.u64.wrap (x*y))]}:=by kernel_rfl
namespace M
theorem aKc (a:Nat) (ha:a<18446744073709551616):bW .u64 (a:Int) 4294967295=((a%4294967296:Nat):Int):=by
 have h:=bits_and_u64_nat a 4294967295 ha (by omega)
 have e:a &&& 4294967295=a%4294967296:=Nat.and_two_pow_sub_one_eq_mod a 32
 rw [e] at h
 exact h
theorem aZt (a:Nat):cB .u64 (a:Int) 32=((a/4294967296:Nat):Int):=by
 show Int.fdiv (a:Int) 4294967296=_
 rw [Int.fdiv_eq_ediv_of_nonneg _ (by decide)]
 omega
theorem bBv (a b:Nat):(a:Int)*(b:Int)=((a*b:Nat):Int):=(Int.natCast_mul a b).symm
theorem bGh (a b:Nat):(a:Int)+(b:Int)=((a+b:Nat):Int):=(Int.natCast_add a b).symm
theorem zQ (a:Nat) (ha:a<18446744073709551616):IntKind.u64.wrap (a:Int)=(a:Int):=by rw [IntKind.wrap_u64];omega
set_option maxHeartbeats 1000000 in
theorem aCe {x y:Int} (hx:U x) (hy:U y):(IntKind.u64.wrap
 (IntKind.u64.wrap
  (IntKind.u64.wrap (cB IntKind.u64 x (32:Int)*cB IntKind.u64 y (32:Int)) +
   cB IntKind.u64
    (IntKind.u64.wrap
     (IntKind.u64.wrap (cB IntKind.u64 x (32:Int)*bW IntKind.u64 y (4294967295:Int)) +
      cB IntKind.u64 (IntKind.u64.wrap (bW IntKind.u64 x (4294967295:Int)*bW IntKind.u64 y (4294967295:Int))) (32:Int)))
    (32:Int)) +
  cB IntKind.u64
   (IntKind.u64.wrap
    (bW IntKind.u64
     (IntKind.u64.wrap
      (IntKind.u64.wrap (cB IntKind.u64 x (32:Int)*bW IntKind.u64 y (4294967295:Int)) +
       cB IntKind.u64 (IntKind.u64.wrap (bW IntKind.u64 x (4294967295:Int)*bW IntKind.u64 y (4294967295:Int))) (32:Int)))
     (4294967295:Int) +
     IntKind.u64.wrap (bW IntKind.u64 x (4294967295:Int)*cB IntKind.u64 y (32:Int))))
   (32:Int)))=uh (x*y):=by
 obtain ⟨x,rfl⟩:=zzT hx.1
 obtain ⟨y,rfl⟩:=zzT hy.1
 have hx:x<18446744073709551616:=by have:=hx.2;omega
 have hy:y<18446744073709551616:=by have:=hy.2;omega
 obtain ⟨bd,bt,bw,hhi⟩:=Lib.mul64_hi x y hx hy
 have ba:=Lib.half_mul_le (a:=x/4294967296) (b:=y/4294967296) (by omega) (by omega)
 have bb:=Lib.half_mul_le (a:=x/4294967296) (b:=y%4294967296) (by omega) (by omega)
 have bc:=Lib.half_mul_le (a:=x%4294967296) (b:=y/4294967296) (by omega) (by omega)
 have ba':x/4294967296*(y/4294967296)<18446744073709551616:=by omega
 have bb':x/4294967296*(y%4294967296)<18446744073709551616:=by omega
 have bc':x%4294967296*(y/4294967296)<18446744073709551616:=by omega
 have bh1:x/4294967296*(y/4294967296)+(x/4294967296*(y%4294967296)+x%4294967296*(y%4294967296)/4294967296)/4294967296<18446744073709551616:=by omega
 have bh:x/4294967296*(y/4294967296)+(x/4294967296*(y%4294967296)+x%4294967296*(y%4294967296)/4294967296)/4294967296+((x/4294967296*(y%4294967296)+x%4294967296*(y%4294967296)/4294967296)%4294967296+x%4294967296*(y/4294967296))/4294967296<18446744073709551616:=by omega
 simp only [aKc x hx,aKc y hy,aZt,bBv,bGh,zQ _ bd,zQ _ bb',zQ _ bt,aKc _ bt,zQ _ bc',zQ _ bw,zQ _ ba',zQ _ bh1,zQ _ bh]
 rw [hhi]
 unfold uh
 omega
end M
def Tp (vs:List SV) (_:bA):Option Canon:=match vs with
 | [.int _ .u64 x,.int _ .u64 y]=>some { eN:=[.int false .u64 x,.int false .u64 y],T0:=[],vl:=[],e0:={ val:=.eP [.int false .u64 (M.uh (x*y)),.int false .u64 (M.ul (x*y))] },conds:=[M.U x,M.U y] }
 | _=>none
theorem aNm (Γ:Env) (hg:Γ.aT=aB):aI Tryz.prog Γ 199 (aL aB 100 Tp):=by
 refine aW hg fun vs T c hd hc=>?_
 unfold Tp at hd
 split at hd
 case h_2=>cases hd
 rename_i x _ y
 cases hd
 have hx:M.U x:=hc _ (by simp)
 have hy:M.U y:=hc _ (by simp)
 have hs:aI Tryz.prog (env fD 3) 199 (aF (env fD 3) Tryz.f199 true [] 400):=
  aM (bP fD 3) (kJ 3) mix Tryz.func199 (by kernel_rfl) true [] 400
 refine (hs.call (aVy _ _) (by simp)).words (by rw [hg];rfl) (fun _=>rfl) (fun _ _ h=>by cases h) (fun V=>?_) rfl rfl
 simp only [den,aG,M.aCe hx hy]
 simp only [M.bT]
def BJ (f:Nat):Option Sum:=match Nat.beq f 199 with
 | true=>some (aL aB 100 Tp)
 | false=>fD f
theorem Zr (f:Nat) (S:Sum) (h:BJ f=some S) (Γ:Env) (hg:Γ.aT=aB):aI Tryz.prog Γ f S:=by
 unfold BJ at h
 split at h
 .rename_i e;cases h;rw [zzN e];exact aNm Γ hg
 .exact qC f S h Γ
noncomputable def Mu:Env:=env BJ 8
theorem Xx:cK Tryz.prog Mu:=bV BJ Zr 8
theorem Xw:cC Tryz.prog Mu:=bP BJ 8
theorem bGi (x y c:Int) :
 aF Mu Tryz.f195 true [] 400 [.int false .u64 x,.int false .u64 y,.int false .u64 c] (fun _=>none) 100 100 =
 sh (18446744073709551616:Int) fun z0=>
 some {bK:=[(0:Int)<=x/\(0:Int)<=y/\(0:Int)<=c/\c<=(1:Int)],val:=SV.eP [SV.int false IntKind.u64 ((x+y+c)%z0),SV.int false IntKind.u64 ((x+y+c)/z0)]}:=by kernel_rfl
theorem bAh (x y c:Int) :
 aF Mu Tryz.f187 true [] 400 [.int false .u64 x,.int false .u64 y,.int false .u64 c] (fun _=>none) 100 100 =
 sh (18446744073709551616:Nat) fun z0=>
 sh (0:Int) fun z1=>
 some {bK:=[z1<=x/\z1<=y/\z1<=c/\c<=(1:Int)],val:=SV.eP [SV.int false IntKind.u64 (↑((x.toNat+z0-y.toNat-c.toNat)%z0):Int),SV.int false IntKind.u64 (if x<y+c then (1:Int) else z1)]}:=by kernel_rfl
def M.ub (n:Int):Int := -(n/18446744073709551616)
def M.K (c:Int):Prop:=0<=c/\c<=1
def addDec (vs:List SV) (_:bA):Option Canon:=match vs with
 | [.int _ .u64 x,.int _ .u64 y,.int _ .u64 c]=>some { eN:=[.int false .u64 x,.int false .u64 y,.int false .u64 c],T0:=[],vl:=[],e0:={ val:=.eP [.int false .u64 (M.ul (x+y+c)),.int false .u64 (M.uh (x+y+c))] },conds:=[M.U x,M.U y,M.K c] }
 | _=>none
def Tc (vs:List SV) (_:bA):Option Canon:=match vs with
 | [.int _ .u64 x,.int _ .u64 y,.int _ .u64 c]=>some { eN:=[.int false .u64 x,.int false .u64 y,.int false .u64 c],T0:=[],vl:=[],e0:={ val:=.eP [.int false .u64 (M.ul (x-y-c)),.int false .u64 (M.ub (x-y-c))] },conds:=[M.U x,M.U y,M.K c] }
 | _=>none
theorem aYu (Γ:Env) (hg:Γ.aT=aB):aI Tryz.prog Γ 195 (aL aB 100 addDec):=by
 refine aW hg fun vs T c hd hc=>?_
 unfold addDec at hd
 split at hd
 case h_2=>cases hd
 rename_i x _ y _ c
 cases hd
 have hx:M.U x:=hc _ (by simp)
 have hy:M.U y:=hc _ (by simp)
 have hk:M.K c:=hc _ (by simp)
 have hs:aI Tryz.prog Mu 195 (aF Mu Tryz.f195 true [] 400):=aM Xw Xx mix Tryz.func195 (by kernel_rfl) true [] 400
 exact (hs.call (bGi _ _ _) (aA (by simp only [sh,bJ,and_true];exact ⟨hx.1,hy.1,hk.1,hk.2⟩))).words (by rw [hg];rfl) (fun _=>rfl) (fun _ _ h=>by cases h) (fun V=>rfl) rfl rfl
theorem aVb (Γ:Env) (hg:Γ.aT=aB):aI Tryz.prog Γ 187 (aL aB 100 Tc):=by
 refine aW hg fun vs T c hd hc=>?_
 unfold Tc at hd
 split at hd
 case h_2=>cases hd
 rename_i x _ y _ c
 cases hd
 have hx:M.U x:=hc _ (by simp)
 have hy:M.U y:=hc _ (by simp)
 have hk:M.K c:=hc _ (by simp)
 have hs:aI Tryz.prog Mu 187 (aF Mu Tryz.f187 true [] 400):=aM Xw Xx mix Tryz.func187 (by kernel_rfl) true [] 400
 refine (hs.call (bAh _ _ _) (aA (by simp only [sh,bJ,and_true];exact ⟨hx.1,hy.1,hk.1,hk.2⟩))).words (by rw [hg];rfl) (fun _=>rfl) (fun _ _ h=>by cases h) (fun V=>?_) rfl rfl
 have h1:=hx.1
 have h2:=hx.2
 have h3:=hy.1
 have h4:=hy.2
 have h5:=hk.1
 have h6:=hk.2
 have e1:(((x.toNat+18446744073709551616-y.toNat-c.toNat)%18446744073709551616:Nat):Int)=M.ul (x-y-c):=by unfold M.ul;omega
 have e2:(if x<y+c then (1:Int) else 0)=M.ub (x-y-c):=by unfold M.ub;split <;> omega
 rw [e1,e2]
def BI (f:Nat):Option Sum:=match Nat.beq f 195 with
 | true=>some (aL aB 100 addDec)
 | false=>match Nat.beq f 187 with
   | true=>some (aL aB 100 Tc)
   | false=>BJ f
theorem Zq (f:Nat) (S:Sum) (h:BI f=some S) (Γ:Env) (hg:Γ.aT=aB):aI Tryz.prog Γ f S:=by
 unfold BI at h
 split at h
 .rename_i e;cases h;rw [zzN e];exact aYu Γ hg
 split at h
 .rename_i e;cases h;rw [zzN e];exact aVb Γ hg
 .exact Zr f S h Γ hg
noncomputable def yF:Env:=env BI 8
theorem Lc:cK Tryz.prog yF:=bV BI Zq 8
theorem Lb:cC Tryz.prog yF:=bP BI 8
theorem aXy (x y c:Int) :
 aF yF Tryz.f264 true [] 400 [.int false .u64 x,.int false .u64 y,.int false .u64 c] (fun _=>none) 100 100 =
 sh (0:Int) fun z1=>
 sh (M.ul (x*y)+c+z1) fun z0=>
 some {bK:=[M.U (M.ul (x*y)),M.U c,M.K z1,M.ul (x*y)=M.ul (x*y),c=c,z1=z1,M.U x,M.U y,x=x,y=y],val:=SV.eP [SV.int false IntKind.u64 (IntKind.u64.wrap (M.uh (x*y)+M.uh z0)),SV.int false IntKind.u64 (M.ul z0)]}:=by kernel_rfl
theorem aXr (x y:Int) :
 aF yF Tryz.f285 true [false,false] 400 [.int false .u64 x,.int false .u64 y,.int true .u64 18446744073709551615,.int true .u64 1] (fun _=>none) 100 100 =
 sh (18446744073709551615:Int) fun z4=>
 sh (1:Int) fun z7=>
 sh (z7*x) fun z2=>
 sh (0:Int) fun z5=>
 sh (M.ul z2+y+z5) fun z6=>
 sh (M.uh z2+x+M.uh z6) fun z1=>
 sh (z4*M.ul z1) fun z0=>
 sh (y-M.ul z0-z5) fun z3=>
 some {bK:=[decide (M.ul z3>=z4)=false,(M.ul (x-M.uh z0-M.ub z3) != z5)=false,M.U x,M.U (M.uh z0),M.K (M.ub z3),x=x,M.uh z0=M.uh z0,M.ub z3=M.ub z3,M.U y,M.U (M.ul z0),M.K z5,y=y,M.ul z0=M.ul z0,z5=z5,M.U z4,M.U (M.ul z1),z4=z4,M.ul z1=M.ul z1,M.U (M.uh z2),M.U x,M.K (M.uh z6),M.uh z2=M.uh z2,x=x,M.uh z6=M.uh z6,M.U (M.ul z2),M.U y,M.K z5,M.ul z2=M.ul z2,y=y,z5=z5,M.U z7,M.U x,z7=z7,x=x],val:=SV.eP [SV.int false IntKind.u64 (M.ul z1),SV.int false IntKind.u64 (cB IntKind.u64 (M.ul z3) z5)]}:=by kernel_rfl
theorem aXq (x y:Int) :
 aF yF Tryz.f285 true [false,true] 400 [.int false .u64 x,.int false .u64 y,.int true .u64 18446744073709551615,.int true .u64 1] (fun _=>none) 100 100 =
 sh (18446744073709551615:Int) fun z2=>
 sh (1:Int) fun z7=>
 sh (z7*x) fun z3=>
 sh (0:Int) fun z5=>
 sh (M.ul z3+y+z5) fun z6=>
 sh (M.uh z3+x+M.uh z6) fun z1=>
 sh (z2*M.ul z1) fun z0=>
 sh (y-M.ul z0-z5) fun z4=>
 some {bK:=[decide (M.ul z4>=z2)=true,(M.ul (x-M.uh z0-M.ub z4) != z5)=false,M.U x,M.U (M.uh z0),M.K (M.ub z4),x=x,M.uh z0=M.uh z0,M.ub z4=M.ub z4,M.U y,M.U (M.ul z0),M.K z5,y=y,M.ul z0=M.ul z0,z5=z5,M.U z2,M.U (M.ul z1),z2=z2,M.ul z1=M.ul z1,M.U (M.uh z3),M.U x,M.K (M.uh z6),M.uh z3=M.uh z3,x=x,M.uh z6=M.uh z6,M.U (M.ul z3),M.U y,M.K z5,M.ul z3=M.ul z3,y=y,z5=z5,M.U z7,M.U x,z7=z7,x=x],val:=SV.eP [SV.int false IntKind.u64 (IntKind.u64.wrap (M.ul z1+z7)),SV.int false IntKind.u64 (cB IntKind.u64 (IntKind.u64.wrap (M.ul z4-z2)) z5)]}:=by kernel_rfl
theorem aXp (x y:Int) :
 aF yF Tryz.f285 true [false,false] 400 [.int false .u64 x,.int false .u64 y,.int true .u64 9223372036854775808,.int true .u64 18446744073709551615] (fun _=>none) 100 100 =
 sh (9223372036854775808:Int) fun z4=>
 sh (18446744073709551615:Int) fun z5=>
 sh (z5*x) fun z1=>
 sh (0:Int) fun z6=>
 sh (M.ul z1+y+z6) fun z7=>
 sh (M.uh z1+x+M.uh z7) fun z2=>
 sh (z4*M.ul z2) fun z0=>
 sh (y-M.ul z0-z6) fun z3=>
 some {bK:=[decide (M.ul z3>=z4)=false,(M.ul (x-M.uh z0-M.ub z3) != z6)=false,M.U x,M.U (M.uh z0),M.K (M.ub z3),x=x,M.uh z0=M.uh z0,M.ub z3=M.ub z3,M.U y,M.U (M.ul z0),M.K z6,y=y,M.ul z0=M.ul z0,z6=z6,M.U z4,M.U (M.ul z2),z4=z4,M.ul z2=M.ul z2,M.U (M.uh z1),M.U x,M.K (M.uh z7),M.uh z1=M.uh z1,x=x,M.uh z7=M.uh z7,M.U (M.ul z1),M.U y,M.K z6,M.ul z1=M.ul z1,y=y,z6=z6,M.U z5,M.U x,z5=z5,x=x],val:=SV.eP [SV.int false IntKind.u64 (M.ul z2),SV.int false IntKind.u64 (cB IntKind.u64 (M.ul z3) z6)]}:=by kernel_rfl
theorem aXo (x y:Int) :
 aF yF Tryz.f285 true [false,true] 400 [.int false .u64 x,.int false .u64 y,.int true .u64 9223372036854775808,.int true .u64 18446744073709551615] (fun _=>none) 100 100 =
 sh (9223372036854775808:Int) fun z3=>
 sh (18446744073709551615:Int) fun z5=>
 sh (z5*x) fun z1=>
 sh (0:Int) fun z6=>
 sh (M.ul z1+y+z6) fun z7=>
 sh (M.uh z1+x+M.uh z7) fun z2=>
 sh (z3*M.ul z2) fun z0=>
 sh (y-M.ul z0-z6) fun z4=>
 some {bK:=[decide (M.ul z4>=z3)=true,(M.ul (x-M.uh z0-M.ub z4) != z6)=false,M.U x,M.U (M.uh z0),M.K (M.ub z4),x=x,M.uh z0=M.uh z0,M.ub z4=M.ub z4,M.U y,M.U (M.ul z0),M.K z6,y=y,M.ul z0=M.ul z0,z6=z6,M.U z3,M.U (M.ul z2),z3=z3,M.ul z2=M.ul z2,M.U (M.uh z1),M.U x,M.K (M.uh z7),M.uh z1=M.uh z1,x=x,M.uh z7=M.uh z7,M.U (M.ul z1),M.U y,M.K z6,M.ul z1=M.ul z1,y=y,z6=z6,M.U z5,M.U x,z5=z5,x=x],val:=SV.eP [SV.int false IntKind.u64 (IntKind.u64.wrap (M.ul z2+(1:Int))),SV.int false IntKind.u64 (cB IntKind.u64 (IntKind.u64.wrap (M.ul z4-z3)) z6)]}:=by kernel_rfl
def Uq (vs:List SV) (_:bA):Option Canon:=match vs with
 | [.int _ .u64 x,.int _ .u64 y,.int _ .u64 c]=>some { eN:=[.int false .u64 x,.int false .u64 y,.int false .u64 c],T0:=[],vl:=[],e0:={ val:=.eP [.int false .u64 (M.uh (x*y+c)),.int false .u64 (M.ul (x*y+c))] },conds:=[M.U x,M.U y,M.U c] }
 | _=>none
theorem aQr (Γ:Env) (hg:Γ.aT=aB):aI Tryz.prog Γ 264 (aL aB 100 Uq):=by
 refine aW hg fun vs T c hd hc=>?_
 unfold Uq at hd
 split at hd
 case h_2=>cases hd
 rename_i x _ y _ c
 cases hd
 have hx:M.U x:=hc _ (by simp)
 have hy:M.U y:=hc _ (by simp)
 have hk:M.U c:=hc _ (by simp)
 have hs:aI Tryz.prog yF 264 (aF yF Tryz.f264 true [] 400):=aM Lb Lc mix Tryz.func264 (by kernel_rfl) true [] 400
 refine (hs.call (aXy _ _ _) (aA (by simp only [sh,bJ,and_true,true_and];exact ⟨M.dW _,hk,⟨by decide,by decide⟩,hx,hy⟩))).words (by rw [hg];rfl) (fun _=>rfl) (fun _ _ h=>by cases h) (fun V=>?_) rfl rfl
 have h0:=M.eR hx hy
 have h1:=hk.1
 have h2:=hk.2
 rw [M.bT]
 have e1:M.ul (M.uh (x*y)+M.uh (M.ul (x*y)+c+0))=M.uh (x*y+c):=by unfold M.ul M.uh;omega
 have e2:M.ul (M.ul (x*y)+c+0)=M.ul (x*y+c):=by unfold M.ul;omega
 rw [e1,e2]
def M.dq (d x y:Int):Int:=(x*18446744073709551616+y)/d
def M.dr (d x y:Int):Int:=(x*18446744073709551616+y)%d
def KJ (vs:List SV) (_:bA):Option Canon:=match vs with
 | [.int _ .u64 x,.int _ .u64 y,.int true .u64 d,.int true .u64 m]=>match yJ d 18446744073709551615&&yJ m 1 with
   | true=>some { eN:=[.int false .u64 x,.int false .u64 y,.int true .u64 18446744073709551615,.int true .u64 1],T0:=[],vl:=[],e0:={ val:=.eP [.int false .u64 (M.dq 18446744073709551615 x y),.int false .u64 (M.dr 18446744073709551615 x y)] },conds:=[M.U x,M.U y,x<18446744073709551615] }
   | false=>match yJ d 9223372036854775808&&yJ m 18446744073709551615 with
     | true=>some { eN:=[.int false .u64 x,.int false .u64 y,.int true .u64 9223372036854775808,.int true .u64 18446744073709551615],T0:=[],vl:=[],e0:={ val:=.eP [.int false .u64 (M.dq 9223372036854775808 x y),.int false .u64 (M.dr 9223372036854775808 x y)] },conds:=[M.U x,M.U y,x<9223372036854775808] }
     | false=>none
 | _=>none
set_option maxHeartbeats 2000000 in
theorem SY {x y:Int} (hx:M.U x) (hy:M.U y) (hd:x<18446744073709551615) (Γ:Env) (hg:Γ.aT=aB):aE Tryz.prog Γ 285 [.int false .u64 x,.int false .u64 y,.int true .u64 18446744073709551615,.int true .u64 1] (fun l=>look l []) 100 100 { val:=.eP [.int false .u64 (M.dq 18446744073709551615 x y),.int false .u64 (M.dr 18446744073709551615 x y)] }:=by
 have h1:=hx.1
 have h3:=hy.1
 have h4:=hy.2
 have q1:M.ul (M.uh (1*x)+x+M.uh (M.ul (1*x)+y+0))=x+(x+y)/18446744073709551616:=by unfold M.ul M.uh;omega
 have q2:M.uh (1*x)=0:=by unfold M.uh;omega
 have q3:M.uh (M.ul (1*x)+y+0)=(x+y)/18446744073709551616:=by unfold M.uh M.ul;omega
 obtain ⟨c,hc⟩:∃ c,c=(x+y)/18446744073709551616:=⟨_,rfl⟩
 rw [<- hc] at q1 q3
 have c0:c=0\/c=1:=by omega
 have q4:M.ul (18446744073709551615*(x+c))=if x+c=0 then 0 else 18446744073709551616-(x+c):=by unfold M.ul;split <;> omega
 have q5:M.uh (18446744073709551615*(x+c))=if x+c=0 then 0 else x+c-1:=by unfold M.uh;split <;> omega
 have hs:∀ hs,aI Tryz.prog yF 285 (aF yF Tryz.f285 true hs 400):=fun hs=>aM Lb Lc mix Tryz.func285 (by kernel_rfl) true hs 400
 by_cases hh:x+y=18446744073709551615
 .refine ((hs _).call (aXq x y) (aA ?_)).words (by rw [hg];rfl) (fun _=>rfl) (fun _ _ h=>by cases h) (fun V=>?_) rfl rfl
  .simp only [q1]
   simp only [q4,q5]
   simp only [sh,bJ,q2,q3,and_true,true_and,decide_eq_true_eq,bne_eq_false_iff_eq]
   unfold M.U M.K M.ub M.ul
   and_intros <;> (try split) <;> omega
  .simp only [q1]
   simp only [q4]
   have e1:IntKind.u64.wrap (x+c+1)=M.dq 18446744073709551615 x y:=by rw [M.bT];unfold M.ul M.dq;omega
   have e2:∀ z,cB .u64 z 0=z:=fun z=>by show Int.fdiv z 1=z;simp
   rw [e1,e2,M.bT]
   congr 1
   unfold M.ul M.dr
   simp
   split <;> omega
 .refine ((hs _).call (aXr x y) (aA ?_)).words (by rw [hg];rfl) (fun _=>rfl) (fun _ _ h=>by cases h) (fun V=>?_) rfl rfl
  .simp only [q1]
   simp only [q4,q5]
   simp only [sh,bJ,q2,q3,and_true,true_and,decide_eq_false_iff_not,bne_eq_false_iff_eq]
   unfold M.U M.K M.ub M.ul
   and_intros <;> (try split) <;> omega
  .simp only [q1]
   simp only [q4]
   have e1:x+c=M.dq 18446744073709551615 x y:=by unfold M.dq;omega
   have e2:∀ z,cB .u64 z 0=z:=fun z=>by show Int.fdiv z 1=z;simp
   rw [e1,e2]
   congr 1
   rw [<- e1]
   unfold M.ul M.dr
   simp
   split <;> omega
set_option maxHeartbeats 2000000 in
theorem SX {x y:Int} (hx:M.U x) (hy:M.U y) (hd:x<9223372036854775808) (Γ:Env) (hg:Γ.aT=aB):aE Tryz.prog Γ 285 [.int false .u64 x,.int false .u64 y,.int true .u64 9223372036854775808,.int true .u64 18446744073709551615] (fun l=>look l []) 100 100 { val:=.eP [.int false .u64 (M.dq 9223372036854775808 x y),.int false .u64 (M.dr 9223372036854775808 x y)] }:=by
 have h1:=hx.1
 have h3:=hy.1
 have h4:=hy.2
 obtain ⟨t1,e1⟩:∃ t1,t1=M.uh (18446744073709551615*x):=⟨_,rfl⟩
 obtain ⟨c,e3⟩:∃ c,c=M.uh (M.ul (18446744073709551615*x)+y+0):=⟨_,rfl⟩
 have b1:t1=if x=0 then 0 else x-1:=by rw [e1];unfold M.uh;split <;> omega
 have b3:c=if x=0 then 0 else if y<x then 0 else 1:=by rw [e3];unfold M.uh M.ul;split <;> (try split) <;> omega
 obtain ⟨q,eq⟩:∃ q,q=M.ul (t1+x+c):=⟨_,rfl⟩
 have bq:q=if x=0 then 0 else if y<x then 2*x-1 else 2*x:=by rw [eq,b1,b3];unfold M.ul;split <;> (try split) <;> omega
 have hs:∀ hs,aI Tryz.prog yF 285 (aF yF Tryz.f285 true hs 400):=fun hs=>aM Lb Lc mix Tryz.func285 (by kernel_rfl) true hs 400
 have sh:∀ z,cB .u64 z 0=z:=fun z=>by show Int.fdiv z 1=z;simp
 by_cases hh:M.dq 9223372036854775808 x y=q+1
 .refine ((hs _).call (aXo x y) (aA ?_)).words (by rw [hg];rfl) (fun _=>rfl) (fun _ _ h=>by cases h) (fun V=>?_) rfl rfl
  .simp only [<- e1,<- e3]
   simp only [<- eq]
   simp only [sh,bJ,and_true,true_and,decide_eq_true_eq,bne_eq_false_iff_eq]
   unfold M.dq at hh
   unfold M.U M.K M.ub M.ul M.uh
   split at bq
   .and_intros <;> omega
   split at bq
   .and_intros <;> omega
   .and_intros <;> omega
  .simp only [<- e1,<- e3]
   simp only [<- eq,sh]
   have g1:IntKind.u64.wrap (q+1)=M.dq 9223372036854775808 x y:=by
    rw [M.bT,hh]
    unfold M.ul
    split at bq <;> (try split at bq) <;> omega
   rw [g1,M.bT]
   have g2:M.ul (M.ul (y-M.ul (9223372036854775808*q)-0)-9223372036854775808)=M.dr 9223372036854775808 x y:=by
    unfold M.dq at hh
    unfold M.ul M.dr
    split at bq <;> (try split at bq) <;> omega
   rw [g2]
 .have hq:M.dq 9223372036854775808 x y=q:=by
   revert hh
   unfold M.dq
   split at bq <;> (try split at bq) <;> omega
  refine ((hs _).call (aXp x y) (aA ?_)).words (by rw [hg];rfl) (fun _=>rfl) (fun _ _ h=>by cases h) (fun V=>?_) rfl rfl
  .simp only [<- e1,<- e3]
   simp only [<- eq]
   simp only [sh,bJ,and_true,true_and,decide_eq_false_iff_not,bne_eq_false_iff_eq]
   unfold M.dq at hq
   unfold M.U M.K M.ub M.ul M.uh
   split at bq
   .and_intros <;> omega
   split at bq
   .and_intros <;> omega
   .and_intros <;> omega
  .simp only [<- e1,<- e3]
   simp only [<- eq,sh,hq]
   have g2:M.ul (y-M.ul (9223372036854775808*q)-0)=M.dr 9223372036854775808 x y:=by
    unfold M.dq at hq
    unfold M.ul M.dr
    split at bq <;> (try split at bq) <;> omega
   rw [g2]
theorem aXs (Γ:Env) (hg:Γ.aT=aB):aI Tryz.prog Γ 285 (aL aB 100 KJ):=by
 refine aW hg fun vs T c hd hc=>?_
 unfold KJ at hd
 split at hd
 case h_2=>cases hd
 rename_i x _ y d m
 split at hd
 .cases hd
  exact SY (hc _ (by simp)) (hc _ (by simp)) (hc _ (by simp)) Γ hg
 split at hd
 .cases hd
  exact SX (hc _ (by simp)) (hc _ (by simp)) (hc _ (by simp)) Γ hg
 .cases hd
def exB (f:Nat):Option Sum:=match Nat.beq f 264 with
 | true=>some (aL aB 100 Uq)
 | false=>match Nat.beq f 285 with
   | true=>some (aL aB 100 KJ)
   | false=>BI f
theorem MQ (f:Nat) (S:Sum) (h:exB f=some S) (Γ:Env) (hg:Γ.aT=aB):aI Tryz.prog Γ f S:=by
 unfold exB at h
 split at h
 .rename_i e;cases h;rw [zzN e];exact aQr Γ hg
 split at h
 .rename_i e;cases h;rw [zzN e];exact aXs Γ hg
 .exact Zq f S h Γ hg
noncomputable def Γb:Env:=env exB 8
theorem aKj:cK Tryz.prog Γb:=bV exB MQ 8
theorem aKi:cC Tryz.prog Γb:=bP exB 8
theorem bDy (a b c d:Int) :
 aF Γb Tryz.f286 true [true] 400 [.int false .u64 a,.int false .u64 b,.int false .u64 c,.int false .u64 d] (fun _=>none) 100 100 =
 some {bK:=[decide (a>c)=true],val:=SV.bool true true}:=by kernel_rfl
theorem bDx (a b c d:Int) :
 aF Γb Tryz.f286 true [false,true] 400 [.int false .u64 a,.int false .u64 b,.int false .u64 c,.int false .u64 d] (fun _=>none) 100 100 =
 some {bK:=[(a==c)=true,decide (a>c)=false],val:=SV.bool false (decide (b>d))}:=by kernel_rfl
theorem bDw (a b c d:Int) :
 aF Γb Tryz.f286 true [false,false] 400 [.int false .u64 a,.int false .u64 b,.int false .u64 c,.int false .u64 d] (fun _=>none) 100 100 =
 some {bK:=[(a==c)=false,decide (a>c)=false],val:=SV.bool true false}:=by kernel_rfl
def M.gt (a b c d:Int):Bool:=decide (c*18446744073709551616+d<a*18446744073709551616+b)
def JO (vs:List SV) (_:bA):Option Canon:=match vs with
 | [.int _ .u64 a,.int _ .u64 b,.int _ .u64 c,.int _ .u64 d]=>some { eN:=[.int false .u64 a,.int false .u64 b,.int false .u64 c,.int false .u64 d],T0:=[],vl:=[],e0:={ val:=.bool false (M.gt a b c d) },conds:=[M.U b,M.U d] }
 | _=>none
theorem aXd (Γ:Env) (hg:Γ.aT=aB):aI Tryz.prog Γ 286 (aL aB 100 JO):=by
 refine aW hg fun vs T c hd hc=>?_
 unfold JO at hd
 split at hd
 case h_2=>cases hd
 rename_i a _ b _ c _ d
 cases hd
 have hb:M.U b:=hc _ (by simp)
 have hd:M.U d:=hc _ (by simp)
 have b1:=hb.1
 have b2:=hb.2
 have d1:=hd.1
 have d2:=hd.2
 have hs:∀ hs,aI Tryz.prog Γb 286 (aF Γb Tryz.f286 true hs 400):=fun hs=>aM aKi aKj mix Tryz.func286 (by kernel_rfl) true hs 400
 by_cases h1:a>c
 .refine ((hs _).call (bDy a b c d) (aA ?_)).words (by rw [hg];rfl) (fun _=>rfl) (fun _ _ h=>by cases h) (fun V=>?_) rfl rfl
  .simp only [sh,bJ,and_true,decide_eq_true_eq,h1]
  .have:M.gt a b c d=true:=by unfold M.gt;exact decide_eq_true (by omega)
   rw [this];rfl
 by_cases h2:a=c
 .refine ((hs _).call (bDx a b c d) (aA ?_)).words (by rw [hg];rfl) (fun _=>rfl) (fun _ _ h=>by cases h) (fun V=>?_) rfl rfl
  .simp only [sh,bJ,and_true,beq_iff_eq,decide_eq_false_iff_not];exact ⟨h2,h1⟩
  .have:M.gt a b c d=decide (b>d):=by unfold M.gt;rw [decide_eq_decide];omega
   rw [this]
 .refine ((hs _).call (bDw a b c d) (aA ?_)).words (by rw [hg];rfl) (fun _=>rfl) (fun _ _ h=>by cases h) (fun V=>?_) rfl rfl
  .simp only [sh,bJ,and_true,beq_eq_false_iff_ne,decide_eq_false_iff_not];exact ⟨h2,h1⟩
  .have:M.gt a b c d=false:=by unfold M.gt;exact zzF (by omega)
   rw [this];rfl
def AQ (f:Nat):Option Sum:=match Nat.beq f 286 with
 | true=>some (aL aB 100 JO)
 | false=>exB f
theorem MP (f:Nat) (S:Sum) (h:AQ f=some S) (Γ:Env) (hg:Γ.aT=aB):aI Tryz.prog Γ f S:=by
 unfold AQ at h
 split at h
 .rename_i e;cases h;rw [zzN e];exact aXd Γ hg
 .exact MQ f S h Γ hg
noncomputable def Γv:Env:=env AQ 8
theorem lV:cK Tryz.prog Γv:=bV AQ MP 8
theorem lU:cC Tryz.prog Γv:=bP AQ 8
def Dd (nu cu nq cq:Nat):List SV:=[.aJ 61 true 0 nq cq,.ptr 62 true 0,.aJ 63 true 0 nu cu,.cQ 64 0 3 0]
def Jt (v:List SV) (us qs:List SV):bA:=fun l=>look l [(61,.own qs 196),(62,.own [.raw (.pointer none)] 306),(63,.own us 196),(64,.row 1 v 196)]
def fJ:List SV:=[.int true .u64 13835058055282163712,.int true .u64 18446744073709551614,.int true .u64 18446744073709551615]
def wc (xs:List Int):List SV:=xs.map (.int false .u64)
noncomputable def Dv (v us qs:List SV) (nu cu nq cq:Nat):Option oY:=gV Γv (aY 100 (Jt v us qs)) 100 Tryz.f259.ntmps [8] 100 400 (.go (codeOf Tryz.f259)) [] (zL (Dd nu cu nq cq) 100)
noncomputable def yS:Code:=match Dv fJ (wc [0,0,0,0]) (wc [0]) 4 4 1 1 with
 | some { cf:=.go (.loop c),.. }=>c
 | _=>.skip
noncomputable def Hb:List Fr:=match Dv fJ (wc [0,0,0,0]) (wc [0]) 4 4 1 1 with
 | some r=>r.fr
 | _=>[]
def jV (nu cu nq cq m:Nat) (d rec:Int) (ujn:SV) (j:Int):List (Nat × SV):=[(0,.aJ 61 true 0 nq cq),(2,.aJ 63 true 0 nu cu),(3,.cQ 64 0 3 0),(8,.int true .i64 3),(9,.int true .i64 m),(10,.cQ 100 0 4 0),(11,.int true .u64 d),(12,.int true .u64 rec),(13,ujn),(14,.int true .i64 j)]
def jU (hs us qs:List SV):List (Nat × SB):=[(100,.row 1 hs 196),(61,.own qs 196),(63,.own us 196)]
def jW:List SV:=[.fn (.func 243) [.ptr 62 true 0,.int true .i64 0] []]
noncomputable def gB (v fB fC:List SV) (nu cu nq cq m:Nat) (d rec:Int) (j j':Int) (ujn aZj:SV) (us us' qs qs' hs Gb:List SV) (h:List Bool):Option (Cf × List Fr × List Prop):=
 Ah 100 (aY 100 (Jt v fB fC)) [] (jV nu cu nq cq m d rec aZj j') (jU Gb us' qs') 101 [61,63] jW (gV Γv (aY 100 (Jt v fB fC)) 100 Tryz.f259.ntmps [8] 100 400 (.go yS) [] ((bM (jV nu cu nq cq m d rec ujn j) (jU hs us qs) 101 [61,63] jW).hint h))
noncomputable def Oq (v fB fC:List SV) (nu cu nq cq m:Nat) (d rec:Int) (ujn:SV) (us qs hs:List SV):Option bL:=
 Nk Γv (Jt v fB fC) 100 100 Tryz.f259 (gV Γv (aY 100 (Jt v fB fC)) 100 Tryz.f259.ntmps [8] 100 400 (.at (.exit 0)) Hb ((bM (jV nu cu nq cq m d rec ujn (-1)) (jU hs us qs) 101 [61,63] jW).hint []))
structure FB where
 nu:Nat
 cu:Nat
 nq:Nat
 cq:Nat
 m:Nat
def DvP (hs:List Bool) (ob:Int->Int->Int->Int->Int->Int->Int->Int->Int->List Prop) (uo:Int->Int->Int->Int->List Int) (qo:Int->Int->Int) (c:FB) (j j':Int) (pre post qa qb:List Int):Prop:=
 ∀ (fB fC:List SV) (u0 u1 u2 u3 v0 v1 v2 v3 q0 q1 h0 h1 h2 h3 g0 g1 g2 g3:Int),
   gB fJ fB fC c.nu c.cu c.nq c.cq c.m 18446744073709551615 1 j j' (.int false .u64 u3) (.int false .u64 v2) (wc (pre++[u0,u1,u2,u3]++post)) (wc (pre++[v0,v1,v2,v3]++post)) (wc (qa++[q0]++qb)) (wc (qa++[q1]++qb)) (wc [h0,h1,h2,h3]) (wc [g0,g1,g2,g3]) hs =
    some (.at .normal,[],ob u0 u1 u2 u3 v2 g0 g1 g2 g3++[qa++[qo u2 u3]++qb=qa++[q1]++qb,pre++uo u0 u1 u2 u3++post=pre++[v0,v1,v2,v3]++post])
def aHg (u0 u1 u2 u3 v2 g0 g1 g2 g3:Int):List Prop:=
 sh (13835058055282163713:Int) fun z4=>
 sh (4611686018427387904:Int) fun z3=>
 sh (0:Int) fun z6=>
 sh (u0-z3-z6) fun z10=>
 sh (u1-z4-M.ub z10) fun z0=>
 sh (18446744073709551614:Int) fun z1=>
 sh (18446744073709551615:Int) fun z2=>
 sh (u2-z1-M.ub z0) fun z5=>
 sh (18446744073709551613:Int) fun z7=>
 sh (13835058055282163711:Int) fun z8=>
 sh (13835058055282163712:Int) fun z9=>
 [(M.ub (u3-z1-M.ub z5) != z6)=false,M.U u3,M.U z1,M.K (M.ub z5),u3=u3,z1=z1,M.ub z5=M.ub z5,M.U u2,M.U z1,M.K (M.ub z0),u2=u2,z1=z1,M.ub z0=M.ub z0,M.U u1,M.U z4,M.K (M.ub z10),u1=u1,z4=z4,M.ub z10=M.ub z10,M.U u0,M.U z3,M.K z6,u0=u0,z3=z3,z6=z6,M.U z2,M.U z2,M.U z7,z2=z2,z2=z2,z7=z7,M.U z1,M.U z2,M.U z8,z1=z1,z2=z2,z8=z8,M.U z9,M.U z2,M.U z6,z9=z9,z2=z2,z6=z6,(u3 != z2)=false,(3:Nat)=(3:Nat),(4:Nat)=(4:Nat),M.ul z5=v2,z3=g0,z4=g1,z1=g2,z1=g3]
def aGn (u0 u1 u2 u3:Int):List Int:=[M.ul (u0-(4611686018427387904:Int)-(0:Int)),M.ul (u1-(13835058055282163713:Int)-M.ub (u0-(4611686018427387904:Int)-(0:Int))),M.ul (u2-(18446744073709551614:Int)-M.ub (u1-(13835058055282163713:Int)-M.ub (u0-(4611686018427387904:Int)-(0:Int)))),M.ul (u3-(18446744073709551614:Int)-M.ub (u2-(18446744073709551614:Int)-M.ub (u1-(13835058055282163713:Int)-M.ub (u0-(4611686018427387904:Int)-(0:Int)))))]
def aHa (u2 u3:Int):Int:=(18446744073709551615:Int)
abbrev zZ:=DvP [false,false] aHg aGn aHa
def IQ (u0 u1 u2 u3 v2 g0 g1 g2 g3:Int):List Prop:=
 sh (18446744073709551614:Int) fun z4=>
 sh (18446744073709551615:Int) fun z1=>
 sh (13835058055282163712:Int) fun z8=>
 sh (0:Int) fun z10=>
 sh (z8*M.dq z1 u3 u2+z10) fun z2=>
 sh (z4*M.dq z1 u3 u2+M.uh z2) fun z0=>
 sh (z1*M.dq z1 u3 u2+M.uh z0) fun z5=>
 sh (u0-M.ul z2-z10) fun z6=>
 sh (u1-M.ul z0-M.ub z6) fun z9=>
 sh (u2-M.ul z5-M.ub z9) fun z3=>
 sh (M.dq z1 u3 u2*z4) fun z7=>
 sh (M.dq z1 u3 u2) fun z11=>
 [(M.ub (u3-M.uh z5-M.ub z3) != z10)=false,M.U u3,M.U (M.uh z5),M.K (M.ub z3),u3=u3,M.uh z5=M.uh z5,M.ub z3=M.ub z3,M.U u2,M.U (M.ul z5),M.K (M.ub z9),u2=u2,M.ul z5=M.ul z5,M.ub z9=M.ub z9,M.U u1,M.U (M.ul z0),M.K (M.ub z6),u1=u1,M.ul z0=M.ul z0,M.ub z6=M.ub z6,M.U u0,M.U (M.ul z2),M.K z10,u0=u0,M.ul z2=M.ul z2,z10=z10,M.U z1,M.U z11,M.U (M.uh z0),z1=z1,M.dq z1 u3 u2=M.dq z1 u3 u2,M.uh z0=M.uh z0,M.U z4,M.U z11,M.U (M.uh z2),z4=z4,M.dq z1 u3 u2=M.dq z1 u3 u2,M.uh z2=M.uh z2,M.U z8,M.U z11,M.U z10,z8=z8,M.dq z1 u3 u2=M.dq z1 u3 u2,z10=z10,M.gt (M.uh z7) (M.ul z7) (M.dr z1 u3 u2) u1=false,M.U (M.ul z7),M.U u1,M.uh z7=M.uh z7,M.ul z7=M.ul z7,M.dr z1 u3 u2=M.dr z1 u3 u2,u1=u1,M.U z11,M.U z4,M.dq z1 u3 u2=M.dq z1 u3 u2,z4=z4,M.U u3,M.U u2,u3<z1,u3=u3,u2=u2,(u3 != z1)=true,(3:Nat)=(3:Nat),(4:Nat)=(4:Nat),M.ul z3=v2,M.ul z2=g0,M.ul z0=g1,M.ul z5=g2,M.uh z5=g3]
def HK (u0 u1 u2 u3:Int):List Int:=
 sh (18446744073709551615:Int) fun z2=>
 sh ((13835058055282163712:Int)*M.dq z2 u3 u2+(0:Int)) fun z1=>
 sh ((18446744073709551614:Int)*M.dq z2 u3 u2+M.uh z1) fun z0=>
 sh (z2*M.dq z2 u3 u2+M.uh z0) fun z5=>
 sh (u0-M.ul z1-(0:Int)) fun z4=>
 sh (u1-M.ul z0-M.ub z4) fun z6=>
 sh (u2-M.ul z5-M.ub z6) fun z3=>
 [M.ul z4,M.ul z6,M.ul z3,M.ul (u3-M.uh z5-M.ub z3)]
def IG (u2 u3:Int):Int:=M.dq (18446744073709551615:Int) u3 u2
abbrev vU:=DvP [true,false,false] IQ HK IG
def LW (u0 u1 u2 u3 v2 g0 g1 g2 g3:Int):List Prop:=
 sh (18446744073709551614:Int) fun z5=>
 sh (18446744073709551615:Int) fun z3=>
 sh (M.dq z3 u3 u2-(1:Int)) fun z1=>
 sh (13835058055282163712:Int) fun z9=>
 sh (0:Int) fun z11=>
 sh (z9*IntKind.u64.wrap z1+z11) fun z2=>
 sh (z5*IntKind.u64.wrap z1+M.uh z2) fun z0=>
 sh (z3*IntKind.u64.wrap z1+M.uh z0) fun z4=>
 sh (u0-M.ul z2-z11) fun z10=>
 sh (u1-M.ul z0-M.ub z10) fun z6=>
 sh (M.dq z3 u3 u2*z5) fun z7=>
 sh (u2-M.ul z4-M.ub z6) fun z8=>
 sh (IntKind.u64.wrap z1) fun z12=>
 [(M.ub (u3-M.uh z4-M.ub z8) != z11)=false,M.U u3,M.U (M.uh z4),M.K (M.ub z8),u3=u3,M.uh z4=M.uh z4,M.ub z8=M.ub z8,M.U u2,M.U (M.ul z4),M.K (M.ub z6),u2=u2,M.ul z4=M.ul z4,M.ub z6=M.ub z6,M.U u1,M.U (M.ul z0),M.K (M.ub z10),u1=u1,M.ul z0=M.ul z0,M.ub z10=M.ub z10,M.U u0,M.U (M.ul z2),M.K z11,u0=u0,M.ul z2=M.ul z2,z11=z11,M.U z3,M.U z12,M.U (M.uh z0),z3=z3,IntKind.u64.wrap z1=IntKind.u64.wrap z1,M.uh z0=M.uh z0,M.U z5,M.U z12,M.U (M.uh z2),z5=z5,IntKind.u64.wrap z1=IntKind.u64.wrap z1,M.uh z2=M.uh z2,M.U z9,M.U z12,M.U z11,z9=z9,IntKind.u64.wrap z1=IntKind.u64.wrap z1,z11=z11,decide (IntKind.u64.wrap (M.dr z3 u3 u2+z3)<z3)=true,M.gt (M.uh z7) (M.ul z7) (M.dr z3 u3 u2) u1=true,M.U (M.ul z7),M.U u1,M.uh z7=M.uh z7,M.ul z7=M.ul z7,M.dr z3 u3 u2=M.dr z3 u3 u2,u1=u1,M.U (M.dq z3 u3 u2),M.U z5,M.dq z3 u3 u2=M.dq z3 u3 u2,z5=z5,M.U u3,M.U u2,u3<z3,u3=u3,u2=u2,(u3 != z3)=true,(3:Nat)=(3:Nat),(4:Nat)=(4:Nat),M.ul z8=v2,M.ul z2=g0,M.ul z0=g1,M.ul z4=g2,M.uh z4=g3]
def KX (u0 u1 u2 u3:Int):List Int:=
 sh (18446744073709551615:Int) fun z5=>
 sh (M.dq z5 u3 u2-(1:Int)) fun z3=>
 sh ((13835058055282163712:Int)*IntKind.u64.wrap z3+(0:Int)) fun z1=>
 sh ((18446744073709551614:Int)*IntKind.u64.wrap z3+M.uh z1) fun z0=>
 sh (z5*IntKind.u64.wrap z3+M.uh z0) fun z2=>
 sh (u0-M.ul z1-(0:Int)) fun z6=>
 sh (u1-M.ul z0-M.ub z6) fun z4=>
 sh (u2-M.ul z2-M.ub z4) fun z7=>
 [M.ul z6,M.ul z4,M.ul z7,M.ul (u3-M.uh z2-M.ub z7)]
def LL (u2 u3:Int):Int:=IntKind.u64.wrap (M.dq (18446744073709551615:Int) u3 u2-(1:Int))
abbrev rU:=DvP [true,true,true,false] LW KX LL
def Yw (u0 u1 u2 u3 v2 g0 g1 g2 g3:Int):List Prop:=
 sh (18446744073709551614:Int) fun z4=>
 sh (18446744073709551615:Int) fun z1=>
 sh (M.dq z1 u3 u2-(1:Int)) fun z6=>
 sh (13835058055282163712:Int) fun z9=>
 sh (0:Int) fun z12=>
 sh (z9*IntKind.u64.wrap z6+z12) fun z2=>
 sh (z4*IntKind.u64.wrap z6+M.uh z2) fun z0=>
 sh (z1*IntKind.u64.wrap z6+M.uh z0) fun z3=>
 sh (u0-M.ul z2-z12) fun z10=>
 sh (u1-M.ul z0-M.ub z10) fun z5=>
 sh (M.dq z1 u3 u2*z4) fun z7=>
 sh (u2-M.ul z3-M.ub z5) fun z8=>
 sh (M.dr z1 u3 u2+z1) fun z11=>
 sh (IntKind.u64.wrap z6) fun z13=>
 sh (M.uh z7-(1:Int)) fun z14=>
 sh (M.ul z7-z4) fun z15=>
 sh (IntKind.u64.wrap z15) fun oX=>
 [(M.ub (u3-M.uh z3-M.ub z8) != z12)=false,M.U u3,M.U (M.uh z3),M.K (M.ub z8),u3=u3,M.uh z3=M.uh z3,M.ub z8=M.ub z8,M.U u2,M.U (M.ul z3),M.K (M.ub z5),u2=u2,M.ul z3=M.ul z3,M.ub z5=M.ub z5,M.U u1,M.U (M.ul z0),M.K (M.ub z10),u1=u1,M.ul z0=M.ul z0,M.ub z10=M.ub z10,M.U u0,M.U (M.ul z2),M.K z12,u0=u0,M.ul z2=M.ul z2,z12=z12,M.U z1,M.U z13,M.U (M.uh z0),z1=z1,IntKind.u64.wrap z6=IntKind.u64.wrap z6,M.uh z0=M.uh z0,M.U z4,M.U z13,M.U (M.uh z2),z4=z4,IntKind.u64.wrap z6=IntKind.u64.wrap z6,M.uh z2=M.uh z2,M.U z9,M.U z13,M.U z12,z9=z9,IntKind.u64.wrap z6=IntKind.u64.wrap z6,z12=z12,M.gt (IntKind.u64.wrap z14) oX (IntKind.u64.wrap z11) u1=false,M.U oX,M.U u1,IntKind.u64.wrap z14=IntKind.u64.wrap z14,IntKind.u64.wrap z15=IntKind.u64.wrap z15,IntKind.u64.wrap z11=IntKind.u64.wrap z11,u1=u1,decide (z4>M.ul z7)=true,decide (IntKind.u64.wrap z11<z1)=false,M.gt (M.uh z7) (M.ul z7) (M.dr z1 u3 u2) u1=true,M.U (M.ul z7),M.U u1,M.uh z7=M.uh z7,M.ul z7=M.ul z7,M.dr z1 u3 u2=M.dr z1 u3 u2,u1=u1,M.U (M.dq z1 u3 u2),M.U z4,M.dq z1 u3 u2=M.dq z1 u3 u2,z4=z4,M.U u3,M.U u2,u3<z1,u3=u3,u2=u2,(u3 != z1)=true,(3:Nat)=(3:Nat),(4:Nat)=(4:Nat),M.ul z8=v2,M.ul z2=g0,M.ul z0=g1,M.ul z3=g2,M.uh z3=g3]
def Yf (u0 u1 u2 u3:Int):List Int:=
 sh (18446744073709551615:Int) fun z5=>
 sh (M.dq z5 u3 u2-(1:Int)) fun z3=>
 sh ((13835058055282163712:Int)*IntKind.u64.wrap z3+(0:Int)) fun z1=>
 sh ((18446744073709551614:Int)*IntKind.u64.wrap z3+M.uh z1) fun z0=>
 sh (z5*IntKind.u64.wrap z3+M.uh z0) fun z2=>
 sh (u0-M.ul z1-(0:Int)) fun z6=>
 sh (u1-M.ul z0-M.ub z6) fun z4=>
 sh (u2-M.ul z2-M.ub z4) fun z7=>
 [M.ul z6,M.ul z4,M.ul z7,M.ul (u3-M.uh z2-M.ub z7)]
def Ym (u2 u3:Int):Int:=IntKind.u64.wrap (M.dq (18446744073709551615:Int) u3 u2-(1:Int))
abbrev oI:=DvP [true,true,false,true,false,false] Yw Yf Ym
def Yx (u0 u1 u2 u3 v2 g0 g1 g2 g3:Int):List Prop:=
 sh (18446744073709551614:Int) fun z4=>
 sh (18446744073709551615:Int) fun z1=>
 sh (M.dq z1 u3 u2-(1:Int)) fun z6=>
 sh (13835058055282163712:Int) fun z9=>
 sh (0:Int) fun z12=>
 sh (z9*IntKind.u64.wrap z6+z12) fun z2=>
 sh (z4*IntKind.u64.wrap z6+M.uh z2) fun z0=>
 sh (z1*IntKind.u64.wrap z6+M.uh z0) fun z3=>
 sh (u0-M.ul z2-z12) fun z10=>
 sh (u1-M.ul z0-M.ub z10) fun z5=>
 sh (M.dq z1 u3 u2*z4) fun z7=>
 sh (u2-M.ul z3-M.ub z5) fun z8=>
 sh (M.dr z1 u3 u2+z1) fun z11=>
 sh (IntKind.u64.wrap z6) fun z13=>
 sh (M.ul z7-z4) fun z14=>
 sh (IntKind.u64.wrap z14) fun z15=>
 [(M.ub (u3-M.uh z3-M.ub z8) != z12)=false,M.U u3,M.U (M.uh z3),M.K (M.ub z8),u3=u3,M.uh z3=M.uh z3,M.ub z8=M.ub z8,M.U u2,M.U (M.ul z3),M.K (M.ub z5),u2=u2,M.ul z3=M.ul z3,M.ub z5=M.ub z5,M.U u1,M.U (M.ul z0),M.K (M.ub z10),u1=u1,M.ul z0=M.ul z0,M.ub z10=M.ub z10,M.U u0,M.U (M.ul z2),M.K z12,u0=u0,M.ul z2=M.ul z2,z12=z12,M.U z1,M.U z13,M.U (M.uh z0),z1=z1,IntKind.u64.wrap z6=IntKind.u64.wrap z6,M.uh z0=M.uh z0,M.U z4,M.U z13,M.U (M.uh z2),z4=z4,IntKind.u64.wrap z6=IntKind.u64.wrap z6,M.uh z2=M.uh z2,M.U z9,M.U z13,M.U z12,z9=z9,IntKind.u64.wrap z6=IntKind.u64.wrap z6,z12=z12,M.gt (M.uh z7) z15 (IntKind.u64.wrap z11) u1=false,M.U z15,M.U u1,M.uh z7=M.uh z7,IntKind.u64.wrap z14=IntKind.u64.wrap z14,IntKind.u64.wrap z11=IntKind.u64.wrap z11,u1=u1,decide (z4>M.ul z7)=false,decide (IntKind.u64.wrap z11<z1)=false,M.gt (M.uh z7) (M.ul z7) (M.dr z1 u3 u2) u1=true,M.U (M.ul z7),M.U u1,M.uh z7=M.uh z7,M.ul z7=M.ul z7,M.dr z1 u3 u2=M.dr z1 u3 u2,u1=u1,M.U (M.dq z1 u3 u2),M.U z4,M.dq z1 u3 u2=M.dq z1 u3 u2,z4=z4,M.U u3,M.U u2,u3<z1,u3=u3,u2=u2,(u3 != z1)=true,(3:Nat)=(3:Nat),(4:Nat)=(4:Nat),M.ul z8=v2,M.ul z2=g0,M.ul z0=g1,M.ul z3=g2,M.uh z3=g3]
def Yg (u0 u1 u2 u3:Int):List Int:=
 sh (18446744073709551615:Int) fun z5=>
 sh (M.dq z5 u3 u2-(1:Int)) fun z3=>
 sh ((13835058055282163712:Int)*IntKind.u64.wrap z3+(0:Int)) fun z1=>
 sh ((18446744073709551614:Int)*IntKind.u64.wrap z3+M.uh z1) fun z0=>
 sh (z5*IntKind.u64.wrap z3+M.uh z0) fun z2=>
 sh (u0-M.ul z1-(0:Int)) fun z6=>
 sh (u1-M.ul z0-M.ub z6) fun z4=>
 sh (u2-M.ul z2-M.ub z4) fun z7=>
 [M.ul z6,M.ul z4,M.ul z7,M.ul (u3-M.uh z2-M.ub z7)]
def Yn (u2 u3:Int):Int:=IntKind.u64.wrap (M.dq (18446744073709551615:Int) u3 u2-(1:Int))
abbrev oJ:=DvP [true,true,false,false,false,false] Yx Yg Yn
def aHf (u0 u1 u2 u3 v2 g0 g1 g2 g3:Int):List Prop:=
 sh (18446744073709551614:Int) fun z4=>
 sh (18446744073709551615:Int) fun z2=>
 sh (13835058055282163712:Int) fun z3=>
 sh (0:Int) fun z11=>
 sh (z3*M.dq z2 u3 u2+z11) fun z7=>
 sh (z4*M.dq z2 u3 u2+M.uh z7) fun z0=>
 sh (u0-M.ul z7-z11) fun z1=>
 sh (z2*M.dq z2 u3 u2+M.uh z0) fun z6=>
 sh (u1-M.ul z0-M.ub z1) fun z8=>
 sh (u2-M.ul z6-M.ub z8) fun z5=>
 sh (M.ul z1+z3+z11) fun z9=>
 sh (M.dq z2 u3 u2*z4) fun z10=>
 sh (M.ul z8+z4+M.uh z9) fun z12=>
 sh (M.dq z2 u3 u2) fun z13=>
 [M.U (M.ul z5),M.U z2,M.K (M.uh z12),M.ul z5=M.ul z5,z2=z2,M.uh z12=M.uh z12,M.U (M.ul z8),M.U z4,M.K (M.uh z9),M.ul z8=M.ul z8,z4=z4,M.uh z9=M.uh z9,M.U (M.ul z1),M.U z3,M.K z11,M.ul z1=M.ul z1,z3=z3,z11=z11,(M.ub (u3-M.uh z6-M.ub z5) != z11)=true,M.U u3,M.U (M.uh z6),M.K (M.ub z5),u3=u3,M.uh z6=M.uh z6,M.ub z5=M.ub z5,M.U u2,M.U (M.ul z6),M.K (M.ub z8),u2=u2,M.ul z6=M.ul z6,M.ub z8=M.ub z8,M.U u1,M.U (M.ul z0),M.K (M.ub z1),u1=u1,M.ul z0=M.ul z0,M.ub z1=M.ub z1,M.U u0,M.U (M.ul z7),M.K z11,u0=u0,M.ul z7=M.ul z7,z11=z11,M.U z2,M.U z13,M.U (M.uh z0),z2=z2,M.dq z2 u3 u2=M.dq z2 u3 u2,M.uh z0=M.uh z0,M.U z4,M.U z13,M.U (M.uh z7),z4=z4,M.dq z2 u3 u2=M.dq z2 u3 u2,M.uh z7=M.uh z7,M.U z3,M.U z13,M.U z11,z3=z3,M.dq z2 u3 u2=M.dq z2 u3 u2,z11=z11,M.gt (M.uh z10) (M.ul z10) (M.dr z2 u3 u2) u1=false,M.U (M.ul z10),M.U u1,M.uh z10=M.uh z10,M.ul z10=M.ul z10,M.dr z2 u3 u2=M.dr z2 u3 u2,u1=u1,M.U z13,M.U z4,M.dq z2 u3 u2=M.dq z2 u3 u2,z4=z4,M.U u3,M.U u2,u3<z2,u3=u3,u2=u2,(u3 != z2)=true,(3:Nat)=(3:Nat),(4:Nat)=(4:Nat),M.ul (M.ul z5+z2+M.uh z12)=v2,M.ul z7=g0,M.ul z0=g1,M.ul z6=g2,M.uh z6=g3]
def aGm (u0 u1 u2 u3:Int):List Int:=
 sh (13835058055282163712:Int) fun z9=>
 sh (18446744073709551615:Int) fun z3=>
 sh (z9*M.dq z3 u3 u2+(0:Int)) fun z0=>
 sh (18446744073709551614:Int) fun z10=>
 sh (z10*M.dq z3 u3 u2+M.uh z0) fun z1=>
 sh (z3*M.dq z3 u3 u2+M.uh z1) fun z8=>
 sh (u0-M.ul z0-(0:Int)) fun z7=>
 sh (u1-M.ul z1-M.ub z7) fun z11=>
 sh (u2-M.ul z8-M.ub z11) fun z5=>
 sh (M.ul z7+z9+(0:Int)) fun z6=>
 sh (M.ul z11+z10+M.uh z6) fun z4=>
 sh (M.ul z5+z3+M.uh z4) fun z2=>
 [M.ul z6,M.ul z4,M.ul z2,IntKind.u64.wrap (M.ul (u3-M.uh z8-M.ub z5)+M.uh z2)]
def aGz (u2 u3:Int):Int:=IntKind.u64.wrap (M.dq (18446744073709551615:Int) u3 u2-(1:Int))
abbrev zY:=DvP [true,false,true] aHf aGm aGz
def aRu (u1 u2 u3 v3 g0 g1 g2 g3:Int):List Prop:=
 sh (18446744073709551614:Int) fun z3=>
 sh (18446744073709551615:Int) fun z1=>
 sh (0:Int) fun z4=>
 sh (13835058055282163712:Int) fun z8=>
 sh (z8*M.dq z1 z4 u3+z4) fun z2=>
 sh (z3*M.dq z1 z4 u3+M.uh z2) fun z0=>
 sh (z1*M.dq z1 z4 u3+M.uh z0) fun z5=>
 sh (u1-M.ul z2-z4) fun z9=>
 sh (u2-M.ul z0-M.ub z9) fun z6=>
 sh (M.dq z1 z4 u3*z3) fun z7=>
 sh (M.dq z1 z4 u3) fun z10=>
 sh (u3-M.ul z5-M.ub z6) fun z11=>
 [(M.dq z1 z4 u3==z4)=true,(M.ub z11 != z4)=false,M.U u3,M.U (M.ul z5),M.K (M.ub z6),u3=u3,M.ul z5=M.ul z5,M.ub z6=M.ub z6,M.U u2,M.U (M.ul z0),M.K (M.ub z9),u2=u2,M.ul z0=M.ul z0,M.ub z9=M.ub z9,M.U u1,M.U (M.ul z2),M.K z4,u1=u1,M.ul z2=M.ul z2,z4=z4,(M.uh z5==z4)=true,M.U z1,M.U z10,M.U (M.uh z0),z1=z1,M.dq z1 z4 u3=M.dq z1 z4 u3,M.uh z0=M.uh z0,M.U z3,M.U z10,M.U (M.uh z2),z3=z3,M.dq z1 z4 u3=M.dq z1 z4 u3,M.uh z2=M.uh z2,M.U z8,M.U z10,M.U z4,z8=z8,M.dq z1 z4 u3=M.dq z1 z4 u3,z4=z4,M.gt (M.uh z7) (M.ul z7) (M.dr z1 z4 u3) u2=false,M.U (M.ul z7),M.U u2,M.uh z7=M.uh z7,M.ul z7=M.ul z7,M.dr z1 z4 u3=M.dr z1 z4 u3,u2=u2,M.U z10,M.U z3,M.dq z1 z4 u3=M.dq z1 z4 u3,z3=z3,M.U z4,M.U u3,z4<z1,z4=z4,u3=u3,(3:Nat)=(3:Nat),(4:Nat)=(4:Nat),M.ul z11=v3,M.ul z2=g0,M.ul z0=g1,M.ul z5=g2,M.uh z5=g3]
def aRe (u1 u2 u3:Int):List Int:=
 sh (18446744073709551615:Int) fun z2=>
 sh (0:Int) fun z4=>
 sh ((13835058055282163712:Int)*M.dq z2 z4 u3+z4) fun z0=>
 sh ((18446744073709551614:Int)*M.dq z2 z4 u3+M.uh z0) fun z1=>
 sh (u1-M.ul z0-z4) fun z3=>
 sh (u2-M.ul z1-M.ub z3) fun z5=>
 [M.ul z3,M.ul z5,M.ul (u3-M.ul (z2*M.dq z2 z4 u3+M.uh z1)-M.ub z5)]
def DvT (c:FB) (j j':Int) (pre post qs:List Int):Prop:=
 ∀ (fB fC:List SV) (u1 u2 u3 v1 v2 v3 h0 h1 h2 h3 g0 g1 g2 g3:Int),
   gB fJ fB fC c.nu c.cu c.nq c.cq c.m 18446744073709551615 1 j j' (.int true .u64 0) (.int false .u64 v3) (wc (pre++[u1,u2,u3]++post)) (wc (pre++[v1,v2,v3]++post)) (wc qs) (wc qs) (wc [h0,h1,h2,h3]) (wc [g0,g1,g2,g3]) [false,true,false,true] =
    some (.at .normal,[],aRu u1 u2 u3 v3 g0 g1 g2 g3++[qs=qs,pre++aRe u1 u2 u3++post=pre++[v1,v2,v3]++post])
theorem aOa:zZ ⟨4,7,1,1,1⟩ 0 (-1) [] [0,0,0] [] []:=fun fB fC u0 u1 u2 u3 v0 v1 v2 v3 q0 q1 h0 h1 h2 h3 g0 g1 g2 g3=>by kernel_rfl
theorem aNz:vU ⟨4,7,1,1,1⟩ 0 (-1) [] [0,0,0] [] []:=fun fB fC u0 u1 u2 u3 v0 v1 v2 v3 q0 q1 h0 h1 h2 h3 g0 g1 g2 g3=>by kernel_rfl
theorem aDk:rU ⟨4,7,1,1,1⟩ 0 (-1) [] [0,0,0] [] []:=fun fB fC u0 u1 u2 u3 v0 v1 v2 v3 q0 q1 h0 h1 h2 h3 g0 g1 g2 g3=>by kernel_rfl
theorem OY:oI ⟨4,7,1,1,1⟩ 0 (-1) [] [0,0,0] [] []:=fun fB fC u0 u1 u2 u3 v0 v1 v2 v3 q0 q1 h0 h1 h2 h3 g0 g1 g2 g3=>by kernel_rfl
theorem OZ:oJ ⟨4,7,1,1,1⟩ 0 (-1) [] [0,0,0] [] []:=fun fB fC u0 u1 u2 u3 v0 v1 v2 v3 q0 q1 h0 h1 h2 h3 g0 g1 g2 g3=>by kernel_rfl
theorem aNy:zY ⟨4,7,1,1,1⟩ 0 (-1) [] [0,0,0] [] []:=fun fB fC u0 u1 u2 u3 v0 v1 v2 v3 q0 q1 h0 h1 h2 h3 g0 g1 g2 g3=>by kernel_rfl
theorem aWm (u0 q0:Int):DvT ⟨4,7,1,1,1⟩ 1 0 [u0] [0,0,0] [q0]:=fun fB fC u1 u2 u3 v1 v2 v3 h0 h1 h2 h3 g0 g1 g2 g3=>by kernel_rfl
theorem aNx:zZ ⟨4,8,1,1,1⟩ 0 (-1) [] [0,0,0,0] [] []:=fun fB fC u0 u1 u2 u3 v0 v1 v2 v3 q0 q1 h0 h1 h2 h3 g0 g1 g2 g3=>by kernel_rfl
theorem aNw:vU ⟨4,8,1,1,1⟩ 0 (-1) [] [0,0,0,0] [] []:=fun fB fC u0 u1 u2 u3 v0 v1 v2 v3 q0 q1 h0 h1 h2 h3 g0 g1 g2 g3=>by kernel_rfl
theorem aDj:rU ⟨4,8,1,1,1⟩ 0 (-1) [] [0,0,0,0] [] []:=fun fB fC u0 u1 u2 u3 v0 v1 v2 v3 q0 q1 h0 h1 h2 h3 g0 g1 g2 g3=>by kernel_rfl
theorem OW:oI ⟨4,8,1,1,1⟩ 0 (-1) [] [0,0,0,0] [] []:=fun fB fC u0 u1 u2 u3 v0 v1 v2 v3 q0 q1 h0 h1 h2 h3 g0 g1 g2 g3=>by kernel_rfl
theorem OX:oJ ⟨4,8,1,1,1⟩ 0 (-1) [] [0,0,0,0] [] []:=fun fB fC u0 u1 u2 u3 v0 v1 v2 v3 q0 q1 h0 h1 h2 h3 g0 g1 g2 g3=>by kernel_rfl
theorem aNv:zY ⟨4,8,1,1,1⟩ 0 (-1) [] [0,0,0,0] [] []:=fun fB fC u0 u1 u2 u3 v0 v1 v2 v3 q0 q1 h0 h1 h2 h3 g0 g1 g2 g3=>by kernel_rfl
theorem aWl (u0 q0:Int):DvT ⟨4,8,1,1,1⟩ 1 0 [u0] [0,0,0,0] [q0]:=fun fB fC u1 u2 u3 v1 v2 v3 h0 h1 h2 h3 g0 g1 g2 g3=>by kernel_rfl
theorem aDi (z0 y0:Int):zZ ⟨5,8,2,6,2⟩ 1 0 [z0] [0,0,0] [y0] [0,0,0,0]:=fun fB fC u0 u1 u2 u3 v0 v1 v2 v3 q0 q1 h0 h1 h2 h3 g0 g1 g2 g3=>by kernel_rfl
theorem aDh (z0 y0:Int):vU ⟨5,8,2,6,2⟩ 1 0 [z0] [0,0,0] [y0] [0,0,0,0]:=fun fB fC u0 u1 u2 u3 v0 v1 v2 v3 q0 q1 h0 h1 h2 h3 g0 g1 g2 g3=>by kernel_rfl
theorem OV (z0 y0:Int):rU ⟨5,8,2,6,2⟩ 1 0 [z0] [0,0,0] [y0] [0,0,0,0]:=fun fB fC u0 u1 u2 u3 v0 v1 v2 v3 q0 q1 h0 h1 h2 h3 g0 g1 g2 g3=>by kernel_rfl
theorem CR (z0 y0:Int):oI ⟨5,8,2,6,2⟩ 1 0 [z0] [0,0,0] [y0] [0,0,0,0]:=fun fB fC u0 u1 u2 u3 v0 v1 v2 v3 q0 q1 h0 h1 h2 h3 g0 g1 g2 g3=>by kernel_rfl
theorem CS (z0 y0:Int):oJ ⟨5,8,2,6,2⟩ 1 0 [z0] [0,0,0] [y0] [0,0,0,0]:=fun fB fC u0 u1 u2 u3 v0 v1 v2 v3 q0 q1 h0 h1 h2 h3 g0 g1 g2 g3=>by kernel_rfl
theorem aDg (z0 y0:Int):zY ⟨5,8,2,6,2⟩ 1 0 [z0] [0,0,0] [y0] [0,0,0,0]:=fun fB fC u0 u1 u2 u3 v0 v1 v2 v3 q0 q1 h0 h1 h2 h3 g0 g1 g2 g3=>by kernel_rfl
theorem aDf (y1:Int):zZ ⟨5,8,2,6,2⟩ 0 (-1) [] [0,0,0,0] [] [y1,0,0,0,0]:=fun fB fC u0 u1 u2 u3 v0 v1 v2 v3 q0 q1 h0 h1 h2 h3 g0 g1 g2 g3=>by kernel_rfl
theorem aDe (y1:Int):vU ⟨5,8,2,6,2⟩ 0 (-1) [] [0,0,0,0] [] [y1,0,0,0,0]:=fun fB fC u0 u1 u2 u3 v0 v1 v2 v3 q0 q1 h0 h1 h2 h3 g0 g1 g2 g3=>by kernel_rfl
theorem OU (y1:Int):rU ⟨5,8,2,6,2⟩ 0 (-1) [] [0,0,0,0] [] [y1,0,0,0,0]:=fun fB fC u0 u1 u2 u3 v0 v1 v2 v3 q0 q1 h0 h1 h2 h3 g0 g1 g2 g3=>by kernel_rfl
theorem CP (y1:Int):oI ⟨5,8,2,6,2⟩ 0 (-1) [] [0,0,0,0] [] [y1,0,0,0,0]:=fun fB fC u0 u1 u2 u3 v0 v1 v2 v3 q0 q1 h0 h1 h2 h3 g0 g1 g2 g3=>by kernel_rfl
theorem CQ (y1:Int):oJ ⟨5,8,2,6,2⟩ 0 (-1) [] [0,0,0,0] [] [y1,0,0,0,0]:=fun fB fC u0 u1 u2 u3 v0 v1 v2 v3 q0 q1 h0 h1 h2 h3 g0 g1 g2 g3=>by kernel_rfl
theorem aDd (y1:Int):zY ⟨5,8,2,6,2⟩ 0 (-1) [] [0,0,0,0] [] [y1,0,0,0,0]:=fun fB fC u0 u1 u2 u3 v0 v1 v2 v3 q0 q1 h0 h1 h2 h3 g0 g1 g2 g3=>by kernel_rfl
theorem aWk (z0 u0 q0 q1:Int):DvT ⟨5,8,2,6,2⟩ 2 1 [z0,u0] [0,0,0] [q0,q1,0,0,0,0]:=fun fB fC u1 u2 u3 v1 v2 v3 h0 h1 h2 h3 g0 g1 g2 g3=>by kernel_rfl
theorem aDc (z0 y0:Int):zZ ⟨5,9,2,6,2⟩ 1 0 [z0] [0,0,0,0] [y0] [0,0,0,0]:=fun fB fC u0 u1 u2 u3 v0 v1 v2 v3 q0 q1 h0 h1 h2 h3 g0 g1 g2 g3=>by kernel_rfl
theorem aDb (z0 y0:Int):vU ⟨5,9,2,6,2⟩ 1 0 [z0] [0,0,0,0] [y0] [0,0,0,0]:=fun fB fC u0 u1 u2 u3 v0 v1 v2 v3 q0 q1 h0 h1 h2 h3 g0 g1 g2 g3=>by kernel_rfl
theorem OT (z0 y0:Int):rU ⟨5,9,2,6,2⟩ 1 0 [z0] [0,0,0,0] [y0] [0,0,0,0]:=fun fB fC u0 u1 u2 u3 v0 v1 v2 v3 q0 q1 h0 h1 h2 h3 g0 g1 g2 g3=>by kernel_rfl
theorem CN (z0 y0:Int):oI ⟨5,9,2,6,2⟩ 1 0 [z0] [0,0,0,0] [y0] [0,0,0,0]:=fun fB fC u0 u1 u2 u3 v0 v1 v2 v3 q0 q1 h0 h1 h2 h3 g0 g1 g2 g3=>by kernel_rfl
theorem CO (z0 y0:Int):oJ ⟨5,9,2,6,2⟩ 1 0 [z0] [0,0,0,0] [y0] [0,0,0,0]:=fun fB fC u0 u1 u2 u3 v0 v1 v2 v3 q0 q1 h0 h1 h2 h3 g0 g1 g2 g3=>by kernel_rfl
theorem aDa (z0 y0:Int):zY ⟨5,9,2,6,2⟩ 1 0 [z0] [0,0,0,0] [y0] [0,0,0,0]:=fun fB fC u0 u1 u2 u3 v0 v1 v2 v3 q0 q1 h0 h1 h2 h3 g0 g1 g2 g3=>by kernel_rfl
theorem aCz (y1:Int):zZ ⟨5,9,2,6,2⟩ 0 (-1) [] [0,0,0,0,0] [] [y1,0,0,0,0]:=fun fB fC u0 u1 u2 u3 v0 v1 v2 v3 q0 q1 h0 h1 h2 h3 g0 g1 g2 g3=>by kernel_rfl
theorem aCy (y1:Int):vU ⟨5,9,2,6,2⟩ 0 (-1) [] [0,0,0,0,0] [] [y1,0,0,0,0]:=fun fB fC u0 u1 u2 u3 v0 v1 v2 v3 q0 q1 h0 h1 h2 h3 g0 g1 g2 g3=>by kernel_rfl
theorem OS (y1:Int):rU ⟨5,9,2,6,2⟩ 0 (-1) [] [0,0,0,0,0] [] [y1,0,0,0,0]:=fun fB fC u0 u1 u2 u3 v0 v1 v2 v3 q0 q1 h0 h1 h2 h3 g0 g1 g2 g3=>by kernel_rfl
theorem CL (y1:Int):oI ⟨5,9,2,6,2⟩ 0 (-1) [] [0,0,0,0,0] [] [y1,0,0,0,0]:=fun fB fC u0 u1 u2 u3 v0 v1 v2 v3 q0 q1 h0 h1 h2 h3 g0 g1 g2 g3=>by kernel_rfl
theorem CM (y1:Int):oJ ⟨5,9,2,6,2⟩ 0 (-1) [] [0,0,0,0,0] [] [y1,0,0,0,0]:=fun fB fC u0 u1 u2 u3 v0 v1 v2 v3 q0 q1 h0 h1 h2 h3 g0 g1 g2 g3=>by kernel_rfl
theorem aCx (y1:Int):zY ⟨5,9,2,6,2⟩ 0 (-1) [] [0,0,0,0,0] [] [y1,0,0,0,0]:=fun fB fC u0 u1 u2 u3 v0 v1 v2 v3 q0 q1 h0 h1 h2 h3 g0 g1 g2 g3=>by kernel_rfl
theorem aWj (z0 u0 q0 q1:Int):DvT ⟨5,9,2,6,2⟩ 2 1 [z0,u0] [0,0,0,0] [q0,q1,0,0,0,0]:=fun fB fC u1 u2 u3 v1 v2 v3 h0 h1 h2 h3 g0 g1 g2 g3=>by kernel_rfl
namespace M
def wd (i:Nat) (n:Int):Int:=n/18446744073709551616^i%18446744073709551616
def n4 (a b c d:Int):Int:=a+18446744073709551616*(b+18446744073709551616*(c+18446744073709551616*d))
def D:Int:=6277101735386680763835789423207666416102355444464034512895-23058430092136939519+0
structure Dig (d0 d1 d2 q u0 u1 u2 u3:Int) (c0 c1 p0 p1 p2 p3 b0 b1 b2 b3 s0 s1 s2 s3:Int):Prop where
 VG:M.ul (d0*q+0)=p0
 Ck:M.uh (d0*q+0)=c0
 FN:M.ul (d1*q+c0)=p1
 FW:M.uh (d1*q+c0)=c1
 UE:M.ul (d2*q+c1)=p2
 hp3:M.uh (d2*q+c1)=p3
 Hp:M.ul (u0-p0-0)=s0
 uC:M.ub (u0-p0-0)=b0
 fU:M.ul (u1-p1-b0)=s1
 rH:M.ub (u1-p1-b0)=b1
 tI:M.ul (u2-p2-b1)=s2
 lR:M.ub (u2-p2-b1)=b2
 hs3:M.ul (u3-p3-b2)=s3
 UL:M.ub (u3-p3-b2)=b3
theorem yT (d0 d1 d2 q u0 u1 u2 u3:Int):∃ c0 c1 p0 p1 p2 p3 b0 b1 b2 b3 s0 s1 s2 s3,Dig d0 d1 d2 q u0 u1 u2 u3 c0 c1 p0 p1 p2 p3 b0 b1 b2 b3 s0 s1 s2 s3:=
 ⟨_,_,_,_,_,_,_,_,_,_,_,_,_,_,rfl,rfl,rfl,rfl,rfl,rfl,rfl,rfl,rfl,rfl,rfl,rfl,rfl,rfl⟩
theorem nJ (n:Int):M.ul n+18446744073709551616*M.uh n=n:=by unfold ul uh;omega
theorem Wz (n:Int):M.ul n-18446744073709551616*M.ub n=n:=by unfold ul ub;omega
theorem Cq {d q c:Int} (hd:U d) (hq:U q) (hc:U c):U (uh (d*q+c)):=by
 have h:=eR hd hq
 have:=hc.1
 have:=hc.2
 unfold U uh
 omega
theorem VX {a b c:Int} (ha:U a) (hb:U b) (hc:K c):K (ub (a-b-c)):=by
 have:=ha.1;have:=ha.2;have:=hb.1;have:=hb.2;have:=hc.1;have:=hc.2
 unfold K ub
 omega
structure aTs (c0 c1 p0 p1 p2 p3 b0 b1 b2 b3 s0 s1 s2 s3:Int):Prop where
 c0:U c0
 c1:U c1
 p0:U p0
 p1:U p1
 p2:U p2
 p3:U p3
 b0:K b0
 b1:K b1
 b2:K b2
 b3:K b3
 s0:U s0
 s1:U s1
 s2:U s2
 s3:U s3
theorem U0:U 0:=⟨by decide,by decide⟩
theorem K0:K 0:=⟨by decide,by decide⟩
theorem Dig.u {d0 d1 d2 q u0 u1 u2 u3 c0 c1 p0 p1 p2 p3 b0 b1 b2 b3 s0 s1 s2 s3:Int} (h:Dig d0 d1 d2 q u0 u1 u2 u3 c0 c1 p0 p1 p2 p3 b0 b1 b2 b3 s0 s1 s2 s3)
 (e0:U d0) (e1:U d1) (e2:U d2) (hq:U q) (w0:U u0) (w1:U u1) (w2:U u2) (w3:U u3):aTs c0 c1 p0 p1 p2 p3 b0 b1 b2 b3 s0 s1 s2 s3:=by
 have k0:U c0:=by rw [<- h.Ck];exact Cq e0 hq U0
 have k1:U c1:=by rw [<- h.FW];exact Cq e1 hq k0
 have r0:U p0:=by rw [<- h.VG];exact dW _
 have r1:U p1:=by rw [<- h.FN];exact dW _
 have r2:U p2:=by rw [<- h.UE];exact dW _
 have r3:U p3:=by rw [<- h.hp3];exact Cq e2 hq k1
 have x0:K b0:=by rw [<- h.uC];exact VX w0 r0 K0
 have x1:K b1:=by rw [<- h.rH];exact VX w1 r1 x0
 have x2:K b2:=by rw [<- h.lR];exact VX w2 r2 x1
 have x3:K b3:=by rw [<- h.UL];exact VX w3 r3 x2
 exact ⟨k0,k1,r0,r1,r2,r3,x0,x1,x2,x3,by rw [<- h.Hp];exact dW _,by rw [<- h.fU];exact dW _,by rw [<- h.tI];exact dW _,by rw [<- h.hs3];exact dW _⟩
theorem Dig.sum {d0 d1 d2 q u0 u1 u2 u3 c0 c1 p0 p1 p2 p3 b0 b1 b2 b3 s0 s1 s2 s3:Int} (h:Dig d0 d1 d2 q u0 u1 u2 u3 c0 c1 p0 p1 p2 p3 b0 b1 b2 b3 s0 s1 s2 s3) :
 n4 s0 s1 s2 s3-18446744073709551616*(18446744073709551616*(18446744073709551616*(18446744073709551616*b3))) =
  n4 u0 u1 u2 u3-(d0*q+18446744073709551616*(d1*q+18446744073709551616*(d2*q))):=by
 have a0:=nJ (d0*q+0)
 have a1:=nJ (d1*q+c0)
 have a2:=nJ (d2*q+c1)
 have z0:=Wz (u0-p0-0)
 have z1:=Wz (u1-p1-b0)
 have z2:=Wz (u2-p2-b1)
 have z3:=Wz (u3-p3-b2)
 rw [h.VG,h.Ck] at a0
 rw [h.FN,h.FW] at a1
 rw [h.UE,h.hp3] at a2
 rw [h.Hp,h.uC] at z0
 rw [h.fU,h.rH] at z1
 rw [h.tI,h.lR] at z2
 rw [h.hs3,h.UL] at z3
 generalize d0*q=x0 at *
 generalize d1*q=x1 at *
 generalize d2*q=x2 at *
 unfold n4
 omega
def DD:Int:=n4 13835058055282163712 18446744073709551614 18446744073709551615 0
def w0 (n:Int):Int:=n%18446744073709551616
def w1 (n:Int):Int:=n/18446744073709551616%18446744073709551616
def w2 (n:Int):Int:=n/340282366920938463463374607431768211456%18446744073709551616
theorem aRd {a b c d:Int} (ha:U a) (hb:U b) (hc:U c):w0 (n4 a b c d)=a/\w1 (n4 a b c d)=b/\w2 (n4 a b c d)=c:=by
 have:=ha.1;have:=ha.2;have:=hb.1;have:=hb.2;have:=hc.1;have:=hc.2
 unfold w0 w1 w2 n4
 omega
abbrev aTq (q u0 u1 u2 u3:Int):=Dig 13835058055282163712 18446744073709551614 18446744073709551615 q u0 u1 u2 u3
theorem Dig.fits {q u0 u1 u2 u3 c0 c1 p0 p1 p2 p3 b0 b1 b2 b3 s0 s1 s2 s3:Int} (h:aTq q u0 u1 u2 u3 c0 c1 p0 p1 p2 p3 b0 b1 b2 b3 s0 s1 s2 s3)
 (hu:aTs c0 c1 p0 p1 p2 p3 b0 b1 b2 b3 s0 s1 s2 s3) (hq:q=n4 u0 u1 u2 u3/DD) :
 b3=0/\s0=w0 (n4 u0 u1 u2 u3%DD)/\s1=w1 (n4 u0 u1 u2 u3%DD)/\s2=w2 (n4 u0 u1 u2 u3%DD)/\s3=0:=by
 have hs:=h.sum
 obtain ⟨n,hn⟩:∃ n,n=n4 u0 u1 u2 u3:=⟨_,rfl⟩
 rw [<- hn] at hs hq |-
 have e:n-(13835058055282163712*q+18446744073709551616*(18446744073709551614*q+18446744073709551616*(18446744073709551615*q)))=n%DD:=by
  rw [hq]
  unfold DD n4
  omega
 rw [e] at hs
 have r0:0<=n%DD:=Int.emod_nonneg _ (by decide)
 have r1:n%DD<DD:=Int.emod_lt_of_pos _ (by decide)
 obtain ⟨r,hr⟩:∃ r,r=n%DD:=⟨_,rfl⟩
 rw [<- hr] at hs r0 r1 |-
 have rb:r<6277101735386680763835789423207666416102355444464034512896:=by
  refine Int.lt_of_lt_of_le r1 (by decide)
 have x0:=hu.b3.1
 have x1:=hu.b3.2
 have y0:=hu.s0.1
 have y1:=hu.s0.2
 have y2:=hu.s1.1
 have y3:=hu.s1.2
 have y4:=hu.s2.1
 have y5:=hu.s2.2
 have y6:=hu.s3.1
 have y7:=hu.s3.2
 have hb:b3=0:=by unfold n4 at hs;omega
 have h3:s3=0:=by unfold n4 at hs;omega
 rw [hb] at hs
 have Gb:r=n4 s0 s1 s2 s3:=by omega
 have:=aRd (d:=s3) hu.s0 hu.s1 hu.s2
 rw [Gb]
 exact ⟨hb,this.1.symm,this.2.1.symm,this.2.2.symm,h3⟩
end M
open M in
theorem aVg {c:FB} {j j':Int} {pre post qa qb:List Int} (P:vU c j j' pre post qa qb) (fB fC:List SV) (q0 h0 h1 h2 h3:Int) {u0 u1 u2 u3:Int} (a0:U u0) (a1:U u1) (a2:U u2) (a3:U u3) (hc:u3+u2<18446744073709551615) :
 ∃ g0 g1 g2 g3 ps,gB fJ fB fC c.nu c.cu c.nq c.cq c.m 18446744073709551615 1 j j' (.int false .u64 u3) (.int false .u64 (w2 (n4 u0 u1 u2 u3%DD))) (wc (pre++[u0,u1,u2,u3]++post))
   (wc (pre++[w0 (n4 u0 u1 u2 u3%DD),w1 (n4 u0 u1 u2 u3%DD),w2 (n4 u0 u1 u2 u3%DD),0]++post)) (wc (qa++[q0]++qb)) (wc (qa++[n4 u0 u1 u2 u3/DD]++qb)) (wc [h0,h1,h2,h3]) (wc [g0,g1,g2,g3]) [true,false,false]=some (.at .normal,[],ps)/\∀ q∈ps,q:=by
 have z0:=a0.1;have z1:=a0.2;have z2:=a1.1;have z3:=a1.2;have z4:=a2.1;have z5:=a2.2;have z6:=a3.1;have z7:=a3.2
 have e0:U 13835058055282163712:=⟨by decide,by decide⟩
 have e1:U 18446744073709551614:=⟨by decide,by decide⟩
 have e2:U 18446744073709551615:=⟨by decide,by decide⟩
 have aq:U (u3):=by unfold U;omega
 obtain ⟨c0,c1,p0,p1,p2,p3,b0,b1,b2,b3,s0,s1,s2,s3,H⟩:=yT 13835058055282163712 18446744073709551614 18446744073709551615 (u3) u0 u1 u2 u3
 have hu:=H.u e0 e1 e2 aq a0 a1 a2 a3
 have hq:u3=n4 u0 u1 u2 u3/DD:=by unfold DD n4;omega
 obtain ⟨f3,k0,k1,k2,k3⟩:=H.fits hu hq
 have hQ:dq 18446744073709551615 u3 u2=u3:=by unfold dq;omega
 have hR:dr 18446744073709551615 u3 u2=u3+u2:=by unfold dr;omega
 refine ⟨p0,p1,p2,p3,_,P fB fC u0 u1 u2 u3 _ _ _ _ q0 _ h0 h1 h2 h3 _ _ _ _,aA ?_⟩
 simp only [sh,IQ,HK,IG,List.cons_append,zzv,hQ,hR,bJ,H.VG,H.Ck,H.FN,H.FW,H.UE,H.hp3,H.Hp,H.uC,H.fU,H.rH,H.tI,H.lR,H.hs3,H.UL,f3,<- k0,<- k1,<- k2,k3,<- hq,hu.c0,hu.c1,hu.p0,hu.p1,hu.p2,hu.p3,hu.b0,hu.b1,hu.b2,U0,K0,e0,e1,e2,a0,a1,a2,a3,and_true,true_and,aq]
 exact ⟨rfl,by unfold gt uh ul;exact zzF (by omega),dW _,by omega,bne_iff_ne.2 (by omega)⟩
open M in
theorem aVf {c:FB} {j j':Int} {pre post qa qb:List Int} (P:vU c j j' pre post qa qb) (fB fC:List SV) (q0 h0 h1 h2 h3:Int) {u0 u1 u2 u3:Int} (a0:U u0) (a1:U u1) (a2:U u2) (a3:U u3) (hd:u3<18446744073709551615) (hc:18446744073709551615<=u3+u2) (hn:gt (uh ((u3+1)*18446744073709551614)) (ul ((u3+1)*18446744073709551614)) (u3+u2-18446744073709551615) u1=false) (hq:u3+1=n4 u0 u1 u2 u3/DD) :
 ∃ g0 g1 g2 g3 ps,gB fJ fB fC c.nu c.cu c.nq c.cq c.m 18446744073709551615 1 j j' (.int false .u64 u3) (.int false .u64 (w2 (n4 u0 u1 u2 u3%DD))) (wc (pre++[u0,u1,u2,u3]++post))
   (wc (pre++[w0 (n4 u0 u1 u2 u3%DD),w1 (n4 u0 u1 u2 u3%DD),w2 (n4 u0 u1 u2 u3%DD),0]++post)) (wc (qa++[q0]++qb)) (wc (qa++[n4 u0 u1 u2 u3/DD]++qb)) (wc [h0,h1,h2,h3]) (wc [g0,g1,g2,g3]) [true,false,false]=some (.at .normal,[],ps)/\∀ q∈ps,q:=by
 have z0:=a0.1;have z1:=a0.2;have z2:=a1.1;have z3:=a1.2;have z4:=a2.1;have z5:=a2.2;have z6:=a3.1;have z7:=a3.2
 have e0:U 13835058055282163712:=⟨by decide,by decide⟩
 have e1:U 18446744073709551614:=⟨by decide,by decide⟩
 have e2:U 18446744073709551615:=⟨by decide,by decide⟩
 have aq:U (u3+1):=by unfold U;omega
 obtain ⟨c0,c1,p0,p1,p2,p3,b0,b1,b2,b3,s0,s1,s2,s3,H⟩:=yT 13835058055282163712 18446744073709551614 18446744073709551615 (u3+1) u0 u1 u2 u3
 have hu:=H.u e0 e1 e2 aq a0 a1 a2 a3
 have hq:u3+1=n4 u0 u1 u2 u3/DD:=by exact hq
 obtain ⟨f3,k0,k1,k2,k3⟩:=H.fits hu hq
 have hQ:dq 18446744073709551615 u3 u2=u3+1:=by unfold dq;omega
 have hR:dr 18446744073709551615 u3 u2=u3+u2-18446744073709551615:=by unfold dr;omega
 refine ⟨p0,p1,p2,p3,_,P fB fC u0 u1 u2 u3 _ _ _ _ q0 _ h0 h1 h2 h3 _ _ _ _,aA ?_⟩
 simp only [sh,IQ,HK,IG,List.cons_append,zzv,hQ,hR,bJ,H.VG,H.Ck,H.FN,H.FW,H.UE,H.hp3,H.Hp,H.uC,H.fU,H.rH,H.tI,H.lR,H.hs3,H.UL,f3,<- k0,<- k1,<- k2,k3,<- hq,hu.c0,hu.c1,hu.p0,hu.p1,hu.p2,hu.p3,hu.b0,hu.b1,hu.b2,U0,K0,e0,e1,e2,a0,a1,a2,a3,and_true,true_and,aq]
 exact ⟨rfl,hn,dW _,hd,bne_iff_ne.2 (by omega)⟩
open M in
theorem aMt {c:FB} {j j':Int} {pre post qa qb:List Int} (P:rU c j j' pre post qa qb) (fB fC:List SV) (q0 h0 h1 h2 h3:Int) {u0 u1 u2 u3:Int} (a0:U u0) (a1:U u1) (a2:U u2) (a3:U u3) (hd:u3<18446744073709551615) (hc:18446744073709551615<=u3+u2) (hn:gt (uh ((u3+1)*18446744073709551614)) (ul ((u3+1)*18446744073709551614)) (u3+u2-18446744073709551615) u1=true) (hv:18446744073709551616<=u3+u2) :
 ∃ g0 g1 g2 g3 ps,gB fJ fB fC c.nu c.cu c.nq c.cq c.m 18446744073709551615 1 j j' (.int false .u64 u3) (.int false .u64 (w2 (n4 u0 u1 u2 u3%DD))) (wc (pre++[u0,u1,u2,u3]++post))
   (wc (pre++[w0 (n4 u0 u1 u2 u3%DD),w1 (n4 u0 u1 u2 u3%DD),w2 (n4 u0 u1 u2 u3%DD),0]++post)) (wc (qa++[q0]++qb)) (wc (qa++[n4 u0 u1 u2 u3/DD]++qb)) (wc [h0,h1,h2,h3]) (wc [g0,g1,g2,g3]) [true,true,true,false]=some (.at .normal,[],ps)/\∀ q∈ps,q:=by
 have z0:=a0.1;have z1:=a0.2;have z2:=a1.1;have z3:=a1.2;have z4:=a2.1;have z5:=a2.2;have z6:=a3.1;have z7:=a3.2
 have e0:U 13835058055282163712:=⟨by decide,by decide⟩
 have e1:U 18446744073709551614:=⟨by decide,by decide⟩
 have e2:U 18446744073709551615:=⟨by decide,by decide⟩
 have aq:U (u3):=by unfold U;omega
 obtain ⟨c0,c1,p0,p1,p2,p3,b0,b1,b2,b3,s0,s1,s2,s3,H⟩:=yT 13835058055282163712 18446744073709551614 18446744073709551615 (u3) u0 u1 u2 u3
 have hu:=H.u e0 e1 e2 aq a0 a1 a2 a3
 have hW:IntKind.u64.wrap (u3+1-1)=u3:=by rw [bT];unfold ul;omega
 have hq:u3=n4 u0 u1 u2 u3/DD:=by have Rc:=hn;unfold gt uh ul at Rc;have:=zzD Rc;unfold DD n4;omega
 obtain ⟨f3,k0,k1,k2,k3⟩:=H.fits hu hq
 have hQ:dq 18446744073709551615 u3 u2=u3+1:=by unfold dq;omega
 have hR:dr 18446744073709551615 u3 u2=u3+u2-18446744073709551615:=by unfold dr;omega
 refine ⟨p0,p1,p2,p3,_,P fB fC u0 u1 u2 u3 _ _ _ _ q0 _ h0 h1 h2 h3 _ _ _ _,aA ?_⟩
 simp only [sh,LW,KX,LL,List.cons_append,zzv,hQ,hR,hW,bJ,H.VG,H.Ck,H.FN,H.FW,H.UE,H.hp3,H.Hp,H.uC,H.fU,H.rH,H.tI,H.lR,H.hs3,H.UL,f3,<- k0,<- k1,<- k2,k3,<- hq,hu.c0,hu.c1,hu.p0,hu.p1,hu.p2,hu.p3,hu.b0,hu.b1,hu.b2,U0,K0,e0,e1,e2,a0,a1,a2,a3,and_true,true_and,aq]
 exact ⟨rfl,decide_eq_true (by rw [bT];unfold ul;omega),hn,dW _,⟨by omega,by omega⟩,hd,bne_iff_ne.2 (by omega)⟩
open M in
theorem aBj {c:FB} {j j':Int} {pre post qa qb:List Int} (P:oI c j j' pre post qa qb) (fB fC:List SV) (q0 h0 h1 h2 h3:Int) {u0 u1 u2 u3:Int} (a0:U u0) (a1:U u1) (a2:U u2) (a3:U u3) (hd:u3<18446744073709551615) (hc:18446744073709551615<=u3+u2) (hn:gt (uh ((u3+1)*18446744073709551614)) (ul ((u3+1)*18446744073709551614)) (u3+u2-18446744073709551615) u1=true) (hv:u3+u2=18446744073709551615) (hb:ul ((u3+1)*18446744073709551614)<18446744073709551614) :
 ∃ g0 g1 g2 g3 ps,gB fJ fB fC c.nu c.cu c.nq c.cq c.m 18446744073709551615 1 j j' (.int false .u64 u3) (.int false .u64 (w2 (n4 u0 u1 u2 u3%DD))) (wc (pre++[u0,u1,u2,u3]++post))
   (wc (pre++[w0 (n4 u0 u1 u2 u3%DD),w1 (n4 u0 u1 u2 u3%DD),w2 (n4 u0 u1 u2 u3%DD),0]++post)) (wc (qa++[q0]++qb)) (wc (qa++[n4 u0 u1 u2 u3/DD]++qb)) (wc [h0,h1,h2,h3]) (wc [g0,g1,g2,g3]) [true,true,false,true,false,false]=some (.at .normal,[],ps)/\∀ q∈ps,q:=by
 have z0:=a0.1;have z1:=a0.2;have z2:=a1.1;have z3:=a1.2;have z4:=a2.1;have z5:=a2.2;have z6:=a3.1;have z7:=a3.2
 have e0:U 13835058055282163712:=⟨by decide,by decide⟩
 have e1:U 18446744073709551614:=⟨by decide,by decide⟩
 have e2:U 18446744073709551615:=⟨by decide,by decide⟩
 have aq:U (u3):=by unfold U;omega
 obtain ⟨c0,c1,p0,p1,p2,p3,b0,b1,b2,b3,s0,s1,s2,s3,H⟩:=yT 13835058055282163712 18446744073709551614 18446744073709551615 (u3) u0 u1 u2 u3
 have hu:=H.u e0 e1 e2 aq a0 a1 a2 a3
 have hW:IntKind.u64.wrap (u3+1-1)=u3:=by rw [bT];unfold ul;omega
 have hq:u3=n4 u0 u1 u2 u3/DD:=by have Rc:=hn;unfold gt uh ul at Rc;have:=zzD Rc;unfold DD n4;omega
 obtain ⟨f3,k0,k1,k2,k3⟩:=H.fits hu hq
 have hQ:dq 18446744073709551615 u3 u2=u3+1:=by unfold dq;omega
 have hR:dr 18446744073709551615 u3 u2=u3+u2-18446744073709551615:=by unfold dr;omega
 refine ⟨p0,p1,p2,p3,_,P fB fC u0 u1 u2 u3 _ _ _ _ q0 _ h0 h1 h2 h3 _ _ _ _,aA ?_⟩
 simp only [sh,Yw,Yf,Ym,List.cons_append,zzv,hQ,hR,hW,bJ,H.VG,H.Ck,H.FN,H.FW,H.UE,H.hp3,H.Hp,H.uC,H.fU,H.rH,H.tI,H.lR,H.hs3,H.UL,f3,<- k0,<- k1,<- k2,k3,<- hq,hu.c0,hu.c1,hu.p0,hu.p1,hu.p2,hu.p3,hu.b0,hu.b1,hu.b2,U0,K0,e0,e1,e2,a0,a1,a2,a3,and_true,true_and,aq]
 exact ⟨rfl,by
  have hx:(uh ((u3+1)*18446744073709551614)=u3/\ul ((u3+1)*18446744073709551614)=18446744073709551616-2*u3-2/\2*u3+2<=18446744073709551616)\/(uh ((u3+1)*18446744073709551614)=u3-1/\ul ((u3+1)*18446744073709551614)=36893488147419103232-2*u3-2/\18446744073709551616<2*u3+2):=by unfold uh ul;omega
  simp only [bT]
  rcases hx with ⟨x1,x2,x3⟩ | ⟨x1,x2,x3⟩
  .rw [x1,x2];rw [x2] at hb;unfold gt ul;exact zzF (by omega)
  .rw [x1,x2];rw [x2] at hb;unfold gt ul;exact zzF (by omega),by rw [bT];exact dW _,decide_eq_true hb,zzF (by rw [bT];unfold ul;omega),hn,dW _,⟨by omega,by omega⟩,hd,bne_iff_ne.2 (by omega)⟩
open M in
theorem aBk {c:FB} {j j':Int} {pre post qa qb:List Int} (P:oJ c j j' pre post qa qb) (fB fC:List SV) (q0 h0 h1 h2 h3:Int) {u0 u1 u2 u3:Int} (a0:U u0) (a1:U u1) (a2:U u2) (a3:U u3) (hd:u3<18446744073709551615) (hc:18446744073709551615<=u3+u2) (hn:gt (uh ((u3+1)*18446744073709551614)) (ul ((u3+1)*18446744073709551614)) (u3+u2-18446744073709551615) u1=true) (hv:u3+u2=18446744073709551615) (hb:¬ ul ((u3+1)*18446744073709551614)<18446744073709551614) :
 ∃ g0 g1 g2 g3 ps,gB fJ fB fC c.nu c.cu c.nq c.cq c.m 18446744073709551615 1 j j' (.int false .u64 u3) (.int false .u64 (w2 (n4 u0 u1 u2 u3%DD))) (wc (pre++[u0,u1,u2,u3]++post))
   (wc (pre++[w0 (n4 u0 u1 u2 u3%DD),w1 (n4 u0 u1 u2 u3%DD),w2 (n4 u0 u1 u2 u3%DD),0]++post)) (wc (qa++[q0]++qb)) (wc (qa++[n4 u0 u1 u2 u3/DD]++qb)) (wc [h0,h1,h2,h3]) (wc [g0,g1,g2,g3]) [true,true,false,false,false,false]=some (.at .normal,[],ps)/\∀ q∈ps,q:=by
 have z0:=a0.1;have z1:=a0.2;have z2:=a1.1;have z3:=a1.2;have z4:=a2.1;have z5:=a2.2;have z6:=a3.1;have z7:=a3.2
 have e0:U 13835058055282163712:=⟨by decide,by decide⟩
 have e1:U 18446744073709551614:=⟨by decide,by decide⟩
 have e2:U 18446744073709551615:=⟨by decide,by decide⟩
 have aq:U (u3):=by unfold U;omega
 obtain ⟨c0,c1,p0,p1,p2,p3,b0,b1,b2,b3,s0,s1,s2,s3,H⟩:=yT 13835058055282163712 18446744073709551614 18446744073709551615 (u3) u0 u1 u2 u3
 have hu:=H.u e0 e1 e2 aq a0 a1 a2 a3
 have hW:IntKind.u64.wrap (u3+1-1)=u3:=by rw [bT];unfold ul;omega
 have hq:u3=n4 u0 u1 u2 u3/DD:=by have Rc:=hn;unfold gt uh ul at Rc;have:=zzD Rc;unfold DD n4;omega
 obtain ⟨f3,k0,k1,k2,k3⟩:=H.fits hu hq
 have hQ:dq 18446744073709551615 u3 u2=u3+1:=by unfold dq;omega
 have hR:dr 18446744073709551615 u3 u2=u3+u2-18446744073709551615:=by unfold dr;omega
 refine ⟨p0,p1,p2,p3,_,P fB fC u0 u1 u2 u3 _ _ _ _ q0 _ h0 h1 h2 h3 _ _ _ _,aA ?_⟩
 simp only [sh,Yx,Yg,Yn,List.cons_append,zzv,hQ,hR,hW,bJ,H.VG,H.Ck,H.FN,H.FW,H.UE,H.hp3,H.Hp,H.uC,H.fU,H.rH,H.tI,H.lR,H.hs3,H.UL,f3,<- k0,<- k1,<- k2,k3,<- hq,hu.c0,hu.c1,hu.p0,hu.p1,hu.p2,hu.p3,hu.b0,hu.b1,hu.b2,U0,K0,e0,e1,e2,a0,a1,a2,a3,and_true,true_and,aq]
 exact ⟨rfl,by
  have hx:(uh ((u3+1)*18446744073709551614)=u3/\ul ((u3+1)*18446744073709551614)=18446744073709551616-2*u3-2/\2*u3+2<=18446744073709551616)\/(uh ((u3+1)*18446744073709551614)=u3-1/\ul ((u3+1)*18446744073709551614)=36893488147419103232-2*u3-2/\18446744073709551616<2*u3+2):=by unfold uh ul;omega
  simp only [bT]
  rcases hx with ⟨x1,x2,x3⟩ | ⟨x1,x2,x3⟩
  .rw [x1,x2];rw [x2] at hb;unfold gt ul;exact zzF (by omega)
  .rw [x1,x2];rw [x2] at hb;unfold gt ul;exact zzF (by omega),by rw [bT];exact dW _,zzF hb,zzF (by rw [bT];unfold ul;omega),hn,dW _,⟨by omega,by omega⟩,hd,bne_iff_ne.2 (by omega)⟩
open M in
theorem aVe {c:FB} {j j':Int} {pre post qa qb:List Int} (P:zY c j j' pre post qa qb) (fB fC:List SV) (q0 h0 h1 h2 h3:Int) {u0 u1 u2 u3:Int} (a0:U u0) (a1:U u1) (a2:U u2) (a3:U u3) (hd:u3<18446744073709551615) (hc:18446744073709551615<=u3+u2) (hn:gt (uh ((u3+1)*18446744073709551614)) (ul ((u3+1)*18446744073709551614)) (u3+u2-18446744073709551615) u1=false) (hq:u3=n4 u0 u1 u2 u3/DD) :
 ∃ g0 g1 g2 g3 ps,gB fJ fB fC c.nu c.cu c.nq c.cq c.m 18446744073709551615 1 j j' (.int false .u64 u3) (.int false .u64 (w2 (n4 u0 u1 u2 u3%DD))) (wc (pre++[u0,u1,u2,u3]++post))
   (wc (pre++[w0 (n4 u0 u1 u2 u3%DD),w1 (n4 u0 u1 u2 u3%DD),w2 (n4 u0 u1 u2 u3%DD),0]++post)) (wc (qa++[q0]++qb)) (wc (qa++[n4 u0 u1 u2 u3/DD]++qb)) (wc [h0,h1,h2,h3]) (wc [g0,g1,g2,g3]) [true,false,true]=some (.at .normal,[],ps)/\∀ q∈ps,q:=by
 have z0:=a0.1;have z1:=a0.2;have z2:=a1.1;have z3:=a1.2;have z4:=a2.1;have z5:=a2.2;have z6:=a3.1;have z7:=a3.2
 have e0:U 13835058055282163712:=⟨by decide,by decide⟩
 have e1:U 18446744073709551614:=⟨by decide,by decide⟩
 have e2:U 18446744073709551615:=⟨by decide,by decide⟩
 have aq:U (u3+1):=by unfold U;omega
 obtain ⟨c0,c1,p0,p1,p2,p3,b0,b1,b2,b3,s0,s1,s2,s3,H⟩:=yT 13835058055282163712 18446744073709551614 18446744073709551615 (u3+1) u0 u1 u2 u3
 have hu:=H.u e0 e1 e2 aq a0 a1 a2 a3
 have hW:IntKind.u64.wrap (u3+1-1)=u3:=by rw [bT];unfold ul;omega
 have hQ:dq 18446744073709551615 u3 u2=u3+1:=by unfold dq;omega
 have hR:dr 18446744073709551615 u3 u2=u3+u2-18446744073709551615:=by unfold dr;omega
 have hs:=H.sum
 obtain ⟨n,hn4⟩:∃ n,n=n4 u0 u1 u2 u3:=⟨_,rfl⟩
 rw [<- hn4] at hs hq |-
 obtain ⟨r,hr⟩:∃ r,r=n%DD:=⟨_,rfl⟩
 have e:n-(13835058055282163712*(u3+1)+18446744073709551616*(18446744073709551614*(u3+1)+18446744073709551616*(18446744073709551615*(u3+1))))=r-DD:=by
  rw [hr]
  unfold DD n4
  unfold DD n4 at hq
  omega
 rw [e] at hs
 have r0:0<=r:=by rw [hr];exact Int.emod_nonneg _ (by decide)
 have r1:r<DD:=by rw [hr];exact Int.emod_lt_of_pos _ (by decide)
 rw [<- hr]
 refine ⟨p0,p1,p2,p3,_,P fB fC u0 u1 u2 u3 _ _ _ _ q0 _ h0 h1 h2 h3 _ _ _ _,aA ?_⟩
 simp only [sh,aHf,aGm,aGz,List.cons_append,zzv,hQ,hR,hW,bJ,H.VG,H.Ck,H.FN,H.FW,H.UE,H.hp3,H.Hp,H.uC,H.fU,H.rH,H.tI,H.lR,H.hs3,H.UL,<- hq,hu.c0,hu.c1,hu.p0,hu.p1,hu.p2,hu.p3,hu.b0,hu.b1,hu.b2,hu.s0,hu.s1,hu.s2,U0,K0,e0,e1,e2,a0,a1,a2,a3,aq,and_true,true_and]
 obtain ⟨t0,ht0⟩:∃ t,t=ul (s0+13835058055282163712+0):=⟨_,rfl⟩
 obtain ⟨g0,Bi⟩:∃ t,t=uh (s0+13835058055282163712+0):=⟨_,rfl⟩
 rw [<- ht0,<- Bi]
 obtain ⟨t1,ht1⟩:∃ t,t=ul (s1+18446744073709551614+g0):=⟨_,rfl⟩
 obtain ⟨g1,hg1⟩:∃ t,t=uh (s1+18446744073709551614+g0):=⟨_,rfl⟩
 rw [<- ht1,<- hg1]
 obtain ⟨t2,Ro⟩:∃ t,t=ul (s2+18446744073709551615+g1):=⟨_,rfl⟩
 obtain ⟨g2,hg2⟩:∃ t,t=uh (s2+18446744073709551615+g1):=⟨_,rfl⟩
 rw [<- Ro,<- hg2,bT]
 obtain ⟨t3,ht3⟩:∃ t,t=ul (s3+g2):=⟨_,rfl⟩
 obtain ⟨g3,hg3⟩:∃ t,t=uh (s3+g2):=⟨_,rfl⟩
 rw [<- ht3]
 have m0:=nJ (s0+13835058055282163712+0)
 have m1:=nJ (s1+18446744073709551614+g0)
 have m2:=nJ (s2+18446744073709551615+g1)
 have m3:=nJ (s3+g2)
 rw [<- ht0,<- Bi] at m0
 rw [<- ht1,<- hg1] at m1
 rw [<- Ro,<- hg2] at m2
 rw [<- ht3,<- hg3] at m3
 have v0:U t0:=by rw [ht0];exact dW _
 have v1:U t1:=by rw [ht1];exact dW _
 have v2:U t2:=by rw [Ro];exact dW _
 have v3:U t3:=by rw [ht3];exact dW _
 have q1:=hu.s0.1;have q2:=hu.s0.2;have q3:=hu.s1.1;have q4:=hu.s1.2
 have q5:=hu.s2.1;have q6:=hu.s2.2;have q7:=hu.s3.1;have q8:=hu.s3.2
 have y0:=v0.1;have y1:=v0.2;have y2:=v1.1;have y3:=v1.2;have y4:=v2.1;have y5:=v2.2;have y6:=v3.1;have y7:=v3.2
 have l1:=hu.b3.1;have l2:=hu.b3.2
 have kg0:K g0:=by unfold K;omega
 have kg1:K g1:=by have:=kg0.1;have:=kg0.2;unfold K;omega
 have hDD:DD=6277101735386680763835789423207666416079297014371897573376:=by decide
 rw [hDD] at hs r1
 have hb:b3=1:=by unfold n4 at hs;omega
 have ht:r=n4 t0 t1 t2 t3:=by unfold n4 at hs |-;omega
 have h3:t3=0:=by unfold n4 at ht;omega
 have W:=aRd (d:=t3) v0 v1 v2
 rw [<- ht] at W
 rw [W.1,W.2.1,W.2.2,h3,hb]
 exact ⟨kg1,kg0,rfl,hn,dW _,hd,bne_iff_ne.2 (by omega),rfl,rfl⟩
open M in
theorem aVh {c:FB} {j j':Int} {pre post qa qb:List Int} (P:zZ c j j' pre post qa qb) (fB fC:List SV) (q0 h0 h1 h2 h3:Int) {u0 u1 u2 u3:Int} (a0:U u0) (a1:U u1) (a2:U u2) (hc:u3=18446744073709551615) (hl:n4 u0 u1 u2 u3<18446744073709551616*DD) :
 ∃ g0 g1 g2 g3 ps,gB fJ fB fC c.nu c.cu c.nq c.cq c.m 18446744073709551615 1 j j' (.int false .u64 u3) (.int false .u64 (w2 (n4 u0 u1 u2 u3%DD))) (wc (pre++[u0,u1,u2,u3]++post))
   (wc (pre++[w0 (n4 u0 u1 u2 u3%DD),w1 (n4 u0 u1 u2 u3%DD),w2 (n4 u0 u1 u2 u3%DD),0]++post)) (wc (qa++[q0]++qb)) (wc (qa++[n4 u0 u1 u2 u3/DD]++qb)) (wc [h0,h1,h2,h3]) (wc [g0,g1,g2,g3]) [false,false]=some (.at .normal,[],ps)/\∀ q∈ps,q:=by
 have a3:U u3:=by unfold U;omega
 have z0:=a0.1;have z1:=a0.2;have z2:=a1.1;have z3:=a1.2;have z4:=a2.1;have z5:=a2.2;have z6:=a3.1;have z7:=a3.2
 have e0:U 13835058055282163712:=⟨by decide,by decide⟩
 have e1:U 18446744073709551614:=⟨by decide,by decide⟩
 have e2:U 18446744073709551615:=⟨by decide,by decide⟩
 have H:aTq 18446744073709551615 u0 u1 u2 u3 13835058055282163711 18446744073709551613 4611686018427387904 13835058055282163713 18446744073709551614 18446744073709551614 _ _ _ _ _ _ _ _:=⟨by decide,by decide,by decide,by decide,by decide,by decide,rfl,rfl,rfl,rfl,rfl,rfl,rfl,rfl⟩
 have hu:=H.u e0 e1 e2 e2 a0 a1 a2 a3
 have hq:18446744073709551615=n4 u0 u1 u2 u3/DD:=by unfold DD n4 at *;omega
 obtain ⟨f3,k0,k1,k2,k3⟩:=H.fits hu hq
 refine ⟨4611686018427387904,13835058055282163713,18446744073709551614,18446744073709551614,_,P fB fC u0 u1 u2 u3 _ _ _ _ q0 _ h0 h1 h2 h3 _ _ _ _,aA ?_⟩
 simp only [sh,aHg,aGn,aHa,List.cons_append,zzv,bJ,f3,k0,k1,k2,k3,<- hq,hu.b0,hu.b1,hu.b2,U0,K0,e0,e1,e2,a0,a1,a2,a3,and_true,true_and]
 exact ⟨rfl,⟨by decide,by decide⟩,⟨by decide,by decide⟩,⟨by decide,by decide⟩,⟨by decide,by decide⟩,by rw [hc];decide⟩
structure aZb (c:FB) (j j':Int) (pre post qa qb:List Int):Prop where
 p0:zZ c j j' pre post qa qb
 p1:vU c j j' pre post qa qb
 p2a:rU c j j' pre post qa qb
 bAw:oI c j j' pre post qa qb
 bAx:oJ c j j' pre post qa qb
 p4:zY c j j' pre post qa qb
open M in
theorem pK {c:FB} {j j':Int} {pre post qa qb:List Int} (P:aZb c j j' pre post qa qb) (fB fC:List SV) (q0 h0 h1 h2 h3:Int) {u0 u1 u2 u3:Int} (a0:U u0) (a1:U u1) (a2:U u2) (a3:U u3) (hl:n4 u0 u1 u2 u3<18446744073709551616*DD) :
 ∃ hs g0 g1 g2 g3 ps,gB fJ fB fC c.nu c.cu c.nq c.cq c.m 18446744073709551615 1 j j' (.int false .u64 u3) (.int false .u64 (w2 (n4 u0 u1 u2 u3%DD))) (wc (pre++[u0,u1,u2,u3]++post))
   (wc (pre++[w0 (n4 u0 u1 u2 u3%DD),w1 (n4 u0 u1 u2 u3%DD),w2 (n4 u0 u1 u2 u3%DD),0]++post)) (wc (qa++[q0]++qb)) (wc (qa++[n4 u0 u1 u2 u3/DD]++qb)) (wc [h0,h1,h2,h3]) (wc [g0,g1,g2,g3]) hs=some (.at .normal,[],ps)/\∀ q∈ps,q:=by
 have z0:=a0.1;have z1:=a0.2;have z2:=a1.1;have z3:=a1.2;have z4:=a2.1;have z5:=a2.2;have z6:=a3.1;have z7:=a3.2
 by_cases hc:u3=18446744073709551615
 .exact ⟨_,aVh P.p0 fB fC q0 h0 h1 h2 h3 a0 a1 a2 hc hl⟩
 have hd:u3<18446744073709551615:=by omega
 by_cases Gk:u3+u2<18446744073709551615
 .exact ⟨_,aVg P.p1 fB fC q0 h0 h1 h2 h3 a0 a1 a2 a3 Gk⟩
 have GW:18446744073709551615<=u3+u2:=by omega
 cases hn:gt (uh ((u3+1)*18446744073709551614)) (ul ((u3+1)*18446744073709551614)) (u3+u2-18446744073709551615) u1 with
 | true=>
   by_cases hv:u3+u2=18446744073709551615
   .by_cases hb:ul ((u3+1)*18446744073709551614)<18446744073709551614
    .exact ⟨_,aBj P.bAw fB fC q0 h0 h1 h2 h3 a0 a1 a2 a3 hd GW hn hv hb⟩
    .exact ⟨_,aBk P.bAx fB fC q0 h0 h1 h2 h3 a0 a1 a2 a3 hd GW hn hv hb⟩
   .exact ⟨_,aMt P.p2a fB fC q0 h0 h1 h2 h3 a0 a1 a2 a3 hd GW hn (by omega)⟩
 | false=>
   by_cases hq:u3+1=n4 u0 u1 u2 u3/DD
   .exact ⟨_,aVf P.p1 fB fC q0 h0 h1 h2 h3 a0 a1 a2 a3 hd GW hn hq⟩
   .exact ⟨_,aVe P.p4 fB fC q0 h0 h1 h2 h3 a0 a1 a2 a3 hd GW hn (by revert hq;unfold DD n4;omega)⟩
namespace M
theorem tX {n:Int} (h:U n):ub n=0:=by unfold U at h;unfold ub;omega
theorem ul0:ul 0=0:=by decide
theorem Mm:uh 0=0:=by decide
end M
open M in
theorem Ky {c:FB} {j j':Int} {pre post qs:List Int} (P:DvT c j j' pre post qs) (fB fC:List SV) (h0 h1 h2 h3:Int) {u1 u2 u3:Int} (a1:U u1) (a2:U u2) (a3:U u3) (hd:u3<18446744073709551615) :
 ∃ ps,gB fJ fB fC c.nu c.cu c.nq c.cq c.m 18446744073709551615 1 j j' (.int true .u64 0) (.int false .u64 u3) (wc (pre++[u1,u2,u3]++post)) (wc (pre++[u1,u2,u3]++post)) (wc qs) (wc qs) (wc [h0,h1,h2,h3]) (wc [0,0,0,0]) [false,true,false,true]=some (.at .normal,[],ps)/\∀ q∈ps,q:=by
 have z2:=a1.1;have z3:=a1.2;have z4:=a2.1;have z5:=a2.2;have z6:=a3.1;have z7:=a3.2
 have e0:U 13835058055282163712:=⟨by decide,by decide⟩
 have e1:U 18446744073709551614:=⟨by decide,by decide⟩
 have e2:U 18446744073709551615:=⟨by decide,by decide⟩
 have hQ:dq 18446744073709551615 0 u3=0:=by unfold dq;omega
 have hR:dr 18446744073709551615 0 u3=u3:=by unfold dr;omega
 have hg:gt 0 0 u3 u2=false:=by unfold gt;exact zzF (by omega)
 refine ⟨_,P fB fC u1 u2 u3 _ _ _ h0 h1 h2 h3 _ _ _ _,aA ?_⟩
 simp only [sh,aRu,aRe,List.cons_append,zzv,hQ,hR,bJ,Int.mul_zero,Int.zero_mul,Int.add_zero,Int.sub_zero,ul0,Mm,tX a1,tX a2,tX a3,vO a1,vO a2,vO a3,hg,U0,K0,e0,e1,e2,a1,a2,a3,and_true,true_and]
 and_intros <;> first | rfl | decide
theorem aQd (u0 u1 u2 u3 q0 h0 h1 h2 h3:Int) :
 (Ah 100 (aY 100 (Jt fJ (wc [u0,u1,u2,u3,0,0,0]) (wc [q0]))) [] (jV 4 7 1 1 1 18446744073709551615 1 (.int true .u64 0) 1) (jU (wc [h0,h1,h2,h3]) (wc [u0,u1,u2,u3,0,0,0]) (wc [q0])) 101 [61,63] jW (Dv fJ (wc [u0,u1,u2,u3,0,0,0]) (wc [q0]) 4 7 1 1)) =
 sh (0:Int) fun z0=>
 some (.go (.loop yS),Hb,[(3:Nat)=(3:Nat),(4:Nat)=(4:Nat),(11259375:Int)=h0,z0=h1,z0=h2,z0=h3,[q0]=[q0],[u0,u1,u2,u3,z0,z0,z0]=[u0,u1,u2,u3,z0,z0,z0]]):=by kernel_rfl
theorem aQb (x0 x1 x2 x3 y0 u0 u1 u2 u3 q0 h0 h1 h2 h3:Int) :
 gB fJ (wc [x0,x1,x2,x3,0,0,0]) (wc [y0]) 4 7 1 1 1 18446744073709551615 1 (-1) (-1) (.int false .u64 u2) (.int false .u64 u2) (wc [u0,u1,u2,u3,0,0,0]) (wc [u0,u1,u2,u3,0,0,0]) (wc [q0]) (wc [q0]) (wc [h0,h1,h2,h3]) (wc [h0,h1,h2,h3]) [] =
 sh (0:Int) fun z0=>
 some (Cf.at (Ex.exit 0),[],[(3:Nat)=(3:Nat),(4:Nat)=(4:Nat),u2=u2,h0=h0,h1=h1,h2=h2,h3=h3,[q0]=[q0],[u0,u1,u2,u3,z0,z0,z0]=[u0,u1,u2,u3,z0,z0,z0]]):=by kernel_rfl
theorem aQc (x0 x1 x2 x3 y0 u0 u1 u2 u3 q0 h0 h1 h2 h3:Int) :
 Oq fJ (wc [x0,x1,x2,x3,0,0,0]) (wc [y0]) 4 7 1 1 1 18446744073709551615 1 (.int false .u64 u2) (wc [u0,u1,u2,u3,0,0,0]) (wc [q0]) (wc [h0,h1,h2,h3]) =
 some {val:=SV.eP [],wr:=[(61,SB.own [SV.int false IntKind.u64 q0] 196),(63,SB.own [SV.int false IntKind.u64 u0,SV.int false IntKind.u64 u1,SV.int false IntKind.u64 u2,SV.int false IntKind.u64 u3,SV.int false IntKind.u64 (0:Int),SV.int false IntKind.u64 (0:Int),SV.int false IntKind.u64 (0:Int)] 196)]}:=by kernel_rfl
theorem aQa (u0 u1 u2 u3 q0 h0 h1 h2 h3:Int) :
 (Ah 100 (aY 100 (Jt fJ (wc [u0,u1,u2,u3,0,0,0,0]) (wc [q0]))) [] (jV 4 8 1 1 1 18446744073709551615 1 (.int true .u64 0) 1) (jU (wc [h0,h1,h2,h3]) (wc [u0,u1,u2,u3,0,0,0,0]) (wc [q0])) 101 [61,63] jW (Dv fJ (wc [u0,u1,u2,u3,0,0,0,0]) (wc [q0]) 4 8 1 1)) =
 sh (0:Int) fun z0=>
 some (.go (.loop yS),Hb,[(3:Nat)=(3:Nat),(4:Nat)=(4:Nat),(11259375:Int)=h0,z0=h1,z0=h2,z0=h3,[q0]=[q0],[u0,u1,u2,u3,z0,z0,z0,z0]=[u0,u1,u2,u3,z0,z0,z0,z0]]):=by kernel_rfl
theorem aPy (x0 x1 x2 x3 y0 u0 u1 u2 u3 q0 h0 h1 h2 h3:Int) :
 gB fJ (wc [x0,x1,x2,x3,0,0,0,0]) (wc [y0]) 4 8 1 1 1 18446744073709551615 1 (-1) (-1) (.int false .u64 u2) (.int false .u64 u2) (wc [u0,u1,u2,u3,0,0,0,0]) (wc [u0,u1,u2,u3,0,0,0,0]) (wc [q0]) (wc [q0]) (wc [h0,h1,h2,h3]) (wc [h0,h1,h2,h3]) [] =
 sh (0:Int) fun z0=>
 some (Cf.at (Ex.exit 0),[],[(3:Nat)=(3:Nat),(4:Nat)=(4:Nat),u2=u2,h0=h0,h1=h1,h2=h2,h3=h3,[q0]=[q0],[u0,u1,u2,u3,z0,z0,z0,z0]=[u0,u1,u2,u3,z0,z0,z0,z0]]):=by kernel_rfl
theorem aPz (x0 x1 x2 x3 y0 u0 u1 u2 u3 q0 h0 h1 h2 h3:Int) :
 Oq fJ (wc [x0,x1,x2,x3,0,0,0,0]) (wc [y0]) 4 8 1 1 1 18446744073709551615 1 (.int false .u64 u2) (wc [u0,u1,u2,u3,0,0,0,0]) (wc [q0]) (wc [h0,h1,h2,h3]) =
 sh (0:Int) fun z0=>
 some {val:=SV.eP [],wr:=[(61,SB.own [SV.int false IntKind.u64 q0] 196),(63,SB.own [SV.int false IntKind.u64 u0,SV.int false IntKind.u64 u1,SV.int false IntKind.u64 u2,SV.int false IntKind.u64 u3,SV.int false IntKind.u64 z0,SV.int false IntKind.u64 z0,SV.int false IntKind.u64 z0,SV.int false IntKind.u64 z0] 196)]}:=by kernel_rfl
theorem aPx (u0 u1 u2 u3 u4 q0 q1 h0 h1 h2 h3:Int) :
 (Ah 100 (aY 100 (Jt fJ (wc [u0,u1,u2,u3,u4,0,0,0]) (wc [q0,q1,0,0,0,0]))) [] (jV 5 8 2 6 2 18446744073709551615 1 (.int true .u64 0) 2) (jU (wc [h0,h1,h2,h3]) (wc [u0,u1,u2,u3,u4,0,0,0]) (wc [q0,q1,0,0,0,0])) 101 [61,63] jW (Dv fJ (wc [u0,u1,u2,u3,u4,0,0,0]) (wc [q0,q1,0,0,0,0]) 5 8 2 6)) =
 sh (0:Int) fun z0=>
 some (.go (.loop yS),Hb,[(3:Nat)=(3:Nat),(4:Nat)=(4:Nat),(11259375:Int)=h0,z0=h1,z0=h2,z0=h3,[q0,q1,z0,z0,z0,z0]=[q0,q1,z0,z0,z0,z0],[u0,u1,u2,u3,u4,z0,z0,z0]=[u0,u1,u2,u3,u4,z0,z0,z0]]):=by kernel_rfl
theorem aPv (x0 x1 x2 x3 x4 y0 y1 u0 u1 u2 u3 u4 q0 q1 h0 h1 h2 h3:Int) :
 gB fJ (wc [x0,x1,x2,x3,x4,0,0,0]) (wc [y0,y1,0,0,0,0]) 5 8 2 6 2 18446744073709551615 1 (-1) (-1) (.int false .u64 u2) (.int false .u64 u2) (wc [u0,u1,u2,u3,u4,0,0,0]) (wc [u0,u1,u2,u3,u4,0,0,0]) (wc [q0,q1,0,0,0,0]) (wc [q0,q1,0,0,0,0]) (wc [h0,h1,h2,h3]) (wc [h0,h1,h2,h3]) [] =
 sh (0:Int) fun z0=>
 some (Cf.at (Ex.exit 0),[],[(3:Nat)=(3:Nat),(4:Nat)=(4:Nat),u2=u2,h0=h0,h1=h1,h2=h2,h3=h3,[q0,q1,z0,z0,z0,z0]=[q0,q1,z0,z0,z0,z0],[u0,u1,u2,u3,u4,z0,z0,z0]=[u0,u1,u2,u3,u4,z0,z0,z0]]):=by kernel_rfl
theorem aPw (x0 x1 x2 x3 x4 y0 y1 u0 u1 u2 u3 u4 q0 q1 h0 h1 h2 h3:Int) :
 Oq fJ (wc [x0,x1,x2,x3,x4,0,0,0]) (wc [y0,y1,0,0,0,0]) 5 8 2 6 2 18446744073709551615 1 (.int false .u64 u2) (wc [u0,u1,u2,u3,u4,0,0,0]) (wc [q0,q1,0,0,0,0]) (wc [h0,h1,h2,h3]) =
 sh (0:Int) fun z0=>
 some {val:=SV.eP [],wr:=[(61,SB.own [SV.int false IntKind.u64 q0,SV.int false IntKind.u64 q1,SV.int false IntKind.u64 z0,SV.int false IntKind.u64 z0,SV.int false IntKind.u64 z0,SV.int false IntKind.u64 z0] 196),(63,SB.own [SV.int false IntKind.u64 u0,SV.int false IntKind.u64 u1,SV.int false IntKind.u64 u2,SV.int false IntKind.u64 u3,SV.int false IntKind.u64 u4,SV.int false IntKind.u64 z0,SV.int false IntKind.u64 z0,SV.int false IntKind.u64 z0] 196)]}:=by kernel_rfl
theorem aPu (u0 u1 u2 u3 u4 q0 q1 h0 h1 h2 h3:Int) :
 (Ah 100 (aY 100 (Jt fJ (wc [u0,u1,u2,u3,u4,0,0,0,0]) (wc [q0,q1,0,0,0,0]))) [] (jV 5 9 2 6 2 18446744073709551615 1 (.int true .u64 0) 2) (jU (wc [h0,h1,h2,h3]) (wc [u0,u1,u2,u3,u4,0,0,0,0]) (wc [q0,q1,0,0,0,0])) 101 [61,63] jW (Dv fJ (wc [u0,u1,u2,u3,u4,0,0,0,0]) (wc [q0,q1,0,0,0,0]) 5 9 2 6)) =
 sh (0:Int) fun z0=>
 some (.go (.loop yS),Hb,[(3:Nat)=(3:Nat),(4:Nat)=(4:Nat),(11259375:Int)=h0,z0=h1,z0=h2,z0=h3,[q0,q1,z0,z0,z0,z0]=[q0,q1,z0,z0,z0,z0],[u0,u1,u2,u3,u4,z0,z0,z0,z0]=[u0,u1,u2,u3,u4,z0,z0,z0,z0]]):=by kernel_rfl
theorem aPs (x0 x1 x2 x3 x4 y0 y1 u0 u1 u2 u3 u4 q0 q1 h0 h1 h2 h3:Int) :
 gB fJ (wc [x0,x1,x2,x3,x4,0,0,0,0]) (wc [y0,y1,0,0,0,0]) 5 9 2 6 2 18446744073709551615 1 (-1) (-1) (.int false .u64 u2) (.int false .u64 u2) (wc [u0,u1,u2,u3,u4,0,0,0,0]) (wc [u0,u1,u2,u3,u4,0,0,0,0]) (wc [q0,q1,0,0,0,0]) (wc [q0,q1,0,0,0,0]) (wc [h0,h1,h2,h3]) (wc [h0,h1,h2,h3]) [] =
 sh (0:Int) fun z0=>
 some (Cf.at (Ex.exit 0),[],[(3:Nat)=(3:Nat),(4:Nat)=(4:Nat),u2=u2,h0=h0,h1=h1,h2=h2,h3=h3,[q0,q1,z0,z0,z0,z0]=[q0,q1,z0,z0,z0,z0],[u0,u1,u2,u3,u4,z0,z0,z0,z0]=[u0,u1,u2,u3,u4,z0,z0,z0,z0]]):=by kernel_rfl
theorem aPt (x0 x1 x2 x3 x4 y0 y1 u0 u1 u2 u3 u4 q0 q1 h0 h1 h2 h3:Int) :
 Oq fJ (wc [x0,x1,x2,x3,x4,0,0,0,0]) (wc [y0,y1,0,0,0,0]) 5 9 2 6 2 18446744073709551615 1 (.int false .u64 u2) (wc [u0,u1,u2,u3,u4,0,0,0,0]) (wc [q0,q1,0,0,0,0]) (wc [h0,h1,h2,h3]) =
 sh (0:Int) fun z0=>
 some {val:=SV.eP [],wr:=[(61,SB.own [SV.int false IntKind.u64 q0,SV.int false IntKind.u64 q1,SV.int false IntKind.u64 z0,SV.int false IntKind.u64 z0,SV.int false IntKind.u64 z0,SV.int false IntKind.u64 z0] 196),(63,SB.own [SV.int false IntKind.u64 u0,SV.int false IntKind.u64 u1,SV.int false IntKind.u64 u2,SV.int false IntKind.u64 u3,SV.int false IntKind.u64 u4,SV.int false IntKind.u64 z0,SV.int false IntKind.u64 z0,SV.int false IntKind.u64 z0,SV.int false IntKind.u64 z0] 196)]}:=by kernel_rfl
namespace M
def r5 (u0 u1 u2 u3 u4:Int):Int:=n4 u0 (w0 (n4 u1 u2 u3 u4%DD)) (w1 (n4 u1 u2 u3 u4%DD)) (w2 (n4 u1 u2 u3 u4%DD))
theorem aZc:DD<6277101735386680763835789423207666416102355444464034512896:=by decide
theorem Uv:0<DD:=by decide
theorem w_U (n:Int):U (w0 n)/\U (w1 n)/\U (w2 n):=by unfold U w0 w1 w2;omega
theorem Xj {a b c d:Int} (ha:U a) (hb:U b) (hc:U c) (hd:d<9223372036854775808):n4 a b c d<18446744073709551616*DD:=by
 have:=ha.2;have:=hb.2;have:=hc.2
 unfold n4 DD n4
 omega
theorem bBm {r:Int} (h0:0<=r) (h1:r<DD):n4 (w0 r) (w1 r) (w2 r) 0=r:=by
 have:=aZc
 unfold n4 w0 w1 w2
 omega
theorem aGy {u0 u1 u2 u3 u4:Int}:r5 u0 u1 u2 u3 u4=u0+18446744073709551616*(n4 u1 u2 u3 u4%DD):=by
 have h0:0<=n4 u1 u2 u3 u4%DD:=Int.emod_nonneg _ (by decide)
 have h1:n4 u1 u2 u3 u4%DD<DD:=Int.emod_lt_of_pos _ Uv
 have h:=bBm h0 h1
 unfold r5
 generalize n4 u1 u2 u3 u4%DD=r at *
 unfold n4 at *
 omega
theorem aGx {u0 u1 u2 u3 u4:Int} (ha:U u0):r5 u0 u1 u2 u3 u4<18446744073709551616*DD:=by
 rw [aGy]
 have h1:n4 u1 u2 u3 u4%DD<DD:=Int.emod_lt_of_pos _ Uv
 have:=ha.2
 omega
end M
open M in
set_option maxHeartbeats 2000000 in
theorem EG {u0 u1 u2 u3:Int} (y0:Int) (a0:U u0) (a1:U u1) (a2:U u2) (a3:U u3) (hd:u3<9223372036854775808) :
 aE Tryz.prog Γv 259 (Dd 4 7 1 1) (Jt fJ (wc [u0,u1,u2,u3,0,0,0]) (wc [y0])) 100 100 { val:=.eP [],wr:=[(61,.own (wc [n4 u0 u1 u2 u3/DD]) 196),(63,.own (wc [w0 (n4 u0 u1 u2 u3%DD),w1 (n4 u0 u1 u2 u3%DD),w2 (n4 u0 u1 u2 u3%DD),0,0,0,0]) 196)] }:=by
 have hl:=Xj a0 a1 a2 hd
 refine gI lU lV Tryz.func259 (by kernel_rfl) rfl (zzL (by kernel_rfl)) rfl [] ?_
 intro w0' Mx V0 Q hb H
 have aR:=lU
 have aU:=lV
 refine G.Ah aR aU mix hb [] (aQd u0 u1 u2 u3 y0 11259375 0 0 0) (aA (by simp only [sh,bJ,and_true])) ?_
 have fin:∀ h0 h1 h2 h3,G Tryz.prog Γv w0' Mx (aY 100 (Jt fJ (wc [u0,u1,u2,u3,0,0,0]) (wc [y0]))) Tryz.f259.ntmps 100 V0 (.at (.exit 0)) Hb
  (bM (jV 4 7 1 1 1 18446744073709551615 1 (.int false .u64 (w2 (n4 u0 u1 u2 u3%DD))) (-1)) (jU (wc [h0,h1,h2,h3]) (wc [w0 (n4 u0 u1 u2 u3%DD),w1 (n4 u0 u1 u2 u3%DD),w2 (n4 u0 u1 u2 u3%DD),0,0,0,0]) (wc [n4 u0 u1 u2 u3/DD])) 101 [61,63] jW) Q:=fun h0 h1 h2 h3=>
  G.fin aR aU mix [] H (aQc u0 u1 u2 u3 y0 _ _ _ _ _ h0 h1 h2 h3) (by simp) rfl rfl rfl
 refine G.loop (fun r s=>(r=2/\s=bM (jV 4 7 1 1 1 18446744073709551615 1 (.int true .u64 0) 1) (jU (wc [11259375,0,0,0]) (wc [u0,u1,u2,u3,0,0,0]) (wc [y0])) 101 [61,63] jW)
  \/ (r=1/\s=bM (jV 4 7 1 1 1 18446744073709551615 1 (.int false .u64 u3) 0) (jU (wc [0,0,0,0]) (wc [u0,u1,u2,u3,0,0,0]) (wc [y0])) 101 [61,63] jW)
  \/ (r=0/\∃ h0 h1 h2 h3,s=bM (jV 4 7 1 1 1 18446744073709551615 1 (.int false .u64 (w2 (n4 u0 u1 u2 u3%DD))) (-1)) (jU (wc [h0,h1,h2,h3]) (wc [w0 (n4 u0 u1 u2 u3%DD),w1 (n4 u0 u1 u2 u3%DD),w2 (n4 u0 u1 u2 u3%DD),0,0,0,0]) (wc [n4 u0 u1 u2 u3/DD])) 101 [61,63] jW)) (r0:=2) (.inl ⟨rfl,rfl⟩) ?_
 rintro r s (⟨rfl,rfl⟩ | ⟨rfl,rfl⟩ | ⟨rfl,h0,h1,h2,h3,rfl⟩)
 .obtain ⟨ps,e,hp⟩:=Ky (aWm u0 y0) (wc [u0,u1,u2,u3,0,0,0]) (wc [y0]) 11259375 0 0 0 a1 a2 a3 (by omega)
  exact G.lW aR aU mix hb _ e hp 1 (by omega) (.inr (.inl ⟨rfl,rfl⟩))
 .obtain ⟨hs,g0,g1,g2,g3,ps,e,hp⟩:=pK ⟨aOa,aNz,aDk,OY,OZ,aNy⟩ (wc [u0,u1,u2,u3,0,0,0]) (wc [y0]) y0 0 0 0 0 a0 a1 a2 a3 hl
  exact G.lW aR aU mix hb _ e hp 0 (by omega) (.inr (.inr ⟨rfl,g0,g1,g2,g3,rfl⟩))
 .exact G.Ah aR aU mix hb [] (aQb u0 u1 u2 u3 y0 _ _ _ _ _ h0 h1 h2 h3) (aA (by simp only [sh,bJ,and_true])) (G.leave (fun h=>by cases h) (fin h0 h1 h2 h3))
open M in
set_option maxHeartbeats 2000000 in
theorem EF {u0 u1 u2 u3:Int} (y0:Int) (a0:U u0) (a1:U u1) (a2:U u2) (a3:U u3) (hd:u3<9223372036854775808) :
 aE Tryz.prog Γv 259 (Dd 4 8 1 1) (Jt fJ (wc [u0,u1,u2,u3,0,0,0,0]) (wc [y0])) 100 100 { val:=.eP [],wr:=[(61,.own (wc [n4 u0 u1 u2 u3/DD]) 196),(63,.own (wc [w0 (n4 u0 u1 u2 u3%DD),w1 (n4 u0 u1 u2 u3%DD),w2 (n4 u0 u1 u2 u3%DD),0,0,0,0,0]) 196)] }:=by
 have hl:=Xj a0 a1 a2 hd
 refine gI lU lV Tryz.func259 (by kernel_rfl) rfl (zzL (by kernel_rfl)) rfl [] ?_
 intro w0' Mx V0 Q hb H
 have aR:=lU
 have aU:=lV
 refine G.Ah aR aU mix hb [] (aQa u0 u1 u2 u3 y0 11259375 0 0 0) (aA (by simp only [sh,bJ,and_true])) ?_
 have fin:∀ h0 h1 h2 h3,G Tryz.prog Γv w0' Mx (aY 100 (Jt fJ (wc [u0,u1,u2,u3,0,0,0,0]) (wc [y0]))) Tryz.f259.ntmps 100 V0 (.at (.exit 0)) Hb
  (bM (jV 4 8 1 1 1 18446744073709551615 1 (.int false .u64 (w2 (n4 u0 u1 u2 u3%DD))) (-1)) (jU (wc [h0,h1,h2,h3]) (wc [w0 (n4 u0 u1 u2 u3%DD),w1 (n4 u0 u1 u2 u3%DD),w2 (n4 u0 u1 u2 u3%DD),0,0,0,0,0]) (wc [n4 u0 u1 u2 u3/DD])) 101 [61,63] jW) Q:=fun h0 h1 h2 h3=>
  G.fin aR aU mix [] H (aPz u0 u1 u2 u3 y0 _ _ _ _ _ h0 h1 h2 h3) (by simp) rfl rfl rfl
 refine G.loop (fun r s=>(r=2/\s=bM (jV 4 8 1 1 1 18446744073709551615 1 (.int true .u64 0) 1) (jU (wc [11259375,0,0,0]) (wc [u0,u1,u2,u3,0,0,0,0]) (wc [y0])) 101 [61,63] jW)
  \/ (r=1/\s=bM (jV 4 8 1 1 1 18446744073709551615 1 (.int false .u64 u3) 0) (jU (wc [0,0,0,0]) (wc [u0,u1,u2,u3,0,0,0,0]) (wc [y0])) 101 [61,63] jW)
  \/ (r=0/\∃ h0 h1 h2 h3,s=bM (jV 4 8 1 1 1 18446744073709551615 1 (.int false .u64 (w2 (n4 u0 u1 u2 u3%DD))) (-1)) (jU (wc [h0,h1,h2,h3]) (wc [w0 (n4 u0 u1 u2 u3%DD),w1 (n4 u0 u1 u2 u3%DD),w2 (n4 u0 u1 u2 u3%DD),0,0,0,0,0]) (wc [n4 u0 u1 u2 u3/DD])) 101 [61,63] jW)) (r0:=2) (.inl ⟨rfl,rfl⟩) ?_
 rintro r s (⟨rfl,rfl⟩ | ⟨rfl,rfl⟩ | ⟨rfl,h0,h1,h2,h3,rfl⟩)
 .obtain ⟨ps,e,hp⟩:=Ky (aWl u0 y0) (wc [u0,u1,u2,u3,0,0,0,0]) (wc [y0]) 11259375 0 0 0 a1 a2 a3 (by omega)
  exact G.lW aR aU mix hb _ e hp 1 (by omega) (.inr (.inl ⟨rfl,rfl⟩))
 .obtain ⟨hs,g0,g1,g2,g3,ps,e,hp⟩:=pK ⟨aNx,aNw,aDj,OW,OX,aNv⟩ (wc [u0,u1,u2,u3,0,0,0,0]) (wc [y0]) y0 0 0 0 0 a0 a1 a2 a3 hl
  exact G.lW aR aU mix hb _ e hp 0 (by omega) (.inr (.inr ⟨rfl,g0,g1,g2,g3,rfl⟩))
 .exact G.Ah aR aU mix hb [] (aPy u0 u1 u2 u3 y0 _ _ _ _ _ h0 h1 h2 h3) (aA (by simp only [sh,bJ,and_true])) (G.leave (fun h=>by cases h) (fin h0 h1 h2 h3))
open M in
set_option maxHeartbeats 4000000 in
theorem EE {u0 u1 u2 u3 u4:Int} (y0 y1:Int) (a0:U u0) (a1:U u1) (a2:U u2) (a3:U u3) (a4:U u4) (hd:u4<9223372036854775808) :
 aE Tryz.prog Γv 259 (Dd 5 8 2 6) (Jt fJ (wc [u0,u1,u2,u3,u4,0,0,0]) (wc [y0,y1,0,0,0,0])) 100 100 { val:=.eP [],wr:=[(61,.own (wc [r5 u0 u1 u2 u3 u4/DD,n4 u1 u2 u3 u4/DD,0,0,0,0]) 196),(63,.own (wc [w0 (r5 u0 u1 u2 u3 u4%DD),w1 (r5 u0 u1 u2 u3 u4%DD),w2 (r5 u0 u1 u2 u3 u4%DD),0,0,0,0,0]) 196)] }:=by
 have hl:=Xj a1 a2 a3 hd
 obtain ⟨b0,b1,b2⟩:=w_U (n4 u1 u2 u3 u4%DD)
 refine gI lU lV Tryz.func259 (by kernel_rfl) rfl (zzL (by kernel_rfl)) rfl [] ?_
 intro w0' Mx V0 Q hb H
 have aR:=lU
 have aU:=lV
 refine G.Ah aR aU mix hb [] (aPx u0 u1 u2 u3 u4 y0 y1 11259375 0 0 0) (aA (by simp only [sh,bJ,and_true])) ?_
 have fin:∀ h0 h1 h2 h3,G Tryz.prog Γv w0' Mx (aY 100 (Jt fJ (wc [u0,u1,u2,u3,u4,0,0,0]) (wc [y0,y1,0,0,0,0]))) Tryz.f259.ntmps 100 V0 (.at (.exit 0)) Hb
  (bM (jV 5 8 2 6 2 18446744073709551615 1 (.int false .u64 (w2 (r5 u0 u1 u2 u3 u4%DD))) (-1)) (jU (wc [h0,h1,h2,h3]) (wc [w0 (r5 u0 u1 u2 u3 u4%DD),w1 (r5 u0 u1 u2 u3 u4%DD),w2 (r5 u0 u1 u2 u3 u4%DD),0,0,0,0,0]) (wc [r5 u0 u1 u2 u3 u4/DD,n4 u1 u2 u3 u4/DD,0,0,0,0])) 101 [61,63] jW) Q:=fun h0 h1 h2 h3=>
  G.fin aR aU mix [] H (aPw u0 u1 u2 u3 u4 y0 y1 _ _ _ _ _ _ _ h0 h1 h2 h3) (by simp) rfl rfl rfl
 refine G.loop (fun r s=>(r=3/\s=bM (jV 5 8 2 6 2 18446744073709551615 1 (.int true .u64 0) 2) (jU (wc [11259375,0,0,0]) (wc [u0,u1,u2,u3,u4,0,0,0]) (wc [y0,y1,0,0,0,0])) 101 [61,63] jW)
  \/ (r=2/\s=bM (jV 5 8 2 6 2 18446744073709551615 1 (.int false .u64 u4) 1) (jU (wc [0,0,0,0]) (wc [u0,u1,u2,u3,u4,0,0,0]) (wc [y0,y1,0,0,0,0])) 101 [61,63] jW)
  \/ (r=1/\∃ h0 h1 h2 h3,s=bM (jV 5 8 2 6 2 18446744073709551615 1 (.int false .u64 (w2 (n4 u1 u2 u3 u4%DD))) 0) (jU (wc [h0,h1,h2,h3]) (wc [u0,w0 (n4 u1 u2 u3 u4%DD),w1 (n4 u1 u2 u3 u4%DD),w2 (n4 u1 u2 u3 u4%DD),0,0,0,0]) (wc [y0,n4 u1 u2 u3 u4/DD,0,0,0,0])) 101 [61,63] jW)
  \/ (r=0/\∃ h0 h1 h2 h3,s=bM (jV 5 8 2 6 2 18446744073709551615 1 (.int false .u64 (w2 (r5 u0 u1 u2 u3 u4%DD))) (-1)) (jU (wc [h0,h1,h2,h3]) (wc [w0 (r5 u0 u1 u2 u3 u4%DD),w1 (r5 u0 u1 u2 u3 u4%DD),w2 (r5 u0 u1 u2 u3 u4%DD),0,0,0,0,0]) (wc [r5 u0 u1 u2 u3 u4/DD,n4 u1 u2 u3 u4/DD,0,0,0,0])) 101 [61,63] jW)) (r0:=3) (.inl ⟨rfl,rfl⟩) ?_
 rintro r s (⟨rfl,rfl⟩ | ⟨rfl,rfl⟩ | ⟨rfl,h0,h1,h2,h3,rfl⟩ | ⟨rfl,h0,h1,h2,h3,rfl⟩)
 .obtain ⟨ps,e,hp⟩:=Ky (aWk u0 u1 y0 y1) (wc [u0,u1,u2,u3,u4,0,0,0]) (wc [y0,y1,0,0,0,0]) 11259375 0 0 0 a2 a3 a4 (by omega)
  exact G.lW aR aU mix hb _ e hp 2 (by omega) (.inr (.inl ⟨rfl,rfl⟩))
 .obtain ⟨hs,g0,g1,g2,g3,ps,e,hp⟩:=pK ⟨aDi u0 y0,aDh u0 y0,OV u0 y0,CR u0 y0,CS u0 y0,aDg u0 y0⟩ (wc [u0,u1,u2,u3,u4,0,0,0]) (wc [y0,y1,0,0,0,0]) y1 0 0 0 0 a1 a2 a3 a4 hl
  exact G.lW aR aU mix hb _ e hp 1 (by omega) (.inr (.inr (.inl ⟨rfl,g0,g1,g2,g3,rfl⟩)))
 .obtain ⟨hs,g0,g1,g2,g3,ps,e,hp⟩:=pK ⟨aDf (n4 u1 u2 u3 u4/DD),aDe (n4 u1 u2 u3 u4/DD),OU (n4 u1 u2 u3 u4/DD),CP (n4 u1 u2 u3 u4/DD),CQ (n4 u1 u2 u3 u4/DD),aDd (n4 u1 u2 u3 u4/DD)⟩ (wc [u0,u1,u2,u3,u4,0,0,0]) (wc [y0,y1,0,0,0,0]) y0 h0 h1 h2 h3 a0 b0 b1 b2 (aGx a0)
  exact G.lW aR aU mix hb _ e hp 0 (by omega) (.inr (.inr (.inr ⟨rfl,g0,g1,g2,g3,rfl⟩)))
 .exact G.Ah aR aU mix hb [] (aPv u0 u1 u2 u3 u4 y0 y1 _ _ _ _ _ _ _ h0 h1 h2 h3) (aA (by simp only [sh,bJ,and_true])) (G.leave (fun h=>by cases h) (fin h0 h1 h2 h3))
open M in
set_option maxHeartbeats 4000000 in
theorem ED {u0 u1 u2 u3 u4:Int} (y0 y1:Int) (a0:U u0) (a1:U u1) (a2:U u2) (a3:U u3) (a4:U u4) (hd:u4<9223372036854775808) :
 aE Tryz.prog Γv 259 (Dd 5 9 2 6) (Jt fJ (wc [u0,u1,u2,u3,u4,0,0,0,0]) (wc [y0,y1,0,0,0,0])) 100 100 { val:=.eP [],wr:=[(61,.own (wc [r5 u0 u1 u2 u3 u4/DD,n4 u1 u2 u3 u4/DD,0,0,0,0]) 196),(63,.own (wc [w0 (r5 u0 u1 u2 u3 u4%DD),w1 (r5 u0 u1 u2 u3 u4%DD),w2 (r5 u0 u1 u2 u3 u4%DD),0,0,0,0,0,0]) 196)] }:=by
 have hl:=Xj a1 a2 a3 hd
 obtain ⟨b0,b1,b2⟩:=w_U (n4 u1 u2 u3 u4%DD)
 refine gI lU lV Tryz.func259 (by kernel_rfl) rfl (zzL (by kernel_rfl)) rfl [] ?_
 intro w0' Mx V0 Q hb H
 have aR:=lU
 have aU:=lV
 refine G.Ah aR aU mix hb [] (aPu u0 u1 u2 u3 u4 y0 y1 11259375 0 0 0) (aA (by simp only [sh,bJ,and_true])) ?_
 have fin:∀ h0 h1 h2 h3,G Tryz.prog Γv w0' Mx (aY 100 (Jt fJ (wc [u0,u1,u2,u3,u4,0,0,0,0]) (wc [y0,y1,0,0,0,0]))) Tryz.f259.ntmps 100 V0 (.at (.exit 0)) Hb
  (bM (jV 5 9 2 6 2 18446744073709551615 1 (.int false .u64 (w2 (r5 u0 u1 u2 u3 u4%DD))) (-1)) (jU (wc [h0,h1,h2,h3]) (wc [w0 (r5 u0 u1 u2 u3 u4%DD),w1 (r5 u0 u1 u2 u3 u4%DD),w2 (r5 u0 u1 u2 u3 u4%DD),0,0,0,0,0,0]) (wc [r5 u0 u1 u2 u3 u4/DD,n4 u1 u2 u3 u4/DD,0,0,0,0])) 101 [61,63] jW) Q:=fun h0 h1 h2 h3=>
  G.fin aR aU mix [] H (aPt u0 u1 u2 u3 u4 y0 y1 _ _ _ _ _ _ _ h0 h1 h2 h3) (by simp) rfl rfl rfl
 refine G.loop (fun r s=>(r=3/\s=bM (jV 5 9 2 6 2 18446744073709551615 1 (.int true .u64 0) 2) (jU (wc [11259375,0,0,0]) (wc [u0,u1,u2,u3,u4,0,0,0,0]) (wc [y0,y1,0,0,0,0])) 101 [61,63] jW)
  \/ (r=2/\s=bM (jV 5 9 2 6 2 18446744073709551615 1 (.int false .u64 u4) 1) (jU (wc [0,0,0,0]) (wc [u0,u1,u2,u3,u4,0,0,0,0]) (wc [y0,y1,0,0,0,0])) 101 [61,63] jW)
  \/ (r=1/\∃ h0 h1 h2 h3,s=bM (jV 5 9 2 6 2 18446744073709551615 1 (.int false .u64 (w2 (n4 u1 u2 u3 u4%DD))) 0) (jU (wc [h0,h1,h2,h3]) (wc [u0,w0 (n4 u1 u2 u3 u4%DD),w1 (n4 u1 u2 u3 u4%DD),w2 (n4 u1 u2 u3 u4%DD),0,0,0,0,0]) (wc [y0,n4 u1 u2 u3 u4/DD,0,0,0,0])) 101 [61,63] jW)
  \/ (r=0/\∃ h0 h1 h2 h3,s=bM (jV 5 9 2 6 2 18446744073709551615 1 (.int false .u64 (w2 (r5 u0 u1 u2 u3 u4%DD))) (-1)) (jU (wc [h0,h1,h2,h3]) (wc [w0 (r5 u0 u1 u2 u3 u4%DD),w1 (r5 u0 u1 u2 u3 u4%DD),w2 (r5 u0 u1 u2 u3 u4%DD),0,0,0,0,0,0]) (wc [r5 u0 u1 u2 u3 u4/DD,n4 u1 u2 u3 u4/DD,0,0,0,0])) 101 [61,63] jW)) (r0:=3) (.inl ⟨rfl,rfl⟩) ?_
 rintro r s (⟨rfl,rfl⟩ | ⟨rfl,rfl⟩ | ⟨rfl,h0,h1,h2,h3,rfl⟩ | ⟨rfl,h0,h1,h2,h3,rfl⟩)
 .obtain ⟨ps,e,hp⟩:=Ky (aWj u0 u1 y0 y1) (wc [u0,u1,u2,u3,u4,0,0,0,0]) (wc [y0,y1,0,0,0,0]) 11259375 0 0 0 a2 a3 a4 (by omega)
  exact G.lW aR aU mix hb _ e hp 2 (by omega) (.inr (.inl ⟨rfl,rfl⟩))
 .obtain ⟨hs,g0,g1,g2,g3,ps,e,hp⟩:=pK ⟨aDc u0 y0,aDb u0 y0,OT u0 y0,CN u0 y0,CO u0 y0,aDa u0 y0⟩ (wc [u0,u1,u2,u3,u4,0,0,0,0]) (wc [y0,y1,0,0,0,0]) y1 0 0 0 0 a1 a2 a3 a4 hl
  exact G.lW aR aU mix hb _ e hp 1 (by omega) (.inr (.inr (.inl ⟨rfl,g0,g1,g2,g3,rfl⟩)))
 .obtain ⟨hs,g0,g1,g2,g3,ps,e,hp⟩:=pK ⟨aCz (n4 u1 u2 u3 u4/DD),aCy (n4 u1 u2 u3 u4/DD),OS (n4 u1 u2 u3 u4/DD),CL (n4 u1 u2 u3 u4/DD),CM (n4 u1 u2 u3 u4/DD),aCx (n4 u1 u2 u3 u4/DD)⟩ (wc [u0,u1,u2,u3,u4,0,0,0,0]) (wc [y0,y1,0,0,0,0]) y0 h0 h1 h2 h3 a0 b0 b1 b2 (aGx a0)
  exact G.lW aR aU mix hb _ e hp 0 (by omega) (.inr (.inr (.inr ⟨rfl,g0,g1,g2,g3,rfl⟩)))
 .exact G.Ah aR aU mix hb [] (aPs u0 u1 u2 u3 u4 y0 y1 _ _ _ _ _ _ _ h0 h1 h2 h3) (aA (by simp only [sh,bJ,and_true])) (G.leave (fun h=>by cases h) (fin h0 h1 h2 h3))
theorem aI.aT {P:Program} {Γ Γ':Env} {f:FuncId} {S:Sum} (h:aI P Γ f S) (hg:Γ'.aT=Γ.aT):aI P Γ' f S:=
 fun vs T lab F e he ho w0 M V T2 w xs aK hT AN=>h vs T lab F e he ho w0 M V T2 w xs aK hT (fun n l hl=>AN n l (by rw [hg];exact hl))
namespace M
def nl:List Int->Nat
 | []=>0
 | x::r=>match nl r with
   | 0=>if x=0 then 0 else 1
   | k+1=>k+2
end M
def nmT (ws:List SV):bA:=fun l=>look l [(63,.own ws 196)]
noncomputable def Hy (n cap:Nat) (ws:List SV) (h:List Bool):Option bL:=aF Γv Tryz.f186 true h 400 [.aJ 63 true 0 n cap] (nmT ws) 100 100
namespace M
theorem IV:∀ l:List Int,nl l<=l.length
 | []=>zzr _
 | x::r=>by
   have:=IV r
   simp only [nl,List.length_cons]
   split
   .split <;> omega
   .omega
end M
def nmH (n:Nat):Nat->List Bool
 | 0=>List.replicate n true
 | k+1=>List.replicate (n-(k+1)) true++[false]
def nmO (ws:List Int):Nat->List Prop
 | 0=>ws.map fun a=>(a==0)=true
 | k+1=>((ws.getD k 0==0)=false)::(ws.drop (k+1)).map fun a=>(a==0)=true
theorem LX:∀ ws:List Int,∀ q∈nmO ws (M.nl ws),q
 | [],q,h=>by cases h
 | x::r,q,h=>by
   have ih:=LX r
   unfold M.nl at h
   cases hn:M.nl r with
   | zero=>
     rw [hn] at h ih
     simp only at h
     by_cases hx:x=0
     .rw [if_pos hx] at h
      rcases List.mem_cons.1 h with rfl | h
      .simpa using hx
      .exact ih q h
     .rw [if_neg hx] at h
      rcases List.mem_cons.1 h with rfl | h
      .simpa using hx
      .exact ih q h
   | succ k=>
     rw [hn] at h ih
     exact ih q h
theorem nm1 {cap:Nat} (hc:cap=1\/cap=1) (zs:List SV) (a0:Int) (k:Nat) (hk:k<=1):Hy 1 cap (wc [a0]++zs) (nmH 1 k)=some { bK:=nmO [a0] k,val:=.aJ 63 true 0 k cap }:=by
 rcases hc with rfl | rfl <;> rcases (by omega:k=0\/k=1) with rfl | rfl <;> kernel_rfl
theorem nm2 {cap:Nat} (hc:cap=6\/cap=6) (zs:List SV) (a0 a1:Int) (k:Nat) (hk:k<=2):Hy 2 cap (wc [a0,a1]++zs) (nmH 2 k)=some { bK:=nmO [a0,a1] k,val:=.aJ 63 true 0 k cap }:=by
 rcases hc with rfl | rfl <;> rcases (by omega:k=0\/k=1\/k=2) with rfl | rfl | rfl <;> kernel_rfl
theorem nm3 {cap:Nat} (hc:cap=7\/cap=7) (zs:List SV) (a0 a1 a2:Int) (k:Nat) (hk:k<=3):Hy 3 cap (wc [a0,a1,a2]++zs) (nmH 3 k)=some { bK:=nmO [a0,a1,a2] k,val:=.aJ 63 true 0 k cap }:=by
 rcases hc with rfl | rfl <;> rcases (by omega:k=0\/k=1\/k=2\/k=3) with rfl | rfl | rfl | rfl <;> kernel_rfl
theorem nm4 {cap:Nat} (hc:cap=7\/cap=8) (zs:List SV) (a0 a1 a2 a3:Int) (k:Nat) (hk:k<=4):Hy 4 cap (wc [a0,a1,a2,a3]++zs) (nmH 4 k)=some { bK:=nmO [a0,a1,a2,a3] k,val:=.aJ 63 true 0 k cap }:=by
 rcases hc with rfl | rfl <;> rcases (by omega:k=0\/k=1\/k=2\/k=3\/k=4) with rfl | rfl | rfl | rfl | rfl <;> kernel_rfl
theorem nm5 {cap:Nat} (hc:cap=8\/cap=9) (zs:List SV) (a0 a1 a2 a3 a4:Int) (k:Nat) (hk:k<=5):Hy 5 cap (wc [a0,a1,a2,a3,a4]++zs) (nmH 5 k)=some { bK:=nmO [a0,a1,a2,a3,a4] k,val:=.aJ 63 true 0 k cap }:=by
 rcases hc with rfl | rfl <;> rcases (by omega:k=0\/k=1\/k=2\/k=3\/k=4\/k=5) with rfl | rfl | rfl | rfl | rfl | rfl <;> kernel_rfl
theorem qF {n cap:Nat} {ws:List Int} {zs:List SV} (h:∀ k,k<=ws.length->Hy n cap (wc ws++zs) (nmH n k)=some { bK:=nmO ws k,val:=.aJ 63 true 0 k cap }):aE Tryz.prog Γv 186 [.aJ 63 true 0 n cap] (nmT (wc ws++zs)) 100 100 { val:=.aJ 63 false 0 (M.nl ws) cap }:=
 ((aM lU lV mix Tryz.func186 (by kernel_rfl) true _ 400).call (h _ (M.IV ws)) (LX ws)).words rfl (fun _=>rfl) (fun _ _ h=>h) (fun _=>rfl) rfl rfl
def IU (vs:List SV) (T:bA):Option Canon:=match vs with
 | [.aJ l true 0 n cap]=>match T l with
   | some (.own cs 196)=>match dA .u64 cs with
     | some [a0]=>match Nat.beq n 1&&Nat.beq cap 1 with
       | true=>some { eN:=[.aJ 63 true 0 1 1],T0:=[(63,.own (wc [a0]) 196)],vl:=[(63,.lab l 0)],e0:={ val:=.aJ 63 false 0 (M.nl [a0]) 1,wr:=[(63,.own (wc [a0]) 196)] } }
       | false=>none
     | some [a0,a1,_,_,_,_]=>match Nat.beq n 2&&Nat.beq cap 6 with
       | true=>some { eN:=[.aJ 63 true 0 2 6],T0:=[(63,.own (wc [a0,a1,0,0,0,0]) 196)],vl:=[(63,.lab l 0)],e0:={ val:=.aJ 63 false 0 (M.nl [a0,a1]) 6,wr:=[(63,.own (wc [a0,a1,0,0,0,0]) 196)] } }
       | false=>none
     | some [a0,a1,a2,a3,_,_,_]=>match Nat.beq cap 7 with
       | true=>match Nat.beq n 4 with
         | true=>some { eN:=[.aJ 63 true 0 4 7],T0:=[(63,.own (wc [a0,a1,a2,a3,0,0,0]) 196)],vl:=[(63,.lab l 0)],e0:={ val:=.aJ 63 false 0 (M.nl [a0,a1,a2,a3]) 7,wr:=[(63,.own (wc [a0,a1,a2,a3,0,0,0]) 196)] } }
         | false=>match Nat.beq n 3 with
           | true=>some { eN:=[.aJ 63 true 0 3 7],T0:=[(63,.own (wc [a0,a1,a2,0,0,0,0]) 196)],vl:=[(63,.lab l 0)],e0:={ val:=.aJ 63 false 0 (M.nl [a0,a1,a2]) 7,wr:=[(63,.own (wc [a0,a1,a2,0,0,0,0]) 196)] } }
           | false=>none
       | false=>none
     | some [a0,a1,a2,a3,a4,_,_,_]=>match Nat.beq cap 8 with
       | true=>match Nat.beq n 4 with
         | true=>some { eN:=[.aJ 63 true 0 4 8],T0:=[(63,.own (wc [a0,a1,a2,a3,0,0,0,0]) 196)],vl:=[(63,.lab l 0)],e0:={ val:=.aJ 63 false 0 (M.nl [a0,a1,a2,a3]) 8,wr:=[(63,.own (wc [a0,a1,a2,a3,0,0,0,0]) 196)] } }
         | false=>match Nat.beq n 5 with
           | true=>some { eN:=[.aJ 63 true 0 5 8],T0:=[(63,.own (wc [a0,a1,a2,a3,a4,0,0,0]) 196)],vl:=[(63,.lab l 0)],e0:={ val:=.aJ 63 false 0 (M.nl [a0,a1,a2,a3,a4]) 8,wr:=[(63,.own (wc [a0,a1,a2,a3,a4,0,0,0]) 196)] } }
           | false=>none
       | false=>none
     | some [a0,a1,a2,a3,a4,_,_,_,_]=>match Nat.beq n 5&&Nat.beq cap 9 with
       | true=>some { eN:=[.aJ 63 true 0 5 9],T0:=[(63,.own (wc [a0,a1,a2,a3,a4,0,0,0,0]) 196)],vl:=[(63,.lab l 0)],e0:={ val:=.aJ 63 false 0 (M.nl [a0,a1,a2,a3,a4]) 9,wr:=[(63,.own (wc [a0,a1,a2,a3,a4,0,0,0,0]) 196)] } }
       | false=>none
     | _=>none
   | _=>none
 | _=>none
theorem aHh (Γ:Env) (hg:Γ.aT=aB) {vs:List SV} {T:bA} {c:Canon} (hd:IU vs T=some c):aE Tryz.prog Γ 186 c.eN (fun l=>look l c.T0) 100 100 c.e0:=by
 unfold IU at hd
 split at hd
 case h_2=>cases hd
 split at hd
 case h_2=>cases hd
 split at hd
 case h_6=>cases hd
 .split at hd
  case h_2=>cases hd
  cases hd
  exact ((qF (ws:=[_]) (zs:=wc []) (nm1 (.inl rfl) _ _)).bF 63 _ rfl (by decide)).words (by rw [hg];rfl) (fun _=>rfl) (fun _ _ h=>h) (fun _=>rfl) rfl rfl
 .split at hd
  case h_2=>cases hd
  cases hd
  exact ((qF (ws:=[_,_]) (zs:=wc [0,0,0,0]) (nm2 (.inl rfl) _ _ _)).bF 63 _ rfl (by decide)).words (by rw [hg];rfl) (fun _=>rfl) (fun _ _ h=>h) (fun _=>rfl) rfl rfl
 .split at hd
  case h_2=>cases hd
  split at hd
  .cases hd
   exact ((qF (ws:=[_,_,_,_]) (zs:=wc [0,0,0]) (nm4 (.inl rfl) _ _ _ _ _)).bF 63 _ rfl (by decide)).words (by rw [hg];rfl) (fun _=>rfl) (fun _ _ h=>h) (fun _=>rfl) rfl rfl
  .split at hd
   case h_2=>cases hd
   cases hd
   exact ((qF (ws:=[_,_,_]) (zs:=wc [0,0,0,0]) (nm3 (.inl rfl) _ _ _ _)).bF 63 _ rfl (by decide)).words (by rw [hg];rfl) (fun _=>rfl) (fun _ _ h=>h) (fun _=>rfl) rfl rfl
 .split at hd
  case h_2=>cases hd
  split at hd
  .cases hd
   exact ((qF (ws:=[_,_,_,_]) (zs:=wc [0,0,0,0]) (nm4 (.inr rfl) _ _ _ _ _)).bF 63 _ rfl (by decide)).words (by rw [hg];rfl) (fun _=>rfl) (fun _ _ h=>h) (fun _=>rfl) rfl rfl
  .split at hd
   case h_2=>cases hd
   cases hd
   exact ((qF (ws:=[_,_,_,_,_]) (zs:=wc [0,0,0]) (nm5 (.inl rfl) _ _ _ _ _ _)).bF 63 _ rfl (by decide)).words (by rw [hg];rfl) (fun _=>rfl) (fun _ _ h=>h) (fun _=>rfl) rfl rfl
 .split at hd
  case h_2=>cases hd
  cases hd
  exact ((qF (ws:=[_,_,_,_,_]) (zs:=wc [0,0,0,0]) (nm5 (.inr rfl) _ _ _ _ _ _)).bF 63 _ rfl (by decide)).words (by rw [hg];rfl) (fun _=>rfl) (fun _ _ h=>h) (fun _=>rfl) rfl rfl
def uM (iq ir:Nat) (vs:List SV) (T:bA):Option Canon:=match IU vs T with
 | some c=>match c.eN,c.e0.val with
   | [.aJ _ _ _ n _],.aJ 63 false 0 k cap=>match Nat.ble n 2 with
     | true=>some { c with e0:={ c.e0 with val:=.aJ 63 true 0 iq cap },conds:=[k=iq] }
     | false=>some { c with e0:={ c.e0 with val:=.aJ 63 true 0 ir cap },conds:=[k=ir] }
   | _,_=>none
 | none=>none
theorem Ee (iq ir:Nat) (Γ:Env) (hg:Γ.aT=aB):aI Tryz.prog Γ 186 (aL aB 100 (uM iq ir)):=by
 refine aW hg fun vs T c hd hc=>?_
 unfold uM at hd
 split at hd
 case h_2=>cases hd
 rename_i c0 h0
 split at hd
 case h_2=>cases hd
 rename_i hv
 split at hd
 .cases hd
  have hk:=hc _ zzC
  refine (aHh Γ hg h0).words rfl (fun _=>rfl) (fun _ _ h=>h) (fun V=>?_) rfl rfl
  rw [hv,hk];rfl
 .cases hd
  have hk:=hc _ zzC
  refine (aHh Γ hg h0).words rfl (fun _=>rfl) (fun _ _ h=>h) (fun V=>?_) rfl rfl
  rw [hv,hk];rfl
def aJy (c c':Nat):List SV:=[.aJ 61 true 0 3 c,.aJ 62 true 0 3 c']
def cmT (xs ys:List Int):bA:=fun l=>look l [(61,.nZ .u64 xs),(62,.nZ .u64 ys)]
noncomputable def zW (c c':Nat) (xs ys:List Int) (h:List Bool):Option bL:=aF Γv Tryz.f154 true h 400 (aJy c c') (cmT xs ys) 100 100
theorem bFi (c c':Nat) (x0 x1 x2 y0 y1 y2:Int) (xs ys:List Int) :
 zW c c' (x0::x1::x2::xs) (y0::y1::y2::ys) [false,true] =
 sh (x0::x1::x2::xs) fun z0=>
 sh (y0::y1::y2::ys) fun z1=>
 sh (2:Nat) fun z2=>
 sh (0:Int) fun z3=>
 sh (3:Nat) fun z4=>
 some {bK:=[decide (z0.getD z2 z3<z1.getD z2 z3)=true,z4<=z1.length,z4<=z0.length,(z0.getD z2 z3==z1.getD z2 z3)=false,z4<=z1.length,z4<=z0.length],val:=SV.int true IntKind.i64 (Int.negSucc 0)}:=by kernel_rfl
theorem bFh (c c':Nat) (x0 x1 x2 y0 y1 y2:Int) (xs ys:List Int) :
 zW c c' (x0::x1::x2::xs) (y0::y1::y2::ys) [false,false,true] =
 sh (x0::x1::x2::xs) fun z0=>
 sh (y0::y1::y2::ys) fun z1=>
 sh (2:Nat) fun z2=>
 sh (0:Int) fun z3=>
 sh (3:Nat) fun z4=>
 some {bK:=[decide (z0.getD z2 z3>z1.getD z2 z3)=true,z4<=z1.length,z4<=z0.length,decide (z0.getD z2 z3<z1.getD z2 z3)=false,z4<=z1.length,z4<=z0.length,(z0.getD z2 z3==z1.getD z2 z3)=false,z4<=z1.length,z4<=z0.length],val:=SV.int true IntKind.i64 (1:Int)}:=by kernel_rfl
theorem bFg (c c':Nat) (x0 x1 x2 y0 y1 y2:Int) (xs ys:List Int) :
 zW c c' (x0::x1::x2::xs) (y0::y1::y2::ys) [true,false,true] =
 sh (x0::x1::x2::xs) fun z0=>
 sh (y0::y1::y2::ys) fun z1=>
 sh (0:Int) fun z2=>
 sh (2:Nat) fun z3=>
 sh (1:Nat) fun z4=>
 some {bK:=[decide (z0.getD z4 z2<z1.getD z4 z2)=true,z3<=z1.length,z3<=z0.length,(z0.getD z4 z2==z1.getD z4 z2)=false,z3<=z1.length,z3<=z0.length,(z0.getD z3 z2==z1.getD z3 z2)=true,(3:Nat)<=z1.length,(3:Nat)<=z0.length],val:=SV.int true IntKind.i64 (Int.negSucc 0)}:=by kernel_rfl
theorem bFf (c c':Nat) (x0 x1 x2 y0 y1 y2:Int) (xs ys:List Int) :
 zW c c' (x0::x1::x2::xs) (y0::y1::y2::ys) [true,false,false,true] =
 sh (x0::x1::x2::xs) fun z0=>
 sh (y0::y1::y2::ys) fun z1=>
 sh (0:Int) fun z2=>
 sh (2:Nat) fun z3=>
 sh (1:Nat) fun z4=>
 some {bK:=[decide (z0.getD z4 z2>z1.getD z4 z2)=true,z3<=z1.length,z3<=z0.length,decide (z0.getD z4 z2<z1.getD z4 z2)=false,z3<=z1.length,z3<=z0.length,(z0.getD z4 z2==z1.getD z4 z2)=false,z3<=z1.length,z3<=z0.length,(z0.getD z3 z2==z1.getD z3 z2)=true,(3:Nat)<=z1.length,(3:Nat)<=z0.length],val:=SV.int true IntKind.i64 (1:Int)}:=by kernel_rfl
theorem bFe (c c':Nat) (x0 x1 x2 y0 y1 y2:Int) (xs ys:List Int) :
 zW c c' (x0::x1::x2::xs) (y0::y1::y2::ys) [true,true,true] =
 sh (x0::x1::x2::xs) fun z0=>
 sh (y0::y1::y2::ys) fun z1=>
 sh (0:Int) fun z2=>
 sh (1:Nat) fun z3=>
 sh (2:Nat) fun z4=>
 some {bK:=[decide (z0.getD (0:Nat) z2<z1.getD (0:Nat) z2)=true,z3<=z1.length,z3<=z0.length,(z0.getD z3 z2==z1.getD z3 z2)=true,z4<=z1.length,z4<=z0.length,(z0.getD z4 z2==z1.getD z4 z2)=true,(3:Nat)<=z1.length,(3:Nat)<=z0.length],val:=SV.int true IntKind.i64 (Int.negSucc 0)}:=by kernel_rfl
theorem bFd (c c':Nat) (x0 x1 x2 y0 y1 y2:Int) (xs ys:List Int) :
 zW c c' (x0::x1::x2::xs) (y0::y1::y2::ys) [true,true,false,true] =
 sh (x0::x1::x2::xs) fun z0=>
 sh (y0::y1::y2::ys) fun z1=>
 sh (0:Int) fun z2=>
 sh (1:Nat) fun z3=>
 sh (0:Nat) fun z4=>
 sh (2:Nat) fun z5=>
 some {bK:=[decide (z0.getD z4 z2>z1.getD z4 z2)=true,z3<=z1.length,z3<=z0.length,decide (z0.getD z4 z2<z1.getD z4 z2)=false,z3<=z1.length,z3<=z0.length,(z0.getD z3 z2==z1.getD z3 z2)=true,z5<=z1.length,z5<=z0.length,(z0.getD z5 z2==z1.getD z5 z2)=true,(3:Nat)<=z1.length,(3:Nat)<=z0.length],val:=SV.int true IntKind.i64 (1:Int)}:=by kernel_rfl
theorem bFc (c c':Nat) (x0 x1 x2 y0 y1 y2:Int) (xs ys:List Int) :
 zW c c' (x0::x1::x2::xs) (y0::y1::y2::ys) [true,true,false,false] =
 sh (x0::x1::x2::xs) fun z0=>
 sh (y0::y1::y2::ys) fun z1=>
 sh (0:Int) fun z2=>
 sh (1:Nat) fun z3=>
 sh (0:Nat) fun z4=>
 sh (2:Nat) fun z5=>
 some {bK:=[decide (z0.getD z4 z2>z1.getD z4 z2)=false,z3<=z1.length,z3<=z0.length,decide (z0.getD z4 z2<z1.getD z4 z2)=false,z3<=z1.length,z3<=z0.length,(z0.getD z3 z2==z1.getD z3 z2)=true,z5<=z1.length,z5<=z0.length,(z0.getD z5 z2==z1.getD z5 z2)=true,(3:Nat)<=z1.length,(3:Nat)<=z0.length],val:=SV.int true IntKind.i64 z2}:=by kernel_rfl
namespace M
def cmp (x y:Int):Int:=if x<y then -1 else if y<x then 1 else 0
def n3 (a b c:Int):Int:=a+18446744073709551616*(b+18446744073709551616*c)
end M
def JH:SB->Option (IntKind × List Int)
 | .ints k xs _=>some (k,xs)
 | .own cs _=>zS cs
 | .fS cs=>zS cs
 | .nZ k xs=>some (k,xs)
 | _=>none
def Xr (vs:List SV) (T:bA):Option Canon:=match vs with
 | [.aJ l _ 0 3 c,.aJ l' _ 0 3 c']=>match (T l).bind JH,(T l').bind JH with
   | some (.u64,x0::x1::x2::xs),some (.u64,y0::y1::y2::ys)=>some { eN:=aJy c c',T0:=[(61,.nZ .u64 (x0::x1::x2::xs)),(62,.nZ .u64 (y0::y1::y2::ys))],vl:=[(61,.lab l 0),(62,.lab l' 0)],e0:={ val:=.int false .i64 (M.cmp (M.n3 x0 x1 x2) (M.n3 y0 y1 y2)) },conds:=[M.U x0,M.U x1,M.U x2,M.U y0,M.U y1,M.U y2] }
   | _,_=>none
 | _=>none
theorem aHx (Γ:Env) (hg:Γ.aT=aB):aI Tryz.prog Γ 154 (aL aB 100 Xr):=by
 refine aW hg fun vs T c hd hc=>?_
 unfold Xr at hd
 split at hd
 case h_2=>cases hd
 split at hd
 case h_2=>cases hd
 rename_i c _ _ c' _ _ x0 x1 x2 xs y0 y1 y2 ys _ _
 cases hd
 have a0:M.U x0:=hc _ (by simp)
 have a1:M.U x1:=hc _ (by simp)
 have a2:M.U x2:=hc _ (by simp)
 have b0:M.U y0:=hc _ (by simp)
 have b1:M.U y1:=hc _ (by simp)
 have b2:M.U y2:=hc _ (by simp)
 have:=a0.1;have:=a0.2;have:=a1.1;have:=a1.2;have:=a2.1;have:=a2.2
 have:=b0.1;have:=b0.2;have:=b1.1;have:=b1.2;have:=b2.1;have:=b2.2
 have hs:∀ hs,aI Tryz.prog Γv 154 (aF Γv Tryz.f154 true hs 400):=fun hs=>aM lU lV mix Tryz.func154 (by kernel_rfl) true hs 400
 have fin:∀ {hs:List Bool} {ob:List Prop} {s:Bool} {r:Int},zW c c' (x0::x1::x2::xs) (y0::y1::y2::ys) hs=some { bK:=ob,val:=.int s .i64 r }->(∀ q∈ob,q)->M.cmp (M.n3 x0 x1 x2) (M.n3 y0 y1 y2)=r ->
  aE Tryz.prog Γ 154 (aJy c c') (fun l=>look l [(61,.nZ .u64 (x0::x1::x2::xs)),(62,.nZ .u64 (y0::y1::y2::ys))]) 100 100 { val:=.int false .i64 (M.cmp (M.n3 x0 x1 x2) (M.n3 y0 y1 y2)) }:=by
  intro h ob s r e ho hr
  exact ((hs h).call e ho).words (by rw [hg];rfl) (fun _=>rfl) (fun _ _ h=>h) (fun V=>by simp only [den,hr]) rfl rfl
 rcases Int.lt_trichotomy x2 y2 with h | rfl | h
 .exact fin (bFi c c' x0 x1 x2 y0 y1 y2 xs ys) (aA (by simp [bJ];omega)) (by unfold M.cmp M.n3;rw [if_pos (by omega)];rfl)
 .rcases Int.lt_trichotomy x1 y1 with h | rfl | h
  .exact fin (bFg c c' x0 x1 x2 y0 y1 x2 xs ys) (aA (by simp [bJ];omega)) (by unfold M.cmp M.n3;rw [if_pos (by omega)];rfl)
  .rcases Int.lt_trichotomy x0 y0 with h | rfl | h
   .exact fin (bFe c c' x0 x1 x2 y0 x1 x2 xs ys) (aA (by simp [bJ];omega)) (by unfold M.cmp M.n3;rw [if_pos (by omega)];rfl)
   .exact fin (bFc c c' x0 x1 x2 x0 x1 x2 xs ys) (aA (by simp [bJ])) (by unfold M.cmp M.n3;rw [if_neg (by omega),if_neg (by omega)])
   .exact fin (bFd c c' x0 x1 x2 y0 x1 x2 xs ys) (aA (by simp [bJ];omega)) (by unfold M.cmp M.n3;rw [if_neg (by omega),if_pos (by omega)])
  .exact fin (bFf c c' x0 x1 x2 y0 y1 x2 xs ys) (aA (by simp [bJ];omega)) (by unfold M.cmp M.n3;rw [if_neg (by omega),if_pos (by omega)])
 .exact fin (bFh c c' x0 x1 x2 y0 y1 y2 xs ys) (aA (by simp [bJ];omega)) (by unfold M.cmp M.n3;rw [if_neg (by omega),if_pos (by omega)])
noncomputable def Hf (ex:Nat->Option Sum) (f0:Nat) (hs:List Bool) (f:Nat):Option Sum:=match Nat.beq f f0 with
 | true=>match Tryz.prog.funcs[f0]? with
   | some fn=>some (aF (env ex 22) fn true hs 400)
   | none=>none
 | false=>ex f
theorem oH {ex:Nat->Option Sum} (hex:∀ f S,ex f=some S->∀ Γ:Env,Γ.aT=aB->aI Tryz.prog Γ f S) (f0:Nat) (hs:List Bool):∀ f S,Hf ex f0 hs f=some S->∀ Γ:Env,Γ.aT=aB->aI Tryz.prog Γ f S:=by
 intro f S h Γ hg
 unfold Hf at h
 split at h
 .rename_i e
  rw [zzN e]
  split at h
  .rename_i fn tJ
   cases h
   exact (aM (bP ex 22) (bV ex hex 22) mix tJ (names f0 fn tJ) true hs 400).aT (by rw [hg];rfl)
  .cases h
 .exact hex f S h Γ hg
noncomputable def dO (ex:Nat->Option Sum) (f0:Nat) (S0:Sum) (f:Nat):Option Sum:=match Nat.beq f f0 with
 | true=>some S0
 | false=>ex f
theorem bE {ex:Nat->Option Sum} (hex:∀ f S,ex f=some S->∀ Γ:Env,Γ.aT=aB->aI Tryz.prog Γ f S) (f0:Nat) (S0:Sum) (h0:∀ Γ:Env,Γ.aT=aB->aI Tryz.prog Γ f0 S0):∀ f S,dO ex f0 S0 f=some S->∀ Γ:Env,Γ.aT=aB->aI Tryz.prog Γ f S:=by
 intro f S h Γ hg
 unfold dO at h
 split at h
 .rename_i e;cases h;rw [zzN e];exact h0 Γ hg
 .exact hex f S h Γ hg
noncomputable def orB (ex:Nat->Option Sum) (f0:Nat) (S0:Sum):Sum:=match Tryz.prog.funcs[f0]? with
 | some fn=>orS S0 (aF (env ex 22) fn true [] 400)
 | none=>S0
theorem LP {ex:Nat->Option Sum} (hex:∀ f S,ex f=some S->∀ Γ:Env,Γ.aT=aB->aI Tryz.prog Γ f S) (f0:Nat) (S0:Sum) (h0:∀ Γ:Env,Γ.aT=aB->aI Tryz.prog Γ f0 S0):∀ Γ:Env,Γ.aT=aB->aI Tryz.prog Γ f0 (orB ex f0 S0):=by
 intro Γ hg
 unfold orB
 split
 .rename_i fn tJ
  exact LO (h0 Γ hg) ((aM (bP ex 22) (bV ex hex 22) mix tJ (names f0 fn tJ) true [] 400).aT (by rw [hg];rfl))
 .exact h0 Γ hg
theorem xL {i:Nat} (h:i<1000000):IntKind.i64.wrap ((i:Int)+1)=((i+1:Nat):Int):=by rw [IntWalk.i64_in _ (by omega)];omega
theorem YO {xs b:List Int} {t:TypeId} {off:Nat} (hb:b.length=64) (hx:off+64<=xs.length) :
 aE Tryz.prog rM 81 (aIe off b) (vG xs t) 100 100 { val:=.eP [],wr:=[(60,.ints .u8 (Q.tK off 64 (b.getD · 0) xs) t)] }:=by
 have aR:=vV
 have aU:=vW
 refine gI aR aU Tryz.func81 (by kernel_rfl) rfl (zzL (by kernel_rfl)) rfl [] ?_
 intro w0 M V0 Q' cA H
 refine G.cW aR aU mix cA [] (aZn xs xs b b t off off 0) (aA ?_) ?_
 .exact ⟨rfl,rfl,⟨rfl,rfl⟩,⟨rfl,rfl⟩,trivial⟩
 refine G.loop (fun r s=>∃ i:Nat,i<=64/\r=64-i/\s=bM (Sd off i) (Sc (Q.Z off 64 (fun m=>decide (m<i)) (b.getD · 0) xs) b t) 101 [60] []) (r0:=64) ⟨0,by omega,rfl,?_⟩ ?_
 .rw [Q.mG (P':=fun _=>false) _ _ fun m _=>zzF (by omega),Q.MZ];rfl
 rintro r s ⟨i,hi,rfl,rfl⟩
 have hl:=Q.Qj off 64 (fun m=>decide (m<i)) (b.getD · 0) xs
 by_cases h:i<64
 .refine G.kW aR aU mix cA [true] (aZm xs _ (Q.Z off 64 (fun m=>decide (m<i+1)) (b.getD · 0) xs) b b t off off i ((i+1:Nat):Int)) (aA ?_) (64-(i+1)) (by omega) ⟨i+1,by omega,rfl,rfl⟩
  have e1:off+(i:Int).toNat*1=off+i:=by omega
  refine ⟨by rw [hl];omega,by omega,by rw [hb];omega,by omega,by rw [hl];omega,by omega,decide_eq_true (by omega),rfl,xL (by omega),⟨?_,rfl⟩,⟨rfl,rfl⟩,trivial⟩
  rw [e1,Nat.add_zero,show 0+(i:Int).toNat*1+0=i by omega]
  rw [show b.getD i 0=(fun j=>b.getD j 0) i from rfl,Q.aIc h (by omega) (zzF (by omega))]
  refine Q.mG _ _ fun m hm=>?_
  rw [Bool.eq_iff_iff]
  simp only [Bool.or_eq_true,decide_eq_true_eq,beq_iff_eq]
  omega
 .have e:i=64:=by omega
  subst e
  refine G.cW aR aU mix cA [false] (aZl xs _ (Q.Z off 64 (fun m=>decide (m<64)) (b.getD · 0) xs) b b t off off (64:Nat) (64:Nat)) (aA ?_) (G.leave (by simp) ?_)
  .exact ⟨zzF (by omega),rfl,rfl,⟨rfl,rfl⟩,⟨rfl,rfl⟩,trivial⟩
  refine G.oQ (cl:=[]) aR aU mix [] H (aZk xs _ b t off (64:Nat)) iQ rfl rfl ?_
  rw [Q.mG (P':=fun _=>true) _ _ fun m hm=>decide_eq_true (by omega),Q.aId]
theorem aEf {xs s:List Int} {t:TypeId} {off:Nat} (hs:s.length=16) (hx:off+256<=xs.length) :
 aE Tryz.prog rM 80 (XN off s) (vG xs t) 100 100 { val:=.eP [],wr:=[(60,.ints .u8 (Q.tK off 256 (Q.jJ s) xs) t)] }:=by
 have aR:=vV
 have aU:=vW
 have XL:=Q.Wk s
 refine gI aR aU Tryz.func80 (by kernel_rfl) rfl (zzL (by kernel_rfl)) rfl [] ?_
 intro w0 M V0 Q' cA H
 refine G.cW aR aU mix cA [] (bEn xs xs s (Q.jR s) (Q.jR s) t off off 0) (aA ?_) ?_
 .exact ⟨rfl,rfl,⟨rfl,rfl⟩,⟨rfl,rfl⟩,(eD XL).symm,trivial⟩
 refine G.loop (fun r s'=>∃ i:Nat,i<=10/\r=10-i/\s'=bM (Ni off i) (Ng xs (Q.jR s) (Q.it (Q.jR s) i) t) 102 [60] []) (r0:=10) ⟨0,by omega,rfl,rfl⟩ ?_
 rintro r s' ⟨i,hi,rfl,rfl⟩
 by_cases h:i<10
 .refine G.kW aR aU mix cA [true] (bEm xs xs xs (Q.jR s) (Q.it (Q.jR s) i) (Q.jR s) (Q.it (Q.jR s) (i+1)) t off off i ((i+1:Nat):Int)) (aA ?_) (10-(i+1)) (by omega) ⟨i+1,by omega,rfl,rfl⟩
  exact ⟨decide_eq_true (by omega),rfl,xL (by omega),⟨rfl,rfl⟩,⟨rfl,rfl⟩,(eD (Q.Jb _ XL (i+1))).symm,trivial⟩
 have e:i=10:=by omega
 subst e
 clear hi h
 have hv:=Q.Jb _ XL 10
 refine G.cW aR aU mix cA [false] (bEl xs xs xs (Q.jR s) (Q.it (Q.jR s) 10) (Q.jR s) (Q.it (Q.jR s) 10) t off off (10:Nat) (10:Nat)) (aA ?_) (G.leave (by simp) ?_)
 .exact ⟨zzF (by omega),rfl,rfl,⟨rfl,rfl⟩,⟨rfl,rfl⟩,rfl,trivial⟩
 refine G.cW aR aU mix cA [] (bEk xs xs xs (Q.jR s) (Q.it (Q.jR s) 10) (Q.jR s) (Q.it (Q.jR s) 10) t off off (10:Nat) 0) (aA ?_) ?_
 .exact ⟨rfl,rfl,⟨rfl,rfl⟩,⟨rfl,rfl⟩,⟨eD hv,rfl⟩,trivial⟩
 refine G.loop (fun r s'=>∃ i:Nat,i<=16/\r=16-i/\s'=bM (Nh off i) (uE (Q.Z off 256 (Q.dn i 0) (Q.jJ s) xs) (Q.jR s) (Q.it (Q.jR s) 10) t) 102 [60] []) (r0:=16) ⟨0,by omega,rfl,by rw [Q.bFa];rfl⟩ ?_
 rintro r s' ⟨i,hi,rfl,rfl⟩
 by_cases h:i<16
 .refine G.cW aR aU mix cA [true] (bEh xs _ (Q.Z off 256 (Q.dn i 0) (Q.jJ s) xs) (Q.jR s) (Q.it (Q.jR s) 10) (Q.jR s) (Q.it (Q.jR s) 10) t off off i i 0) (aA ?_) ?_
  .exact ⟨decide_eq_true (by omega),rfl,rfl,rfl,rfl,⟨rfl,rfl⟩,⟨rfl,rfl⟩,⟨rfl,rfl⟩,trivial⟩
  refine G.loop (fun r s'=>∃ k:Nat,k<=4/\r=4-k/\s'=bM (Sn off i k) (uE (Q.Z off 256 (Q.dn i k) (Q.jJ s) xs) (Q.jR s) (Q.it (Q.jR s) 10) t) 102 [60] []) (r0:=4) ⟨0,by omega,rfl,rfl⟩ ?_
  rintro r s' ⟨k,hk,rfl,rfl⟩
  have hl:=Q.Qj off 256 (Q.dn i k) (Q.jJ s) xs
  by_cases h4:k<4
  .refine G.kW aR aU mix cA [true] (bEg xs _ (Q.Z off 256 (Q.dn i (k+1)) (Q.jJ s) xs) (Q.jR s) (Q.it (Q.jR s) 10) (Q.jR s) (Q.it (Q.jR s) 10) t off off i i k ((k+1:Nat):Int)) ?_ (4-(k+1)) (by omega) ⟨k+1,by omega,rfl,rfl⟩
   have ho:∀ n,n<=4->∀ r:List Prop,(∀ q∈r,q)->∀ q∈Q.ob off (Q.it (Q.jR s) 10) (Q.jR s) i k (Q.Z off 256 (Q.dn i k) (Q.jJ s) xs) n r,q:=by
    intro n
    induction n with
    | zero=>intro _ r hr;exact hr
    | succ n ih=>
      intro hn r hr
      have e1:=Q.aIb off h h4 (n:=n) (by omega)
      have e2:=Q.aHm h h4 (n:=n) (by omega)
      have e3:=Q.Qk off (Q.it (Q.jR s) 10) (Q.jR s) i k (Q.Z off 256 (Q.dn i k) (Q.jJ s) xs) n
      rw [Q.ob,e1,e2,e3,hl]
      exact aV (by omega) (aV (by omega) (aV (by omega) (aV (by omega) (ih (by omega) r hr))))
   refine ho 4 (zzr 4) _ (aA ?_)
   refine ⟨by rw [XL];omega,by omega,by omega,by rw [hv];omega,by omega,by omega,decide_eq_true (by omega),rfl,rfl,rfl,xL (by omega),⟨Q.bGv hs h h4 hx,rfl⟩,⟨rfl,rfl⟩,⟨rfl,rfl⟩,trivial⟩
  .have e:k=4:=by omega
   subst e
   refine G.cW aR aU mix cA [false] (bEf xs _ (Q.Z off 256 (Q.dn i 4) (Q.jJ s) xs) (Q.jR s) (Q.it (Q.jR s) 10) (Q.jR s) (Q.it (Q.jR s) 10) t off off i i (4:Nat) (4:Nat)) (aA ?_) (G.leave (by simp) ?_)
   .exact ⟨zzF (by omega),rfl,rfl,rfl,rfl,⟨rfl,rfl⟩,⟨rfl,rfl⟩,⟨rfl,rfl⟩,trivial⟩
   refine G.kW aR aU mix cA [] (bEe xs _ (Q.Z off 256 (Q.dn (i+1) 0) (Q.jJ s) xs) (Q.jR s) (Q.it (Q.jR s) 10) (Q.jR s) (Q.it (Q.jR s) 10) t off off i ((i+1:Nat):Int) (4:Nat)) (aA ?_) (16-(i+1)) (by omega) ⟨i+1,by omega,rfl,rfl⟩
   exact ⟨rfl,xL (by omega),⟨Q.aFo _ _ _ _,rfl⟩,⟨rfl,rfl⟩,⟨rfl,rfl⟩,trivial⟩
 .have e:i=16:=by omega
  subst e
  refine G.cW aR aU mix cA [false] (bEj xs _ (Q.Z off 256 (Q.dn 16 0) (Q.jJ s) xs) (Q.jR s) (Q.it (Q.jR s) 10) (Q.jR s) (Q.it (Q.jR s) 10) t off off (16:Nat) (16:Nat)) (aA ?_) (G.leave (by simp) ?_)
  .exact ⟨zzF (by omega),rfl,rfl,⟨rfl,rfl⟩,⟨rfl,rfl⟩,⟨rfl,rfl⟩,trivial⟩
  refine G.oQ (cl:=[]) aR aU mix [] H (bEi xs _ (Q.jR s) (Q.it (Q.jR s) 10) t off (16:Nat)) iQ rfl rfl ?_
  rw [Q.aXv]
namespace Q
def one (s:List Int):List Int:=B.out (B.rounds 10 s) s
def x4 (off:Nat) (s xs:List Int):List Int:=tK off 256 (jJ s) xs
def tn (off:Nat) (b xs:List Int):List Int:=tK off 64 (b.getD · 0) xs
end Q
theorem YZ (V:aZ) (key nonce:List Int) (c:Int):den V (.agg (siV key nonce c))=den V (.ai .u32 (B.init key nonce c)):=rfl
theorem YW (key nonce:List Int) (c:Int) (hk:key.length=32) (hn:nonce.length=12) (Γ:Env) (hg:Γ.aT=aB) :
 aE Tryz.prog Γ 76 [.ai .u8 key,.int false .u32 c,.ai .u8 nonce] Fz 100 100 { val:=.ai .u32 (B.init key nonce c) }:=by
 have hs:aI Tryz.prog (env fD 4) 76 (aF (env fD 4) Tryz.f76 true [] 400):=aM (bP fD 4) (kJ 4) mix Tryz.func76 (by kernel_rfl) true [] 400
 refine (hs.call (aLb key nonce c) iQ).words (by rw [hg];rfl) (fun V=>?_) (fun _ _ h=>h) (fun V=>YZ V _ _ _) rfl rfl
 simp only [aG,bB V hk,bB V hn]
theorem NZ (s:List Int) (hl:s.length=16) (Γ:Env) (hg:Γ.aT=aB):aE Tryz.prog Γ 82 [.ai .u32 s] Fz 100 100 { val:=.ai .u8 (Q.one s) }:=by
 have hs:aI Tryz.prog (env fD 4) 82 (aF (env fD 4) Tryz.f82 true [] 400):=aM (bP fD 4) (kJ 4) mix Tryz.func82 (by kernel_rfl) true [] 400
 have h:=hs.call (aBq s) iQ
 rw [eD hl] at h
 refine h.words (by rw [hg];rfl) (fun V=>?_) (fun _ _ h=>h) (fun V=>lA V _ _) rfl rfl
 simp only [aG,bB V hl]
theorem OR (s b:Bool) (Γ:Env) (hg:Γ.aT=aB):aE Tryz.prog Γ 77 [.raw (.pointer none),.bool s b] Fz 100 100 { val:=.bool s b }:=by
 have hs:aI Tryz.prog (env fD 2) 77 (aF (env fD 2) Tryz.f77 true [] 400):=aM (bP fD 2) (kJ 2) mix Tryz.func77 (by kernel_rfl) true [] 400
 have h1:aF (env fD 2) Tryz.f77 true [] 400 [.raw (.pointer none),.bool true true] (fun _=>none) 100 100=some { val:=.bool true true }:=by kernel_rfl
 have h2:aF (env fD 2) Tryz.f77 true [] 400 [.raw (.pointer none),.bool true false] (fun _=>none) 100 100=some { val:=.bool true false }:=by kernel_rfl
 cases b with
 | true=>exact (hs.call h1 iQ).words (by rw [hg];rfl) (fun _=>rfl) (fun _ _ h=>by cases h) (fun _=>rfl) rfl rfl
 | false=>exact (hs.call h2 iQ).words (by rw [hg];rfl) (fun _=>rfl) (fun _ _ h=>by cases h) (fun _=>rfl) rfl rfl
def uP (vs:List SV) (_:bA):Option Canon:=match vs with
 | [.raw (.pointer none),.bool s b]=>some { eN:=[.raw (.pointer none),.bool s b],T0:=[],vl:=[],e0:={ val:=.bool s b } }
 | _=>none
theorem Eg (Γ:Env) (hg:Γ.aT=aB):aI Tryz.prog Γ 77 (aL aB 100 uP):=by
 refine aW hg fun vs T c hd hc=>?_
 unfold uP at hd
 split at hd
 case h_2=>cases hd
 cases hd
 exact OR _ _ Γ hg
def HP (si:List Int->List Int->Int->List Int) (vs:List SV) (_:bA):Option Canon:=match vs with
 | [ks,.int _ .u32 c,ns]=>match cJ ks,cJ ns with
   | some (.u8,k),some (.u8,n)=>some { eN:=[.ai .u8 k,.int false .u32 c,.ai .u8 n],T0:=[],vl:=[],e0:={ val:=.ai .u32 (si k n c) },conds:=[si k n c=B.init k n c,k.length=32,n.length=12] }
   | _,_=>none
 | _=>none
theorem aLa (si:List Int->List Int->Int->List Int) (Γ:Env) (hg:Γ.aT=aB):aI Tryz.prog Γ 76 (aL aB 100 (HP si)):=by
 refine aW hg fun vs T c hd hc=>?_
 unfold HP at hd
 split at hd
 case h_2=>cases hd
 split at hd
 case h_2=>cases hd
 cases hd
 have e:=hc _ zzC
 rw [e]
 exact YW _ _ _ (hc _ (zzO _ zzC)) (hc _ (zzO _ (zzO _ zzC))) Γ hg
def Tm (on:List Int->List Int) (vs:List SV) (_:bA):Option Canon:=match vs with
 | [v]=>match cJ v with
   | some (.u32,s)=>some { eN:=[.ai .u32 s],T0:=[],vl:=[],e0:={ val:=.ai .u8 (on s) },conds:=[on s=Q.one s,s.length=16] }
   | _=>none
 | _=>none
theorem aMv (on:List Int->List Int) (Γ:Env) (hg:Γ.aT=aB):aI Tryz.prog Γ 82 (aL aB 100 (Tm on)):=by
 refine aW hg fun vs T c hd hc=>?_
 unfold Tm at hd
 split at hd
 case h_2=>cases hd
 split at hd
 case h_2=>cases hd
 cases hd
 have e:=hc _ zzC
 have h:=NZ _ (hc _ (zzO _ zzC)) Γ hg
 rw [<- e] at h
 exact h
def JP (x4:Nat->List Int->List Int->List Int) (vs:List SV) (T:bA):Option Canon:=match vs with
 | [v,.ptr l _ off]=>match cJ v,T l with
   | some (.u32,s),some B=>match Dp B with
     | some (.u8,xs,t)=>some { eN:=[.ai .u32 s,.ptr 60 false off],T0:=[(60,.ints .u8 xs t)],vl:=[(60,.lab l 0)],e0:={ val:=.eP [],wr:=[(60,.ints .u8 (x4 off s xs) t)] },conds:=[x4 off s xs=Q.x4 off s xs,s.length=16,off+256<=xs.length] }
     | _=>none
   | _,_=>none
 | _=>none
theorem aOk (x4:Nat->List Int->List Int->List Int) (Γ:Env) (hg:Γ.aT=aB):aI Tryz.prog Γ 80 (aL aB 100 (JP x4)):=by
 refine aW hg fun vs T c hd hc=>?_
 unfold JP at hd
 split at hd
 case h_2=>cases hd
 split at hd
 case h_2=>cases hd
 split at hd
 case h_2=>cases hd
 cases hd
 have e:=hc _ zzC
 have hl:=hc _ (zzO _ zzC)
 rw [e]
 exact (aEf hl (hc _ (zzO _ (zzO _ zzC)))).words (by rw [hg];rfl) (fun V=>by simp only [XN,aG,bB V hl]) (fun _ _ h=>h) (fun _=>rfl) rfl rfl
def HL (tn:Nat->List Int->List Int->List Int) (vs:List SV) (T:bA):Option Canon:=match vs with
 | [.ptr l _ off,v]=>match cJ v,T l with
   | some (.u8,b),some B=>match Dp B with
     | some (.u8,xs,t)=>some { eN:=[.ptr 60 false off,.ai .u8 b],T0:=[(60,.ints .u8 xs t)],vl:=[(60,.lab l 0)],e0:={ val:=.eP [],wr:=[(60,.ints .u8 (tn off b xs) t)] },conds:=[tn off b xs=Q.tn off b xs,b.length=64,off+64<=xs.length] }
     | _=>none
   | _,_=>none
 | _=>none
theorem aKx (tn:Nat->List Int->List Int->List Int) (Γ:Env) (hg:Γ.aT=aB):aI Tryz.prog Γ 81 (aL aB 100 (HL tn)):=by
 refine aW hg fun vs T c hd hc=>?_
 unfold HL at hd
 split at hd
 case h_2=>cases hd
 split at hd
 case h_2=>cases hd
 split at hd
 case h_2=>cases hd
 cases hd
 have e:=hc _ zzC
 rw [e]
 exact (YO (hc _ (zzO _ zzC)) (hc _ (zzO _ (zzO _ zzC)))).words (by rw [hg];rfl) (fun _=>rfl) (fun _ _ h=>h) (fun _=>rfl) rfl rfl
noncomputable def aSt (si:List Int->List Int->Int->List Int) (x4 tn:Nat->List Int->List Int->List Int) (on:List Int->List Int):Nat->Option Sum:=
 dO (dO (dO (dO (dO fD 77 (aL aB 100 uP)) 76 (aL aB 100 (HP si))) 82 (aL aB 100 (Tm on))) 80 (aL aB 100 (JP x4))) 81 (aL aB 100 (HL tn))
theorem gY:∀ f S,fD f=some S->∀ Γ:Env,Γ.aT=aB->aI Tryz.prog Γ f S:=fun f S h Γ _=>qC f S h Γ
theorem aEt (si:List Int->List Int->Int->List Int) (x4 tn:Nat->List Int->List Int->List Int) (on:List Int->List Int):∀ f S,aSt si x4 tn on f=some S->∀ Γ:Env,Γ.aT=aB->aI Tryz.prog Γ f S:=
 bE (bE (bE (bE (bE gY 77 _ Eg) 76 _ (aLa si)) 82 _ (aMv on)) 80 _ (aOk x4)) 81 _ (aKx tn)
namespace P
def W (n:Int):Int:=IntKind.u64.wrap n
def sh (n:Int):Int:=cB .u64 n 26
def lo (n:Int):Int:=bW .u64 n 67108863
def c1 (x:List Int):Int:=W (x.getD 1 0+sh (x.getD 0 0))
def c2 (x:List Int):Int:=W (x.getD 2 0+sh (c1 x))
def c3 (x:List Int):Int:=W (x.getD 3 0+sh (c2 x))
def c4 (x:List Int):Int:=W (x.getD 4 0+sh (c3 x))
def pass (x:List Int):List Int:=[W (lo (x.getD 0 0)+W (5*sh (c4 x))),lo (c1 x),lo (c2 x),lo (c3 x),lo (c4 x)]
def settled (x:List Int):List Int:=pass (pass x)
theorem nT (x:List Int):(settled x).length=5:=rfl
def word (a b c d:Int):Int:=lD .u64 (lD .u64 (lD .u64 (W a) (dK .u64 (W b) 8)) (dK .u64 (W c) 16)) (dK .u64 (W d) 24)
def kO (b:List Int):List Int:=[lo (word (b.getD 0 0) (b.getD 1 0) (b.getD 2 0) (b.getD 3 0)),lo (cB .u64 (word (b.getD 3 0) (b.getD 4 0) (b.getD 5 0) (b.getD 6 0)) 2),
 lo (cB .u64 (word (b.getD 6 0) (b.getD 7 0) (b.getD 8 0) (b.getD 9 0)) 4),cB .u64 (word (b.getD 9 0) (b.getD 10 0) (b.getD 11 0) (b.getD 12 0)) 6,word (b.getD 13 0) (b.getD 14 0) (b.getD 15 0) (b.getD 16 0)]
def num (b:List Int):List Int:=settled (kO b)
def Kz (b:List Int) (i:Nat):Int:=match i%4 with
 | 3=>bW .u8 (b.getD i 0) 15
 | 0=>match i with
   | 0=>b.getD i 0
   | _=>bW .u8 (b.getD i 0) 252
 | _=>b.getD i 0
def dR (b:List Int):List Int:=(List.range 16).map (Kz b)++[0]
def Nq (a b:List Int):List Int:=(List.range 5).map fun j=>W (a.getD j 0+b.getD j 0)
def add (a b:List Int):List Int:=settled (Nq a b)
def uN (a b:List Int) (i:Nat):Nat->List Int->List Int
 | 0,d=>d
 | k+1,d=>(uN a b i k d).set (i+k) (W ((uN a b i k d).getD (i+k) 0+W (a.getD i 0*b.getD k 0)))
def WZ (a b:List Int):Nat->List Int
 | 0=>List.replicate 10 0
 | i+1=>uN a b i 5 (WZ a b i)
def mulL (a b:List Int):List Int:=(List.range 5).map fun j=>W ((WZ a b 5).getD j 0+W (5*(WZ a b 5).getD (j+5) 0))
def mul (a b:List Int):List Int:=settled (mulL a b)
end P
namespace P
def g0 (t:List Int):Int:=W (t.getD 0 0+5)
def g1 (t:List Int):Int:=W (t.getD 1 0+sh (g0 t))
def g2 (t:List Int):Int:=W (t.getD 2 0+sh (g1 t))
def g3 (t:List Int):Int:=W (t.getD 3 0+sh (g2 t))
def g4 (t:List Int):Int:=W (t.getD 4 0+sh (g3 t))
def pick (x a b:Int):Int:=eZ .u64 b (bW .u64 (W (0-bW .u64 x 1)) (eZ .u64 a b))
def yP (t:List Int):List Int:=[pick (sh (g4 t)) (lo (g0 t)) (t.getD 0 0),pick (sh (g4 t)) (lo (g1 t)) (t.getD 1 0),pick (sh (g4 t)) (lo (g2 t)) (t.getD 2 0),pick (sh (g4 t)) (lo (g3 t)) (t.getD 3 0),pick (sh (g4 t)) (lo (g4 t)) (t.getD 4 0)]
def least (a:List Int):List Int:=yP (settled a)
def low (t:List Int):Int:=lD .u64 (lD .u64 (t.getD 0 0) (dK .u64 (t.getD 1 0) 26)) (dK .u64 (t.getD 2 0) 52)
def high (t:List Int):Int:=lD .u64 (lD .u64 (cB .u64 (t.getD 2 0) 12) (dK .u64 (t.getD 3 0) 14)) (dK .u64 (t.getD 4 0) 40)
def byteOf (x:Int) (i:Nat):Int:=IntKind.u8.wrap (cB .u64 x (8*(i:Int)))
def lY (t:List Int):List Int:=(List.range 8).map (byteOf (low t))++((List.range 8).map (byteOf (high t))++[IntKind.u8.wrap (cB .u64 (t.getD 4 0) 24)])
def acc (b:List Int) (k:Nat):Nat->Int
 | 0=>0
 | i+1=>lD .u64 (acc b k i) (dK .u64 (W (b.getD (k+i) 0)) (8*(i:Int)))
def HM (b s:List Int):Int:=(acc b 0 8+acc s 0 8+0)%18446744073709551616
def HN (b s:List Int):Int:=(acc b 8 8+acc s 8 8+(acc b 0 8+acc s 0 8+0)/18446744073709551616)%18446744073709551616
def aIg (b s:List Int):List Int:=(List.range 8).map (byteOf (HM b s))++(List.range 8).map (byteOf (HN b s))
end P
def P.tag (a s:List Int):List Int:=P.aIg (P.lY (P.least a)) s
structure P.MS where
 eW:List Int
 sum:List Int
 mask:List Int
 aN:List Int
 held:Nat
def P.plus (s b y:List Int):List Int:=P.mul (P.add s (P.num b)) y
namespace P
def oX:List Int:=List.replicate 16 0
def byte (S:MS) (c:Int):MS:=
 if S.held=15 then ⟨S.eW,plus S.sum (S.aN.set S.held c++[1]) S.eW,S.mask,oX,0⟩
 else ⟨S.eW,S.sum,S.mask,S.aN.set S.held c,S.held+1⟩
def put (S:MS) (d:List Int):MS:=d.foldl byte S
theorem aBf (S:MS):put S []=S:=rfl
theorem mF (S:MS) (a b:List Int):put S (a++b)=put (put S a) b:=List.foldl_append
structure MS.WF (S:MS):Prop where
 b5:S.eW.length=5
 s5:S.sum.length=5
 Rj:S.mask.length=16
 Rl:S.aN.length=16
 hl:S.held<16
 z:S.aN.drop S.held=List.replicate (16-S.held) 0
theorem aFv {S:MS} (h:S.WF) (c:Int):(byte S c).WF:=by
 obtain ⟨eW,sum,mask,aN,held⟩:=S
 obtain ⟨h1,h2,h3,h4,h5,h6⟩:=h
 simp only at h1 h2 h3 h4 h5 h6
 unfold byte
 simp only
 split
 .exact ⟨h1,rfl,h3,rfl,by simp only;omega,rfl⟩
 .refine ⟨h1,h2,h3,by simpa using h4,by simp only;omega,?_⟩
  simp only
  have e:(aN.set held c).drop (held+1)=aN.drop (held+1):=by
   rw [List.drop_set];simp
  rw [e,<- List.drop_drop,h6,List.drop_replicate]
  congr 1
theorem Kn {S:MS} (h:S.WF) (d:List Int):(put S d).WF:=by
 induction d generalizing S with
 | nil=>exact h
 | cons c d ih=>exact ih (aFv h c)
theorem wE (eW sum mask:List Int):∀ (d aN:List Int) (held:Nat),aN.length=16->held+d.length<16 ->
 put ⟨eW,sum,mask,aN,held⟩ d=⟨eW,sum,mask,aN.take held++d++aN.drop (held+d.length),held+d.length⟩
 | [],aN,held,hb,_=>by simp [put]
 | c::d,aN,held,hb,hl=>by
   rw [List.length_cons] at hl
   have e:put ⟨eW,sum,mask,aN,held⟩ (c::d)=put ⟨eW,sum,mask,aN.set held c,held+1⟩ d:=by
    show put (byte _ c) d=_
    unfold byte
    rw [if_neg (by simp only;omega)]
   rw [e,wE eW sum mask d (aN.set held c) (held+1) (by simpa using hb) (by omega)]
   have e1:(aN.set held c).take (held+1)=aN.take held++[c]:=by
    rw [List.take_set,List.take_add_one,List.getElem?_eq_getElem (show held<aN.length by omega)]
    apply List.ext_getElem
    .simp;omega
    .intro i h1 h2
     simp only [List.length_set,List.length_append,List.length_take,List.length_cons,List.length_nil] at h1 h2
     by_cases hi:i=held
     .subst hi;simp [List.getElem_append];omega
     .rw [List.getElem_set_ne (by omega)]
      have:i<held:=by simp at h1;omega
      simp [List.getElem_append]
      intro h;omega
   have e2:(aN.set held c).drop (held+1+d.length)=aN.drop (held+1+d.length):=by
    rw [List.drop_set,if_pos (by omega)]
   rw [e1,e2,List.length_cons]
   simp only [List.append_assoc,List.cons_append,zzv,show held+1+d.length=held+(d.length+1) by omega]
theorem Es (eW sum mask:List Int) (d aN:List Int) (held:Nat) (hb:aN.length=16) (hl:held+d.length=16) (hd:d≠[]) :
 put ⟨eW,sum,mask,aN,held⟩ d=⟨eW,plus sum (aN.take held++d++[1]) eW,mask,oX,0⟩:=by
 obtain ⟨a,c,rfl⟩:∃ a c,d=a++[c]:=⟨d.dropLast,d.getLast hd,(List.dropLast_concat_getLast hd).symm⟩
 rw [List.length_append,List.length_singleton] at hl
 rw [mF,wE eW sum mask a aN held hb (by omega)]
 show byte _ c=_
 unfold byte
 rw [if_pos (by simp only;omega)]
 simp only
 have e:(aN.take held++a++aN.drop (held+a.length)).set (held+a.length) c=aN.take held++(a++[c]):=by
  have cM:(aN.take held++a).length=held+a.length:=by simp;omega
  obtain ⟨z,hz⟩:∃ z,aN.drop (held+a.length)=[z]:=by
   have:(aN.drop (held+a.length)).length=1:=by simp;omega
   match aN.drop (held+a.length),this with
   | [z],_=>exact ⟨z,rfl⟩
  rw [hz,List.set_append_right _ _ (by omega),cM,Nat.sub_self]
  simp
 rw [e]
end P
theorem aZs (x:List Int):aF (env fD 3) Tryz.f202 true [] 1500 [.agg (cI .u64 5 x)] Fz 100 100=some { val:=.agg ((P.settled x).map (.int false .u64)) }:=by kernel_rfl
theorem YV (x:List Int) (hl:x.length=5) (Γ:Env) (hg:Γ.aT=aB):aE Tryz.prog Γ 202 [.ai .u64 x] Fz 100 100 { val:=.agg (cI .u64 5 (P.settled x)) }:=by
 have hs:aI Tryz.prog (env fD 3) 202 (aF (env fD 3) Tryz.f202 true [] 1500):=aM (bP fD 3) (bV fD (fun f S h Γ _=>qC f S h Γ) 3) mix Tryz.func202 (by kernel_rfl) true [] 1500
 refine (hs.call (aZs x) (by simp)).words (by rw [hg];rfl) (fun V=>?_) (fun _ _ h=>h) (fun V=>(lA V _ _).trans (bB V rfl).symm) rfl rfl
 simp only [aG,bB V hl]
def HO (gE:List Int->List Int) (vs:List SV) (_:bA):Option Canon:=match vs with
 | [v]=>match cJ v with
   | some (.u64,x)=>some { eN:=[.ai .u64 x],T0:=[],vl:=[],e0:={ val:=.agg (cI .u64 5 (gE x)) },conds:=[x.length=5,gE x=P.settled x] }
   | _=>none
 | _=>none
theorem aKz (gE:List Int->List Int) (Γ:Env) (hg:Γ.aT=aB):aI Tryz.prog Γ 202 (aL aB 100 (HO gE)):=by
 refine aW hg fun vs T c hd hc=>?_
 unfold HO at hd
 split at hd
 case h_2=>cases hd
 split at hd
 case h_2=>cases hd
 cases hd
 have e:=hc _ (zzO _ zzC)
 have h:=YV _ (hc _ zzC) Γ hg
 rw [<- e] at h
 exact h
noncomputable def Sq (gE:List Int->List Int):Nat->Option Sum:=dO fD 202 (aL aB 100 (HO gE))
theorem aEr (gE:List Int->List Int):∀ f S,Sq gE f=some S->∀ Γ:Env,Γ.aT=aB->aI Tryz.prog Γ f S:=bE gY 202 _ (aKz gE)
def pOb (gE:List Int->List Int) (Y:List Int):List Prop:=[Y.length=5,gE Y=P.settled Y,Y=Y]
def pV (gE:List Int->List Int) (Y:List Int):SV:=.agg (cI .u64 5 (gE Y))
theorem bFm (gE:List Int->List Int) (b:List Int):aF (env (Sq gE) 4) Tryz.f173 true [] 1500 [.agg (cI .u8 17 b)] Fz 100 100=some { bK:=pOb gE (P.kO b),val:=pV gE (P.kO b) }:=by kernel_rfl
theorem bFj (gE:List Int->List Int) (b:List Int):aF (env (Sq gE) 4) Tryz.f126 true [] 1500 [.agg (cI .u8 16 b)] Fz 100 100=some { bK:=pOb gE (P.kO (P.dR b)),val:=pV gE (P.kO (P.dR b)) }:=by kernel_rfl
theorem bAv (gE:List Int->List Int) (a b:List Int):aF (env (Sq gE) 4) Tryz.f172 true [] 1500 [.raw (.pointer none),.agg (cI .u64 5 a),.agg (cI .u64 5 b)] Fz 100 100=some { bK:=pOb gE (P.Nq a b),val:=pV gE (P.Nq a b) }:=by kernel_rfl
theorem bAt (gE:List Int->List Int) (a b:List Int):aF (env (Sq gE) 4) Tryz.f171 true [] 1500 [.raw (.pointer none),.agg (cI .u64 5 a),.agg (cI .u64 5 b)] Fz 100 100=some { bK:=pOb gE (P.mulL a b),val:=pV gE (P.mulL a b) }:=by kernel_rfl
theorem Ed {Y:List Int} (h:Y.length=5):∀ q∈pOb P.settled Y,q:=aA (l:=pOb P.settled Y) (show _/\_/\_/\True from ⟨h,rfl,rfl,trivial⟩)
theorem Xe (V:aZ) (Y:List Int):den V (pV P.settled Y)=den V (.ai .u64 (P.settled Y)):=bB V rfl
noncomputable def Ak:Env:=env (Sq P.settled) 4
theorem vY:cK Tryz.prog Ak:=bV _ (aEr _) 4
theorem vX:cC Tryz.prog Ak:=bP _ 4
theorem aFz (b:List Int) (hl:b.length=17) (Γ:Env) (hg:Γ.aT=aB):aE Tryz.prog Γ 173 [.ai .u8 b] Fz 100 100 { val:=.ai .u64 (P.num b) }:=by
 have hs:aI Tryz.prog Ak 173 (aF Ak Tryz.f173 true [] 1500):=aM vX vY mix Tryz.func173 (by kernel_rfl) true [] 1500
 refine (hs.call (bFm _ b) (Ed rfl)).words (by rw [hg];rfl) (fun V=>?_) (fun _ _ h=>h) (fun V=>Xe V _) rfl rfl
 simp only [aG,bB V hl]
theorem SZ (b:List Int) (hl:b.length=16) (Γ:Env) (hg:Γ.aT=aB):aE Tryz.prog Γ 126 [.ai .u8 b] Fz 100 100 { val:=.ai .u64 (P.num (P.dR b)) }:=by
 have hs:aI Tryz.prog Ak 126 (aF Ak Tryz.f126 true [] 1500):=aM vX vY mix Tryz.func126 (by kernel_rfl) true [] 1500
 refine (hs.call (bFj _ b) (Ed rfl)).words (by rw [hg];rfl) (fun V=>?_) (fun _ _ h=>h) (fun V=>Xe V _) rfl rfl
 simp only [aG,bB V hl]
theorem NX (a b:List Int) (ha:a.length=5) (hb:b.length=5) (Γ:Env) (hg:Γ.aT=aB):aE Tryz.prog Γ 172 [.raw (.pointer none),.ai .u64 a,.ai .u64 b] Fz 100 100 { val:=.ai .u64 (P.add a b) }:=by
 have hs:aI Tryz.prog Ak 172 (aF Ak Tryz.f172 true [] 1500):=aM vX vY mix Tryz.func172 (by kernel_rfl) true [] 1500
 refine (hs.call (bAv _ a b) (Ed rfl)).words (by rw [hg];rfl) (fun V=>?_) (fun _ _ h=>h) (fun V=>Xe V _) rfl rfl
 simp only [aG,bB V ha,bB V hb]
theorem NU (a b:List Int) (ha:a.length=5) (hb:b.length=5) (Γ:Env) (hg:Γ.aT=aB):aE Tryz.prog Γ 171 [.raw (.pointer none),.ai .u64 a,.ai .u64 b] Fz 100 100 { val:=.ai .u64 (P.mul a b) }:=by
 have hs:aI Tryz.prog Ak 171 (aF Ak Tryz.f171 true [] 1500):=aM vX vY mix Tryz.func171 (by kernel_rfl) true [] 1500
 refine (hs.call (bAt _ a b) (Ed rfl)).words (by rw [hg];rfl) (fun V=>?_) (fun _ _ h=>h) (fun V=>Xe V _) rfl rfl
 simp only [aG,bB V ha,bB V hb]
def agV (x:List Int):SV:=.agg (cI .u64 5 x)
def aiV (x:List Int):SV:=.ai .u64 x
def KR (be:List Int->List Int) (vs:List SV) (_:bA):Option Canon:=match vs with
 | [v]=>match cJ v with
   | some (.u8,b)=>some { eN:=[.ai .u8 b],T0:=[],vl:=[],e0:={ val:=.ai .u64 (be b) },conds:=[b.length=17,be b=P.num b] }
   | _=>none
 | _=>none
def Xq (cp:List Int->List Int) (vs:List SV) (_:bA):Option Canon:=match vs with
 | [v]=>match cJ v with
   | some (.u8,b)=>some { eN:=[.ai .u8 b],T0:=[],vl:=[],e0:={ val:=agV (cp b) },conds:=[b.length=16,cp b=P.num (P.dR b)] }
   | _=>none
 | _=>none
def Xf (wv:List Int->SV) (g g':List Int->List Int->List Int) (vs:List SV) (_:bA):Option Canon:=match vs with
 | [.raw (.pointer none),v,u]=>match cJ v,cJ u with
   | some (.u64,a),some (.u64,b)=>some { eN:=[.raw (.pointer none),.ai .u64 a,.ai .u64 b],T0:=[],vl:=[],e0:={ val:=wv (g a b) },conds:=[a.length=5,b.length=5,g a b=g' a b] }
   | _,_=>none
 | _=>none
theorem aQq (be:List Int->List Int) (Γ:Env) (hg:Γ.aT=aB):aI Tryz.prog Γ 173 (aL aB 100 (KR be)):=by
 refine aW hg fun vs T c hd hc=>?_
 unfold KR at hd
 split at hd
 case h_2=>cases hd
 split at hd
 case h_2=>cases hd
 cases hd
 have e:=hc _ (zzO _ zzC)
 have h:=aFz _ (hc _ zzC) Γ hg
 rw [<- e] at h
 exact h
theorem MR (cp:List Int->List Int) (Γ:Env) (hg:Γ.aT=aB):aI Tryz.prog Γ 126 (aL aB 100 (Xq cp)):=by
 refine aW hg fun vs T c hd hc=>?_
 unfold Xq at hd
 split at hd
 case h_2=>cases hd
 split at hd
 case h_2=>cases hd
 cases hd
 have e:=hc _ (zzO _ zzC)
 have h:=(SZ _ (hc _ zzC) Γ hg).words (e':={ val:=agV (P.num (P.dR _)) }) rfl (fun _=>rfl) (fun _ _ h=>h) (fun V=>(bB V (P.nT _)).symm) rfl rfl
 rw [<- e] at h
 exact h
theorem aHb {wv:List Int->SV} {g':List Int->List Int->List Int} {f:Nat} (hw:∀ (V:aZ) (a b:List Int),den V (.ai .u64 (g' a b))=den V (wv (g' a b))) (g:List Int->List Int->List Int)
 (hN:∀ (a b:List Int),a.length=5->b.length=5->∀ (Γ:Env),Γ.aT=aB->aE Tryz.prog Γ f [.raw (.pointer none),.ai .u64 a,.ai .u64 b] Fz 100 100 { val:=.ai .u64 (g' a b) })
 (Γ:Env) (hg:Γ.aT=aB):aI Tryz.prog Γ f (aL aB 100 (Xf wv g g')):=by
 refine aW hg fun vs T c hd hc=>?_
 unfold Xf at hd
 split at hd
 .split at hd
  case h_2=>cases hd
  cases hd
  have e:=hc _ (zzO _ (zzO _ zzC))
  have h:=(hN _ _ (hc _ zzC) (hc _ (zzO _ zzC)) Γ hg).words (e':={ val:=wv (g' _ _) }) rfl (fun _=>rfl) (fun _ _ h=>h) (fun V=>hw V _ _) rfl rfl
  rw [<- e] at h
  exact h
 .cases hd
noncomputable def aSs (be:List Int->List Int) (al mu:List Int->List Int->List Int):Nat->Option Sum:=dO (dO (dO (dO (dO fD 77 (aL aB 100 uP)) 173 (aL aB 100 (KR be))) 126 (aL aB 100 (Xq fun b=>P.num (P.dR b)))) 172 (aL aB 100 (Xf aiV al P.add))) 171 (aL aB 100 (Xf agV mu P.mul))
theorem aEq (be:List Int->List Int) (al mu:List Int->List Int->List Int):∀ f S,aSs be al mu f=some S->∀ Γ:Env,Γ.aT=aB->aI Tryz.prog Γ f S:=
 bE (bE (bE (bE (bE gY 77 _ Eg) 173 _ (aQq be)) 126 _ (MR _)) 172 _ (aHb (fun _ _ _=>rfl) al NX)) 171 _ (aHb (fun V a b=>(bB V (P.nT _)).symm) mu NU)
theorem bAu (gE:List Int->List Int) (a:List Int):aF (env (Sq gE) 4) Tryz.f204 true [] 1500 [.agg (cI .u64 5 a)] Fz 100 100=some { bK:=pOb gE ((List.range 5).map fun j=>a.getD j 0),val:=.agg ((P.yP (gE ((List.range 5).map fun j=>a.getD j 0))).map (.int false .u64)) }:=by kernel_rfl
theorem aBi (a:List Int) (ha:a.length=5) (Γ:Env) (hg:Γ.aT=aB):aE Tryz.prog Γ 204 [.ai .u64 a] Fz 100 100 { val:=.agg (cI .u64 5 (P.least a)) }:=by
 have hs:aI Tryz.prog Ak 204 (aF Ak Tryz.f204 true [] 1500):=aM vX vY mix Tryz.func204 (by kernel_rfl) true [] 1500
 have e:(List.range 5).map (fun j=>a.getD j 0)=a:=by
  match a,ha with
  | [_,_,_,_,_],_=>rfl
 have h:=bAu P.settled a
 rw [e] at h
 refine (hs.call h (Ed ha)).words (by rw [hg];rfl) (fun V=>?_) (fun _ _ h=>h) (fun V=>(lA V _ _).trans (bB V rfl).symm) rfl rfl
 simp only [aG,bB V ha]
def Tq (nW:List Int->List Int) (vs:List SV) (_:bA):Option Canon:=match vs with
 | [v]=>match cJ v with
   | some (.u64,a)=>some { eN:=[.ai .u64 a],T0:=[],vl:=[],e0:={ val:=.agg (cI .u64 5 (nW a)) },conds:=[a.length=5,nW a=P.least a] }
   | _=>none
 | _=>none
theorem aNo (nW:List Int->List Int) (Γ:Env) (hg:Γ.aT=aB):aI Tryz.prog Γ 204 (aL aB 100 (Tq nW)):=by
 refine aW hg fun vs T c hd hc=>?_
 unfold Tq at hd
 split at hd
 case h_2=>cases hd
 split at hd
 case h_2=>cases hd
 cases hd
 have e:=hc _ (zzO _ zzC)
 have h:=aBi _ (hc _ zzC) Γ hg
 rw [<- e] at h
 exact h
noncomputable def XR (nW:List Int->List Int):Nat->Option Sum:=dO fD 204 (aL aB 100 (Tq nW))
theorem aEp (nW:List Int->List Int):∀ f S,XR nW f=some S->∀ Γ:Env,Γ.aT=aB->aI Tryz.prog Γ f S:=bE gY 204 _ (aNo nW)
def aIi (b s:List Int):List Prop:=[0<=P.acc b 8 8/\0<=P.acc s 8 8/\0<=(P.acc b 0 8+P.acc s 0 8+0)/18446744073709551616/\(P.acc b 0 8+P.acc s 0 8+0)/18446744073709551616<=1,0<=P.acc b 0 8/\0<=P.acc s 0 8/\(0:Int)<=0/\(0:Int)<=1]
def c5 (a:List Int):List Int:=(List.range 5).map fun j=>a.getD j 0
theorem bAr (nW:List Int->List Int) (a s:List Int):aF (env (XR nW) 4) Tryz.f129 true [] 3000 [.agg (cI .u64 5 a),.agg (cI .u8 16 s)] Fz 100 100 =
 some { bK:=aIi (P.lY (nW (c5 a))) s++[(c5 a).length=5,nW (c5 a)=P.least (c5 a),c5 a=c5 a],val:=.agg ((P.aIg (P.lY (nW (c5 a))) s).map (.int false .u8)) }:=by kernel_rfl
theorem P.aYw (n:Int):0<=IntKind.u64.wrap n/\IntKind.u64.wrap n<18446744073709551616:=by
 have e:IntKind.u64.wrap n=n%18446744073709551616:=rfl
 rw [e];omega
theorem P.Cb (b:List Int) (k:Nat):∀ n,0<=P.acc b k n/\P.acc b k n<18446744073709551616
 | 0=>⟨Int.le_refl 0,(by decide:(0:Int)<18446744073709551616)⟩
 | _+1=>P.aYw _
theorem YY (b s:List Int):∀ q∈aIi b s,q:=by
 have h1:=P.Cb b 0 8
 have h2:=P.Cb s 0 8
 have h3:=P.Cb b 8 8
 have h4:=P.Cb s 8 8
 refine aA (l:=aIi b s) (show _/\_/\True from ⟨⟨h3.1,h4.1,?_,?_⟩,⟨h1.1,h2.1,Int.le_refl 0,by decide⟩,trivial⟩)
 .omega
 .omega
theorem aBe (a s:List Int) (ha:a.length=5) (Gb:s.length=16) (Γ:Env) (hg:Γ.aT=aB):aE Tryz.prog Γ 129 [.ai .u64 a,.ai .u8 s] Fz 100 100 { val:=.agg (cI .u8 16 (P.tag a s)) }:=by
 have hs:aI Tryz.prog (env (XR P.least) 4) 129 (aF (env (XR P.least) 4) Tryz.f129 true [] 3000):=aM (bP _ 4) (bV _ (aEp _) 4) mix Tryz.func129 (by kernel_rfl) true [] 3000
 have e:c5 a=a:=by
  match a,ha with
  | [_,_,_,_,_],_=>rfl
 have h:=bAr P.least a s
 rw [e] at h
 refine (hs.call h (fun q hq=>(List.mem_append.1 hq).elim (YY _ _ q) (aA (l:=[a.length=5,P.least a=P.least a,a=a]) (show _/\_/\_/\True from ⟨ha,rfl,rfl,trivial⟩) q))).words (by rw [hg];rfl) (fun V=>?_) (fun _ _ h=>h) (fun V=>(lA V _ _).trans (bB V (k:=.u8) (n:=16) (xs:=P.tag a s) rfl).symm) rfl rfl
 simp only [aG,bB V ha,bB V Gb]
def Xd (vs:List SV) (_:bA):Option Canon:=match vs with
 | [v,u]=>match cJ v,cJ u with
   | some (.u64,a),some (.u8,s)=>some { eN:=[.ai .u64 a,.ai .u8 s],T0:=[],vl:=[],e0:={ val:=.agg (cI .u8 16 (P.tag a s)) },conds:=[a.length=5,s.length=16] }
   | _,_=>none
 | _=>none
theorem LM (Γ:Env) (hg:Γ.aT=aB):aI Tryz.prog Γ 129 (aL aB 100 Xd):=by
 refine aW hg fun vs T c hd hc=>?_
 unfold Xd at hd
 split at hd
 case h_2=>cases hd
 split at hd
 case h_2=>cases hd
 cases hd
 exact aBe _ _ (hc _ (by simp)) (hc _ (by simp)) Γ hg
noncomputable def aHv (be:List Int->List Int) (al mu:List Int->List Int->List Int):Nat->Option Sum:=dO (aSs be al mu) 129 (aL aB 100 Xd)
theorem SF (be:List Int->List Int) (al mu:List Int->List Int->List Int):∀ f S,aHv be al mu f=some S->∀ Γ:Env,Γ.aT=aB->aI Tryz.prog Γ f S:=bE (aEq be al mu) 129 _ LM
theorem aE.same {P:Program} {Γ:Env} {f:FuncId} {vs:List SV} {T:bA} {lab F l0:Nat} {B:SB} {e:bL} (h:aE P Γ f vs T lab F e) (hT:T l0=some B) (hn:look l0 (e.eI lab)=none) :
 aE P Γ f vs T lab F { e with wr:=(l0,B)::e.wr }:=by
 intro w0 M V T2 w ys aK hT1 hg hf hF hx op a K Q hK
 refine h w0 M V T2 w ys aK hT1 hg hf hF hx op a K Q fun V' x w' h1 h2 h3=>hK V' x w' h1 h2 ?_
 have e1:eG T2 lab { e with wr:=(l0,B)::e.wr }=eG T2 lab e:=by
  funext l
  simp only [eG,bL.eI,List.cons_append] at hn |-
  by_cases q:l=l0
  .subst q;rw [aH,hn,aK l B hT]
  .rw [aD (fun r=>q r.symm)]
 rw [e1]
 exact h3
noncomputable def GC (be:List Int->List Int) (al mu:List Int->List Int->List Int):Env:=env (aHv be al mu) 4
theorem YE (be:List Int->List Int) (al mu:List Int->List Int->List Int):cC Tryz.prog (GC be al mu):=bP _ 4
theorem YF (be:List Int->List Int) (al mu:List Int->List Int->List Int):cK Tryz.prog (GC be al mu):=bV _ (SF be al mu) 4
def mN (S:P.MS):List SV:=.raw (.pointer none)::(cI .u64 5 S.eW++(cI .u64 5 S.sum++(cI .u8 16 S.mask++(cI .u8 16 S.aN++[.int false .i64 (S.held:Int)]))))
def mnL (S:P.MS):List (Nat × SB):=[(60,.own (mN S) 182)]
def mnT (S:P.MS):bA:=fun l=>look l (mnL S)
def mtL (S:P.MS) (d:List Int):List (Nat × SB):=[(60,.own (mN S) 182),(61,.gL .u8 d)]
def TU (S:P.MS) (d:List Int):bA:=fun l=>look l (mtL S d)
def AS (b:List Int):List Int:=(List.range 17).map fun j=>b.getD j 0
def plX (be:List Int->List Int) (al mu:List Int->List Int->List Int) (S:P.MS) (s b:List Int):List Int:=mu (al (c5 s) (be (AS b))) (c5 S.eW)
def pnO (be:List Int->List Int) (al mu:List Int->List Int->List Int) (S:P.MS) (s b:List Int):List Prop:=
 let A:=al (c5 s) (be (AS b))
 [A.length=5,(c5 S.eW).length=5,mu A (c5 S.eW)=P.mul A (c5 S.eW),A=A,c5 S.eW=c5 S.eW,
  (c5 s).length=5,(be (AS b)).length=5,al (c5 s) (be (AS b))=P.add (c5 s) (be (AS b)),c5 s=c5 s,be (AS b)=be (AS b),
  (AS b).length=17,be (AS b)=P.num (AS b),AS b=AS b]
theorem bAs (be:List Int->List Int) (al mu:List Int->List Int->List Int) (S:P.MS) (s b:List Int):aF (GC be al mu) Tryz.f128 true [] 1500 [.ptr 60 true 0,.agg (cI .u64 5 s),.agg (cI .u8 17 b)] (mnT S) 100 100 =
 some { bK:=pnO be al mu S s b,val:=agV (plX be al mu S s b) }:=by kernel_rfl
theorem jK {a:List Int} (ha:a.length=5):c5 a=a:=by
 match a,ha with
 | [_,_,_,_,_],_=>rfl
theorem MT {a:List Int} (ha:a.length=17):AS a=a:=by
 match a,ha with
 | [_,_,_,_,_,_,_,_,_,_,_,_,_,_,_,_,_],_=>rfl
def VC (x:SV) (S:P.MS):bL:={ val:=x,wr:=[(60,.own (mN S) 182)] }
theorem aBh (S:P.MS) (s b:List Int) (hS:S.eW.length=5) (hs5:s.length=5) (hb:b.length=17) (Γ:Env) (hg:Γ.aT=aB) :
 aE Tryz.prog Γ 128 [.ptr 60 true 0,.ai .u64 s,.ai .u8 b] (mnT S) 100 100 (VC (agV (P.plus s b S.eW)) S):=by
 have hs:aI Tryz.prog (GC P.num P.add P.mul) 128 (aF (GC P.num P.add P.mul) Tryz.f128 true [] 1500):=aM (YE _ _ _) (YF _ _ _) mix Tryz.func128 (by kernel_rfl) true [] 1500
 have h:=hs.call (bAs P.num P.add P.mul S s b) (by
  rw [pnO,jK hS,jK hs5,MT hb]
  exact aA (show _/\_/\_/\_/\_/\_/\_/\_/\_/\_/\_/\_/\_/\True from ⟨rfl,hS,rfl,rfl,rfl,hs5,rfl,rfl,rfl,rfl,hb,rfl,rfl,trivial⟩))
 rw [plX,jK hS,jK hs5,MT hb] at h
 refine (h.same (l0:=60) (by simp only [mnT,mnL,aH]) rfl).words (by rw [hg];rfl) (fun V=>?_) (fun _ _ h=>h) (fun V=>rfl) rfl rfl
 simp only [aG,bB V hs5,bB V hb]
def msN (cs:List SV):Option P.MS:=match cs with
 | .raw (.pointer none)::r=>match dA .u64 (r.take 5),dA .u64 ((r.drop 5).take 5),dA .u8 ((r.drop 10).take 16),dA .u8 ((r.drop 26).take 16),r.drop 42 with
   | some b,some s,some m,some k,[.int _ .i64 h]=>some ⟨b,s,m,k,h.toNat⟩
   | _,_,_,_,_=>none
 | _=>none
def P.nf (S:P.MS):P.MS:=⟨c5 S.eW,c5 S.sum,cN 16 S.mask,cN 16 S.aN,(S.held:Int).toNat⟩
def II (pl:List Int->List Int->List Int->List Int) (vs:List SV) (T:bA):Option Canon:=match vs with
 | [.ptr l _ _,v,u]=>match T l,cJ v,cJ u with
   | some (.own cs ty),some (.u64,s),some (.u8,b)=>match Nat.beq ty 182,msN cs with
     | true,some S=>some { eN:=[.ptr 60 true 0,.ai .u64 s,.ai .u8 b],T0:=mnL S,vl:=[(60,.lab l 0)],e0:=VC (agV (pl s b S.eW)) S,conds:=[pl s b S.eW=P.plus s b S.eW,S.eW.length=5,s.length=5,b.length=17] }
     | _,_=>none
   | _,_,_=>none
 | _=>none
theorem aMs (pl:List Int->List Int->List Int->List Int) (Γ:Env) (hg:Γ.aT=aB):aI Tryz.prog Γ 128 (aL aB 100 (II pl)):=by
 refine aW hg fun vs T c hd hc=>?_
 unfold II at hd
 split at hd
 case h_2=>cases hd
 split at hd
 case h_2=>cases hd
 split at hd
 case h_2=>cases hd
 cases hd
 have e:=hc _ zzC
 have h:=aBh _ _ _ (hc _ (zzO _ zzC)) (hc _ (zzO _ (zzO _ zzC))) (hc _ (zzO _ (zzO _ (zzO _ zzC)))) Γ hg
 rw [<- e] at h
 exact h
noncomputable def aJm (pl:List Int->List Int->List Int->List Int):Nat->Option Sum:=dO (dO fD 77 (aL aB 100 uP)) 128 (aL aB 100 (II pl))
theorem Zm (pl:List Int->List Int->List Int->List Int):∀ f S,aJm pl f=some S->∀ Γ:Env,Γ.aT=aB->aI Tryz.prog Γ f S:=bE (bE gY 77 _ Eg) 128 _ (aMs pl)
def qM (b s:List Int) (mk bk:Nat->Int) (h:Int) (S':P.MS):List Prop:=
 ((List.range 5).map fun j=>b.getD j 0=S'.eW.getD j 0)++(((List.range 5).map fun j=>s.getD j 0=S'.sum.getD j 0)++(((List.range 16).map fun j=>mk j=S'.mask.getD j 0)++(((List.range 16).map fun j=>bk j=S'.aN.getD j 0)++[h=(S'.held:Int)])))
def qMS (S S':P.MS):List Prop:=qM S.eW S.sum (S.mask.getD · 0) (S.aN.getD · 0) S.held S'
def tkG (pl:List Int->List Int->List Int->List Int) (y s:List Int) (mk bk:Nat->Int) (h:Int) (N:P.MS) (b:List Int) (r:List Prop):List Prop:=
 (pl (c5 s) b (c5 y)=P.plus (c5 s) b (c5 y))::((c5 y).length=5)::((c5 s).length=5)::(b.length=17)::(c5 s=c5 s)::(b=b)::(qM y s mk bk h N++r)
def tkD (d:List Int):List Int:=(d.take 16).take ((d.take 16).length.min 16)
def WA (d:List Int):List Int:=(List.replicate 17 0).take 0++tkD d++(List.replicate 17 0).drop (0+(tkD d).length)
def tqL (d:List Int):List Int:=(WA d).set 16 1
noncomputable def Ry (pl:List Int->List Int->List Int->List Int):Env:=env (aJm pl) 4
theorem Xy (pl:List Int->List Int->List Int->List Int):cC Tryz.prog (Ry pl):=bP _ 4
theorem Xz (pl:List Int->List Int->List Int->List Int):cK Tryz.prog (Ry pl):=bV _ (Zm pl) 4
def GD (n:Nat):List SV:=[.ptr 60 true 0,.eH 61 n]
def Co (n:Nat):List (Nat × SV):=[(0,.ptr 60 true 0),(1,.eH 100 n)]
noncomputable def mwM (pl:List Int->List Int->List Int->List Int) (S:P.MS) (d:List Int) (cf:Cf) (K:List Fr) (s:St):Option oY:=gV (Ry pl) (aY 100 (TU S d)) 100 Tryz.f84.ntmps [8] 400 3000 cf K s
def Cx (S:P.MS) (d:List Int):List (Nat × SB):=[(60,.own (mN S) 182),(100,.gL .u8 d)]
noncomputable def mwR:Option oY:=mwM (fun a _ _=>a) ⟨[],[],[],[],0⟩ [] (.go (codeOf Tryz.f84)) [] ((zL (GD 0) 100).hint [false])
noncomputable def AZ:Code:=Df mwR
noncomputable def mwK:List Fr:=De mwR
def gT (h:Nat):Bool:=decide ((h:Int)>0)
def mM (d:List Int) (h:Nat):Nat:=d.length.min (16-(h:Int).toNat)
def hq (h m:Nat):Int:=IntKind.i64.wrap ((h:Int)+(m:Int))
def oM (h:Nat):Nat:=if (16:Int)=(h:Int) then 27 else 27+(h:Int).toNat*1
def spM (S:P.MS) (d:List Int) (o m:Nat):List Int:=(cN 16 S.mask++cN 16 S.aN).take (o-11)++d.take m++(cN 16 S.mask++cN 16 S.aN).drop (o-11+(d.take m).length)
def mcO (h n m:Nat) (d:List Int) (r:List Prop):List Prop:=
 (0<=(m:Int)/\(m:Int)<=(n:Int)/\(n:Int)<=(n:Int))::(11<=oM h/\oM h+(d.take m).length<=11+32)::((0:Int)<=16/\(16:Int)<=(16:Nat)/\(0:Int)<=16/\(16:Int)<=16/\0<=(h:Int)/\(h:Int)<=16) ::
  (gT h=true)::(gT h=gT h)::r
theorem bCc (pl:List Int->List Int->List Int->List Int) (S S':P.MS) (d d':List Int) (n n':Nat):cW 100 Tryz.f84.ntmps (aY 100 (TU S d)) [.ali 1] (Co n') (Cx S' d') 101 [60] [] (mwM pl S d (.go (codeOf Tryz.f84)) [] ((zL (GD n) 100).hint [false])) =
 some (.go (.loop AZ),mwK,(gT S.held=false)::(gT S.held=gT S.held)::(n=n')::(qMS S S'++[d=d'])):=by kernel_rfl
theorem bCb (pl:List Int->List Int->List Int->List Int) (S S':P.MS) (d d':List Int) (n n':Nat):cW 100 Tryz.f84.ntmps (aY 100 (TU S d)) [.ali 1] (Co n') (Cx S' d') 101 [60] [] (mwM pl S d (.go (codeOf Tryz.f84)) [] ((zL (GD n) 100).hint [true,false])) =
 some (.go (.loop AZ),mwK,((hq S.held (mM d S.held)==16)=false)::((hq S.held (mM d S.held)==16)=(hq S.held (mM d S.held)==16))::(mcO S.held n (mM d S.held) d (((n:Int).toNat-(mM d S.held:Int).toNat=n') ::
  (qM S.eW S.sum (fun j=>(spM S d (oM S.held) (mM d S.held)).getD j 0) (fun j=>(spM S d (oM S.held) (mM d S.held)).getD (16+j) 0) (hq S.held (mM d S.held)) S' ++
   [(d.drop (mM d S.held:Int).toNat).take ((n:Int).toNat-(mM d S.held:Int).toNat)=d'])))):=by kernel_rfl
def Wp (f:Nat->Int):List Int:=(List.range 16).map f
def spJ (S:P.MS) (d:List Int) (j:Nat):Int:=(spM S d (oM S.held) (mM d S.held)).getD j 0
def spN (S:P.MS) (d:List Int):P.MS:=⟨c5 S.eW,c5 S.sum,Wp (spJ S d),Wp fun j=>spJ S d (16+j),(hq S.held (mM d S.held)).toNat⟩
def GG (S:P.MS) (d:List Int):List Int:=Wp (fun j=>spJ S d (16+j))++[1]
theorem bCa (pl:List Int->List Int->List Int->List Int) (S S':P.MS) (d d':List Int) (n n':Nat):cW 100 Tryz.f84.ntmps (aY 100 (TU S d)) [.ali 1] (Co n') (Cx S' d') 101 [60] [] (mwM pl S d (.go (codeOf Tryz.f84)) [] ((zL (GD n) 100).hint [true,true])) =
 some (.go (.loop AZ),mwK,tkG pl S.eW S.sum (spJ S d) (fun j=>spJ S d (16+j)) (hq S.held (mM d S.held)) (spN S d) (GG S d) (((hq S.held (mM d S.held)==16)=true)::((hq S.held (mM d S.held)==16)=(hq S.held (mM d S.held)==16))::(mcO S.held n (mM d S.held) d (((n:Int).toNat-(mM d S.held:Int).toNat=n') ::
  (qM S.eW (pl (c5 S.sum) (GG S d) (c5 S.eW)) (spJ S d) (fun _=>0) 0 S' ++
   [(d.drop (mM d S.held:Int).toNat).take ((n:Int).toNat-(mM d S.held:Int).toNat)=d']))))):=by kernel_rfl
def lT (n:Nat):Bool:=decide ((n:Int)>=16)
def d16 (d:List Int):List Int:=(d.drop (0:Int).toNat).take ((16:Int).toNat-(0:Int).toNat)
theorem bBy (pl:List Int->List Int->List Int->List Int) (S0 S S':P.MS) (d0 d d':List Int) (n n':Nat):cW 100 Tryz.f84.ntmps (aY 100 (TU S0 d0)) [] (Co n') (Cx S' d') 101 [60] [] (mwM pl S0 d0 (.go AZ) [] ((bM (Co n) (Cx S d) 101 [60] []).hint [false])) =
 some (.at (.exit 0),[],(lT n=false)::(lT n=lT n)::(n=n')::(qMS S S'++[d=d'])):=by kernel_rfl
theorem bBz (pl:List Int->List Int->List Int->List Int) (S0 S S':P.MS) (d0 d d':List Int) (n n':Nat):cW 100 Tryz.f84.ntmps (aY 100 (TU S0 d0)) [] (Co n') (Cx S' d') 101 [60] [] (mwM pl S0 d0 (.go AZ) [] ((bM (Co n) (Cx S d) 101 [60] []).hint [true])) =
 some (.at .normal,[],((0:Int)<=16/\(16:Int)<=(n:Int)/\(n:Int)<=(n:Int))::tkG pl S.eW S.sum (S.mask.getD · 0) (S.aN.getD · 0) S.held (P.nf S) (tqL (d16 d)) ([(tqL (d16 d)).length=17,16<(WA (d16 d)).length,(0:Nat)<=0/\0+(tkD (d16 d)).length<=17,16<=(d16 d).length,16<=16,(0:Int)<=0/\(0:Int)<=16/\(16:Int)<=(n:Int)] ++
  (lT n=true)::(lT n=lT n)::((n:Int).toNat-(16:Int).toNat=n') ::
  (qM S.eW (pl (c5 S.sum) (tqL (d16 d)) (c5 S.eW)) (S.mask.getD · 0) (S.aN.getD · 0) S.held S' ++
   [(d.drop (16:Int).toNat).take ((n:Int).toNat-(16:Int).toNat)=d']))):=by kernel_rfl
def gP (n:Nat):Bool:=decide ((n:Int)>0)
theorem bBw (pl:List Int->List Int->List Int->List Int) (S0 S:P.MS) (d0 d:List Int) (n:Nat):pY (Ry pl) (TU S0 d0) 100 100 Tryz.f84 [] (mwM pl S0 d0 (.at (.exit 0)) mwK ((bM (Co n) (Cx S d) 101 [60] []).hint [false])) =
 some { VC (.eP []) S with bK:=[gP n=false,gP n=gP n] }:=by kernel_rfl
def spE (S:P.MS) (d:List Int) (j:Nat):Int:=(spM S d 27 (d.length.min 16)).getD j 0
def spF (S:P.MS) (d:List Int):P.MS:=⟨S.eW,S.sum,Wp (spE S d),Wp fun j=>spE S d (16+j),d.length.min 16⟩
theorem bBx (pl:List Int->List Int->List Int->List Int) (S0 S:P.MS) (d0 d:List Int) (n:Nat):pY (Ry pl) (TU S0 d0) 100 100 Tryz.f84 [] (mwM pl S0 d0 (.at (.exit 0)) mwK ((bM (Co n) (Cx S d) 101 [60] []).hint [true])) =
 some { VC (.eP []) (spF S d) with bK:=[11<=27/\27+(d.take (d.length.min 16)).length<=11+32,gP n=true,gP n=gP n] }:=by kernel_rfl
namespace P
theorem iR {n:Int} (h:0<=n/\n<18446744073709551616):W n=n:=by
 show n%18446744073709551616=n
 omega
theorem tY {n:Int}:sh n=n/67108864:=by
 show n.fdiv (2^26)=_
 rw [Int.fdiv_eq_ediv_of_nonneg _ (by decide)]
 rfl
theorem pI {n:Int} (h:0<=n/\n<18446744073709551616):lo n=n%67108864:=by
 obtain ⟨h0,h1⟩:=h
 obtain ⟨m,rfl⟩:=zzT h0
 have hm:m<18446744073709551616:=by omega
 show ((BitVec.ofInt 64 (m:Int) &&& BitVec.ofInt 64 67108863).toNat:Int)%18446744073709551616=_
 have e:(BitVec.ofInt 64 (m:Int) &&& BitVec.ofInt 64 67108863).toNat=m%67108864:=by
  rw [BitVec.toNat_and,BitVec.ofInt_natCast,BitVec.toNat_ofNat,Nat.mod_eq_of_lt (show m<2^64 by omega)]
  exact Nat.and_two_pow_sub_one_eq_mod m 26
 rw [e]
 omega
def L (x:List Int):Int:=x.getD 0 0+67108864*x.getD 1 0+4503599627370496*x.getD 2 0+302231454903657293676544*x.getD 3 0+20282409603651670423947251286016*x.getD 4 0
def p:Int:=1361129467683753853853498429727072845819
structure Ok (x:List Int):Prop where
 len:x.length=5
 a0:0<=x.getD 0 0/\x.getD 0 0<67108864+5
 a1:0<=x.getD 1 0/\x.getD 1 0<67108864
 a2:0<=x.getD 2 0/\x.getD 2 0<67108864
 a3:0<=x.getD 3 0/\x.getD 3 0<67108864
 a4:0<=x.getD 4 0/\x.getD 4 0<67108864
theorem Lf {x:List Int} {m:Int} (hm:m<=1152921504606846976) (h0:0<=x.getD 0 0/\x.getD 0 0<m) (h1:0<=x.getD 1 0/\x.getD 1 0<m) (h2:0<=x.getD 2 0/\x.getD 2 0<m) (h3:0<=x.getD 3 0/\x.getD 3 0<m) (h4:0<=x.getD 4 0/\x.getD 4 0<m) :
 ∃ k1 k2 k3 k4:Int,k1=x.getD 1 0+x.getD 0 0/67108864/\k2=x.getD 2 0+k1/67108864/\k3=x.getD 3 0+k2/67108864/\k4=x.getD 4 0+k3/67108864 /\
   pass x=[x.getD 0 0%67108864+5*(k4/67108864),k1%67108864,k2%67108864,k3%67108864,k4%67108864]:=by
 generalize gK:x.getD 0 0=x0 at *
 generalize gM:x.getD 1 0=x1 at *
 generalize nX:x.getD 2 0=x2 at *
 generalize Jp:x.getD 3 0=x3 at *
 generalize hx4:x.getD 4 0=x4 at *
 have e1:c1 x=x1+x0/67108864:=by unfold c1;rw [gK,gM,tY,iR (by omega)]
 have e2:c2 x=x2+(x1+x0/67108864)/67108864:=by unfold c2;rw [nX,e1,tY,iR (by omega)]
 have e3:c3 x=x3+(x2+(x1+x0/67108864)/67108864)/67108864:=by unfold c3;rw [Jp,e2,tY,iR (by omega)]
 have e4:c4 x=x4+(x3+(x2+(x1+x0/67108864)/67108864)/67108864)/67108864:=by unfold c4;rw [hx4,e3,tY,iR (by omega)]
 refine ⟨_,_,_,_,rfl,rfl,rfl,rfl,?_⟩
 unfold pass
 rw [gK,e1,e2,e3,e4,tY,pI (by omega),pI (by omega),pI (by omega),pI (by omega),pI (by omega),iR (n:=5*_) (by omega),iR (by omega)]
end P
namespace P
theorem Dx (a b c d e:Int):L [a,b,c,d,e]=a+67108864*b+4503599627370496*c+302231454903657293676544*d+20282409603651670423947251286016*e:=rfl
theorem Tk {x:List Int} {m:Int} (hm:m<=1152921504606846976) (h0:0<=x.getD 0 0/\x.getD 0 0<m) (h1:0<=x.getD 1 0/\x.getD 1 0<m) (h2:0<=x.getD 2 0/\x.getD 2 0<m) (h3:0<=x.getD 3 0/\x.getD 3 0<m) (h4:0<=x.getD 4 0/\x.getD 4 0<m) :
 ∃ q:Int,0<=q/\q=(x.getD 4 0+(x.getD 3 0+(x.getD 2 0+(x.getD 1 0+x.getD 0 0/67108864)/67108864)/67108864)/67108864)/67108864/\L (pass x)=L x-p*q/\(pass x).length=5/\(0<=(pass x).getD 0 0/\(pass x).getD 0 0<=67108863+5*q)/\(0<=(pass x).getD 1 0/\(pass x).getD 1 0<67108864)/\(0<=(pass x).getD 2 0/\(pass x).getD 2 0<67108864)/\(0<=(pass x).getD 3 0/\(pass x).getD 3 0<67108864)/\(0<=(pass x).getD 4 0/\(pass x).getD 4 0<67108864):=by
 obtain ⟨k1,k2,k3,k4,e1,e2,e3,e4,e⟩:=Lf hm h0 h1 h2 h3 h4
 refine ⟨k4/67108864,?_⟩
 rw [e]
 simp only [List.getD_cons_zero,List.getD_cons_succ,List.length_cons,List.length_nil,Dx]
 unfold L p
 generalize x.getD 0 0=x0 at *
 generalize x.getD 1 0=x1 at *
 generalize x.getD 2 0=x2 at *
 generalize x.getD 3 0=x3 at *
 generalize x.getD 4 0=x4 at *
 refine ⟨by omega,by rw [e4,e3,e2,e1],?_,(by first | rfl | trivial),⟨by omega,by omega⟩,⟨by omega,by omega⟩,⟨by omega,by omega⟩,⟨by omega,by omega⟩,⟨by omega,by omega⟩⟩
 have d0:=Int.emod_add_mul_ediv x0 67108864
 have d1:=Int.emod_add_mul_ediv k1 67108864
 have d2:=Int.emod_add_mul_ediv k2 67108864
 have d3:=Int.emod_add_mul_ediv k3 67108864
 have d4:=Int.emod_add_mul_ediv k4 67108864
 generalize x0%67108864=l0 at *
 generalize k1%67108864=l1 at *
 generalize k2%67108864=l2 at *
 generalize k3%67108864=l3 at *
 generalize k4%67108864=l4 at *
 generalize x0/67108864=q0 at *
 generalize k1/67108864=q1 at *
 generalize k2/67108864=q2 at *
 generalize k3/67108864=q3 at *
 generalize k4/67108864=q4 at *
 omega
theorem uU {x:List Int} {m:Int} (hm:m<=1152921504606846976) (h0:0<=x.getD 0 0/\x.getD 0 0<m) (h1:0<=x.getD 1 0/\x.getD 1 0<m) (h2:0<=x.getD 2 0/\x.getD 2 0<m) (h3:0<=x.getD 3 0/\x.getD 3 0<m) (h4:0<=x.getD 4 0/\x.getD 4 0<m) :
 Ok (settled x)/\∃ q,L (settled x)=L x-p*q:=by
 obtain ⟨q,a1,a2,a3,a4,a5,a6,a7,a8,a9⟩:=Tk hm h0 h1 h2 h3 h4
 have hq:q<=17179869440:=by omega
 obtain ⟨r,b1,b2,b3,b4,b5,b6,b7,b8,b9⟩:=Tk (x:=pass x) (m:=85966456064) (by omega) ⟨a5.1,by omega⟩ ⟨a6.1,by omega⟩ ⟨a7.1,by omega⟩ ⟨a8.1,by omega⟩ ⟨a9.1,by omega⟩
 have hr:r<=1:=by omega
 refine ⟨⟨b4,⟨b5.1,by unfold settled;omega⟩,b6,b7,b8,b9⟩,q+r,?_⟩
 show L (pass (pass x))=_
 rw [b3,a3,Int.mul_add]
 omega
end P
namespace P
theorem LJ (f:Nat->Int):(List.range 5).map f=[f 0,f 1,f 2,f 3,f 4]:=rfl
theorem aQx {a b:List Int} (ha:Ok a) (hb:Ok b):Ok (add a b)/\∃ q,L (add a b)=L a+L b-p*q:=by
 obtain ⟨_,a0,a1,a2,a3,a4⟩:=ha
 obtain ⟨_,b0,b1,b2,b3,b4⟩:=hb
 have e:Nq a b=[a.getD 0 0+b.getD 0 0,a.getD 1 0+b.getD 1 0,a.getD 2 0+b.getD 2 0,a.getD 3 0+b.getD 3 0,a.getD 4 0+b.getD 4 0]:=by
  unfold Nq
  rw [LJ,iR (by omega),iR (by omega),iR (by omega),iR (by omega),iR (by omega)]
 obtain ⟨h1,q,h2⟩:=uU (x:=Nq a b) (m:=1073741824) (by omega) (by rw [e];simp only [List.getD_cons_zero];omega) (by rw [e];simp only [List.getD_cons_zero,List.getD_cons_succ];omega) (by rw [e];simp only [List.getD_cons_zero,List.getD_cons_succ];omega) (by rw [e];simp only [List.getD_cons_zero,List.getD_cons_succ];omega) (by rw [e];simp only [List.getD_cons_zero,List.getD_cons_succ];omega)
 refine ⟨h1,q,?_⟩
 show L (settled (Nq a b))=_
 rw [h2,e,Dx]
 unfold L
 omega
end P
namespace P
theorem Zc {x y:Int} (hx:0<=x/\x<67108869) (hy:0<=y/\y<67108869):0<=x*y/\x*y<=4503600164241424:=by
 refine ⟨Int.mul_nonneg hx.1 hy.1,?_⟩
 have h1:x*y<=x*67108868:=Int.mul_le_mul_of_nonneg_left (by omega) hx.1
 have h2:x*67108868<=67108868*67108868:=Int.mul_le_mul_of_nonneg_right (by omega) (by decide)
 omega
def w0 (a b:Nat->Int):Int:=a 0*b 0
def w1 (a b:Nat->Int):Int:=a 0*b 1+a 1*b 0
def w2 (a b:Nat->Int):Int:=a 0*b 2+a 1*b 1+a 2*b 0
def w3 (a b:Nat->Int):Int:=a 0*b 3+a 1*b 2+a 2*b 1+a 3*b 0
def w4 (a b:Nat->Int):Int:=a 0*b 4+a 1*b 3+a 2*b 2+a 3*b 1+a 4*b 0
def w5 (a b:Nat->Int):Int:=a 1*b 4+a 2*b 3+a 3*b 2+a 4*b 1
def w6 (a b:Nat->Int):Int:=a 2*b 4+a 3*b 3+a 4*b 2
def w7 (a b:Nat->Int):Int:=a 3*b 4+a 4*b 3
def w8 (a b:Nat->Int):Int:=a 4*b 4
def B:Int:=4503600164241424
theorem aKg {a:Int} (ha:0<=a/\a<=4503600164241424):W (0+W a)=a:=by rw [iR (n:=a) (by omega),Int.zero_add,iR (by omega)]
theorem aKf {a b:Int} (ha:0<=a/\a<=4503600164241424) (hb:0<=b/\b<=4503600164241424):W (W (0+W a)+W b)=a+b:=by rw [aKg ha,iR (n:=b) (by omega),iR (by omega)]
theorem aKe {a b c:Int} (ha:0<=a/\a<=4503600164241424) (hb:0<=b/\b<=4503600164241424) (hc:0<=c/\c<=4503600164241424):W (W (W (0+W a)+W b)+W c)=a+b+c:=by rw [aKf ha hb,iR (n:=c) (by omega),iR (by omega)]
theorem aKd {a b c d:Int} (ha:0<=a/\a<=4503600164241424) (hb:0<=b/\b<=4503600164241424) (hc:0<=c/\c<=4503600164241424) (hd:0<=d/\d<=4503600164241424):W (W (W (W (0+W a)+W b)+W c)+W d)=a+b+c+d:=by rw [aKe ha hb hc,iR (n:=d) (by omega),iR (by omega)]
theorem bGk {a b c d e:Int} (ha:0<=a/\a<=4503600164241424) (hb:0<=b/\b<=4503600164241424) (hc:0<=c/\c<=4503600164241424) (hd:0<=d/\d<=4503600164241424) (he:0<=e/\e<=4503600164241424):W (W (W (W (W (0+W a)+W b)+W c)+W d)+W e)=a+b+c+d+e:=by rw [aKd ha hb hc hd,iR (n:=e) (by omega),iR (by omega)]
theorem GZ {x y:Int} (hx:0<=x/\x<=22518000821207120) (hy:0<=y/\y<=22518000821207120):W (x+W (5*y))=x+5*y:=by rw [iR (n:=5*y) (by omega),iR (by omega)]
theorem aXg {x:Int} (hx:0<=x/\x<=22518000821207120):W (x+W (5*0))=x:=by rw [GZ hx ⟨Int.le_refl 0,by decide⟩];omega
theorem Ok.get {a:List Int} (h:Ok a):∀ i,i<5->0<=a.getD i 0/\a.getD i 0<67108869:=by
 intro i hi
 have:=h.a0;have:=h.a1;have:=h.a2;have:=h.a3;have:=h.a4
 match i,hi with
 | 0,_=>omega
 | 1,_=>omega
 | 2,_=>omega
 | 3,_=>omega
 | 4,_=>omega
theorem WD {a b:Int} (ha:0<=a/\a<=4503600164241424) (hb:0<=b/\b<=4503600164241424):0<=a+b/\a+b<=22518000821207120:=by omega
theorem WC {a b c:Int} (ha:0<=a/\a<=4503600164241424) (hb:0<=b/\b<=4503600164241424) (hc:0<=c/\c<=4503600164241424):0<=a+b+c/\a+b+c<=22518000821207120:=by omega
theorem WB {a b c d:Int} (ha:0<=a/\a<=4503600164241424) (hb:0<=b/\b<=4503600164241424) (hc:0<=c/\c<=4503600164241424) (hd:0<=d/\d<=4503600164241424):0<=a+b+c+d/\a+b+c+d<=22518000821207120:=by omega
theorem aRf {a b c d e:Int} (ha:0<=a/\a<=4503600164241424) (hb:0<=b/\b<=4503600164241424) (hc:0<=c/\c<=4503600164241424) (hd:0<=d/\d<=4503600164241424) (he:0<=e/\e<=4503600164241424):0<=a+b+c+d+e/\a+b+c+d+e<=22518000821207120:=by omega
theorem WE {a:Int} (ha:0<=a/\a<=4503600164241424):0<=a/\a<=22518000821207120:=by omega
theorem aBz (a b:List Int):WZ a b 5=[W (0+W (a.getD 0 0*b.getD 0 0)),W (W (0+W (a.getD 0 0*b.getD 1 0))+W (a.getD 1 0*b.getD 0 0)),
 W (W (W (0+W (a.getD 0 0*b.getD 2 0))+W (a.getD 1 0*b.getD 1 0))+W (a.getD 2 0*b.getD 0 0)),
 W (W (W (W (0+W (a.getD 0 0*b.getD 3 0))+W (a.getD 1 0*b.getD 2 0))+W (a.getD 2 0*b.getD 1 0))+W (a.getD 3 0*b.getD 0 0)),
 W (W (W (W (W (0+W (a.getD 0 0*b.getD 4 0))+W (a.getD 1 0*b.getD 3 0))+W (a.getD 2 0*b.getD 2 0))+W (a.getD 3 0*b.getD 1 0))+W (a.getD 4 0*b.getD 0 0)),
 W (W (W (W (0+W (a.getD 1 0*b.getD 4 0))+W (a.getD 2 0*b.getD 3 0))+W (a.getD 3 0*b.getD 2 0))+W (a.getD 4 0*b.getD 1 0)),
 W (W (W (0+W (a.getD 2 0*b.getD 4 0))+W (a.getD 3 0*b.getD 3 0))+W (a.getD 4 0*b.getD 2 0)),
 W (W (0+W (a.getD 3 0*b.getD 4 0))+W (a.getD 4 0*b.getD 3 0)),W (0+W (a.getD 4 0*b.getD 4 0)),0]:=by kernel_rfl
theorem aCa {a b:List Int} (ha:Ok a) (hb:Ok b) :
 mulL a b=[w0 (a.getD · 0) (b.getD · 0)+5*w5 (a.getD · 0) (b.getD · 0),w1 (a.getD · 0) (b.getD · 0)+5*w6 (a.getD · 0) (b.getD · 0),w2 (a.getD · 0) (b.getD · 0)+5*w7 (a.getD · 0) (b.getD · 0),w3 (a.getD · 0) (b.getD · 0)+5*w8 (a.getD · 0) (b.getD · 0),w4 (a.getD · 0) (b.getD · 0)]:=by
 have r:∀ i k,i<5->k<5->0<=a.getD i 0*b.getD k 0/\a.getD i 0*b.getD k 0<=4503600164241424:=fun i k hi hk=>Zc (ha.get i hi) (hb.get k hk)
 have e:=aBz a b
 have q:∀ i k,i<5->k<5->0<=a.getD i 0*b.getD k 0/\a.getD i 0*b.getD k 0<=4503600164241424:=r
 have t00:=r 0 0 (by decide) (by decide);have t01:=r 0 1 (by decide) (by decide);have t02:=r 0 2 (by decide) (by decide);have t03:=r 0 3 (by decide) (by decide);have t04:=r 0 4 (by decide) (by decide)
 have t10:=r 1 0 (by decide) (by decide);have t11:=r 1 1 (by decide) (by decide);have t12:=r 1 2 (by decide) (by decide);have t13:=r 1 3 (by decide) (by decide);have t14:=r 1 4 (by decide) (by decide)
 have t20:=r 2 0 (by decide) (by decide);have t21:=r 2 1 (by decide) (by decide);have t22:=r 2 2 (by decide) (by decide);have t23:=r 2 3 (by decide) (by decide);have t24:=r 2 4 (by decide) (by decide)
 have t30:=r 3 0 (by decide) (by decide);have t31:=r 3 1 (by decide) (by decide);have t32:=r 3 2 (by decide) (by decide);have t33:=r 3 3 (by decide) (by decide);have t34:=r 3 4 (by decide) (by decide)
 have t40:=r 4 0 (by decide) (by decide);have t41:=r 4 1 (by decide) (by decide);have t42:=r 4 2 (by decide) (by decide);have t43:=r 4 3 (by decide) (by decide);have t44:=r 4 4 (by decide) (by decide)
 rw [aKg t00,aKf t01 t10,aKe t02 t11 t20,aKd t03 t12 t21 t30,bGk t04 t13 t22 t31 t40,aKd t14 t23 t32 t41,aKe t24 t33 t42,aKf t34 t43,aKg t44] at e
 unfold mulL
 rw [LJ,e]
 simp only [List.getD_cons_zero,List.getD_cons_succ,w0,w1,w2,w3,w4,w5,w6,w7,w8]
 rw [GZ (WE t00) (WB t14 t23 t32 t41),GZ (WD t01 t10) (WC t24 t33 t42),GZ (WC t02 t11 t20) (WD t34 t43),GZ (WB t03 t12 t21 t30) (WE t44),aXg (aRf t04 t13 t22 t31 t40)]
end P
namespace P
theorem ex (c d x y:Int):(c*x)*(d*y)=(c*d)*(x*y):=by rw [Int.mul_assoc,Int.mul_left_comm x d y,<- Int.mul_assoc]
theorem aMq (a0 a1 a2 a3 a4 b0 b1 b2 b3 b4:Int) :
 (1*a0+67108864*a1+4503599627370496*a2+302231454903657293676544*a3+20282409603651670423947251286016*a4)*(1*b0+67108864*b1+4503599627370496*b2+302231454903657293676544*b3+20282409603651670423947251286016*b4) =
  (a0*b0+5*(a1*b4+a2*b3+a3*b2+a4*b1))+67108864*(a0*b1+a1*b0+5*(a2*b4+a3*b3+a4*b2))+4503599627370496*(a0*b2+a1*b1+a2*b0+5*(a3*b4+a4*b3))+302231454903657293676544*(a0*b3+a1*b2+a2*b1+a3*b0+5*(a4*b4))+20282409603651670423947251286016*(a0*b4+a1*b3+a2*b2+a3*b1+a4*b0) +
   1361129467683753853853498429727072845819*((a1*b4+a2*b3+a3*b2+a4*b1)+67108864*(a2*b4+a3*b3+a4*b2)+4503599627370496*(a3*b4+a4*b3)+302231454903657293676544*(a4*b4)):=by
 simp only [Int.add_mul,Int.mul_add]
 rw [ex 1 1 a0 b0,ex 1 67108864 a0 b1,ex 1 4503599627370496 a0 b2,ex 1 302231454903657293676544 a0 b3,ex 1 20282409603651670423947251286016 a0 b4,ex 67108864 1 a1 b0,ex 67108864 67108864 a1 b1,ex 67108864 4503599627370496 a1 b2,ex 67108864 302231454903657293676544 a1 b3,ex 67108864 20282409603651670423947251286016 a1 b4,ex 4503599627370496 1 a2 b0,ex 4503599627370496 67108864 a2 b1,ex 4503599627370496 4503599627370496 a2 b2,ex 4503599627370496 302231454903657293676544 a2 b3,ex 4503599627370496 20282409603651670423947251286016 a2 b4,ex 302231454903657293676544 1 a3 b0,ex 302231454903657293676544 67108864 a3 b1,ex 302231454903657293676544 4503599627370496 a3 b2,ex 302231454903657293676544 302231454903657293676544 a3 b3,ex 302231454903657293676544 20282409603651670423947251286016 a3 b4,ex 20282409603651670423947251286016 1 a4 b0,ex 20282409603651670423947251286016 67108864 a4 b1,ex 20282409603651670423947251286016 4503599627370496 a4 b2,ex 20282409603651670423947251286016 302231454903657293676544 a4 b3,ex 20282409603651670423947251286016 20282409603651670423947251286016 a4 b4]
 generalize a0*b0=m00
 generalize a0*b1=m01
 generalize a0*b2=m02
 generalize a0*b3=m03
 generalize a0*b4=m04
 generalize a1*b0=m10
 generalize a1*b1=m11
 generalize a1*b2=m12
 generalize a1*b3=m13
 generalize a1*b4=m14
 generalize a2*b0=m20
 generalize a2*b1=m21
 generalize a2*b2=m22
 generalize a2*b3=m23
 generalize a2*b4=m24
 generalize a3*b0=m30
 generalize a3*b1=m31
 generalize a3*b2=m32
 generalize a3*b3=m33
 generalize a3*b4=m34
 generalize a4*b0=m40
 generalize a4*b1=m41
 generalize a4*b2=m42
 generalize a4*b3=m43
 generalize a4*b4=m44
 omega
theorem aNc {a b:List Int} (ha:Ok a) (hb:Ok b):Ok (mul a b)/\∃ q,L (mul a b)=L a*L b-p*q:=by
 have r:∀ i k,i<5->k<5->0<=a.getD i 0*b.getD k 0/\a.getD i 0*b.getD k 0<=4503600164241424:=fun i k hi hk=>Zc (ha.get i hi) (hb.get k hk)
 have t00:=r 0 0 (by decide) (by decide);have t01:=r 0 1 (by decide) (by decide);have t02:=r 0 2 (by decide) (by decide);have t03:=r 0 3 (by decide) (by decide);have t04:=r 0 4 (by decide) (by decide)
 have t10:=r 1 0 (by decide) (by decide);have t11:=r 1 1 (by decide) (by decide);have t12:=r 1 2 (by decide) (by decide);have t13:=r 1 3 (by decide) (by decide);have t14:=r 1 4 (by decide) (by decide)
 have t20:=r 2 0 (by decide) (by decide);have t21:=r 2 1 (by decide) (by decide);have t22:=r 2 2 (by decide) (by decide);have t23:=r 2 3 (by decide) (by decide);have t24:=r 2 4 (by decide) (by decide)
 have t30:=r 3 0 (by decide) (by decide);have t31:=r 3 1 (by decide) (by decide);have t32:=r 3 2 (by decide) (by decide);have t33:=r 3 3 (by decide) (by decide);have t34:=r 3 4 (by decide) (by decide)
 have t40:=r 4 0 (by decide) (by decide);have t41:=r 4 1 (by decide) (by decide);have t42:=r 4 2 (by decide) (by decide);have t43:=r 4 3 (by decide) (by decide);have t44:=r 4 4 (by decide) (by decide)
 have f:∀ {x y:Int},0<=x/\x<=22518000821207120->0<=y/\y<=22518000821207120->0<=x+5*y/\x+5*y<1152921504606846976:=fun h1 h2=>by omega
 have g:∀ {x:Int},0<=x/\x<=22518000821207120->0<=x/\x<1152921504606846976:=fun h1=>by omega
 have e:=aCa ha hb
 obtain ⟨h1,q,h2⟩:=uU (x:=mulL a b) (m:=1152921504606846976) (Int.le_refl _) (by rw [e];exact f (WE t00) (WB t14 t23 t32 t41)) (by rw [e];exact f (WD t01 t10) (WC t24 t33 t42)) (by rw [e];exact f (WC t02 t11 t20) (WD t34 t43)) (by rw [e];exact f (WB t03 t12 t21 t30) (WE t44)) (by rw [e];exact g (aRf t04 t13 t22 t31 t40))
 refine ⟨h1,q+(w5 (a.getD · 0) (b.getD · 0)+67108864*w6 (a.getD · 0) (b.getD · 0)+4503599627370496*w7 (a.getD · 0) (b.getD · 0)+302231454903657293676544*w8 (a.getD · 0) (b.getD · 0)),?_⟩
 show L (settled (mulL a b))=_
 have hp:=aMq (a.getD 0 0) (a.getD 1 0) (a.getD 2 0) (a.getD 3 0) (a.getD 4 0) (b.getD 0 0) (b.getD 1 0) (b.getD 2 0) (b.getD 3 0) (b.getD 4 0)
 have lx:∀ x:List Int,L x=1*x.getD 0 0+67108864*x.getD 1 0+4503599627370496*x.getD 2 0+302231454903657293676544*x.getD 3 0+20282409603651670423947251286016*x.getD 4 0:=fun x=>by unfold L;rw [Int.one_mul]
 rw [h2,e,Dx,Int.mul_add,lx a,lx b,hp]
 simp only [w0,w1,w2,w3,w4,w5,w6,w7,w8,p]
 clear h1 h2 hp lx e f g r t00 t01 t02 t03 t04 t10 t11 t12 t13 t14 t20 t21 t22 t23 t24 t30 t31 t32 t33 t34 t40 t41 t42 t43 t44
 omega
end P
namespace P
def tW (x:Int):Prop:=0<=x/\x<256
theorem or_eq {x y k:Nat} (hx:x<2^k) (h:y*2^k+x<18446744073709551616):lD .u64 (x:Int) ((y*2^k:Nat):Int)=((y*2^k+x:Nat):Int):=by
 show (((BitVec.ofInt 64 (x:Int) ||| BitVec.ofInt 64 ((y*2^k:Nat):Int)).toNat:Nat):Int)%18446744073709551616=_
 have e:(BitVec.ofInt 64 (x:Int) ||| BitVec.ofInt 64 ((y*2^k:Nat):Int)).toNat=y*2^k+x:=by
  rw [BitVec.toNat_or,BitVec.ofInt_natCast,BitVec.ofInt_natCast,BitVec.toNat_ofNat,BitVec.toNat_ofNat,Nat.mod_eq_of_lt (show x<2^64 by omega),Nat.mod_eq_of_lt (show y*2^k<2^64 by omega),Nat.or_comm,<- Nat.shiftLeft_eq]
  exact (Nat.shiftLeft_add_eq_or_of_lt hx y).symm
 rw [e]
 omega
theorem aZw {y:Int} (h:tW y):dK .u64 (W y) 8=y*256:=by
 have:=h.1;have:=h.2
 rw [iR (by omega)]
 show (y*256)%18446744073709551616=_
 omega
theorem aUo {y:Int} (h:tW y):dK .u64 (W y) 16=y*65536:=by
 have:=h.1;have:=h.2
 rw [iR (by omega)]
 show (y*65536)%18446744073709551616=_
 omega
theorem aUn {y:Int} (h:tW y):dK .u64 (W y) 24=y*16777216:=by
 have:=h.1;have:=h.2
 rw [iR (by omega)]
 show (y*16777216)%18446744073709551616=_
 omega
theorem IL {x y:Int} {k:Nat} {m:Int} (hm:m=((2^k:Nat):Int)) (hk:k<=24) (hx:0<=x/\x<m) (hy:tW y):lD .u64 x (y*m)=x+y*m:=by
 obtain ⟨a,rfl⟩:=zzT hx.1
 obtain ⟨b,rfl⟩:=zzT hy.1
 have hb:=hy.2
 subst hm
 have h1:a<2^k:=by have:=hx.2;omega
 have h2:(2:Nat)^k<=2^24:=Nat.pow_le_pow_right (by decide) hk
 have h3:b*2^k<=255*2^24:=Nat.mul_le_mul (by omega) h2
 have h4:(255:Nat)*2^24+2^24<18446744073709551616:=by decide
 rw [<- Int.natCast_mul,or_eq h1 (by omega)]
 rw [Int.natCast_add];omega
theorem wA {a b c d:Int} (ha:tW a) (hb:tW b) (hc:tW c) (hd:tW d):word a b c d=a+256*b+65536*c+16777216*d:=by
 have:=ha.1;have:=ha.2;have:=hb.1;have:=hb.2;have:=hc.1;have:=hc.2
 unfold word
 rw [aZw hb,aUo hc,aUn hd,iR (by omega),IL (k:=8) (m:=256) rfl (by decide) (by omega) hb,IL (k:=16) (m:=65536) rfl (by decide) (by omega) hc,IL (k:=24) (m:=16777216) rfl (by decide) (by omega) hd]
 omega
theorem Dz (n:Int) (k:Nat) (hk:k<=64):cB .u64 n (k:Int)=n/((2^k:Nat):Int):=by
 unfold cB
 rw [zzt,show min k IntKind.u64.bits=k from Nat.min_eq_left hk,Int.fdiv_eq_ediv_of_nonneg _ (Int.le_of_lt (Int.pow_pos (by decide))),Int.natCast_pow]
 rfl
theorem WH (n:Int):cB .u64 n 2=n/4:=Dz n 2 (by decide)
theorem aZv (n:Int):cB .u64 n 4=n/16:=Dz n 4 (by decide)
theorem aZu (n:Int):cB .u64 n 6=n/64:=Dz n 6 (by decide)
def Rw (b:List Int):Int:=b.getD 0 0+256*b.getD 1 0+65536*b.getD 2 0+16777216*b.getD 3 0+4294967296*b.getD 4 0+1099511627776*b.getD 5 0+281474976710656*b.getD 6 0+72057594037927936*b.getD 7 0+18446744073709551616*b.getD 8 0+4722366482869645213696*b.getD 9 0+1208925819614629174706176*b.getD 10 0+309485009821345068724781056*b.getD 11 0+79228162514264337593543950336*b.getD 12 0+20282409603651670423947251286016*b.getD 13 0+5192296858534827628530496329220096*b.getD 14 0+1329227995784915872903807060280344576*b.getD 15 0+340282366920938463463374607431768211456*b.getD 16 0
theorem OG {b:List Int} (hb:∀ i,tW (b.getD i 0)):L (kO b)=Rw b/\(0<=(kO b).getD 0 0/\(kO b).getD 0 0<4294967296)/\(0<=(kO b).getD 1 0/\(kO b).getD 1 0<4294967296)/\(0<=(kO b).getD 2 0/\(kO b).getD 2 0<4294967296)/\(0<=(kO b).getD 3 0/\(kO b).getD 3 0<4294967296)/\(0<=(kO b).getD 4 0/\(kO b).getD 4 0<4294967296):=by
 have h0:=hb 0;have h1:=hb 1;have h2:=hb 2;have h3:=hb 3;have h4:=hb 4;have h5:=hb 5;have h6:=hb 6;have h7:=hb 7;have h8:=hb 8;have h9:=hb 9;have h10:=hb 10;have h11:=hb 11;have h12:=hb 12;have h13:=hb 13;have h14:=hb 14;have h15:=hb 15;have vF:=hb 16
 unfold kO
 rw [wA h0 h1 h2 h3,wA h3 h4 h5 h6,wA h6 h7 h8 h9,wA h9 h10 h11 h12,wA h13 h14 h15 vF,WH,aZv,aZu]
 unfold Rw
 unfold tW at *
 clear hb
 generalize b.getD 0 0=b0 at *
 generalize b.getD 1 0=b1 at *
 generalize b.getD 2 0=b2 at *
 generalize b.getD 3 0=b3 at *
 generalize b.getD 4 0=b4 at *
 generalize b.getD 5 0=b5 at *
 generalize b.getD 6 0=b6 at *
 generalize b.getD 7 0=b7 at *
 generalize b.getD 8 0=b8 at *
 generalize b.getD 9 0=b9 at *
 generalize b.getD 10 0=dF at *
 generalize b.getD 11 0=dE at *
 generalize b.getD 12 0=dD at *
 generalize b.getD 13 0=dJ at *
 generalize b.getD 14 0=dI at *
 generalize b.getD 15 0=gZ at *
 generalize b.getD 16 0=iU at *
 have l0:lo (b0+256*b1+65536*b2+16777216*b3)=b0+256*b1+65536*b2+16777216*(b3%4):=by
  rw [pI (by omega)];omega
 have l1:lo ((b3+256*b4+65536*b5+16777216*b6)/4)=b3/4+64*b4+16384*b5+4194304*(b6%16):=by
  rw [pI (by omega)];omega
 have l2:lo ((b6+256*b7+65536*b8+16777216*b9)/16)=b6/16+16*b7+4096*b8+1048576*(b9%64):=by
  rw [pI (by omega)];omega
 have l3:(b9+256*dF+65536*dE+16777216*dD)/64=b9/64+4*dF+1024*dE+262144*dD:=by omega
 rw [l0,l1,l2,l3]
 simp only [List.getD_cons_zero,List.getD_cons_succ,Dx]
 have d3:=Int.emod_add_mul_ediv b3 4
 have d6:=Int.emod_add_mul_ediv b6 16
 have d9:=Int.emod_add_mul_ediv b9 64
 refine ⟨?_,by omega,by omega,by omega,by omega,by omega⟩
 generalize b3%4=r3 at *
 generalize b3/4=q3 at *
 generalize b6%16=r6 at *
 generalize b6/16=q6 at *
 generalize b9%64=r9 at *
 generalize b9/64=q9 at *
 omega
theorem Kp {b:List Int} (hb:∀ i,tW (b.getD i 0)):Ok (num b)/\∃ q,L (num b)=Rw b-p*q:=by
 obtain ⟨h,a0,a1,a2,a3,a4⟩:=OG hb
 obtain ⟨h1,q,h2⟩:=uU (x:=kO b) (m:=4294967296) (by omega) a0 a1 a2 a3 a4
 exact ⟨h1,q,by rw [<- h];exact h2⟩
end P
namespace P
theorem Kk (x y:Int):eZ .u64 x y=((BitVec.ofInt 64 x ^^^ BitVec.ofInt 64 y).toNat:Int):=by
 show ((BitVec.ofInt 64 x ^^^ BitVec.ofInt 64 y).toNat:Int)%18446744073709551616=_
 have:=(BitVec.ofInt 64 x ^^^ BitVec.ofInt 64 y).isLt
 omega
theorem MX (x y:Int):bW .u64 x y=((BitVec.ofInt 64 x &&& BitVec.ofInt 64 y).toNat:Int):=by
 show ((BitVec.ofInt 64 x &&& BitVec.ofInt 64 y).toNat:Int)%18446744073709551616=_
 have:=(BitVec.ofInt 64 x &&& BitVec.ofInt 64 y).isLt
 omega
theorem La (x:BitVec 64):BitVec.ofInt 64 (x.toNat:Int)=x:=by rw [BitVec.ofInt_natCast,BitVec.ofNat_toNat,BitVec.setWidth_eq]
theorem MB {x:Int} (h:0<=x/\x<18446744073709551616):((BitVec.ofInt 64 x).toNat:Int)=x:=by
 obtain ⟨m,rfl⟩:=zzT h.1
 rw [BitVec.ofInt_natCast,BitVec.toNat_ofNat,Nat.mod_eq_of_lt (show m<2^64 by omega)]
theorem Oc {a b:Int} (hb:0<=b/\b<18446744073709551616):pick 0 a b=b:=by
 unfold pick
 rw [show W (0-bW .u64 0 1)=0 by decide,Kk a b,MX,La,show BitVec.ofInt 64 0=0#64 from rfl,BitVec.zero_and,Kk,La,BitVec.xor_zero]
 exact MB hb
theorem Ob {a b:Int} (ha:0<=a/\a<18446744073709551616):pick 1 a b=a:=by
 unfold pick
 rw [show W (0-bW .u64 1 1)=18446744073709551615 by decide,Kk a b,MX,La,show BitVec.ofInt 64 18446744073709551615=BitVec.allOnes 64 by decide,BitVec.allOnes_and,Kk,La,BitVec.xor_comm (BitVec.ofInt 64 a),<- BitVec.xor_assoc,BitVec.xor_self,BitVec.zero_xor]
 exact MB ha
structure UT (x:List Int):Prop where
 len:x.length=5
 a0:0<=x.getD 0 0/\x.getD 0 0<67108864
 a1:0<=x.getD 1 0/\x.getD 1 0<67108864
 a2:0<=x.getD 2 0/\x.getD 2 0<67108864
 a3:0<=x.getD 3 0/\x.getD 3 0<67108864
 a4:0<=x.getD 4 0/\x.getD 4 0<67108864
theorem NV {x:List Int} (h:Ok x):UT (pass x)/\∃ q,L (pass x)=L x-p*q:=by
 obtain ⟨q,_,b2,b3,b4,b5,b6,b7,b8,b9⟩:=Tk (x:=x) (m:=67108869) (by omega) h.a0 ⟨h.a1.1,by have:=h.a1.2;omega⟩ ⟨h.a2.1,by have:=h.a2.2;omega⟩ ⟨h.a3.1,by have:=h.a3.2;omega⟩ ⟨h.a4.1,by have:=h.a4.2;omega⟩
 obtain ⟨k1,k2,k3,k4,e1,e2,e3,e4,e⟩:=Lf (x:=x) (m:=67108869) (by omega) h.a0 ⟨h.a1.1,by have:=h.a1.2;omega⟩ ⟨h.a2.1,by have:=h.a2.2;omega⟩ ⟨h.a3.1,by have:=h.a3.2;omega⟩ ⟨h.a4.1,by have:=h.a4.2;omega⟩
 refine ⟨⟨b4,⟨b5.1,?_⟩,b6,b7,b8,b9⟩,q,b3⟩
 rw [e]
 simp only [List.getD_cons_zero]
 have h0:=h.a0;have h1:=h.a1;have h2:=h.a2;have h3:=h.a3;have h4:=h.a4
 omega
theorem CE {x:List Int} (h:UT x):pass x=x:=by
 have h0:=h.a0;have h1:=h.a1;have h2:=h.a2;have h3:=h.a3;have h4:=h.a4
 obtain ⟨k1,k2,k3,k4,e1,e2,e3,e4,e⟩:=Lf (x:=x) (m:=67108864) (by omega) h0 h1 h2 h3 h4
 rw [e]
 clear e
 obtain ⟨hl,_,_,_,_,_⟩:=h
 match x,hl with
 | [x0,x1,x2,x3,x4],_=>
   simp only [List.getD_cons_zero,List.getD_cons_succ] at *
   have z0:x0/67108864=0:=Int.ediv_eq_zero_of_lt h0.1 h0.2
   rw [z0,Int.add_zero] at e1
   have z1:x1/67108864=0:=Int.ediv_eq_zero_of_lt h1.1 h1.2
   rw [e1,z1,Int.add_zero] at e2
   have z2:x2/67108864=0:=Int.ediv_eq_zero_of_lt h2.1 h2.2
   rw [e2,z2,Int.add_zero] at e3
   have z3:x3/67108864=0:=Int.ediv_eq_zero_of_lt h3.1 h3.2
   rw [e3,z3,Int.add_zero] at e4
   have z4:x4/67108864=0:=Int.ediv_eq_zero_of_lt h4.1 h4.2
   rw [e1,e2,e3,e4,z4,Int.emod_eq_of_lt h0.1 h0.2,Int.emod_eq_of_lt h1.1 h1.2,Int.emod_eq_of_lt h2.1 h2.2,Int.emod_eq_of_lt h3.1 h3.2,Int.emod_eq_of_lt h4.1 h4.2,Int.mul_zero,Int.add_zero]
theorem Qp {x:List Int} (h:Ok x):UT (settled x)/\∃ q,L (settled x)=L x-p*q:=by
 obtain ⟨h1,q,h2⟩:=NV h
 have e:settled x=pass x:=CE h1
 rw [e]
 exact ⟨h1,q,h2⟩
end P
namespace P
theorem CI {t:List Int} (h:UT t):UT (yP t)/\L (yP t)=L t%p:=by
 have h':=h
 obtain ⟨hl,h0,h1,h2,h3,h4⟩:=h
 match t,hl with
 | [t0,t1,t2,t3,t4],_=>
   simp only [List.getD_cons_zero,List.getD_cons_succ] at h0 h1 h2 h3 h4
   have e0:g0 [t0,t1,t2,t3,t4]=t0+5:=by unfold g0;simp only [List.getD_cons_zero];rw [iR (by omega)]
   obtain ⟨q0,Rp⟩:∃ q,q=(t0+5)/67108864:=⟨_,rfl⟩
   have r0:0<=q0/\q0<=1:=by omega
   have e1:g1 [t0,t1,t2,t3,t4]=t1+q0:=by unfold g1;rw [e0,tY,<- Rp];simp only [List.getD_cons_zero,List.getD_cons_succ];rw [iR (by omega)]
   obtain ⟨q1,Bf⟩:∃ q,q=(t1+q0)/67108864:=⟨_,rfl⟩
   have r1:0<=q1/\q1<=1:=by clear Rp;omega
   have e2:g2 [t0,t1,t2,t3,t4]=t2+q1:=by unfold g2;rw [e1,tY,<- Bf];simp only [List.getD_cons_zero,List.getD_cons_succ];rw [iR (by clear Rp Bf;omega)]
   obtain ⟨q2,Wr⟩:∃ q,q=(t2+q1)/67108864:=⟨_,rfl⟩
   have r2:0<=q2/\q2<=1:=by clear Rp Bf;omega
   have e3:g3 [t0,t1,t2,t3,t4]=t3+q2:=by unfold g3;rw [e2,tY,<- Wr];simp only [List.getD_cons_zero,List.getD_cons_succ];rw [iR (by clear Rp Bf Wr;omega)]
   obtain ⟨q3,UD⟩:∃ q,q=(t3+q2)/67108864:=⟨_,rfl⟩
   have r3:0<=q3/\q3<=1:=by clear Rp Bf Wr;omega
   have e4:g4 [t0,t1,t2,t3,t4]=t4+q3:=by unfold g4;rw [e3,tY,<- UD];simp only [List.getD_cons_zero,List.getD_cons_succ];rw [iR (by clear Rp Bf Wr UD;omega)]
   obtain ⟨q4,hq4⟩:∃ q,q=(t4+q3)/67108864:=⟨_,rfl⟩
   have r4:q4=0\/q4=1:=by clear Rp Bf Wr UD;omega
   have d0:=Int.emod_add_mul_ediv (t0+5) 67108864
   have d1:=Int.emod_add_mul_ediv (t1+q0) 67108864
   have d2:=Int.emod_add_mul_ediv (t2+q1) 67108864
   have d3:=Int.emod_add_mul_ediv (t3+q2) 67108864
   have d4:=Int.emod_add_mul_ediv (t4+q3) 67108864
   rw [<- Rp] at d0
   rw [<- Bf] at d1
   rw [<- Wr] at d2
   rw [<- UD] at d3
   rw [<- hq4] at d4
   have m0:=Int.emod_nonneg (t0+5) (show (67108864:Int)≠0 by decide)
   have m1:=Int.emod_nonneg (t1+q0) (show (67108864:Int)≠0 by decide)
   have m2:=Int.emod_nonneg (t2+q1) (show (67108864:Int)≠0 by decide)
   have m3:=Int.emod_nonneg (t3+q2) (show (67108864:Int)≠0 by decide)
   have m4:=Int.emod_nonneg (t4+q3) (show (67108864:Int)≠0 by decide)
   have n0:=Int.emod_lt_of_pos (t0+5) (show (0:Int)<67108864 by decide)
   have n1:=Int.emod_lt_of_pos (t1+q0) (show (0:Int)<67108864 by decide)
   have n2:=Int.emod_lt_of_pos (t2+q1) (show (0:Int)<67108864 by decide)
   have n3:=Int.emod_lt_of_pos (t3+q2) (show (0:Int)<67108864 by decide)
   have n4:=Int.emod_lt_of_pos (t4+q3) (show (0:Int)<67108864 by decide)
   have s:sh (g4 [t0,t1,t2,t3,t4])=q4:=by rw [e4,tY,hq4]
   have l0:lo (t0+5)=(t0+5)%67108864:=pI (by clear Rp Bf Wr UD hq4 d0 d1 d2 d3 d4;omega)
   have l1:lo (t1+q0)=(t1+q0)%67108864:=pI (by clear Rp Bf Wr UD hq4 d0 d1 d2 d3 d4;omega)
   have l2:lo (t2+q1)=(t2+q1)%67108864:=pI (by clear Rp Bf Wr UD hq4 d0 d1 d2 d3 d4;omega)
   have l3:lo (t3+q2)=(t3+q2)%67108864:=pI (by clear Rp Bf Wr UD hq4 d0 d1 d2 d3 d4;omega)
   have l4:lo (t4+q3)=(t4+q3)%67108864:=pI (by clear Rp Bf Wr UD hq4 d0 d1 d2 d3 d4;omega)
   unfold yP
   rw [s,e0,e1,e2,e3,e4,l0,l1,l2,l3,l4]
   simp only [List.getD_cons_zero,List.getD_cons_succ]
   clear Rp Bf Wr UD hq4 e0 e1 e2 e3 e4 s l0 l1 l2 l3 l4
   generalize (t0+5)%67108864=x0 at *
   generalize (t1+q0)%67108864=x1 at *
   generalize (t2+q1)%67108864=x2 at *
   generalize (t3+q2)%67108864=x3 at *
   generalize (t4+q3)%67108864=x4 at *
   have c:∀ x:Int,0<=x/\x<67108864->0<=x/\x<18446744073709551616:=fun x hx=>by clear d0 d1 d2 d3 d4;omega
   rcases r4 with rfl | rfl
   .rw [Oc (c _ h0),Oc (c _ h1),Oc (c _ h2),Oc (c _ h3),Oc (c _ h4)]
    refine ⟨h',?_⟩
    rw [Dx]
    unfold p
    rw [Int.emod_eq_of_lt (by omega) (by omega)]
   .rw [Ob (c _ ⟨m0,n0⟩),Ob (c _ ⟨m1,n1⟩),Ob (c _ ⟨m2,n2⟩),Ob (c _ ⟨m3,n3⟩),Ob (c _ ⟨m4,n4⟩)]
    refine ⟨⟨rfl,⟨m0,n0⟩,⟨m1,n1⟩,⟨m2,n2⟩,⟨m3,n3⟩,⟨m4,n4⟩⟩,?_⟩
    rw [Dx,Dx]
    unfold p
    have hd:x0+67108864*x1+4503599627370496*x2+302231454903657293676544*x3+20282409603651670423947251286016*x4=t0+67108864*t1+4503599627370496*t2+302231454903657293676544*t3+20282409603651670423947251286016*t4-1361129467683753853853498429727072845819:=by omega
    have z0:0<=x0+67108864*x1+4503599627370496*x2+302231454903657293676544*x3+20282409603651670423947251286016*x4:=by clear hd d0 d1 d2 d3 d4;omega
    have z1:t0+67108864*t1+4503599627370496*t2+302231454903657293676544*t3+20282409603651670423947251286016*t4<1361129467683753853853498429727072845824:=by clear hd d0 d1 d2 d3 d4;omega
    rw [hd] at z0 |-
    clear hd d0 d1 d2 d3 d4
    generalize t0+67108864*t1+4503599627370496*t2+302231454903657293676544*t3+20282409603651670423947251286016*t4=z at *
    have k:z=(z-1361129467683753853853498429727072845819)+1361129467683753853853498429727072845819*1:=by omega
    have e:z%1361129467683753853853498429727072845819=(z-1361129467683753853853498429727072845819)%1361129467683753853853498429727072845819:=by
     conv=>lhs;rw [k]
     rw [Int.add_mul_emod_self_left]
    rw [e,Int.emod_eq_of_lt z0 (by omega)]
theorem OH {a:List Int} (h:Ok a):UT (least a)/\L (least a)=L a%p:=by
 obtain ⟨h1,q,h2⟩:=Qp h
 obtain ⟨h3,h4⟩:=CI h1
 refine ⟨h3,?_⟩
 show L (yP (settled a))=_
 rw [h4,h2,Int.sub_eq_add_neg,<- Int.mul_neg,Int.add_mul_emod_self_left]
end P
namespace P
theorem Ea {y:Int} (k:Nat) (hk:k<=64):dK .u64 y (k:Int)=(y*((2^k:Nat):Int))%18446744073709551616:=by
 unfold dK
 rw [zzt,show min k IntKind.u64.bits=k from Nat.min_eq_left hk]
 show (y*2^k)%18446744073709551616=_
 rw [Int.natCast_pow];rfl
theorem aUm (y:Int):dK .u64 y 26=(y*67108864)%18446744073709551616:=Ea 26 (by decide)
theorem aUk (y:Int):dK .u64 y 52=(y*4503599627370496)%18446744073709551616:=Ea 52 (by decide)
theorem aUp (y:Int):dK .u64 y 14=(y*16384)%18446744073709551616:=Ea 14 (by decide)
theorem aUl (y:Int):dK .u64 y 40=(y*1099511627776)%18446744073709551616:=Ea 40 (by decide)
theorem aUj (n:Int):cB .u64 n 12=n/4096:=Dz n 12 (by decide)
theorem Od {x y:Int} {k:Nat} {m:Int} (hm:m=((2^k:Nat):Int)) (hx:0<=x/\x<m) (hy:0<=y) (h:y*m+x<18446744073709551616):lD .u64 x (y*m)=x+y*m:=by
 obtain ⟨a,rfl⟩:=zzT hx.1
 obtain ⟨b,rfl⟩:=zzT hy
 subst hm
 have h1:a<2^k:=by have:=hx.2;omega
 rw [<- Int.natCast_mul] at h |-
 rw [or_eq h1 (by omega),Int.natCast_add];omega
theorem aNn {t:List Int} (h:UT t):low t=t.getD 0 0+67108864*t.getD 1 0+4503599627370496*(t.getD 2 0%4096):=by
 obtain ⟨_,h0,h1,h2,_,_⟩:=h
 unfold low
 generalize t.getD 0 0=t0 at *
 generalize t.getD 1 0=t1 at *
 generalize t.getD 2 0=t2 at *
 rw [aUm,aUk,show (t1*67108864)%18446744073709551616=t1*67108864 by omega,show (t2*4503599627370496)%18446744073709551616=(t2%4096)*4503599627370496 by omega,
  Od (k:=26) (m:=67108864) rfl h0 h1.1 (by omega),Od (k:=52) (m:=4503599627370496) rfl (by omega) (by omega) (by omega)]
 omega
theorem aDl {t:List Int} (h:UT t):high t=t.getD 2 0/4096+16384*t.getD 3 0+1099511627776*(t.getD 4 0%16777216):=by
 obtain ⟨_,_,_,h2,h3,h4⟩:=h
 unfold high
 generalize t.getD 2 0=t2 at *
 generalize t.getD 3 0=t3 at *
 generalize t.getD 4 0=t4 at *
 rw [aUj,aUp,aUl,show (t3*16384)%18446744073709551616=t3*16384 by omega,show (t4*1099511627776)%18446744073709551616=(t4%16777216)*1099511627776 by omega,
  Od (k:=14) (m:=16384) rfl (by omega) h3.1 (by omega),Od (k:=40) (m:=1099511627776) rfl (by omega) (by omega) (by omega)]
 omega
theorem Oz {t:List Int} (h:UT t):low t+18446744073709551616*high t=L t%340282366920938463463374607431768211456/\(0<=low t/\low t<18446744073709551616)/\(0<=high t/\high t<18446744073709551616):=by
 rw [aNn h,aDl h]
 obtain ⟨_,h0,h1,h2,h3,h4⟩:=h
 unfold L
 generalize t.getD 0 0=t0 at *
 generalize t.getD 1 0=t1 at *
 generalize t.getD 2 0=t2 at *
 generalize t.getD 3 0=t3 at *
 generalize t.getD 4 0=t4 at *
 refine ⟨?_,by omega,by omega⟩
 have d2:=Int.emod_add_mul_ediv t2 4096
 have d4:=Int.emod_add_mul_ediv t4 16777216
 have m2:=Int.emod_nonneg t2 (show (4096:Int)≠0 by decide)
 have n2:=Int.emod_lt_of_pos t2 (show (0:Int)<4096 by decide)
 have m4:=Int.emod_nonneg t4 (show (16777216:Int)≠0 by decide)
 have n4:=Int.emod_lt_of_pos t4 (show (0:Int)<16777216 by decide)
 have q2:0<=t2/4096/\t2/4096<16384:=by omega
 generalize t2%4096=r2 at *
 generalize t2/4096=s2 at *
 generalize t4%16777216=r4 at *
 generalize t4/16777216=s4 at *
 have e:t0+67108864*t1+4503599627370496*t2+302231454903657293676544*t3+20282409603651670423947251286016*t4=(t0+67108864*t1+4503599627370496*r2+18446744073709551616*(s2+16384*t3+1099511627776*r4))+340282366920938463463374607431768211456*s4:=by omega
 rw [e,Int.add_mul_emod_self_left,Int.emod_eq_of_lt (by omega) (by omega)]
end P
namespace P
def S (b:List Int) (k:Nat):Nat->Int
 | 0=>0
 | n+1=>S b k n+b.getD (k+n) 0*((256^n:Nat):Int)
theorem Ot {b:List Int} (hb:∀ i,tW (b.getD i 0)) (k:Nat):∀ n,0<=S b k n/\S b k n<((256^n:Nat):Int)
 | 0=>⟨Int.le_refl 0,(by decide:(0:Int)<((256^0:Nat):Int))⟩
 | n+1=>by
   obtain ⟨h1,h2⟩:=Ot hb k n
   have hy:=hb (k+n)
   have hp:(0:Int)<((256^n:Nat):Int):=Int.natCast_pos.2 (Nat.pow_pos (by decide))
   have e:((256^(n+1):Nat):Int)=256*((256^n:Nat):Int):=by rw [Nat.pow_succ,Nat.mul_comm,Int.natCast_mul];rfl
   have a1:0<=b.getD (k+n) 0*((256^n:Nat):Int):=Int.mul_nonneg hy.1 (Int.le_of_lt hp)
   have a2:b.getD (k+n) 0*((256^n:Nat):Int)<=255*((256^n:Nat):Int):=Int.mul_le_mul_of_nonneg_right (by have:=hy.2;omega) (Int.le_of_lt hp)
   simp only [S]
   rw [e]
   omega
theorem Ej {b:List Int} (hb:∀ i,tW (b.getD i 0)) (k:Nat):∀ n,n<=8->acc b k n=S b k n
 | 0,_=>rfl
 | n+1,hn=>by
   obtain ⟨h1,h2⟩:=Ot hb k n
   obtain ⟨h3,h4⟩:=Ot hb k (n+1)
   have hy:=hb (k+n)
   have hw:W (b.getD (k+n) 0)=b.getD (k+n) 0:=iR (by have:=hy.1;have:=hy.2;omega)
   have aSb:(256^n:Nat)=2^(8*n):=by rw [Nat.pow_mul]
   have bHi:((256^(n+1):Nat):Int)<=18446744073709551616:=by
    have:(256:Nat)^(n+1)<=256^8:=Nat.pow_le_pow_right (by decide) hn
    have e8:(256:Nat)^8=18446744073709551616:=by decide
    omega
   have hnn:0<=b.getD (k+n) 0*((256^n:Nat):Int):=Int.mul_nonneg hy.1 (Int.natCast_nonneg _)
   simp only [S] at h3 h4 |-
   simp only [acc]
   rw [Ej hb k n (by omega),hw,show (8:Int)*(n:Int)=((8*n:Nat):Int) by omega,Ea (8*n) (by omega),<- aSb,Int.emod_eq_of_lt hnn (by omega)]
   exact Od (k:=8*n) (by rw [aSb]) ⟨h1,h2⟩ hy.1 (by omega)
end P
namespace P
theorem tH {x:Int} (hx:0<=x) {i:Nat} (hi:i<8):byteOf x i=x/((256^i:Nat):Int)%256:=by
 unfold byteOf
 rw [show (8:Int)*(i:Int)=((8*i:Nat):Int) by omega,Dz x (8*i) (by omega),show (2:Nat)^(8*i)=256^i by rw [Nat.pow_mul]]
 rfl
theorem Fx (x:Int) (i:Nat):tW (byteOf x i):=by
 have e:byteOf x i=(cB .u64 x (8*(i:Int)))%256:=rfl
 unfold tW
 rw [e];omega
theorem mod_succ (x:Int) (n:Nat):x%((256^(n+1):Nat):Int)=x%((256^n:Nat):Int)+(x/((256^n:Nat):Int)%256)*((256^n:Nat):Int):=by
 have hp:(0:Int)<((256^n:Nat):Int):=Int.natCast_pos.2 (Nat.pow_pos (by decide))
 have e:((256^(n+1):Nat):Int)=((256^n:Nat):Int)*256:=by rw [Nat.pow_succ,Int.natCast_mul];rfl
 rw [e]
 generalize ((256^n:Nat):Int)=m at *
 have h1:=Int.emod_add_mul_ediv x m
 have h2:=Int.emod_nonneg x (show m≠0 by omega)
 have h3:=Int.emod_lt_of_pos x hp
 have h4:=Int.emod_add_mul_ediv (x/m) 256
 have h5:=Int.emod_nonneg (x/m) (show (256:Int)≠0 by omega)
 have h6:=Int.emod_lt_of_pos (x/m) (show (0:Int)<256 by omega)
 generalize x/m%256=s at *
 generalize x/m/256=q at *
 generalize x%m=r at *
 have k:x=(r+s*m)+m*256*q:=by
  rw [<- h1,<- h4,Int.mul_add,Int.mul_comm m s,<- Int.mul_assoc];omega
 have l:r+s*m<m*256:=by
  have:s*m<=255*m:=Int.mul_le_mul_of_nonneg_right (by omega) (by omega)
  omega
 have l0:0<=r+s*m:=by
  have:0<=s*m:=Int.mul_nonneg h5 (by omega)
  omega
 rw [k,Int.add_mul_emod_self_left,Int.emod_eq_of_lt l0 l]
theorem AB {b:List Int} {k:Nat} {x:Int} (h:∀ i,i<8->b.getD (k+i) 0=x/((256^i:Nat):Int)%256):∀ n,n<=8->S b k n=x%((256^n:Nat):Int)
 | 0,_=>by simp [S,Int.emod_one]
 | n+1,hn=>by
   simp only [S]
   rw [AB h n (by omega),h n (by omega),mod_succ]
theorem S8 {b:List Int} {k:Nat} {x:Int} (h:∀ i,i<8->b.getD (k+i) 0=x/((256^i:Nat):Int)%256) (hx:0<=x/\x<18446744073709551616):S b k 8=x:=by
 rw [AB h 8 (zzr 8)]
 exact Int.emod_eq_of_lt hx.1 hx.2
theorem aOg (f g:Nat->Int) (r:List Int) {i:Nat} (hi:i<8):((List.range 8).map f++((List.range 8).map g++r)).getD i 0=f i:=by
 rw [zzG,List.getElem?_append_left (by simpa using hi)]
 simp [hi]
theorem aOh (f g:Nat->Int) (r:List Int) {i:Nat} (hi:i<8):((List.range 8).map f++((List.range 8).map g++r)).getD (8+i) 0=g i:=by
 rw [zzG,List.getElem?_append_right (by simp),List.getElem?_append_left (by simp;omega)]
 simp [hi]
theorem bGj {t:List Int} (h:UT t) (hb:∀ i,tW ((lY t).getD i 0)):acc (lY t) 0 8=low t/\acc (lY t) 8 8=high t:=by
 obtain ⟨_,hl,hh⟩:=Oz h
 rw [Ej hb 0 8 (zzr 8),Ej hb 8 8 (zzr 8)]
 refine ⟨S8 (fun i hi=>?_) hl,S8 (fun i hi=>?_) hh⟩
 .rw [Nat.zero_add]
  unfold lY
  rw [aOg _ _ _ hi,tH hl.1 hi]
 .unfold lY
  rw [aOh _ _ _ hi,tH hh.1 hi]
end P
namespace P
theorem tC {l:List Int} (h:∀ x∈l,tW x) (i:Nat):tW (l.getD i 0):=by
 rw [zzG]
 cases hi:l[i]? with
 | none=>exact ⟨Int.le_refl 0,(by decide:(0:Int)<256)⟩
 | some x=>exact h x (List.mem_of_getElem? hi)
theorem Wh (t:List Int):∀ i,tW ((lY t).getD i 0):=tC fun x hx=>by
 unfold lY at hx
 simp only [List.mem_append,List.mem_map,List.mem_singleton] at hx
 rcases hx with ⟨i,_,rfl⟩ | ⟨i,_,rfl⟩ | rfl
 .exact Fx _ _
 .exact Fx _ _
 .have e:IntKind.u8.wrap (cB .u64 (t.getD 4 0) 24)=(cB .u64 (t.getD 4 0) 24)%256:=rfl
  unfold tW
  rw [e];omega
def V2 (s:List Int):Int:=S s 0 8+18446744073709551616*S s 8 8
theorem BR {a s:List Int} (ha:Ok a) (hs:∀ i,tW (s.getD i 0)) :
 HM (lY (least a)) s=(L a%p+V2 s)%340282366920938463463374607431768211456%18446744073709551616/\HN (lY (least a)) s=(L a%p+V2 s)%340282366920938463463374607431768211456/18446744073709551616:=by
 obtain ⟨hR,hL⟩:=OH ha
 obtain ⟨hw,hl,hh⟩:=Oz hR
 obtain ⟨a0,a8⟩:=bGj hR (Wh _)
 have s0:=Ot hs 0 8
 have s8:=Ot hs 8 8
 have e8:((256^8:Nat):Int)=18446744073709551616:=by decide
 rw [e8] at s0 s8
 unfold HM HN V2
 rw [a0,a8,Ej hs 0 8 (zzr 8),Ej hs 8 8 (zzr 8),<- hL]
 clear hL a0 a8 e8
 generalize low (least a)=l at *
 generalize high (least a)=h at *
 generalize S s 0 8=x at *
 generalize S s 8 8=y at *
 generalize L (least a)=z at *
 have hz:=Int.emod_add_mul_ediv z 340282366920938463463374607431768211456
 rw [<- hw] at hz
 generalize z/340282366920938463463374607431768211456=k at *
 have d1:=Int.emod_add_mul_ediv (l+x+0) 18446744073709551616
 have m1:=Int.emod_nonneg (l+x+0) (show (18446744073709551616:Int)≠0 by decide)
 have n1:=Int.emod_lt_of_pos (l+x+0) (show (0:Int)<18446744073709551616 by decide)
 generalize (l+x+0)%18446744073709551616=lo at *
 generalize (l+x+0)/18446744073709551616=c at *
 have d2:=Int.emod_add_mul_ediv (h+y+c) 18446744073709551616
 have m2:=Int.emod_nonneg (h+y+c) (show (18446744073709551616:Int)≠0 by decide)
 have n2:=Int.emod_lt_of_pos (h+y+c) (show (0:Int)<18446744073709551616 by decide)
 generalize (h+y+c)%18446744073709551616=hi at *
 generalize (h+y+c)/18446744073709551616=d at *
 have e:z+(x+18446744073709551616*y)=(lo+18446744073709551616*hi)+340282366920938463463374607431768211456*(d+k):=by clear hw hl hh s0 s8;omega
 rw [e,Int.add_mul_emod_self_left,Int.emod_eq_of_lt (a:=lo+18446744073709551616*hi) (by clear e hz d1 d2 hw;omega) (by clear e hz d1 d2 hw;omega),Int.add_mul_emod_self_left,Int.emod_eq_of_lt m1 n1,Int.add_mul_ediv_left _ _ (by decide),Int.ediv_eq_zero_of_lt m1 n1,Int.zero_add]
 exact ⟨rfl,rfl⟩
end P
namespace P
theorem Xa {x q:Int}:(x-p*q)%p=x%p:=by rw [Int.sub_eq_add_neg,<- Int.mul_neg,Int.add_mul_emod_self_left]
theorem Yo {s b y:List Int} (hs:Ok s) (hy:Ok y) (hb:∀ i,tW (b.getD i 0)):Ok (plus s b y)/\L (plus s b y)%p=((L s%p+Rw b)*L y)%p:=by
 obtain ⟨hn,q1,e1⟩:=Kp hb
 obtain ⟨hm,q2,e2⟩:=aQx hs hn
 obtain ⟨hr,q3,e3⟩:=aNc hm hy
 refine ⟨hr,?_⟩
 show L (mul (add s (num b)) y)%p=_
 have h1:L (add s (num b))%p=(L s%p+Rw b)%p:=by
  rw [e2,Xa,e1,show L s+(Rw b-p*q1)=(L s+Rw b)-p*q1 by omega,Xa]
  unfold p
  omega
 rw [e3,Xa,Int.mul_emod,h1,<- Int.mul_emod]
theorem aTt:Ok (List.replicate 5 0):=⟨rfl,by decide,by decide,by decide,by decide,by decide⟩
theorem aZe:L (List.replicate 5 0)=0:=by decide
end P
namespace P
theorem aMo {S:MS} (hS:S.WF) (h0:S.held=0) {d:List Int} (hd:d.length=16):put S d=⟨S.eW,plus S.sum (d++[1]) S.eW,S.mask,oX,0⟩:=by
 obtain ⟨eW,sum,mask,aN,held⟩:=S
 simp only at h0
 subst h0
 rw [Es eW sum mask d aN 0 hS.Rl (by omega) (fun e=>by rw [e] at hd;cases hd)]
 rfl
def hor (r:Int) (d:List Int):Nat->Int
 | 0=>0
 | j+1=>((hor r d j+Rw ((d.drop (16*j)).take 16++[1]))*r)%p
theorem aFx {d:List Int} (hd:∀ x∈d,tW x) (j:Nat):∀ i,tW (((d.drop (16*j)).take 16++[1]).getD i 0):=tC fun x hx=>by
 rcases List.mem_append.1 hx with h | h
 .exact hd x (List.mem_of_mem_drop (List.mem_of_mem_take h))
 .simp only [List.mem_singleton] at h
  subst h
  exact ⟨by decide,by decide⟩
theorem Fp {eW mask:List Int} (hb:Ok eW) (hm:mask.length=16) {d:List Int} (hd:∀ x∈d,tW x):∀ j,16*j<=d.length ->
 ∃ s,put ⟨eW,List.replicate 5 0,mask,oX,0⟩ (d.take (16*j))=⟨eW,s,mask,oX,0⟩/\Ok s/\L s%p=hor (L eW) d j
 | 0,_=>⟨List.replicate 5 0,by rw [Nat.mul_zero,List.take_zero,aBf],aTt,by rw [aZe];rfl⟩
 | j+1,h=>by
   obtain ⟨s,e,hs,hL⟩:=Fp hb hm hd j (by omega)
   have hl:((d.drop (16*j)).take 16).length=16:=by rw [List.length_take,List.length_drop];omega
   have hw:(⟨eW,s,mask,oX,0⟩:MS).WF:=⟨hb.len,hs.len,hm,rfl,(by decide:0<16),rfl⟩
   obtain ⟨h1,h2⟩:=Yo hs hb (aFx hd j)
   refine ⟨plus s ((d.drop (16*j)).take 16++[1]) eW,?_,h1,?_⟩
   .have et:d.take (16*(j+1))=d.take (16*j)++(d.drop (16*j)).take 16:=by rw [Nat.mul_add,Nat.mul_one,List.take_add]
    rw [et,mF,e,aMo hw rfl hl]
   .rw [h2,hL];rfl
end P
namespace P
def Gw (S:MS):List Int:=if 0<S.held then plus S.sum ((S.aN++[0]).set S.held 1) S.eW else S.sum
def Sk (r:Int) (d:List Int):Int:=if d.length%16=0 then hor r d (d.length/16) else ((hor r d (d.length/16)+Rw (d.drop (16*(d.length/16))++1::List.replicate (16-d.length%16) 0))*r)%p
theorem ON {r:List Int} (h:r.length<16):((oX.take 0++r++oX.drop (0+r.length))++[0]).set (0+r.length) 1=r++1::List.replicate (16-r.length) 0:=by
 have e:oX.drop (0+r.length)++[0]=0::List.replicate (16-r.length) 0:=by
  unfold oX
  rw [List.drop_replicate,Nat.zero_add,<- List.replicate_succ,<- List.replicate_succ']
 rw [List.take_zero,zzv,List.append_assoc,e,Nat.zero_add,List.set_append_right _ _ (zzr _),Nat.sub_self]
 rfl
theorem aOl {eW mask:List Int} (hb:Ok eW) (hm:mask.length=16) {d:List Int} (hd:∀ x∈d,tW x) :
 Ok (Gw (put ⟨eW,List.replicate 5 0,mask,oX,0⟩ d))/\L (Gw (put ⟨eW,List.replicate 5 0,mask,oX,0⟩ d))%p=Sk (L eW) d/\(put ⟨eW,List.replicate 5 0,mask,oX,0⟩ d).mask=mask:=by
 obtain ⟨s,e,hs,hL⟩:=Fp hb hm hd (d.length/16) (by omega)
 have hr:(d.drop (16*(d.length/16))).length=d.length%16:=by rw [List.length_drop];omega
 have ed:put ⟨eW,List.replicate 5 0,mask,oX,0⟩ d=put ⟨eW,s,mask,oX,0⟩ (d.drop (16*(d.length/16))):=by
  rw [<- e,<- mF,List.take_append_drop]
 have ef:=wE eW s mask (d.drop (16*(d.length/16))) oX 0 rfl (by rw [hr];omega)
 rw [ed,ef]
 unfold Gw Sk
 simp only
 by_cases h0:d.length%16=0
 .rw [if_neg (by omega),if_pos h0]
  exact ⟨hs,hL,trivial⟩
 .rw [if_pos (by omega),if_neg h0,ON (by omega),hr]
  obtain ⟨h1,h2⟩:=Yo (s:=s) (y:=eW) (b:=d.drop (16*(d.length/16))++1::List.replicate (16-d.length%16) 0) hs hb (tC fun x hx=>by
   rcases List.mem_append.1 hx with h | h
   .exact hd x (List.mem_of_mem_drop h)
   .rcases List.mem_cons.1 h with rfl | h
    .exact ⟨by decide,by decide⟩
    .rw [List.eq_of_mem_replicate h];exact ⟨by decide,by decide⟩)
  exact ⟨h1,by rw [h2,hL],trivial⟩
end P
theorem Bp {L:List Int} (h:L.length=16):Wp (fun j=>L.getD j 0)=L:=eD h
theorem aMn {L K:List Int} (h:L.length=16):Wp (fun j=>(L++K).getD j 0)=L:=by
 rw [<- Bp h]
 refine List.map_congr_left fun j hj=>?_
 have hj:j<16:=by simpa using hj
 rw [Bp h,zzG,List.getElem?_append_left (by omega),<- zzG]
theorem LK {L K:List Int} (h:L.length=16) (hk:K.length=16):Wp (fun j=>(L++K).getD (16+j) 0)=K:=by
 conv=>rhs;rw [<- Bp hk]
 refine List.map_congr_left fun j hj=>?_
 rw [zzG,List.getElem?_append_right (by omega),h,show 16+j-16=j by omega,<- zzG]
theorem Hv {S':P.MS} {b s:List Int} {mk bk:Nat->Int} {h:Int} (h1:b=S'.eW) (h2:s=S'.sum) (h3:∀ j<16,mk j=S'.mask.getD j 0) (h4:∀ j<16,bk j=S'.aN.getD j 0) (h5:h=(S'.held:Int)):∀ q∈qM b s mk bk h S',q:=by
 subst h1 h2 h5
 intro q hq
 simp only [qM,List.mem_append,List.mem_map,List.mem_range,List.mem_cons,List.not_mem_nil,or_false] at hq
 rcases hq with ⟨j,_,rfl⟩ | ⟨j,_,rfl⟩ | ⟨j,hj,rfl⟩ | ⟨j,hj,rfl⟩ | rfl
 .trivial
 .trivial
 .exact h3 j hj
 .exact h4 j hj
 .trivial
theorem Eb {S S':P.MS} (h:S=S'):∀ q∈qMS S S',q:=by
 subst h
 exact Hv rfl rfl (fun _ _=>rfl) (fun _ _=>rfl) rfl
theorem P.Og {S:P.MS} (h:S.WF):P.nf S=S:=by
 obtain ⟨eW,sum,mask,aN,held⟩:=S
 obtain ⟨h1,h2,h3,h4,h5,h6⟩:=h
 simp only [P.nf,jK h1,jK h2,eD h3,eD h4,zzt]
theorem Sy {y s:List Int} {mk bk:Nat->Int} {h:Int} {N:P.MS} {b:List Int} {r:List Prop} (hy:y.length=5) (hs:s.length=5) (hb:b.length=17)
 (hq:∀ q∈qM y s mk bk h N,q) (hr:∀ q∈r,q):∀ q∈tkG P.plus y s mk bk h N b r,q:=
 aV rfl (aV (by rw [jK hy];exact hy) (aV (by rw [jK hs];exact hs) (aV hb (aV rfl (aV rfl (rS hq hr))))))
theorem KZ {d:List Int} (h:16<=d.length):tkD d=d.take 16:=by
 unfold tkD
 rw [List.take_of_length_le]
 have:(d.take 16).length=16:=by rw [List.length_take];omega
 rw [this];decide
theorem KY {d:List Int} (h:16<=d.length):tqL d=d.take 16++[1]:=by
 have hl:(d.take 16).length=16:=by rw [List.length_take];omega
 unfold tqL WA
 rw [KZ h,hl,List.take_zero,zzv]
 show ((d.take 16)++[0]).set 16 1=_
 rw [List.set_append_right _ _ (by omega),hl]
 rfl
theorem aQh (d:List Int):d16 d=d.take 16:=rfl
theorem P.aVc {S:P.MS} (hS:S.WF) (h0:S.held=0) {d:List Int} (hd:d.length=16):P.put S d=⟨S.eW,P.plus S.sum (d++[1]) S.eW,S.mask,P.oX,0⟩:=by
 obtain ⟨eW,sum,mask,aN,held⟩:=S
 simp only at h0
 subst h0
 rw [P.Es eW sum mask d aN 0 hS.Rl (by omega) (fun e=>by rw [e] at hd;cases hd)]
 rfl
theorem P.Yc (j:Nat):P.oX.getD j 0=0:=by
 unfold P.oX
 rw [zzG,List.getElem?_replicate]
 split <;> rfl
theorem P.bFl {S:P.MS} (hS:S.WF) (h0:S.held=0):S.aN=P.oX:=by
 have:=hS.z
 rw [h0] at this
 exact this
theorem LC {S:P.MS} (hS:S.WF) (d:List Int) (h m:Nat):spM S d (27+h) m=S.mask++(S.aN.take h++d.take m++S.aN.drop (h+(d.take m).length)):=by
 unfold spM
 rw [eD hS.Rj,eD hS.Rl,show 27+h-11=S.mask.length+h by rw [hS.Rj];omega,List.take_length_add_append,Nat.add_assoc,List.drop_length_add_append]
 simp only [List.append_assoc]
theorem Zd {S:P.MS} (hS:S.WF) {d:List Int} {h m:Nat} (hm:h+(d.take m).length<=16):(S.aN.take h++d.take m++S.aN.drop (h+(d.take m).length)).length=16:=by
 have:=hS.Rl
 simp only [List.length_append,List.length_drop,List.length_take] at *
 omega
theorem aBy {S:P.MS} (d:List Int) (hS:S.WF) (hl:d.length<=1000000000000) :
 aE Tryz.prog (Ry P.plus) 84 (GD d.length) (TU S d) 100 100 (VC (.eP []) (P.put S d)):=by
 refine gI (Xy _) (Xz _) Tryz.func84 (by kernel_rfl) rfl (zzL (by kernel_rfl)) rfl [] ?_
 intro w0 M V0 Q hb H
 have aR:=Xy P.plus
 have aU:=Xz P.plus
 have key:∀ (S1:P.MS) (d2:List Int),S1.WF->(S1.held=0\/d2=[])->P.put S1 d2=P.put S d->d2.length<=1000000000000 ->
  G Tryz.prog (Ry P.plus) w0 M (aY 100 (TU S d)) Tryz.f84.ntmps 100 V0 (.go (.loop AZ)) mwK (bM (Co d2.length) (Cx S1 d2) 101 [60] []) Q:=by
  intro S1 d2 hw h0 he VL
  refine G.loop (fun r s=>∃ (S1:P.MS) (d2:List Int),S1.WF/\(S1.held=0\/d2=[])/\P.put S1 d2=P.put S d/\d2.length<=1000000000000/\r=d2.length/\s=bM (Co d2.length) (Cx S1 d2) 101 [60] []) (r0:=d2.length)
   ⟨S1,d2,hw,h0,he,VL,rfl,rfl⟩ ?_
  clear hw h0 he VL S1 d2
  rintro r s ⟨S1,d2,hw,h0,he,VL,rfl,rfl⟩
  by_cases vF:16<=d2.length
  .have hT:lT d2.length=true:=decide_eq_true (by omega)
   have h0:S1.held=0:=h0.resolve_right fun e=>by rw [e] at vF;simp at vF
   have ht:(d2.take 16).length=16:=by rw [List.length_take];omega
   have e1:=P.aVc hw h0 ht
   have h:=bBz P.plus S S1 (P.put S1 (d2.take 16)) d d2 (d2.drop 16) d2.length (d2.drop 16).length
   rw [aQh,KY (by omega),KZ (by omega),List.take_take,Nat.min_self,ht] at h
   refine G.kW aR aU mix hb [true] h ?_ (d2.drop 16).length (by rw [List.length_drop];omega) ⟨_,_,P.Kn hw _,?_,?_,?_,rfl,rfl⟩
   .have FQ:(WA (d2.take 16)).length=17:=by
     have:=congrArg List.length (KY (d:=d2.take 16) (by omega))
     rw [List.take_take] at this
     simpa [tqL,ht] using this
    have aSe:(d2.take 16++[1]).length=17:=by rw [List.length_append,ht];rfl
    refine aV ⟨by omega,by omega,by omega⟩ (Sy hw.b5 hw.s5 aSe (by rw [P.Og hw];exact Eb rfl) (rS ?_ (aV hT (aV rfl (aV (by rw [List.length_drop];omega) (rS ?_ (aV ?_ iQ)))))))
    .refine aA (show _/\_/\_/\_/\_/\_/\True from ⟨aSe,by rw [FQ];decide,⟨zzr 0,by omega⟩,by omega,zzr _,⟨by omega,by omega,by omega⟩,trivial⟩)
    .rw [e1]
     refine Hv rfl ?_ (fun _ _=>rfl) (fun j _=>by rw [P.bFl hw h0]) (by rw [h0])
     show P.plus _ _ _=P.plus _ _ _
     rw [jK hw.s5,jK hw.b5]
    .rw [List.take_of_length_le (by rw [List.length_drop];omega)];rfl
   .left;rw [e1]
   .rw [<- P.mF,List.take_append_drop];exact he
   .rw [List.length_drop];omega
  .have hT:lT d2.length=false:=zzF (by omega)
   refine G.cW aR aU mix hb [false] (bBy P.plus S S1 S1 d d2 d2 d2.length d2.length) (aV hT (aV rfl (aV rfl (rS (Eb rfl) (aV rfl iQ))))) (G.leave (by simp) ?_)
   by_cases hz:d2.length=0
   .have hd:d2=[]:=List.length_eq_zero_iff.1 hz
    subst hd
    have hP:gP 0=false:=rfl
    have h6:=bBw P.plus S S1 d [] 0
    have e3:S1=P.put S d:=he
    rw [e3] at h6
    rw [e3]
    exact G.oQ (cl:=[]) aR aU mix [false] H h6 (aV hP (aV rfl iQ)) rfl rfl rfl
   .have h0:S1.held=0:=h0.resolve_right fun e=>hz (by rw [e];rfl)
    have hP:gP d2.length=true:=decide_eq_true (by omega)
    have h5:=bBx P.plus S S1 d d2 d2.length
    have e3:spF S1 d2=P.put S d:=by
     rw [<- he]
     have bDh:d2.length.min 16=d2.length:=Nat.min_eq_left (by omega)
     have em:=LC hw d2 0 d2.length
     rw [List.take_length,List.take_zero,zzv,Nat.zero_add] at em
     have hlen:=Zd hw (d:=d2) (h:=0) (m:=d2.length) (by rw [List.take_length];omega)
     rw [List.take_length,List.take_zero,zzv,Nat.zero_add] at hlen
     have ep:=P.wE S1.eW S1.sum S1.mask d2 S1.aN 0 hw.Rl (by omega)
     rw [List.take_zero,zzv,Nat.zero_add] at ep
     have eS:S1=⟨S1.eW,S1.sum,S1.mask,S1.aN,0⟩:=by rw [<- h0]
     rw [eS,ep]
     unfold spF spE
     simp only [bDh]
     have em':spM ⟨S1.eW,S1.sum,S1.mask,S1.aN,0⟩ d2 27 d2.length=S1.mask++(d2++S1.aN.drop d2.length):=em
     rw [em',aMn hw.Rj,LK hw.Rj hlen]
    rw [e3] at h5
    exact G.oQ (cl:=[]) aR aU mix [true] H h5 (aV ⟨by omega,by rw [List.length_take];omega⟩ (aV hP (aV rfl iQ))) rfl rfl rfl
 by_cases hz:S.held=0
 .have hG:gT S.held=false:=zzF (by omega)
  refine G.cW aR aU mix hb [false] (bCc P.plus S S d d d.length d.length) (aV hG (aV rfl (aV rfl (rS (Eb rfl) (aV rfl iQ))))) ?_
  exact key S d hS (.inl hz) rfl hl
 .have hG:gT S.held=true:=decide_eq_true (by omega)
  have hh:=hS.hl
  have hm:mM d S.held=min d.length (16-S.held):=rfl
  have hmd:mM d S.held<=d.length:=by rw [hm];omega
  have bHl:S.held+mM d S.held<=16:=by rw [hm];omega
  have hmz:mM d S.held=d.length\/S.held+mM d S.held=16:=by rw [hm];omega
  clear hm
  generalize hmm:mM d S.held=m at *
  have EU:(d.take m).length=m:=by rw [List.length_take];omega
  have ho:oM S.held=27+S.held:=by unfold oM;rw [if_neg (by omega),zzt];omega
  have hhq:hq S.held m=((S.held+m:Nat):Int):=by unfold hq;rw [IntWalk.i64_in _ (by omega)];omega
  have em:=LC hS d S.held m
  have hlen:=Zd hS (d:=d) (h:=S.held) (m:=m) (by omega)
  have ej:spJ S d=fun j=>(S.mask++(S.aN.take S.held++d.take m++S.aN.drop (S.held+(d.take m).length))).getD j 0:=by
   funext j;unfold spJ;rw [ho,hmm,em]
  rw [EU] at ej hlen em
  have hmc:∀ {r:List Prop},(∀ q∈r,q)->∀ q∈mcO S.held d.length m d r,q:=fun hr=>
   aV ⟨by omega,by omega,by omega⟩ (aV ⟨by rw [ho];omega,by rw [ho,EU];omega⟩ (aV ⟨by omega,by omega,by omega,by omega,Int.natCast_nonneg _,by omega⟩ (aV hG (aV rfl hr))))
  have hdl:(d.drop m).length=d.length-m:=List.length_drop
  have htd:(d.drop (m:Int).toNat).take ((d.length:Int).toNat-(m:Int).toNat)=d.drop m:=by
   rw [zzt,zzt,List.take_of_length_le (by rw [hdl];omega)]
  have UB:=P.Kn hS (d.take m)
  have hpp:P.put (P.put S (d.take m)) (d.drop m)=P.put S d:=by rw [<- P.mF,List.take_append_drop]
  by_cases hf:S.held+m=16
  .have hbq:(hq S.held m==16)=true:=by rw [hhq,hf];rfl
   have ep:=P.Es S.eW S.sum S.mask (d.take m) S.aN S.held hS.Rl (by omega) (fun e=>by rw [e] at EU;simp at EU;omega)
   have eS:P.put S (d.take m)=⟨S.eW,P.plus S.sum (S.aN.take S.held++d.take m++[1]) S.eW,S.mask,P.oX,0⟩:=ep
   have aSw:S.aN.drop (S.held+m)=[]:=List.drop_eq_nil_of_le (by rw [hf];exact Nat.le_of_eq hS.Rl)
   have hB:GG S d=S.aN.take S.held++d.take m++[1]:=by
    unfold GG
    rw [ej,LK hS.Rj hlen,aSw,List.append_nil]
   have bDv:(GG S d).length=17:=by rw [hB];rw [aSw,List.append_nil] at hlen;rw [List.length_append,hlen];rfl
   have h2:=bCa P.plus S (P.put S (d.take m)) d (d.drop m) d.length (d.drop m).length
   rw [hmm] at h2
   refine G.cW aR aU mix hb [true,true] h2 (Sy hS.b5 hS.s5 bDv ?_ (aV hbq (aV rfl (hmc (aV (by rw [hdl];omega) (rS ?_ (aV htd iQ))))))) ?_
   .unfold spN
    refine Hv (jK hS.b5).symm (jK hS.s5).symm (fun j hj=>?_) (fun j hj=>?_) ?_
    .simp [Wp,zzG,hj]
    .simp [Wp,zzG,hj]
    .rw [hmm,hhq,zzt]
   .rw [eS]
    refine Hv rfl (by show P.plus _ _ _=P.plus _ _ _;rw [jK hS.s5,jK hS.b5,hB]) (fun j hj=>?_) (fun j hj=>?_) rfl
    .rw [ej];simp only
     rw [zzG,List.getElem?_append_left (by rw [hS.Rj];exact hj),<- zzG]
    .exact (P.Yc j).symm
   .exact key _ _ UB (.inl (by rw [eS])) hpp (by rw [hdl];omega)
  .have bHj:m=d.length:=hmz.resolve_right hf
   have hbq:(hq S.held m==16)=false:=by rw [hhq];simpa using by omega
   have ep:=P.wE S.eW S.sum S.mask (d.take m) S.aN S.held hS.Rl (by omega)
   have eS:P.put S (d.take m)=⟨S.eW,S.sum,S.mask,S.aN.take S.held++d.take m++S.aN.drop (S.held+(d.take m).length),S.held+(d.take m).length⟩:=ep
   rw [EU] at eS
   have h1:=bCb P.plus S (P.put S (d.take m)) d (d.drop m) d.length (d.drop m).length
   rw [hmm,ho,em] at h1
   refine G.cW aR aU mix hb [true,false] h1 (aV hbq (aV rfl (hmc (aV (by rw [hdl];omega) (rS ?_ (aV htd iQ)))))) ?_
   .rw [eS]
    refine Hv rfl rfl (fun j hj=>?_) (fun j hj=>?_) hhq
    .rw [zzG,List.getElem?_append_left (by rw [hS.Rj];exact hj),<- zzG]
    .rw [zzG,List.getElem?_append_right (by rw [hS.Rj];omega),hS.Rj,show 16+j-16=j by omega,<- zzG]
   .exact key _ _ UB (.inr (List.drop_eq_nil_of_le (by omega))) hpp (by rw [hdl];omega)
noncomputable def Sp (pl:List Int->List Int->List Int->List Int):Nat->Option Sum:=dO (aJm pl) 129 (aL aB 100 Xd)
theorem Zl (pl:List Int->List Int->List Int->List Int):∀ f S,Sp pl f=some S->∀ Γ:Env,Γ.aT=aB->aI Tryz.prog Γ f S:=bE (Zm pl) 129 _ LM
theorem aUc (pl:List Int->List Int->List Int->List Int) (S:P.MS):aF (env (Sp pl) 4) Tryz.f85 true [false] 1500 [.ptr 60 true 0] (mnT S) 100 100 =
 some { bK:=[(c5 S.sum).length=5,(cN 16 S.mask).length=16,c5 S.sum=c5 S.sum,cN 16 S.mask=cN 16 S.mask,gT S.held=false,gT S.held=gT S.held],val:=.agg (cI .u8 16 (P.tag (c5 S.sum) (cN 16 S.mask))) }:=by kernel_rfl
def tgB (S:P.MS):List Int:=(cN 16 S.aN++[0]).set (0+(S.held:Int).toNat*1) 1
def tgX (pl:List Int->List Int->List Int->List Int) (S:P.MS):List Int:=c5 (pl (c5 S.sum) (tgB S) (c5 S.eW))
def Rl (a b:List Int):List Prop:=[a.length=5,b.length=16,a=a,b=b]
theorem aUb (pl:List Int->List Int->List Int->List Int) (S:P.MS):aF (env (Sp pl) 4) Tryz.f85 true [true] 1500 [.ptr 60 true 0] (mnT S) 100 100 =
 some { VC (.agg (cI .u8 16 (P.tag (tgX pl S) (cN 16 S.mask)))) (P.nf S) with bK:=Rl (tgX pl S) (cN 16 S.mask)++tkG pl S.eW S.sum (S.mask.getD · 0) (S.aN.getD · 0) S.held (P.nf S) (tgB S) [(tgB S).length=17,0+(S.held:Int).toNat*1<(cN 16 S.aN++[0]).length,0<=(S.held:Int)/\(S.held:Int)<(17:Nat),gT S.held=true,gT S.held=gT S.held] }:=by kernel_rfl
namespace P
def Hr (S:MS):List Int:=tag (Gw S) S.mask
end P
theorem NJ {S:P.MS} (hS:S.WF) (Γ:Env) (hg:Γ.aT=aB):aE Tryz.prog Γ 85 [.ptr 60 true 0] (mnT S) 100 100 (VC (.agg (cI .u8 16 (P.Hr S))) S):=by
 have hk:∀ {a b:List Int},a.length=5->b.length=16->∀ q∈Rl a b,q:=fun h1 h2=>aA (show _/\_/\_/\_/\True from ⟨h1,h2,rfl,rfl,trivial⟩)
 by_cases hz:S.held=0
 .have hG:gT S.held=false:=zzF (by omega)
  have hs:aI Tryz.prog (env (Sp P.plus) 4) 85 (aF (env (Sp P.plus) 4) Tryz.f85 true [false] 1500):=aM (bP _ 4) (bV _ (Zl _) 4) mix Tryz.func85 (by kernel_rfl) true [false] 1500
  have h:=hs.call (aUc P.plus S) (aV (by rw [jK hS.s5];exact hS.s5) (aV (by rw [eD hS.Rj];exact hS.Rj) (aV rfl (aV rfl (aV hG (aV rfl iQ))))))
  have e1:P.Hr S=P.tag (c5 S.sum) (cN 16 S.mask):=by unfold P.Hr P.Gw;rw [if_neg (by omega),jK hS.s5,eD hS.Rj]
  rw [e1]
  exact (h.same (l0:=60) (by simp only [mnT,mnL,aH]) rfl).words (by rw [hg];rfl) (fun _=>rfl) (fun _ _ h=>h) (fun V=>rfl) rfl rfl
 .have hG:gT S.held=true:=decide_eq_true (by omega)
  have hh:=hS.hl
  have hs:aI Tryz.prog (env (Sp P.plus) 4) 85 (aF (env (Sp P.plus) 4) Tryz.f85 true [true] 1500):=aM (bP _ 4) (bV _ (Zl _) 4) mix Tryz.func85 (by kernel_rfl) true [true] 1500
  have eB:tgB S=(S.aN++[0]).set S.held 1:=by unfold tgB;rw [eD hS.Rl,zzt,Nat.mul_one,Nat.zero_add]
  have hB:(tgB S).length=17:=by rw [eB,List.length_set,List.length_append,hS.Rl];rfl
  have eX:tgX P.plus S=P.Gw S:=by unfold tgX P.Gw;rw [if_pos (by omega),jK hS.s5,jK hS.b5,jK rfl,eB]
  have h:=hs.call (aUb P.plus S) (rS (hk (by rw [eX];unfold P.Gw;rw [if_pos (by omega)];rfl) (by rw [eD hS.Rj];exact hS.Rj)) (Sy hS.b5 hS.s5 hB (by rw [P.Og hS];exact Eb rfl)
   (aV hB (aV (by rw [eD hS.Rl,List.length_append,hS.Rl,zzt,List.length_singleton];omega) (aV ⟨by omega,by omega⟩ (aV hG (aV rfl iQ)))))))
  rw [P.Og hS,eX,eD hS.Rj] at h
  exact h.words (by rw [hg];rfl) (fun _=>rfl) (fun _ _ h=>h) (fun V=>rfl) rfl rfl
def IZ (vs:List SV) (T:bA):Option Canon:=match vs with
 | [.ptr l _ _,p]=>match T l with
   | some (.own cs ty)=>match Nat.beq ty 182,msN cs,cZ T .u8 p with
     | true,some S,some (ob,d)=>some { eN:=[.ptr 60 true 0,.eH 61 d.length],T0:=mtL S d,vl:=[(60,.lab l 0),(61,.arg 1)],e0:=VC (.eP []) (P.put S d),conds:=S.WF::(d.length<=1000000000000)::ob }
     | _,_,_=>none
   | _=>none
 | _=>none
theorem aNb (Γ:Env) (hg:Γ.aT=aB):aI Tryz.prog Γ 84 (aL aB 100 IZ):=by
 refine aW hg fun vs T c hd hc=>?_
 unfold IZ at hd
 split at hd
 case h_2=>cases hd
 split at hd
 case h_2=>cases hd
 split at hd
 case h_2=>cases hd
 cases hd
 exact (aBy _ (hc _ zzC) (hc _ (zzO _ zzC))).words (by rw [hg];rfl) (fun _=>rfl) (fun _ _ h=>h) (fun _=>rfl) rfl rfl
def Sz (vs:List SV) (T:bA):Option Canon:=match vs with
 | [.ptr l _ _]=>match T l with
   | some (.own cs ty)=>match Nat.beq ty 182,msN cs with
     | true,some S=>some { eN:=[.ptr 60 true 0],T0:=mnL S,vl:=[(60,.lab l 0)],e0:=VC (.agg (cI .u8 16 (P.Hr S))) S,conds:=[S.WF] }
     | _,_=>none
   | _=>none
 | _=>none
theorem YP (Γ:Env) (hg:Γ.aT=aB):aI Tryz.prog Γ 85 (aL aB 100 Sz):=by
 refine aW hg fun vs T c hd hc=>?_
 unfold Sz at hd
 split at hd
 case h_2=>cases hd
 split at hd
 case h_2=>cases hd
 split at hd
 case h_2=>cases hd
 cases hd
 exact NJ (hc _ zzC) Γ hg
open M in
def KK (vs:List SV) (T:bA):Option Canon:=match vs with
 | [.aJ lq true 0 nq cq,.ptr ls true 0,.aJ lu true 0 nu cu,.cQ lv 0 3 0]=>match T lq,T ls,T lu,T lv with
   | some (.own qs 196),some (.own [.raw (.pointer none)] 306),some (.own us 196),some (.row 1 _ 196)=>match dA .u64 qs,dA .u64 us,Nat.beq nu 4 with
     | some [y0],some [u0,u1,u2,u3,_,_,_],true=>match Nat.beq cu 7&&(Nat.beq nq 1&&Nat.beq cq 1) with
       | true=>some { eN:=Dd 4 7 1 1,T0:=[(61,.own (wc [y0]) 196),(62,.own [.raw (.pointer none)] 306),(63,.own (wc [u0,u1,u2,u3,0,0,0]) 196),(64,.row 1 fJ 196)],vl:=[(61,.lab lq 0),(62,.lab ls 0),(63,.lab lu 0),(64,.lab lv 0)]
                      e0:={ val:=.eP [],wr:=[(61,.own (wc [n4 u0 u1 u2 u3/DD]) 196),(63,.own (wc [w0 (n4 u0 u1 u2 u3%DD),w1 (n4 u0 u1 u2 u3%DD),w2 (n4 u0 u1 u2 u3%DD),0,0,0,0]) 196),(62,.own [.raw (.pointer none)] 306),(64,.row 1 fJ 196)] },conds:=[U u0,U u1,U u2,U u3,u3<9223372036854775808] }
       | false=>none
     | some [y0],some [u0,u1,u2,u3,_,_,_,_],true=>match Nat.beq cu 8&&(Nat.beq nq 1&&Nat.beq cq 1) with
       | true=>some { eN:=Dd 4 8 1 1,T0:=[(61,.own (wc [y0]) 196),(62,.own [.raw (.pointer none)] 306),(63,.own (wc [u0,u1,u2,u3,0,0,0,0]) 196),(64,.row 1 fJ 196)],vl:=[(61,.lab lq 0),(62,.lab ls 0),(63,.lab lu 0),(64,.lab lv 0)]
                      e0:={ val:=.eP [],wr:=[(61,.own (wc [n4 u0 u1 u2 u3/DD]) 196),(63,.own (wc [w0 (n4 u0 u1 u2 u3%DD),w1 (n4 u0 u1 u2 u3%DD),w2 (n4 u0 u1 u2 u3%DD),0,0,0,0,0]) 196),(62,.own [.raw (.pointer none)] 306),(64,.row 1 fJ 196)] },conds:=[U u0,U u1,U u2,U u3,u3<9223372036854775808] }
       | false=>none
     | some [y0,y1,_,_,_,_],some [u0,u1,u2,u3,u4,_,_,_],false=>match Nat.beq nu 5&&(Nat.beq cu 8&&(Nat.beq nq 2&&Nat.beq cq 6)) with
       | true=>some { eN:=Dd 5 8 2 6,T0:=[(61,.own (wc [y0,y1,0,0,0,0]) 196),(62,.own [.raw (.pointer none)] 306),(63,.own (wc [u0,u1,u2,u3,u4,0,0,0]) 196),(64,.row 1 fJ 196)],vl:=[(61,.lab lq 0),(62,.lab ls 0),(63,.lab lu 0),(64,.lab lv 0)]
                      e0:={ val:=.eP [],wr:=[(61,.own (wc [r5 u0 u1 u2 u3 u4/DD,n4 u1 u2 u3 u4/DD,0,0,0,0]) 196),(63,.own (wc [w0 (r5 u0 u1 u2 u3 u4%DD),w1 (r5 u0 u1 u2 u3 u4%DD),w2 (r5 u0 u1 u2 u3 u4%DD),0,0,0,0,0]) 196),(62,.own [.raw (.pointer none)] 306),(64,.row 1 fJ 196)] },conds:=[U u0,U u1,U u2,U u3,U u4,u4<9223372036854775808] }
       | false=>none
     | some [y0,y1,_,_,_,_],some [u0,u1,u2,u3,u4,_,_,_,_],false=>match Nat.beq nu 5&&(Nat.beq cu 9&&(Nat.beq nq 2&&Nat.beq cq 6)) with
       | true=>some { eN:=Dd 5 9 2 6,T0:=[(61,.own (wc [y0,y1,0,0,0,0]) 196),(62,.own [.raw (.pointer none)] 306),(63,.own (wc [u0,u1,u2,u3,u4,0,0,0,0]) 196),(64,.row 1 fJ 196)],vl:=[(61,.lab lq 0),(62,.lab ls 0),(63,.lab lu 0),(64,.lab lv 0)]
                      e0:={ val:=.eP [],wr:=[(61,.own (wc [r5 u0 u1 u2 u3 u4/DD,n4 u1 u2 u3 u4/DD,0,0,0,0]) 196),(63,.own (wc [w0 (r5 u0 u1 u2 u3 u4%DD),w1 (r5 u0 u1 u2 u3 u4%DD),w2 (r5 u0 u1 u2 u3 u4%DD),0,0,0,0,0,0]) 196),(62,.own [.raw (.pointer none)] 306),(64,.row 1 fJ 196)] },conds:=[U u0,U u1,U u2,U u3,U u4,u4<9223372036854775808] }
       | false=>none
     | _,_,_=>none
   | _,_,_,_=>none
 | _=>none
theorem aXt (Γ:Env) (hg:Γ.aT=aB):aI Tryz.prog Γ 259 (aL aB 100 KK):=by
 refine aW hg fun vs T c hd hc=>?_
 unfold KK at hd
 split at hd
 case h_2=>cases hd
 split at hd
 case h_2=>cases hd
 split at hd
 case h_5=>cases hd
 .split at hd
  case h_2=>cases hd
  cases hd
  exact (((EG _ (hc _ (by simp)) (hc _ (by simp)) (hc _ (by simp)) (hc _ (by simp)) (hc _ (by simp))).bF 62 _ rfl (by decide)).bF 64 _ rfl (by decide)).words (by rw [hg];rfl) (fun _=>rfl) (fun _ _ h=>h) (fun _=>rfl) rfl rfl
 .split at hd
  case h_2=>cases hd
  cases hd
  exact (((EF _ (hc _ (by simp)) (hc _ (by simp)) (hc _ (by simp)) (hc _ (by simp)) (hc _ (by simp))).bF 62 _ rfl (by decide)).bF 64 _ rfl (by decide)).words (by rw [hg];rfl) (fun _=>rfl) (fun _ _ h=>h) (fun _=>rfl) rfl rfl
 .split at hd
  case h_2=>cases hd
  cases hd
  exact (((EE _ _ (hc _ (by simp)) (hc _ (by simp)) (hc _ (by simp)) (hc _ (by simp)) (hc _ (by simp)) (hc _ (by simp))).bF 62 _ rfl (by decide)).bF 64 _ rfl (by decide)).words (by rw [hg];rfl) (fun _=>rfl) (fun _ _ h=>h) (fun _=>rfl) rfl rfl
 .split at hd
  case h_2=>cases hd
  cases hd
  exact (((ED _ _ (hc _ (by simp)) (hc _ (by simp)) (hc _ (by simp)) (hc _ (by simp)) (hc _ (by simp)) (hc _ (by simp))).bF 62 _ rfl (by decide)).bF 64 _ rfl (by decide)).words (by rw [hg];rfl) (fun _=>rfl) (fun _ _ h=>h) (fun _=>rfl) rfl rfl
theorem qH:∀ f S,AQ f=some S->∀ Γ:Env,Γ.aT=aB->aI Tryz.prog Γ f S:=MP
noncomputable def aJo:Nat->Option Sum:=dO AQ 259 (aL aB 100 KK)
theorem Zo:∀ f S,aJo f=some S->∀ Γ:Env,Γ.aT=aB->aI Tryz.prog Γ f S:=bE qH 259 _ aXt
noncomputable def aSu (iq ir:Nat):Nat->Option Sum:=dO (dO aJo 186 (aL aB 100 (uM iq ir))) 154 (orB aJo 154 (aL aB 100 Xr))
theorem aEu (iq ir:Nat):∀ f S,aSu iq ir f=some S->∀ Γ:Env,Γ.aT=aB->aI Tryz.prog Γ f S:=bE (bE Zo 186 _ (Ee iq ir)) 154 _ (LP Zo 154 _ aHx)
noncomputable def pX (lt:Bool) (iq ir:Nat):Nat->Option Sum:=Hf (aSu iq ir) 209 [lt]
theorem oG (lt:Bool) (iq ir:Nat):∀ f S,pX lt iq ir f=some S->∀ Γ:Env,Γ.aT=aB->aI Tryz.prog Γ f S:=oH (aEu iq ir) 209 _
def rP:List SV:=[.ptr 61 true 0,.ptr 61 true 0,.ptr 62 true 0]
def Gg:List SV:=[.int true .u64 18446744073709551611,.int true .u64 18446744073709551615,.int true .u64 3,.int true .u64 0,.int true .u64 0,.int true .u64 0,.int true .u64 0,.int true .u64 0]
def mdT (n cap:Nat) (ws:List SV):bA:=fun l=>look l [(61,.own [.bool true false,.aJ 63 true 0 n cap] 146),(62,.own [.bool true false,.aJ 66 true 0 3 8] 146),(63,.own ws 196),(66,.own Gg 196),(18,.fS [.int true .i64 40])]
noncomputable def Dk (lt:Bool) (iq ir n cap:Nat) (ws:List SV):Option bL:=aF (env (pX lt iq ir) 22) Tryz.f138 true [] 400 rP (mdT n cap ws) 100 100
namespace M
def s0 (a:Int):Int:=dK .u64 a 62
def s1 (a b:Int):Int:=lD .u64 (dK .u64 b 62) (cB .u64 a 2)
def s2 (a:Int):Int:=cB .u64 a 2
def t0 (x:Int):Int:=lD .u64 (cB .u64 (w0 x) 62) (dK .u64 (w1 x) 2)
def t1 (x:Int):Int:=lD .u64 (cB .u64 (w1 x) 62) (dK .u64 (w2 x) 2)
def t2 (x:Int):Int:=lD .u64 (cB .u64 (w2 x) 62) 0
def x3 (a0 a1 a2:Int):Int:=n4 (s0 a0) (s1 a0 a1) (s1 a1 a2) (s2 a2)
def h4 (a0 a1 a2 a3:Int):Int:=n4 (s1 a0 a1) (s1 a1 a2) (s1 a2 a3) (s2 a3)
def x4 (a0 a1 a2 a3:Int):Int:=r5 (s0 a0) (s1 a0 a1) (s1 a1 a2) (s1 a2 a3) (s2 a3)
end M
theorem aNk (a0:Int) :
 Dk true 0 0 1 6 (wc [a0,0,0,0,0,0]) =
 some {val:=.ptr 61 true 0,wr:=[(61,.own [.bool true false,.aJ 63 true 0 1 6] 146),(63,.own [.int false .u64 a0,.int false .u64 0,.int false .u64 0,.int false .u64 0,.int false .u64 0,.int false .u64 0] 196)]}:=by kernel_rfl
theorem aNj (a0 a1:Int) :
 Dk true 0 0 2 6 (wc [a0,a1,0,0,0,0]) =
 some {val:=.ptr 61 true 0,wr:=[(61,.own [.bool true false,.aJ 63 true 0 2 6] 146),(63,.own [.int false .u64 a0,.int false .u64 a1,.int false .u64 0,.int false .u64 0,.int false .u64 0,.int false .u64 0] 196)]}:=by kernel_rfl
theorem aNi (a0 a1:Int) :
 Dk true 0 0 2 7 (wc [a0,a1,0,0,0,0,0]) =
 some {val:=.ptr 61 true 0,wr:=[(61,.own [.bool true false,.aJ 63 true 0 2 7] 146),(63,.own [.int false .u64 a0,.int false .u64 a1,.int false .u64 0,.int false .u64 0,.int false .u64 0,.int false .u64 0,.int false .u64 0] 196)]}:=by kernel_rfl
theorem aNh (a0 a1 a2:Int) :
 Dk true 0 0 3 7 (wc [a0,a1,a2,0,0,0,0]) =
 some {bK:=[decide (M.cmp (M.n3 a0 a1 a2) 1361129467683753853853498429727072845819<0)=true,M.U a0,M.U a1,M.U a2,M.U 18446744073709551611,M.U 18446744073709551615,M.U 3,[a0,a1,a2,0,0,0,0]=[a0,a1,a2,0,0,0,0],([18446744073709551611,18446744073709551615,3,0,0,0,0,0]:List Int)=[18446744073709551611,18446744073709551615,3,0,0,0,0,0]],val:=.ptr 61 true 0,wr:=[(61,.own [.bool true false,.aJ 63 true 0 3 7] 146),(63,.own [.int false .u64 a0,.int false .u64 a1,.int false .u64 a2,.int false .u64 0,.int false .u64 0,.int false .u64 0,.int false .u64 0] 196)]}:=by kernel_rfl
theorem aNg (a0 a1 a2:Int) :
 Dk true 0 0 3 8 (wc [a0,a1,a2,0,0,0,0,0]) =
 some {bK:=[decide (M.cmp (M.n3 a0 a1 a2) 1361129467683753853853498429727072845819<0)=true,M.U a0,M.U a1,M.U a2,M.U 18446744073709551611,M.U 18446744073709551615,M.U 3,[a0,a1,a2,0,0,0,0,0]=[a0,a1,a2,0,0,0,0,0],([18446744073709551611,18446744073709551615,3,0,0,0,0,0]:List Int)=[18446744073709551611,18446744073709551615,3,0,0,0,0,0]],val:=.ptr 61 true 0,wr:=[(61,.own [.bool true false,.aJ 63 true 0 3 8] 146),(63,.own [.int false .u64 a0,.int false .u64 a1,.int false .u64 a2,.int false .u64 0,.int false .u64 0,.int false .u64 0,.int false .u64 0,.int false .u64 0] 196)]}:=by kernel_rfl
theorem aVx {c ir:Nat} (hc:c=7\/c=8) (hr:ir<=3) (a0 a1 a2:Int) :
 Dk false 1 ir 3 c (wc ([a0,a1,a2]++List.replicate (c-3) 0)) =
 sh (M.x3 a0 a1 a2%M.DD) fun z0=>
 some {bK:=[M.nl [M.t0 z0,M.t1 z0,M.t2 z0,0]=ir,[M.t0 z0,M.t1 z0,M.t2 z0]++List.replicate (c-3) 0=[M.t0 z0,M.t1 z0,M.t2 z0]++List.replicate (c-3) 0,M.nl [M.x3 a0 a1 a2/M.DD]=1,[M.x3 a0 a1 a2/M.DD]=[M.x3 a0 a1 a2/M.DD],M.U (M.s0 a0),M.U (M.s1 a0 a1),M.U (M.s1 a1 a2),M.U (M.s2 a2),M.s2 a2<9223372036854775808,3=3,([0]:List Int)=[0],[M.s0 a0,M.s1 a0 a1,M.s1 a1 a2,M.s2 a2]++List.replicate (c-4) 0=[M.s0 a0,M.s1 a0 a1,M.s1 a1 a2,M.s2 a2]++List.replicate (c-4) 0,decide (M.cmp (M.n3 a0 a1 a2) 1361129467683753853853498429727072845819<0)=false,M.U a0,M.U a1,M.U a2,M.U 18446744073709551611,M.U 18446744073709551615,M.U 3,[a0,a1,a2]++List.replicate (c-3) 0=[a0,a1,a2]++List.replicate (c-3) 0,([18446744073709551611,18446744073709551615,3,0,0,0,0,0]:List Int)=[18446744073709551611,18446744073709551615,3,0,0,0,0,0]],val:=.ptr 61 true 0,wr:=[(61,.own [.bool true false,.aJ 63 true 0 ir c] 146),(63,.own (wc ([M.t0 z0,M.t1 z0,M.t2 z0]++List.replicate (c-3) 0)) 196)]}:=by rcases hc with rfl | rfl <;> rcases (by omega:ir=0\/ir=1\/ir=2\/ir=3) with rfl | rfl | rfl | rfl <;> kernel_rfl
theorem aVw {c iq ir:Nat} (hc:c=8\/c=9) (hq:iq=1\/iq=2) (hr:ir<=3) (a0 a1 a2 a3:Int) :
 Dk false iq ir 4 c (wc ([a0,a1,a2,a3]++List.replicate (c-4) 0)) =
 sh (M.x4 a0 a1 a2 a3%M.DD) fun z0=>
 some {bK:=[M.nl [M.t0 z0,M.t1 z0,M.t2 z0,0,0]=ir,[M.t0 z0,M.t1 z0,M.t2 z0,0]++List.replicate (c-4) 0=[M.t0 z0,M.t1 z0,M.t2 z0,0]++List.replicate (c-4) 0,M.nl [M.x4 a0 a1 a2 a3/M.DD,M.h4 a0 a1 a2 a3/M.DD]=iq,[M.x4 a0 a1 a2 a3/M.DD,M.h4 a0 a1 a2 a3/M.DD,0,0,0,0]=[M.x4 a0 a1 a2 a3/M.DD,M.h4 a0 a1 a2 a3/M.DD,0,0,0,0],M.U (M.s0 a0),M.U (M.s1 a0 a1),M.U (M.s1 a1 a2),M.U (M.s1 a2 a3),M.U (M.s2 a3),M.s2 a3<9223372036854775808,3=3,([0,0,0,0,0,0]:List Int)=[0,0,0,0,0,0],[M.s0 a0,M.s1 a0 a1,M.s1 a1 a2,M.s1 a2 a3,M.s2 a3]++List.replicate (c-5) 0=[M.s0 a0,M.s1 a0 a1,M.s1 a1 a2,M.s1 a2 a3,M.s2 a3]++List.replicate (c-5) 0],val:=.ptr 61 true 0,wr:=[(61,.own [.bool true false,.aJ 63 true 0 ir c] 146),(63,.own (wc ([M.t0 z0,M.t1 z0,M.t2 z0,0]++List.replicate (c-4) 0)) 196)]}:=by rcases hc with rfl | rfl <;> rcases hq with rfl | rfl <;> rcases (by omega:ir=0\/ir=1\/ir=2\/ir=3) with rfl | rfl | rfl | rfl <;> kernel_rfl
def jY:SB->SB->Prop
 | .own cs t,.own ds t'=>t=t'/\∀ V,aG V ds=aG V cs
 | B,C=>B=C
def yM:List SB->List SB->Prop
 | [],[]=>True
 | B::r,C::t=>jY B C/\yM r t
 | _,_=>False
def pG:List (Nat × SB)->List (Nat × SB)->Prop
 | [],[]=>True
 | (l,B)::r,(k,C)::t=>l=k/\jY B C/\pG r t
 | _,_=>False
theorem cE (B:SB):jY B B:=by cases B <;> simp [jY]
theorem lL {B C:SB} (h:jY B C) (V:aZ) (w:World) (l:Nat):(okB V w l B->okB V w l C)/\C.aN V l=B.aN V l/\C.owned=B.owned:=by
 cases B with
 | own cs t=>
   cases C with
   | own ds t'=>
     obtain ⟨rfl,hd⟩:=h
     exact ⟨fun ⟨us,hu,hr⟩=>⟨us,(hd V).trans hu,hr⟩,rfl,rfl⟩
   | _=>simp [jY] at h
 | _=>simp only [jY] at h;subst h;exact ⟨id,rfl,rfl⟩
theorem Iq {B C:SB} (h:jY B C) {w0:World} {M:Nat->Prop} {V:aZ} {l:Nat} (hB:lG w0 M V l B):lG w0 M V l C:=by
 cases B with
 | own cs t=>
   cases C with
   | own ds t'=>trivial
   | _=>simp [jY] at h
 | _=>simp only [jY] at h;subst h;exact hB
theorem qL {l:Nat}:∀ {r t:List (Nat × SB)},pG r t->(look l r=none/\look l t=none)\/∃ B C,look l r=some B/\look l t=some C/\jY B C
 | [],[],_=>.inl ⟨rfl,rfl⟩
 | [],(k,C)::t,h=>by simp [pG] at h
 | (k,B)::r,[],h=>by simp [pG] at h
 | (k,B)::r,(k',C)::t,h=>by
   obtain ⟨rfl,h1,h2⟩:=h
   by_cases e:k=l
   .subst e;exact .inr ⟨B,C,aH _ _ _,aH _ _ _,h1⟩
   .rw [aD e,aD e];exact qL h2
theorem Fl:∀ {r t:List SB} (lab:Nat),yM r t->pG (fT lab r) (fT lab t)
 | [],[],_,_=>trivial
 | [],_::_,_,h=>by simp [yM] at h
 | _::_,[],_,h=>by simp [yM] at h
 | B::r,C::t,lab,h=>⟨rfl,h.1,Fl (lab+1) h.2⟩
theorem xQ:∀ {r t r' t':List (Nat × SB)},pG r t->pG r' t'->pG (r++r') (t++t')
 | [],[],_,_,_,h=>h
 | [],_::_,_,_,h,_=>by simp [pG] at h
 | _::_,[],_,_,h,_=>by simp [pG] at h
 | (_,_)::_,(_,_)::_,_,_,h,h'=>⟨h.1,h.2.1,xQ h.2.2 h'⟩
theorem aE.re {P:Program} {Γ Γ':Env} {f:FuncId} {vs:List SV} {T:bA} {lab F:Nat} {e e':bL} (h:aE P Γ f vs T lab F e) (hg:Γ'.aT=Γ.aT) (he:∀ V,den V e.val=den V e'.val) (hn:yM e.new e'.new) (hw:pG e.wr e'.wr):aE P Γ' f vs T lab F e':=by
 intro w0 M V T2 w xs aK Ke AN hf hF hx o a K Q hK
 refine h w0 M V T2 w xs aK Ke (fun n l hl=>AN n l (by rw [hg];exact hl)) hf hF hx o a K Q fun V' x w' h1 h2 h3=>hK V' x w' h1 ((he V').symm.trans h2) ?_
 have kU:pG (e.eI lab) (e'.eI lab):=xQ hw (Fl lab hn)
 have src:∀ l B,eG T2 lab e' l=some B->∃ C,eG T2 lab e l=some C/\jY C B:=by
  intro l B hl
  unfold eG at hl |-
  rcases qL (l:=l) kU with ⟨e1,e2⟩ | ⟨C,D,e1,e2,e3⟩
  .rw [e2] at hl;rw [e1];exact ⟨B,hl,cE B⟩
  .rw [e2] at hl;cases hl;rw [e1];exact ⟨C,rfl,e3⟩
 refine ⟨fun l B hl=>?_,fun l B l' B' n dG hl sP ho hb iO=>?_,fun l B n hl ho hb=>?_,h3.frame,fun l B hl=>?_⟩
 .obtain ⟨C,hC,hs⟩:=src l B hl
  exact (lL hs V' w' l).1 (h3.ok l C hC)
 .obtain ⟨C,hC,hs⟩:=src l B hl
  obtain ⟨C',VM,Gb⟩:=src l' B' sP
  obtain ⟨_,b1,b2⟩:=lL hs V' w' l
  obtain ⟨_,b1',b2'⟩:=lL Gb V' w' l'
  exact h3.jX l C l' C' n dG hC VM (b2 ▸ ho) (b1 ▸ hb) (b1' ▸ iO)
 .obtain ⟨C,hC,hs⟩:=src l B hl
  obtain ⟨_,b1,b2⟩:=lL hs V' w' l
  exact h3.perm l C n hC (b2 ▸ ho) (b1 ▸ hb)
 .obtain ⟨C,hC,hs⟩:=src l B hl
  exact Iq hs (h3.tV l C hC)
namespace M
def aO:Int:=1361129467683753853853498429727072845819
theorem KV:DD=4611686018427387904*aO:=by decide
theorem FH {k y i:Nat} (hy:y<2^i) (hk:k*2^i+y<18446744073709551616):lD .u64 ((k*2^i:Nat):Int) (y:Int)=((k*2^i+y:Nat):Int):=by
 have h:=bits_or_u64_nat (k*2^i) y (by omega) (by omega)
 have e:k*2^i ||| y=k*2^i+y:=by
  rw [<- Nat.shiftLeft_eq]
  exact (Nat.shiftLeft_add_eq_or_of_lt hy k).symm
 rw [e] at h
 exact h
theorem FI (x y:Int):lD .u64 x y=lD .u64 y x:=by unfold lD;rw [BitVec.or_comm]
theorem aGs (a:Int):dK .u64 a 62=ul (a*4611686018427387904):=by unfold dK;rw [bT];rfl
theorem aRg (a:Int):dK .u64 a 2=ul (a*4):=by unfold dK;rw [bT];rfl
theorem HS (a:Int):cB .u64 a 62=a/4611686018427387904:=by
 show Int.fdiv a 4611686018427387904=_
 rw [Int.fdiv_eq_ediv_of_nonneg _ (by decide)]
theorem WH (a:Int):cB .u64 a 2=a/4:=by
 show Int.fdiv a 4=_
 rw [Int.fdiv_eq_ediv_of_nonneg _ (by decide)]
theorem ID (a:Int):s0 a=a%4*4611686018427387904:=by unfold s0;rw [aGs];unfold ul;omega
theorem IC (a:Int):s2 a=a/4:=WH a
theorem aRs (k y:Int) (hk:0<=k) (hk4:k<4) (fK:0<=y) (hy:y<4611686018427387904):lD .u64 (k*4611686018427387904) y=k*4611686018427387904+y:=by
 obtain ⟨k,rfl⟩:=zzT hk
 obtain ⟨y,rfl⟩:=zzT fK
 have e:(k:Int)*4611686018427387904=((k*2^62:Nat):Int):=by rw [Int.natCast_mul];rfl
 have UP:(2:Nat)^62=4611686018427387904:=rfl
 rw [e,FH (by omega) (by omega)]
 omega
theorem or2 (k y:Int) (hk:0<=k) (hk4:k<4611686018427387904) (fK:0<=y) (hy:y<4):lD .u64 (k*4) y=k*4+y:=by
 obtain ⟨k,rfl⟩:=zzT hk
 obtain ⟨y,rfl⟩:=zzT fK
 have e:(k:Int)*4=((k*2^2:Nat):Int):=by rw [Int.natCast_mul];rfl
 have UP:(2:Nat)^2=4:=rfl
 rw [e,FH (by omega) (by omega)]
 omega
theorem Hu {a b:Int} (ha:U a):s1 a b=b%4*4611686018427387904+a/4:=by
 have:=ha.1;have:=ha.2
 unfold s1
 rw [aGs,WH]
 have e:ul (b*4611686018427387904)=b%4*4611686018427387904:=by unfold ul;omega
 rw [e]
 exact aRs (b%4) (a/4) (by omega) (by omega) (by omega) (by omega)
theorem aUg (x:Int):t0 x=w0 x/4611686018427387904+w1 x%4611686018427387904*4:=by
 obtain ⟨h0,h1,h2⟩:=w_U x
 have:=h0.1;have:=h0.2;have:=h1.1;have:=h1.2
 unfold t0
 rw [HS,aRg,FI]
 have e:ul (w1 x*4)=w1 x%4611686018427387904*4:=by unfold ul;omega
 rw [e,or2 (w1 x%4611686018427387904) (w0 x/4611686018427387904) (by omega) (by omega) (by omega) (by omega)]
 omega
theorem aUf (x:Int):t1 x=w1 x/4611686018427387904+w2 x%4611686018427387904*4:=by
 obtain ⟨h0,h1,h2⟩:=w_U x
 have:=h1.1;have:=h1.2;have:=h2.1;have:=h2.2
 unfold t1
 rw [HS,aRg,FI]
 have e:ul (w2 x*4)=w2 x%4611686018427387904*4:=by unfold ul;omega
 rw [e,or2 (w2 x%4611686018427387904) (w1 x/4611686018427387904) (by omega) (by omega) (by omega) (by omega)]
 omega
theorem aUe (x:Int):t2 x=w2 x/4611686018427387904:=by
 obtain ⟨h0,h1,h2⟩:=w_U x
 have:=h2.1;have:=h2.2
 unfold t2
 have:=aRs 0 (w2 x/4611686018427387904) (by omega) (by omega) (by omega) (by omega)
 rw [Int.zero_mul] at this
 rw [HS,FI,this]
 omega
theorem LB {R:Int} (h0:0<=R) (h1:R<aO):t0 (4611686018427387904*R)=w0 R/\t1 (4611686018427387904*R)=w1 R/\t2 (4611686018427387904*R)=w2 R:=by
 have Gk:R<1361129467683753853853498429727072845819:=h1
 rw [aUg,aUf,aUe]
 unfold w0 w1 w2
 refine ⟨?_,?_,?_⟩ <;> omega
theorem aGl {a0 a1 a2:Int} (h0:U a0) (h1:U a1) (h2:U a2):x3 a0 a1 a2=4611686018427387904*n3 a0 a1 a2:=by
 have:=h0.1;have:=h0.2;have:=h1.1;have:=h1.2;have:=h2.1;have:=h2.2
 unfold x3
 rw [ID,Hu h0,Hu h1,IC]
 unfold n4 n3
 omega
theorem aHu {a0 a1 a2 a3:Int} (h0:U a0) (h1:U a1) (h2:U a2) (h3:U a3):s0 a0+18446744073709551616*h4 a0 a1 a2 a3=4611686018427387904*n4 a0 a1 a2 a3:=by
 have:=h0.1;have:=h0.2;have:=h1.1;have:=h1.2;have:=h2.1;have:=h2.2;have:=h3.1;have:=h3.2
 unfold h4
 rw [ID,Hu h0,Hu h1,Hu h2,IC]
 unfold n4
 omega
theorem MC (n:Int):4611686018427387904*n%DD=4611686018427387904*(n%aO):=by
 rw [KV];exact Int.mul_emod_mul_of_pos _ _ (by decide)
theorem aQf (n:Int):4611686018427387904*n/DD=n/aO:=by
 rw [KV];exact Int.mul_ediv_mul_of_pos _ _ (by decide)
theorem aKr {a0 a1 a2:Int} (h0:U a0) (h1:U a1) (h2:U a2):x3 a0 a1 a2%DD=4611686018427387904*(n3 a0 a1 a2%aO):=by
 rw [aGl h0 h1 h2,MC]
theorem aKs {a0 a1 a2:Int} (h0:U a0) (h1:U a1) (h2:U a2):x3 a0 a1 a2/DD=n3 a0 a1 a2/aO:=by
 rw [aGl h0 h1 h2,aQf]
theorem aGk {a0 a1 a2 a3:Int}:x4 a0 a1 a2 a3=s0 a0+18446744073709551616*(h4 a0 a1 a2 a3%DD):=aGy
theorem aKp {a0 a1 a2 a3:Int} (h0:U a0) (h1:U a1) (h2:U a2) (h3:U a3):x4 a0 a1 a2 a3%DD=4611686018427387904*(n4 a0 a1 a2 a3%aO):=by
 rw [<- MC,<- aHu h0 h1 h2 h3,aGk]
 rw [Int.add_emod,Int.mul_emod,Int.emod_emod_of_dvd _ (Int.dvd_refl DD),<- Int.mul_emod,<- Int.add_emod]
theorem aKq {a0 a1 a2 a3:Int} (h0:U a0) (h1:U a1) (h2:U a2) (h3:U a3) (hp:aO<=n4 a0 a1 a2 a3) (hz:h4 a0 a1 a2 a3/DD=0):x4 a0 a1 a2 a3/DD≠0:=by
 have hh:=aHu h0 h1 h2 h3
 have hx:=aGk (a0:=a0) (a1:=a1) (a2:=a2) (a3:=a3)
 have hd:=KV
 have e1:=Int.emod_add_mul_ediv (h4 a0 a1 a2 a3) DD
 rw [hz] at e1
 have e2:h4 a0 a1 a2 a3%DD=h4 a0 a1 a2 a3:=by omega
 rw [e2,hh] at hx
 intro e
 have e3:=Int.emod_lt_of_pos (x4 a0 a1 a2 a3) Uv
 have e4:=Int.emod_add_mul_ediv (x4 a0 a1 a2 a3) DD
 rw [e] at e4
 omega
theorem sU {a:Int} (h:U a):U (s0 a)/\U (s2 a)/\s2 a<9223372036854775808:=by
 have:=h.1;have:=h.2
 rw [ID,IC]
 unfold U
 omega
theorem s1U {a b:Int} (h:U a):U (s1 a b):=by
 have:=h.1;have:=h.2
 rw [Hu h]
 unfold U
 omega
theorem aGv (n:Int):0<=n%aO/\n%aO<aO:=⟨Int.emod_nonneg _ (by decide),Int.emod_lt_of_pos _ (by decide)⟩
def ln (R:Int):Nat:=nl [w0 R,w1 R,w2 R]
theorem gQ:∀ l:List Int,nl (l++[0])=nl l
 | []=>rfl
 | x::r=>by simp only [List.cons_append,nl,gQ r]
theorem nl4 (a b c:Int):nl [a,b,c,0]=nl [a,b,c]:=gQ [a,b,c]
theorem nl5 (a b c:Int):nl [a,b,c,0,0]=nl [a,b,c]:=(gQ [a,b,c,0]).trans (nl4 a b c)
theorem aHj (R:Int):ln R<=3:=IV _
theorem Um {x y:Int}:decide (cmp x y<0)=decide (x<y):=by
 unfold cmp
 by_cases h:x<y
 .rw [if_pos h];simp [h]
 .rw [if_neg h];split <;> simp [h]
end M
open M in
theorem Vj {a0:Int} (h0:U a0) (hz:a0≠0):aE Tryz.prog Γv 138 rP (mdT 1 6 (wc [a0,0,0,0,0,0])) 100 100
 { val:=.ptr 61 true 0,wr:=[(61,.own [.bool true false,.aJ 63 false 0 (ln (a0%aO)) 6] 146),(63,.own (wc [w0 (a0%aO),w1 (a0%aO),w2 (a0%aO),0,0,0]) 196)] }:=by
 have:=h0.1;have:=h0.2
 have hs:aI Tryz.prog (env (pX true 0 0) 22) 138 (aF (env (pX true 0 0) 22) Tryz.f138 true [] 400):=aM (bP _ 22) (bV _ (oG true 0 0) 22) mix Tryz.func138 (by kernel_rfl) true [] 400
 have hR:a0%aO=a0:=Int.emod_eq_of_lt (by omega) (by unfold aO;omega)
 have e0:w0 (a0)=a0:=by unfold w0;omega
 have e1:w1 (a0)=0:=by unfold w1;omega
 have e2:w2 (a0)=0:=by unfold w2;omega
 have hl:ln (a0)=1:=by unfold ln;rw [e0,e1,e2];simp only [nl,if_true,if_neg hz]
 rw [hR,e0,e1,e2,hl]
 refine (hs.call (aNk a0) ?_).re rfl (fun _=>rfl) trivial ⟨rfl,⟨rfl,fun _=>rfl⟩,rfl,⟨rfl,fun _=>rfl⟩,trivial⟩
 simp
open M in
theorem Vi {a0 a1:Int} (h0:U a0) (h1:U a1) (hz:a1≠0):aE Tryz.prog Γv 138 rP (mdT 2 6 (wc [a0,a1,0,0,0,0])) 100 100
 { val:=.ptr 61 true 0,wr:=[(61,.own [.bool true false,.aJ 63 false 0 (ln ((a0+18446744073709551616*a1)%aO)) 6] 146),(63,.own (wc [w0 ((a0+18446744073709551616*a1)%aO),w1 ((a0+18446744073709551616*a1)%aO),w2 ((a0+18446744073709551616*a1)%aO),0,0,0]) 196)] }:=by
 have:=h0.1;have:=h0.2;have:=h1.1;have:=h1.2
 have hs:aI Tryz.prog (env (pX true 0 0) 22) 138 (aF (env (pX true 0 0) 22) Tryz.f138 true [] 400):=aM (bP _ 22) (bV _ (oG true 0 0) 22) mix Tryz.func138 (by kernel_rfl) true [] 400
 have hR:(a0+18446744073709551616*a1)%aO=(a0+18446744073709551616*a1):=Int.emod_eq_of_lt (by omega) (by unfold aO;omega)
 have e0:w0 ((a0+18446744073709551616*a1))=a0:=by unfold w0;omega
 have e1:w1 ((a0+18446744073709551616*a1))=a1:=by unfold w1;omega
 have e2:w2 ((a0+18446744073709551616*a1))=0:=by unfold w2;omega
 have hl:ln ((a0+18446744073709551616*a1))=2:=by unfold ln;rw [e0,e1,e2];simp only [nl,if_true,if_neg hz]
 rw [hR,e0,e1,e2,hl]
 refine (hs.call (aNj a0 a1) ?_).re rfl (fun _=>rfl) trivial ⟨rfl,⟨rfl,fun _=>rfl⟩,rfl,⟨rfl,fun _=>rfl⟩,trivial⟩
 simp
open M in
theorem Vh {a0 a1:Int} (h0:U a0) (h1:U a1) (hz:a1≠0):aE Tryz.prog Γv 138 rP (mdT 2 7 (wc [a0,a1,0,0,0,0,0])) 100 100
 { val:=.ptr 61 true 0,wr:=[(61,.own [.bool true false,.aJ 63 false 0 (ln ((a0+18446744073709551616*a1)%aO)) 7] 146),(63,.own (wc [w0 ((a0+18446744073709551616*a1)%aO),w1 ((a0+18446744073709551616*a1)%aO),w2 ((a0+18446744073709551616*a1)%aO),0,0,0,0]) 196)] }:=by
 have:=h0.1;have:=h0.2;have:=h1.1;have:=h1.2
 have hs:aI Tryz.prog (env (pX true 0 0) 22) 138 (aF (env (pX true 0 0) 22) Tryz.f138 true [] 400):=aM (bP _ 22) (bV _ (oG true 0 0) 22) mix Tryz.func138 (by kernel_rfl) true [] 400
 have hR:(a0+18446744073709551616*a1)%aO=(a0+18446744073709551616*a1):=Int.emod_eq_of_lt (by omega) (by unfold aO;omega)
 have e0:w0 ((a0+18446744073709551616*a1))=a0:=by unfold w0;omega
 have e1:w1 ((a0+18446744073709551616*a1))=a1:=by unfold w1;omega
 have e2:w2 ((a0+18446744073709551616*a1))=0:=by unfold w2;omega
 have hl:ln ((a0+18446744073709551616*a1))=2:=by unfold ln;rw [e0,e1,e2];simp only [nl,if_true,if_neg hz]
 rw [hR,e0,e1,e2,hl]
 refine (hs.call (aNi a0 a1) ?_).re rfl (fun _=>rfl) trivial ⟨rfl,⟨rfl,fun _=>rfl⟩,rfl,⟨rfl,fun _=>rfl⟩,trivial⟩
 simp
open M in
theorem Vg {a0 a1 a2:Int} (h0:U a0) (h1:U a1) (h2:U a2) (hz:a2≠0) (hp:n3 a0 a1 a2<aO):aE Tryz.prog Γv 138 rP (mdT 3 7 (wc [a0,a1,a2,0,0,0,0])) 100 100
 { val:=.ptr 61 true 0,wr:=[(61,.own [.bool true false,.aJ 63 false 0 (ln (n3 a0 a1 a2%aO)) 7] 146),(63,.own (wc [w0 (n3 a0 a1 a2%aO),w1 (n3 a0 a1 a2%aO),w2 (n3 a0 a1 a2%aO),0,0,0,0]) 196)] }:=by
 have:=h0.1;have:=h0.2;have:=h1.1;have:=h1.2;have:=h2.1;have:=h2.2
 have hs:aI Tryz.prog (env (pX true 0 0) 22) 138 (aF (env (pX true 0 0) 22) Tryz.f138 true [] 400):=aM (bP _ 22) (bV _ (oG true 0 0) 22) mix Tryz.func138 (by kernel_rfl) true [] 400
 have hR:n3 a0 a1 a2%aO=n3 a0 a1 a2:=Int.emod_eq_of_lt (by unfold n3;omega) (by exact hp)
 have e0:w0 (n3 a0 a1 a2)=a0:=by unfold w0 n3;omega
 have e1:w1 (n3 a0 a1 a2)=a1:=by unfold w1 n3;omega
 have e2:w2 (n3 a0 a1 a2)=a2:=by unfold w2 n3;omega
 have hl:ln (n3 a0 a1 a2)=3:=by unfold ln;rw [e0,e1,e2];simp only [nl,if_true,if_neg hz]
 rw [hR,e0,e1,e2,hl]
 refine (hs.call (aNh a0 a1 a2) ?_).re rfl (fun _=>rfl) trivial ⟨rfl,⟨rfl,fun _=>rfl⟩,rfl,⟨rfl,fun _=>rfl⟩,trivial⟩
 refine aA ?_
 simp only [sh,bJ,Um,and_true,true_and,h0,h1,h2]
 exact ⟨decide_eq_true hp,⟨by decide,by decide⟩,⟨by decide,by decide⟩,⟨by decide,by decide⟩⟩
open M in
theorem Vf {a0 a1 a2:Int} (h0:U a0) (h1:U a1) (h2:U a2) (hz:a2≠0) (hp:n3 a0 a1 a2<aO):aE Tryz.prog Γv 138 rP (mdT 3 8 (wc [a0,a1,a2,0,0,0,0,0])) 100 100
 { val:=.ptr 61 true 0,wr:=[(61,.own [.bool true false,.aJ 63 false 0 (ln (n3 a0 a1 a2%aO)) 8] 146),(63,.own (wc [w0 (n3 a0 a1 a2%aO),w1 (n3 a0 a1 a2%aO),w2 (n3 a0 a1 a2%aO),0,0,0,0,0]) 196)] }:=by
 have:=h0.1;have:=h0.2;have:=h1.1;have:=h1.2;have:=h2.1;have:=h2.2
 have hs:aI Tryz.prog (env (pX true 0 0) 22) 138 (aF (env (pX true 0 0) 22) Tryz.f138 true [] 400):=aM (bP _ 22) (bV _ (oG true 0 0) 22) mix Tryz.func138 (by kernel_rfl) true [] 400
 have hR:n3 a0 a1 a2%aO=n3 a0 a1 a2:=Int.emod_eq_of_lt (by unfold n3;omega) (by exact hp)
 have e0:w0 (n3 a0 a1 a2)=a0:=by unfold w0 n3;omega
 have e1:w1 (n3 a0 a1 a2)=a1:=by unfold w1 n3;omega
 have e2:w2 (n3 a0 a1 a2)=a2:=by unfold w2 n3;omega
 have hl:ln (n3 a0 a1 a2)=3:=by unfold ln;rw [e0,e1,e2];simp only [nl,if_true,if_neg hz]
 rw [hR,e0,e1,e2,hl]
 refine (hs.call (aNg a0 a1 a2) ?_).re rfl (fun _=>rfl) trivial ⟨rfl,⟨rfl,fun _=>rfl⟩,rfl,⟨rfl,fun _=>rfl⟩,trivial⟩
 refine aA ?_
 simp only [sh,bJ,Um,and_true,true_and,h0,h1,h2]
 exact ⟨decide_eq_true hp,⟨by decide,by decide⟩,⟨by decide,by decide⟩,⟨by decide,by decide⟩⟩
open M in
theorem Iy {c:Nat} (hc:c=7\/c=8) {a0 a1 a2:Int} (h0:U a0) (h1:U a1) (h2:U a2) (hp:aO<=n3 a0 a1 a2):aE Tryz.prog Γv 138 rP (mdT 3 c (wc ([a0,a1,a2]++List.replicate (c-3) 0))) 100 100
 { val:=.ptr 61 true 0,wr:=[(61,.own [.bool true false,.aJ 63 false 0 (ln (n3 a0 a1 a2%aO)) c] 146),(63,.own (wc ([w0 (n3 a0 a1 a2%aO),w1 (n3 a0 a1 a2%aO),w2 (n3 a0 a1 a2%aO)]++List.replicate (c-3) 0)) 196)] }:=by
 have hs:∀ iq ir,aI Tryz.prog (env (pX false iq ir) 22) 138 (aF (env (pX false iq ir) 22) Tryz.f138 true [] 400):=fun iq ir=>aM (bP _ 22) (bV _ (oG false iq ir) 22) mix Tryz.func138 (by kernel_rfl) true [] 400
 obtain ⟨r0,r1⟩:=aGv (n3 a0 a1 a2)
 obtain ⟨b0,b1,b2⟩:=LB r0 r1
 obtain ⟨v0,v1,v2⟩:=sU h0
 obtain ⟨_,v3,v4⟩:=sU h2
 have hm:=aKr h0 h1 h2
 have hq:x3 a0 a1 a2/DD≠0:=by
  rw [aKs h0 h1 h2]
  have:=Int.emod_add_mul_ediv (n3 a0 a1 a2) aO
  intro e
  rw [e] at this
  omega
 have Bf:nl [x3 a0 a1 a2/DD]=1:=by simp only [nl,if_neg hq]
 refine ((hs 1 _).call (aVx hc (aHj (n3 a0 a1 a2%aO)) a0 a1 a2) (aA ?_)).re rfl (fun _=>rfl) trivial ⟨rfl,⟨rfl,fun _=>rfl⟩,rfl,⟨rfl,fun _=>by rw [hm,b0,b1,b2]⟩,trivial⟩
 simp only [sh,bJ,hm,b0,b1,b2,nl4,ln,Bf,and_true,true_and,h0,h1,h2,v0,v3,v4,s1U h0,s1U h1,Um]
 exact ⟨zzF (by show ¬ n3 a0 a1 a2<aO;omega),⟨by decide,by decide⟩,⟨by decide,by decide⟩,⟨by decide,by decide⟩⟩
open M in
theorem Ix {c:Nat} (hc:c=8\/c=9) {a0 a1 a2 a3:Int} (h0:U a0) (h1:U a1) (h2:U a2) (h3:U a3) (hp:aO<=n4 a0 a1 a2 a3):aE Tryz.prog Γv 138 rP (mdT 4 c (wc ([a0,a1,a2,a3]++List.replicate (c-4) 0))) 100 100
 { val:=.ptr 61 true 0,wr:=[(61,.own [.bool true false,.aJ 63 false 0 (ln (n4 a0 a1 a2 a3%aO)) c] 146),(63,.own (wc ([w0 (n4 a0 a1 a2 a3%aO),w1 (n4 a0 a1 a2 a3%aO),w2 (n4 a0 a1 a2 a3%aO),0]++List.replicate (c-4) 0)) 196)] }:=by
 have hs:∀ iq ir,aI Tryz.prog (env (pX false iq ir) 22) 138 (aF (env (pX false iq ir) 22) Tryz.f138 true [] 400):=fun iq ir=>aM (bP _ 22) (bV _ (oG false iq ir) 22) mix Tryz.func138 (by kernel_rfl) true [] 400
 obtain ⟨r0,r1⟩:=aGv (n4 a0 a1 a2 a3)
 obtain ⟨b0,b1,b2⟩:=LB r0 r1
 obtain ⟨v0,v1,v2⟩:=sU h0
 obtain ⟨_,v3,v4⟩:=sU h3
 have hm:=aKp h0 h1 h2 h3
 have Bf:nl [x4 a0 a1 a2 a3/DD,h4 a0 a1 a2 a3/DD]=1\/nl [x4 a0 a1 a2 a3/DD,h4 a0 a1 a2 a3/DD]=2:=by
  by_cases hz:h4 a0 a1 a2 a3/DD=0
  .exact .inl (by simp only [nl,hz,if_true,if_neg (aKq h0 h1 h2 h3 hp hz)])
  .exact .inr (by simp only [nl,if_neg hz])
 refine ((hs _ _).call (aVw hc Bf (aHj (n4 a0 a1 a2 a3%aO)) a0 a1 a2 a3) (aA ?_)).re rfl (fun _=>rfl) trivial ⟨rfl,⟨rfl,fun _=>rfl⟩,rfl,⟨rfl,fun _=>by rw [hm,b0,b1,b2]⟩,trivial⟩
 simp only [sh,bJ,hm,b0,b1,b2,nl5,ln,and_true,true_and,h0,h1,h2,h3,v0,v3,v4,s1U h0,s1U h1,s1U h2]
end Go.Proofs.YticicdfijghigaaGreatDoor.Sx
