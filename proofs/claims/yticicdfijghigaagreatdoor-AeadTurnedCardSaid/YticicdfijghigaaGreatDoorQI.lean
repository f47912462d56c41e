/- slow.laid into sixteen bytes. -/
import Derived.Test.YticicdfijghigaaGreatDoorQH
open Go
set_option maxRecDepth 100000
namespace Go.Proofs.YticicdfijghigaaGreatDoor.Sx
namespace M
theorem HT (a:Int):dK .u64 a 63=ul (a*9223372036854775808):=by unfold dK;rw [bT];rfl
theorem aRh (a:Int):dK .u64 a 1=ul (a*2):=by unfold dK;rw [bT];rfl
theorem HR (a:Int):cB .u64 a 63=a/9223372036854775808:=by
 show Int.fdiv a 9223372036854775808=_
 rw [Int.fdiv_eq_ediv_of_nonneg _ (by decide)]
theorem WI (a:Int):cB .u64 a 1=a/2:=by
 show Int.fdiv a 2=_
 rw [Int.fdiv_eq_ediv_of_nonneg _ (by decide)]
theorem bBc (k y:Int) (hk:0<=k) (hk4:k<2) (fK:0<=y) (hy:y<9223372036854775808):lD .u64 (k*9223372036854775808) y=k*9223372036854775808+y:=by
 obtain ⟨k,rfl⟩:=zzT hk
 obtain ⟨y,rfl⟩:=zzT fK
 have e:(k:Int)*9223372036854775808=((k*2^63:Nat):Int):=by rw [Int.natCast_mul];rfl
 have UP:(2:Nat)^63=9223372036854775808:=rfl
 rw [e,FH (by omega) (by omega)]
 omega
theorem aRr (k y:Int) (hk:0<=k) (hk4:k<9223372036854775808) (fK:0<=y) (hy:y<2):lD .u64 y (k*2)=k*2+y:=by
 obtain ⟨k,rfl⟩:=zzT hk
 obtain ⟨y,rfl⟩:=zzT fK
 have e:(k:Int)*2=((k*2^1:Nat):Int):=by rw [Int.natCast_mul];rfl
 have UP:(2:Nat)^1=2:=rfl
 rw [e,FI,FH (by omega) (by omega)]
 omega
theorem Dl {a b:Int} (ha:U a) (hb:U b):lm a b=b%2*9223372036854775808+a/2:=by
 have:=ha.1;have:=ha.2;have:=hb.1;have:=hb.2
 unfold lm
 rw [HT,WI]
 have e:ul (b*9223372036854775808)=b%2*9223372036854775808:=by unfold ul;omega
 rw [e,bBc _ _ (by omega) (by omega) (by omega) (by omega)]
theorem aVz {a b c:Int} (ha:U a) (hb:U b) (Ck:0<=c) (hc:c<8):Gh a b=a/\Jo a b c=b/\Mr b c=0:=by
 have:=ha.1;have:=ha.2;have:=hb.1;have:=hb.2
 have hcU:U c:=by unfold U;omega
 refine ⟨?_,?_,?_⟩
 .unfold Gh
  rw [Dl ha hb,HT,HR,aRh]
  have e1:ul (a*9223372036854775808)/9223372036854775808=a%2:=by unfold ul;omega
  have e2:ul ((b%2*9223372036854775808+a/2)*2)=a/2*2:=by unfold ul;omega
  rw [e1,e2,aRr _ _ (by omega) (by omega) (by omega) (by omega)]
  omega
 .unfold Jo
  rw [Dl ha hb,Dl hb hcU,HR,aRh]
  have e1:(b%2*9223372036854775808+a/2)/9223372036854775808=b%2:=by omega
  have e2:ul ((c%2*9223372036854775808+b/2)%9223372036854775808*2)=b/2*2:=by unfold ul;omega
  rw [e1,e2,aRr _ _ (by omega) (by omega) (by omega) (by omega)]
  omega
 .unfold Mr
  rw [Dl hb hcU,HR]
  have e1:(c%2*9223372036854775808+b/2)%9223372036854775808/9223372036854775808=0:=by omega
  rw [e1]
  decide
end M
theorem aRx (ir:Nat):aI Tryz.prog (env (HB ir) 22) 99 (aF (env (HB ir) 22) Tryz.f99 true [] 400):=aM (bP _ 22) (bV _ (aEv ir) 22) mix Tryz.func99 (by kernel_rfl) true [] 400
def ER (n:Int) (ws:List (Nat × SB)):bL:={ val:=.eP [],wr:=(62,M.VD n)::ws }
def TX (X:SV) (xs:List SV):List (Nat × SB):=[(61,.own [.bool true false,X] 146),(63,.own xs 196)]
theorem OJ:aE Tryz.prog Γv 99 nF (fun l=>look l aJa) 100 100 (ER 0 [(61,.own [.bool true false,.raw (.slice none 0 0)] 146)]):=
 (((aRx 0).call (bCi 0) (by simp)).bF 61 _ rfl (by decide)).re rfl (fun _=>rfl) trivial ⟨rfl,⟨rfl,fun _=>rfl⟩,rfl,⟨rfl,fun _=>rfl⟩,trivial⟩
theorem aNq {n ca:Nat} {b:Bool} {xs:List SV} {N:Int} (h:aE Tryz.prog Γv 99 nF (fun l=>look l (AH (.aJ 63 true 0 n ca) xs)) 100 100 (ER N (TX (.aJ 63 true 0 n ca) xs))):aE Tryz.prog Γv 99 nF (fun l=>look l (AH (.aJ 63 b 0 n ca) xs)) 100 100 (ER N (TX (.aJ 63 b 0 n ca) xs)):=
 (aE.reL (L:=AH (.aJ 63 true 0 n ca) xs) (L':=AH (.aJ 63 b 0 n ca) xs) h ⟨rfl,⟨rfl,fun _=>rfl⟩,rfl,cE _,rfl,cE _,rfl,cE _,rfl,cE _,trivial⟩ (fun _=>rfl)).re rfl (fun _=>rfl) trivial ⟨rfl,cE _,rfl,⟨rfl,fun _=>rfl⟩,rfl,cE _,trivial⟩
theorem Ie {ir n ca:Nat} {b:Bool} {xs:List SV} {N N':Int} {ob:List Prop} (h:Dm ir (.aJ 63 true 0 n ca) xs=some { bK:=ob,val:=.eP [],wr:=[(62,M.VD N')] }) (ho:∀ q∈ob,q) (e:N'=N):aE Tryz.prog Γv 99 nF (fun l=>look l (AH (.aJ 63 b 0 n ca) xs)) 100 100 (ER N (TX (.aJ 63 b 0 n ca) xs)):=by
 subst e
 exact aNq (((((aRx ir).call h ho).bF 61 _ rfl (by decide)).bF 63 _ rfl (by decide)).re rfl (fun _=>rfl) trivial ⟨rfl,⟨rfl,fun _=>rfl⟩,rfl,⟨rfl,fun _=>rfl⟩,rfl,⟨rfl,fun _=>rfl⟩,trivial⟩)
open M in
theorem OM {b:Bool} (ca:Nat) (xs:List SV):aE Tryz.prog Γv 99 nF (fun l=>look l (AH (.aJ 63 b 0 0 ca) xs)) 100 100 (ER 0 (TX (.aJ 63 b 0 0 ca) xs)):=
 Ie (bCl ca xs) (by simp) rfl
open M in
theorem Pr {b:Bool} (ca:Nat) {n0:Int} (h0:U n0) (xs:List SV):aE Tryz.prog Γv 99 nF (fun l=>look l (AH (.aJ 63 b 0 1 ca) (ww n0 xs))) 100 100 (ER n0 (TX (.aJ 63 b 0 1 ca) (ww n0 xs))):=
 Ie (bCk ca n0 xs) (aA (by simp only [sh,bJ,h0,and_true])) rfl
open M in
theorem OL {b:Bool} (ca:Nat) {n0 n1:Int} (h0:U n0) (h1:U n1) (xs:List SV):aE Tryz.prog Γv 99 nF (fun l=>look l (AH (.aJ 63 b 0 2 ca) (ww n0 (ww n1 xs)))) 100 100 (ER (n0+18446744073709551616*n1) (TX (.aJ 63 b 0 2 ca) (ww n0 (ww n1 xs)))):=
 Ie (bCj ca n0 n1 xs) (aA (by simp only [sh,bJ,h0,h1,and_true])) rfl
open M in
theorem OK {b:Bool} {ca:Nat} (lS:ca=6\/ca=7\/ca=8\/ca=9) {n0 n1 n2:Int} (h0:U n0) (h1:U n1) (Gd:n2≠0) (h20:0<=n2) (h2:n2<8) :
 aE Tryz.prog Γv 99 nF (fun l=>look l (AH (.aJ 63 b 0 3 ca) (wc (n0::n1::n2::List.replicate (ca-3) 0)))) 100 100 (ER (n0+18446744073709551616*n1) (TX (.aJ 63 b 0 3 ca) (wc (n0::n1::n2::List.replicate (ca-3) 0)))):=by
 obtain ⟨e0,e1,e2⟩:=aVz h0 h1 h20 h2
 have hU2:U n2:=by unfold U;omega
 have:=h0.1;have:=h0.2;have:=h1.1;have:=h1.2
 have g0:Ow ca:=by
  rcases lS with rfl | rfl | rfl | rfl
  .exact aCr
  .exact aCq
  .exact aCp
  .exact aCo
 have g1:Ov ca:=by
  rcases lS with rfl | rfl | rfl | rfl
  .exact aCn
  .exact aCm
  .exact aCl
  .exact aCk
 have g2:Ou ca:=by
  rcases lS with rfl | rfl | rfl | rfl
  .exact aCj
  .exact aCi
  .exact aCh
  .exact aCg
 have u0:U (dK .u64 n0 63):=by rw [HT];unfold U ul;omega
 have u1:U (lm n0 n1):=by rw [Dl h0 h1];unfold U;omega
 have u2:U (lm n1 n2):=by rw [Dl h1 hU2];unfold U;omega
 have s0:0<=cB .u64 n2 1:=by rw [WI];omega
 have s1:cB .u64 n2 1<4:=by rw [WI];omega
 have c0:decide (cmp (n3 n0 n1 n2) 340282366920938463463374607431768211456<0)=false:=by
  refine zzF ?_
  unfold cmp n3
  rw [if_neg (by omega)]
  split <;> omega
 have d0:nl [dq 9223372036854775808 (cB .u64 n2 1) (lm n1 n2)]=1:=by
  have:dq 9223372036854775808 (cB .u64 n2 1) (lm n1 n2)≠0:=by
   rw [WI,Dl h1 hU2]
   unfold dq
   omega
  simp only [nl,if_neg this]
 have z0:U 0:=by unfold U;omega
 have z1:U 1:=by unfold U;omega
 rcases VB n0 n1 with ⟨h,q0,q1⟩ | ⟨h,q0,q1⟩ | ⟨h,q1⟩
 .have hn:nl [n0,n1,0,0]=0:=by rw [q0,q1];decide
  refine Ie (g0 n0 n1 n2) (aA ?_) (by rw [q0,q1];decide)
  rw [e0,e1,e2]
  simp only [sh,bJ,h0,h1,hU2,u0,u1,u2,s0,s1,c0,d0,z0,z1,hn,and_true]
 .have hn:nl [n0,n1,0,0]=1:=by rw [q1];simp only [nl,if_true,if_neg q0]
  refine Ie (g1 n0 n1 n2) (aA ?_) (by rw [e0,q1];omega)
  rw [e0,e1,e2]
  simp only [sh,bJ,h0,h1,hU2,u0,u1,u2,s0,s1,c0,d0,z0,z1,hn,and_true]
 .have hn:nl [n0,n1,0,0]=2:=by simp only [nl,if_true,if_neg q1]
  refine Ie (g2 n0 n1 n2) (aA ?_) (by rw [e0,e1])
  rw [e0,e1,e2]
  simp only [sh,bJ,h0,h1,hU2,u0,u1,u2,s0,s1,c0,d0,z0,z1,hn,and_true]
end Go.Proofs.YticicdfijghigaaGreatDoor.Sx
