/- slow.laid into sixteen bytes. -/
import Derived.Test.YtnodfocobmghiaaGreatDoorQG
open Go
set_option maxRecDepth 100000
namespace Go.Proofs.YtnodfocobmghiaaGreatDoor.Sx
namespace M
theorem ED (a:Int):dD .u64 a 63=ul (a*9223372036854775808):=by unfold dD;rw [bP];rfl
theorem aMl (a:Int):dD .u64 a 1=ul (a*2):=by unfold dD;rw [bP];rfl
theorem EB (a:Int):bY .u64 a 63=a/9223372036854775808:=by
 show Int.fdiv a 9223372036854775808=_
 rw [Int.fdiv_eq_ediv_of_nonneg _ (by decide)]
theorem SE (a:Int):bY .u64 a 1=a/2:=by
 show Int.fdiv a 2=_
 rw [Int.fdiv_eq_ediv_of_nonneg _ (by decide)]
theorem aVd (k y:Int) (hk:0<=k) (hk4:k<2) (fB:0<=y) (hy:y<9223372036854775808):jZ .u64 (k*9223372036854775808) y=k*9223372036854775808+y:=by
 obtain ⟨k,rfl⟩:=pW hk
 obtain ⟨y,rfl⟩:=pW fB
 have e:(k:Int)*9223372036854775808=((k*2^63:Nat):Int):=by rw [Int.natCast_mul];rfl
 have QF:(2:Nat)^63=9223372036854775808:=rfl
 rw [e,BT (by omega) (by omega)]
 omega
theorem aMv (k y:Int) (hk:0<=k) (hk4:k<9223372036854775808) (fB:0<=y) (hy:y<2):jZ .u64 y (k*2)=k*2+y:=by
 obtain ⟨k,rfl⟩:=pW hk
 obtain ⟨y,rfl⟩:=pW fB
 have e:(k:Int)*2=((k*2^1:Nat):Int):=by rw [Int.natCast_mul];rfl
 have QF:(2:Nat)^1=2:=rfl
 rw [e,BU,BT (by omega) (by omega)]
 omega
theorem Bn {a b:Int} (ha:U a) (hb:U b):lm a b=b%2*9223372036854775808+a/2:=by
 have:=ha.1;have:=ha.2;have:=hb.1;have:=hb.2
 unfold lm
 rw [ED,SE]
 have e:ul (b*9223372036854775808)=b%2*9223372036854775808:=by unfold ul;omega
 rw [e,aVd _ _ (by omega) (by omega) (by omega) (by omega)]
theorem aQv {a b c:Int} (ha:U a) (hb:U b) (Ae:0<=c) (hc:c<8):Eb a b=a/\Gy a b c=b/\Jw b c=0:=by
 have:=ha.1;have:=ha.2;have:=hb.1;have:=hb.2
 have hcU:U c:=by unfold U;omega
 refine ⟨?_,?_,?_⟩
 .unfold Eb
  rw [Bn ha hb,ED,EB,aMl]
  have e1:ul (a*9223372036854775808)/9223372036854775808=a%2:=by unfold ul;omega
  have e2:ul ((b%2*9223372036854775808+a/2)*2)=a/2*2:=by unfold ul;omega
  rw [e1,e2,aMv _ _ (by omega) (by omega) (by omega) (by omega)]
  omega
 .unfold Gy
  rw [Bn ha hb,Bn hb hcU,EB,aMl]
  have e1:(b%2*9223372036854775808+a/2)/9223372036854775808=b%2:=by omega
  have e2:ul ((c%2*9223372036854775808+b/2)%9223372036854775808*2)=b/2*2:=by unfold ul;omega
  rw [e1,e2,aMv _ _ (by omega) (by omega) (by omega) (by omega)]
  omega
 .unfold Jw
  rw [Bn hb hcU,EB]
  have e1:(c%2*9223372036854775808+b/2)%9223372036854775808/9223372036854775808=0:=by omega
  rw [e1]
  decide
end M
theorem aNb (ir:Nat):aG Tryz.prog (env (DL ir) 22) 67 (aK (env (DL ir) 22) Tryz.f67 true [] 400):=aN (bL _ 22) (bV _ (aAu ir) 22) mix Tryz.func67 (by kernel_rfl) true [] 400
def BF (n:Int) (ws:List (Nat × SB)):bK:={ val:=.eD [],wr:=(62,M.QQ n)::ws }
def PS (X:SV) (xs:List SV):List (Nat × SB):=[(61,.own [.bool true false,X] 102),(63,.own xs 142)]
theorem KK:aF Tryz.prog Γv 67 mE (fun l=>look l aEo) 100 100 (BF 0 [(61,.own [.bool true false,.raw (.slice none 0 0)] 102)]):=
 (((aNb 0).call (aWh 0) (by simp)).bD 61 _ rfl (by decide)).re rfl (fun _=>rfl) trivial ⟨rfl,⟨rfl,fun _=>rfl⟩,rfl,⟨rfl,fun _=>rfl⟩,trivial⟩
theorem aJb {n ca:Nat} {b:Bool} {xs:List SV} {N:Int} (h:aF Tryz.prog Γv 67 mE (fun l=>look l (Xa (.aH 63 true 0 n ca) xs)) 100 100 (BF N (PS (.aH 63 true 0 n ca) xs))):aF Tryz.prog Γv 67 mE (fun l=>look l (Xa (.aH 63 b 0 n ca) xs)) 100 100 (BF N (PS (.aH 63 b 0 n ca) xs)):=
 (aF.reL (L:=Xa (.aH 63 true 0 n ca) xs) (L':=Xa (.aH 63 b 0 n ca) xs) h ⟨rfl,⟨rfl,fun _=>rfl⟩,rfl,cB _,rfl,cB _,rfl,cB _,rfl,cB _,trivial⟩ (fun _=>rfl)).re rfl (fun _=>rfl) trivial ⟨rfl,cB _,rfl,⟨rfl,fun _=>rfl⟩,rfl,cB _,trivial⟩
theorem Fx {ir n ca:Nat} {b:Bool} {xs:List SV} {N N':Int} {ob:List Prop} (h:Bo ir (.aH 63 true 0 n ca) xs=some { bO:=ob,val:=.eD [],wr:=[(62,M.QQ N')] }) (ho:∀ q∈ob,q) (e:N'=N):aF Tryz.prog Γv 67 mE (fun l=>look l (Xa (.aH 63 b 0 n ca) xs)) 100 100 (BF N (PS (.aH 63 b 0 n ca) xs)):=by
 subst e
 exact aJb (((((aNb ir).call h ho).bD 61 _ rfl (by decide)).bD 63 _ rfl (by decide)).re rfl (fun _=>rfl) trivial ⟨rfl,⟨rfl,fun _=>rfl⟩,rfl,⟨rfl,fun _=>rfl⟩,rfl,⟨rfl,fun _=>rfl⟩,trivial⟩)
open M in
theorem KN {b:Bool} (ca:Nat) (xs:List SV):aF Tryz.prog Γv 67 mE (fun l=>look l (Xa (.aH 63 b 0 0 ca) xs)) 100 100 (BF 0 (PS (.aH 63 b 0 0 ca) xs)):=
 Fx (aWk ca xs) (by simp) rfl
open M in
theorem Mo {b:Bool} (ca:Nat) {n0:Int} (h0:U n0) (xs:List SV):aF Tryz.prog Γv 67 mE (fun l=>look l (Xa (.aH 63 b 0 1 ca) (ww n0 xs))) 100 100 (BF n0 (PS (.aH 63 b 0 1 ca) (ww n0 xs))):=
 Fx (aWj ca n0 xs) (aA (by simp only [sh,cA,h0,and_true])) rfl
open M in
theorem KM {b:Bool} (ca:Nat) {n0 n1:Int} (h0:U n0) (h1:U n1) (xs:List SV):aF Tryz.prog Γv 67 mE (fun l=>look l (Xa (.aH 63 b 0 2 ca) (ww n0 (ww n1 xs)))) 100 100 (BF (n0+18446744073709551616*n1) (PS (.aH 63 b 0 2 ca) (ww n0 (ww n1 xs)))):=
 Fx (aWi ca n0 n1 xs) (aA (by simp only [sh,cA,h0,h1,and_true])) rfl
open M in
theorem KL {b:Bool} {ca:Nat} (kF:ca=6\/ca=7\/ca=8\/ca=9) {n0 n1 n2:Int} (h0:U n0) (h1:U n1) (Ob:n2≠0) (h20:0<=n2) (h2:n2<8) :
 aF Tryz.prog Γv 67 mE (fun l=>look l (Xa (.aH 63 b 0 3 ca) (wc (n0::n1::n2::List.replicate (ca-3) 0)))) 100 100 (BF (n0+18446744073709551616*n1) (PS (.aH 63 b 0 3 ca) (wc (n0::n1::n2::List.replicate (ca-3) 0)))):=by
 obtain ⟨e0,e1,e2⟩:=aQv h0 h1 h20 h2
 have hU2:U n2:=by unfold U;omega
 have:=h0.1;have:=h0.2;have:=h1.1;have:=h1.2
 have g0:Lw ca:=by
  rcases kF with rfl | rfl | rfl | rfl
  .exact YU
  .exact YT
  .exact YS
  .exact YR
 have g1:Lv ca:=by
  rcases kF with rfl | rfl | rfl | rfl
  .exact YQ
  .exact YP
  .exact YO
  .exact YN
 have g2:Lu ca:=by
  rcases kF with rfl | rfl | rfl | rfl
  .exact YM
  .exact YL
  .exact YK
  .exact YJ
 have u0:U (dD .u64 n0 63):=by rw [ED];unfold U ul;omega
 have u1:U (lm n0 n1):=by rw [Bn h0 h1];unfold U;omega
 have u2:U (lm n1 n2):=by rw [Bn h1 hU2];unfold U;omega
 have s0:0<=bY .u64 n2 1:=by rw [SE];omega
 have s1:bY .u64 n2 1<4:=by rw [SE];omega
 have c0:decide (cmp (n3 n0 n1 n2) 340282366920938463463374607431768211456<0)=false:=by
  refine kN ?_
  unfold cmp n3
  rw [if_neg (by omega)]
  split <;> omega
 have d0:nl [dq 9223372036854775808 (bY .u64 n2 1) (lm n1 n2)]=1:=by
  have:dq 9223372036854775808 (bY .u64 n2 1) (lm n1 n2)≠0:=by
   rw [SE,Bn h1 hU2]
   unfold dq
   omega
  simp only [nl,if_neg this]
 have z0:U 0:=by unfold U;omega
 have z1:U 1:=by unfold U;omega
 rcases QO n0 n1 with ⟨h,q0,q1⟩ | ⟨h,q0,q1⟩ | ⟨h,q1⟩
 .have hn:nl [n0,n1,0,0]=0:=by rw [q0,q1];decide
  refine Fx (g0 n0 n1 n2) (aA ?_) (by rw [q0,q1];decide)
  rw [e0,e1,e2]
  simp only [sh,cA,h0,h1,hU2,u0,u1,u2,s0,s1,c0,d0,z0,z1,hn,and_true]
 .have hn:nl [n0,n1,0,0]=1:=by rw [q1];simp only [nl,if_true,if_neg q0]
  refine Fx (g1 n0 n1 n2) (aA ?_) (by rw [e0,q1];omega)
  rw [e0,e1,e2]
  simp only [sh,cA,h0,h1,hU2,u0,u1,u2,s0,s1,c0,d0,z0,z1,hn,and_true]
 .have hn:nl [n0,n1,0,0]=2:=by simp only [nl,if_true,if_neg q1]
  refine Fx (g2 n0 n1 n2) (aA ?_) (by rw [e0,e1])
  rw [e0,e1,e2]
  simp only [sh,cA,h0,h1,hU2,u0,u1,u2,s0,s1,c0,d0,z0,z1,hn,and_true]
end Go.Proofs.YtnodfocobmghiaaGreatDoor.Sx
