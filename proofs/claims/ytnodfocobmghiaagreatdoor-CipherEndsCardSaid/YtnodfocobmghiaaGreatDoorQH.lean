/- slow.laid into sixteen bytes. -/
import Derived.Test.YtnodfocobmghiaaGreatDoorQG
open Go
set_option maxRecDepth 100000
namespace Go.Proofs.YtnodfocobmghiaaGreatDoor.Sx
namespace M
theorem BH (a:Int):cZ .u64 a 63=ul (a*9223372036854775808):=by unfold cZ;rw [bN];rfl
theorem aJj (a:Int):cZ .u64 a 1=ul (a*2):=by unfold cZ;rw [bN];rfl
theorem BF (a:Int):bU .u64 a 63=a/9223372036854775808:=by
 show Int.fdiv a 9223372036854775808=_
 rw [Int.fdiv_eq_ediv_of_nonneg _ (by decide)]
theorem OS (a:Int):bU .u64 a 1=a/2:=by
 show Int.fdiv a 2=_
 rw [Int.fdiv_eq_ediv_of_nonneg _ (by decide)]
theorem aRl (k y:Int) (hk:0<=k) (hk4:k<2) (eU:0<=y) (hy:y<9223372036854775808):jQ .u64 (k*9223372036854775808) y=k*9223372036854775808+y:=by
 obtain ⟨k,rfl⟩:=pD hk
 obtain ⟨y,rfl⟩:=pD eU
 have e:(k:Int)*9223372036854775808=((k*2^63:Nat):Int):=by rw [Int.natCast_mul];rfl
 have NA:(2:Nat)^63=9223372036854775808:=rfl
 rw [e,Zc (by omega) (by omega)]
 omega
theorem aJt (k y:Int) (hk:0<=k) (hk4:k<9223372036854775808) (eU:0<=y) (hy:y<2):jQ .u64 y (k*2)=k*2+y:=by
 obtain ⟨k,rfl⟩:=pD hk
 obtain ⟨y,rfl⟩:=pD eU
 have e:(k:Int)*2=((k*2^1:Nat):Int):=by rw [Int.natCast_mul];rfl
 have NA:(2:Nat)^1=2:=rfl
 rw [e,Zd,Zc (by omega) (by omega)]
 omega
theorem zX {a b:Int} (ha:U a) (hb:U b):lm a b=b%2*9223372036854775808+a/2:=by
 have:=ha.1;have:=ha.2;have:=hb.1;have:=hb.2
 unfold lm
 rw [BH,OS]
 have e:ul (b*9223372036854775808)=b%2*9223372036854775808:=by unfold ul;omega
 rw [e,aRl _ _ (by omega) (by omega) (by omega) (by omega)]
theorem aNq {a b c:Int} (ha:U a) (hb:U b) (yS:0<=c) (hc:c<8):Ch a b=a/\Ff a b c=b/\Ig b c=0:=by
 have:=ha.1;have:=ha.2;have:=hb.1;have:=hb.2
 have hcU:U c:=by unfold U;omega
 refine ⟨?_,?_,?_⟩
 .unfold Ch
  rw [zX ha hb,BH,BF,aJj]
  have e1:ul (a*9223372036854775808)/9223372036854775808=a%2:=by unfold ul;omega
  have e2:ul ((b%2*9223372036854775808+a/2)*2)=a/2*2:=by unfold ul;omega
  rw [e1,e2,aJt _ _ (by omega) (by omega) (by omega) (by omega)]
  omega
 .unfold Ff
  rw [zX ha hb,zX hb hcU,BF,aJj]
  have e1:(b%2*9223372036854775808+a/2)/9223372036854775808=b%2:=by omega
  have e2:ul ((c%2*9223372036854775808+b/2)%9223372036854775808*2)=b/2*2:=by unfold ul;omega
  rw [e1,e2,aJt _ _ (by omega) (by omega) (by omega) (by omega)]
  omega
 .unfold Ig
  rw [zX hb hcU,BF]
  have e1:(c%2*9223372036854775808+b/2)%9223372036854775808/9223372036854775808=0:=by omega
  rw [e1]
  decide
end M
theorem aJy (ir:Nat):aF Tryz.prog (env (AQ ir) 22) 67 (aJ (env (AQ ir) 22) Tryz.f67 true [] 400):=aM (bL _ 22) (bS _ (XB ir) 22) mix Tryz.func67 (by kernel_rfl) true [] 400
def Yq (n:Int) (ws:List (Nat × SB)):bK:={ val:=.eF [],wr:=(62,M.NN n)::ws }
def MM (X:SV) (xs:List SV):List (Nat × SB):=[(61,.own [.bool true false,X] 102),(63,.own xs 142)]
theorem HF:aE Tryz.prog Γv 67 lQ (fun l=>look l aBr) 100 100 (Yq 0 [(61,.own [.bool true false,.raw (.slice none 0 0)] 102)]):=
 (((aJy 0).call (aSl 0) (by simp)).bC 61 _ rfl (by decide)).re rfl (fun _=>rfl) trivial ⟨rfl,⟨rfl,fun _=>rfl⟩,rfl,⟨rfl,fun _=>rfl⟩,trivial⟩
theorem aFx {n ca:Nat} {b:Bool} {xs:List SV} {N:Int} (h:aE Tryz.prog Γv 67 lQ (fun l=>look l (Uk (.aG 63 true 0 n ca) xs)) 100 100 (Yq N (MM (.aG 63 true 0 n ca) xs))):aE Tryz.prog Γv 67 lQ (fun l=>look l (Uk (.aG 63 b 0 n ca) xs)) 100 100 (Yq N (MM (.aG 63 b 0 n ca) xs)):=
 (aE.reL (L:=Uk (.aG 63 true 0 n ca) xs) (L':=Uk (.aG 63 b 0 n ca) xs) h ⟨rfl,⟨rfl,fun _=>rfl⟩,rfl,bW _,rfl,bW _,rfl,bW _,rfl,bW _,trivial⟩ (fun _=>rfl)).re rfl (fun _=>rfl) trivial ⟨rfl,bW _,rfl,⟨rfl,fun _=>rfl⟩,rfl,bW _,trivial⟩
theorem Dz {ir n ca:Nat} {b:Bool} {xs:List SV} {N N':Int} {ob:List Prop} (h:zY ir (.aG 63 true 0 n ca) xs=some { bO:=ob,val:=.eF [],wr:=[(62,M.NN N')] }) (ho:∀ q∈ob,q) (e:N'=N):aE Tryz.prog Γv 67 lQ (fun l=>look l (Uk (.aG 63 b 0 n ca) xs)) 100 100 (Yq N (MM (.aG 63 b 0 n ca) xs)):=by
 subst e
 exact aFx (((((aJy ir).call h ho).bC 61 _ rfl (by decide)).bC 63 _ rfl (by decide)).re rfl (fun _=>rfl) trivial ⟨rfl,⟨rfl,fun _=>rfl⟩,rfl,⟨rfl,fun _=>rfl⟩,rfl,⟨rfl,fun _=>rfl⟩,trivial⟩)
open M in
theorem HI {b:Bool} (ca:Nat) (xs:List SV):aE Tryz.prog Γv 67 lQ (fun l=>look l (Uk (.aG 63 b 0 0 ca) xs)) 100 100 (Yq 0 (MM (.aG 63 b 0 0 ca) xs)):=
 Dz (aSo ca xs) (by simp) rfl
open M in
theorem Kv {b:Bool} (ca:Nat) {n0:Int} (h0:U n0) (xs:List SV):aE Tryz.prog Γv 67 lQ (fun l=>look l (Uk (.aG 63 b 0 1 ca) (ww n0 xs))) 100 100 (Yq n0 (MM (.aG 63 b 0 1 ca) (ww n0 xs))):=
 Dz (aSn ca n0 xs) (aB (by simp only [sh,bZ,h0,and_true])) rfl
open M in
theorem HH {b:Bool} (ca:Nat) {n0 n1:Int} (h0:U n0) (h1:U n1) (xs:List SV):aE Tryz.prog Γv 67 lQ (fun l=>look l (Uk (.aG 63 b 0 2 ca) (ww n0 (ww n1 xs)))) 100 100 (Yq (n0+18446744073709551616*n1) (MM (.aG 63 b 0 2 ca) (ww n0 (ww n1 xs)))):=
 Dz (aSm ca n0 n1 xs) (aB (by simp only [sh,bZ,h0,h1,and_true])) rfl
open M in
theorem HG {b:Bool} {ca:Nat} (kA:ca=6\/ca=7\/ca=8\/ca=9) {n0 n1 n2:Int} (h0:U n0) (h1:U n1) (Md:n2≠0) (h20:0<=n2) (h2:n2<8) :
 aE Tryz.prog Γv 67 lQ (fun l=>look l (Uk (.aG 63 b 0 3 ca) (wc (n0::n1::n2::List.replicate (ca-3) 0)))) 100 100 (Yq (n0+18446744073709551616*n1) (MM (.aG 63 b 0 3 ca) (wc (n0::n1::n2::List.replicate (ca-3) 0)))):=by
 obtain ⟨e0,e1,e2⟩:=aNq h0 h1 h20 h2
 have hU2:U n2:=by unfold U;omega
 have:=h0.1;have:=h0.2;have:=h1.1;have:=h1.2
 have g0:Kh ca:=by
  rcases kA with rfl | rfl | rfl | rfl
  .exact VA
  .exact UZ
  .exact UY
  .exact UX
 have g1:Kg ca:=by
  rcases kA with rfl | rfl | rfl | rfl
  .exact UW
  .exact UU
  .exact UT
  .exact US
 have g2:Kf ca:=by
  rcases kA with rfl | rfl | rfl | rfl
  .exact UR
  .exact UQ
  .exact UP
  .exact UO
 have u0:U (cZ .u64 n0 63):=by rw [BH];unfold U ul;omega
 have u1:U (lm n0 n1):=by rw [zX h0 h1];unfold U;omega
 have u2:U (lm n1 n2):=by rw [zX h1 hU2];unfold U;omega
 have s0:0<=bU .u64 n2 1:=by rw [OS];omega
 have s1:bU .u64 n2 1<4:=by rw [OS];omega
 have c0:decide (cmp (n3 n0 n1 n2) 340282366920938463463374607431768211456<0)=false:=by
  refine nD ?_
  unfold cmp n3
  rw [if_neg (by omega)]
  split <;> omega
 have d0:nl [dq 9223372036854775808 (bU .u64 n2 1) (lm n1 n2)]=1:=by
  have:dq 9223372036854775808 (bU .u64 n2 1) (lm n1 n2)≠0:=by
   rw [OS,zX h1 hU2]
   unfold dq
   omega
  simp only [nl,if_neg this]
 have z0:U 0:=by unfold U;omega
 have z1:U 1:=by unfold U;omega
 rcases NL n0 n1 with ⟨h,q0,q1⟩ | ⟨h,q0,q1⟩ | ⟨h,q1⟩
 .have hn:nl [n0,n1,0,0]=0:=by rw [q0,q1];decide
  refine Dz (g0 n0 n1 n2) (aB ?_) (by rw [q0,q1];decide)
  rw [e0,e1,e2]
  simp only [sh,bZ,h0,h1,hU2,u0,u1,u2,s0,s1,c0,d0,z0,z1,hn,and_true]
 .have hn:nl [n0,n1,0,0]=1:=by rw [q1];simp only [nl,if_true,if_neg q0]
  refine Dz (g1 n0 n1 n2) (aB ?_) (by rw [e0,q1];omega)
  rw [e0,e1,e2]
  simp only [sh,bZ,h0,h1,hU2,u0,u1,u2,s0,s1,c0,d0,z0,z1,hn,and_true]
 .have hn:nl [n0,n1,0,0]=2:=by simp only [nl,if_true,if_neg q1]
  refine Dz (g2 n0 n1 n2) (aB ?_) (by rw [e0,e1])
  rw [e0,e1,e2]
  simp only [sh,bZ,h0,h1,hU2,u0,u1,u2,s0,s1,c0,d0,z0,z1,hn,and_true]
end Go.Proofs.YtnodfocobmghiaaGreatDoor.Sx
