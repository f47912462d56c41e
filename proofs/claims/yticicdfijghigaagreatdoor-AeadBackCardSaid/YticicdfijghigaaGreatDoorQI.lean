/- slow.laid into sixteen bytes. -/
import Derived.Test.YticicdfijghigaaGreatDoorQH
open Go
set_option maxRecDepth 100000
namespace Go.Proofs.YticicdfijghigaaGreatDoor.Sx
namespace M
theorem EZ (a:Int):dI .u64 a 63=ul (a*9223372036854775808):=by unfold dI;rw [bP];rfl
theorem aOb (a:Int):dI .u64 a 1=ul (a*2):=by unfold dI;rw [bP];rfl
theorem EX (a:Int):bZ .u64 a 63=a/9223372036854775808:=by
 show Int.fdiv a 9223372036854775808=_
 rw [Int.fdiv_eq_ediv_of_nonneg _ (by decide)]
theorem TH (a:Int):bZ .u64 a 1=a/2:=by
 show Int.fdiv a 2=_
 rw [Int.fdiv_eq_ediv_of_nonneg _ (by decide)]
theorem aWw (k y:Int) (hk:0<=k) (hk4:k<2) (fG:0<=y) (hy:y<9223372036854775808):kN .u64 (k*9223372036854775808) y=k*9223372036854775808+y:=by
 obtain ⟨k,rfl⟩:=Int.eq_ofNat_of_zero_le hk
 obtain ⟨y,rfl⟩:=Int.eq_ofNat_of_zero_le fG
 have e:(k:Int)*9223372036854775808=((k*2^63:Nat):Int):=by rw [Int.natCast_mul];rfl
 have RK:(2:Nat)^63=9223372036854775808:=rfl
 rw [e,CR (by omega) (by omega)]
 omega
theorem aOl (k y:Int) (hk:0<=k) (hk4:k<9223372036854775808) (fG:0<=y) (hy:y<2):kN .u64 y (k*2)=k*2+y:=by
 obtain ⟨k,rfl⟩:=Int.eq_ofNat_of_zero_le hk
 obtain ⟨y,rfl⟩:=Int.eq_ofNat_of_zero_le fG
 have e:(k:Int)*2=((k*2^1:Nat):Int):=by rw [Int.natCast_mul];rfl
 have RK:(2:Nat)^1=2:=rfl
 rw [e,CS,CR (by omega) (by omega)]
 omega
theorem Bq {a b:Int} (ha:U a) (hb:U b):lm a b=b%2*9223372036854775808+a/2:=by
 have:=ha.1;have:=ha.2;have:=hb.1;have:=hb.2
 unfold lm
 rw [EZ,TH]
 have e:ul (b*9223372036854775808)=b%2*9223372036854775808:=by unfold ul;omega
 rw [e,aWw _ _ (by omega) (by omega) (by omega) (by omega)]
theorem aSq {a b c:Int} (ha:U a) (hb:U b) (Ar:0<=c) (hc:c<8):Ee a b=a/\Hn a b c=b/\Ks b c=0:=by
 have:=ha.1;have:=ha.2;have:=hb.1;have:=hb.2
 have hcU:U c:=by unfold U;omega
 refine ⟨?_,?_,?_⟩
 .unfold Ee
  rw [Bq ha hb,EZ,EX,aOb]
  have e1:ul (a*9223372036854775808)/9223372036854775808=a%2:=by unfold ul;omega
  have e2:ul ((b%2*9223372036854775808+a/2)*2)=a/2*2:=by unfold ul;omega
  rw [e1,e2,aOl _ _ (by omega) (by omega) (by omega) (by omega)]
  omega
 .unfold Hn
  rw [Bq ha hb,Bq hb hcU,EX,aOb]
  have e1:(b%2*9223372036854775808+a/2)/9223372036854775808=b%2:=by omega
  have e2:ul ((c%2*9223372036854775808+b/2)%9223372036854775808*2)=b/2*2:=by unfold ul;omega
  rw [e1,e2,aOl _ _ (by omega) (by omega) (by omega) (by omega)]
  omega
 .unfold Ks
  rw [Bq hb hcU,EX]
  have e1:(c%2*9223372036854775808+b/2)%9223372036854775808/9223372036854775808=0:=by omega
  rw [e1]
  decide
end M
theorem aOr (ir:Nat):aH Tryz.prog (env (EF ir) 22) 99 (aJ (env (EF ir) 22) Tryz.f99 true [] 400):=aM (bQ _ 22) (bW _ (aCb ir) 22) mix Tryz.func99 (by kernel_rfl) true [] 400
def CA (n:Int) (ws:List (Nat × SB)):bJ:={ val:=.eL [],wr:=(62,M.RX n)::ws }
def QW (X:SV) (xs:List SV):List (Nat × SB):=[(61,.own [.bool true false,X] 146),(63,.own xs 196)]
theorem LP:aF Tryz.prog Γv 99 mQ (fun l=>look l aGc) 100 100 (CA 0 [(61,.own [.bool true false,.raw (.slice none 0 0)] 146)]):=
 (((aOr 0).call (aYc 0) (by simp)).bE 61 _ rfl (by decide)).re rfl (fun _=>rfl) trivial ⟨rfl,⟨rfl,fun _=>rfl⟩,rfl,⟨rfl,fun _=>rfl⟩,trivial⟩
theorem aKn {n ca:Nat} {b:Bool} {xs:List SV} {N:Int} (h:aF Tryz.prog Γv 99 mQ (fun l=>look l (Xw (.aG 63 true 0 n ca) xs)) 100 100 (CA N (QW (.aG 63 true 0 n ca) xs))):aF Tryz.prog Γv 99 mQ (fun l=>look l (Xw (.aG 63 b 0 n ca) xs)) 100 100 (CA N (QW (.aG 63 b 0 n ca) xs)):=
 (aF.reL (L:=Xw (.aG 63 true 0 n ca) xs) (L':=Xw (.aG 63 b 0 n ca) xs) h ⟨rfl,⟨rfl,fun _=>rfl⟩,rfl,cC _,rfl,cC _,rfl,cC _,rfl,cC _,trivial⟩ (fun _=>rfl)).re rfl (fun _=>rfl) trivial ⟨rfl,cC _,rfl,⟨rfl,fun _=>rfl⟩,rfl,cC _,trivial⟩
theorem Ge {ir n ca:Nat} {b:Bool} {xs:List SV} {N N':Int} {ob:List Prop} (h:Br ir (.aG 63 true 0 n ca) xs=some { bM:=ob,val:=.eL [],wr:=[(62,M.RX N')] }) (ho:∀ q∈ob,q) (e:N'=N):aF Tryz.prog Γv 99 mQ (fun l=>look l (Xw (.aG 63 b 0 n ca) xs)) 100 100 (CA N (QW (.aG 63 b 0 n ca) xs)):=by
 subst e
 exact aKn (((((aOr ir).call h ho).bE 61 _ rfl (by decide)).bE 63 _ rfl (by decide)).re rfl (fun _=>rfl) trivial ⟨rfl,⟨rfl,fun _=>rfl⟩,rfl,⟨rfl,fun _=>rfl⟩,rfl,⟨rfl,fun _=>rfl⟩,trivial⟩)
open M in
theorem LS {b:Bool} (ca:Nat) (xs:List SV):aF Tryz.prog Γv 99 mQ (fun l=>look l (Xw (.aG 63 b 0 0 ca) xs)) 100 100 (CA 0 (QW (.aG 63 b 0 0 ca) xs)):=
 Ge (aYf ca xs) (by simp) rfl
open M in
theorem Ng {b:Bool} (ca:Nat) {n0:Int} (h0:U n0) (xs:List SV):aF Tryz.prog Γv 99 mQ (fun l=>look l (Xw (.aG 63 b 0 1 ca) (ww n0 xs))) 100 100 (CA n0 (QW (.aG 63 b 0 1 ca) (ww n0 xs))):=
 Ge (aYe ca n0 xs) (aA (by simp only [sh,bX,h0,and_true])) rfl
open M in
theorem LR {b:Bool} (ca:Nat) {n0 n1:Int} (h0:U n0) (h1:U n1) (xs:List SV):aF Tryz.prog Γv 99 mQ (fun l=>look l (Xw (.aG 63 b 0 2 ca) (ww n0 (ww n1 xs)))) 100 100 (CA (n0+18446744073709551616*n1) (QW (.aG 63 b 0 2 ca) (ww n0 (ww n1 xs)))):=
 Ge (aYd ca n0 n1 xs) (aA (by simp only [sh,bX,h0,h1,and_true])) rfl
open M in
theorem LQ {b:Bool} {ca:Nat} (lB:ca=6\/ca=7\/ca=8\/ca=9) {n0 n1 n2:Int} (h0:U n0) (h1:U n1) (Hq:n2≠0) (h20:0<=n2) (h2:n2<8) :
 aF Tryz.prog Γv 99 mQ (fun l=>look l (Xw (.aG 63 b 0 3 ca) (wc (n0::n1::n2::List.replicate (ca-3) 0)))) 100 100 (CA (n0+18446744073709551616*n1) (QW (.aG 63 b 0 3 ca) (wc (n0::n1::n2::List.replicate (ca-3) 0)))):=by
 obtain ⟨e0,e1,e2⟩:=aSq h0 h1 h20 h2
 have hU2:U n2:=by unfold U;omega
 have:=h0.1;have:=h0.2;have:=h1.1;have:=h1.2
 have g0:Mn ca:=by
  rcases lB with rfl | rfl | rfl | rfl
  .exact ZW
  .exact ZV
  .exact ZU
  .exact ZT
 have g1:Mm ca:=by
  rcases lB with rfl | rfl | rfl | rfl
  .exact ZS
  .exact ZR
  .exact ZQ
  .exact ZP
 have g2:Ml ca:=by
  rcases lB with rfl | rfl | rfl | rfl
  .exact ZO
  .exact ZN
  .exact ZM
  .exact ZL
 have u0:U (dI .u64 n0 63):=by rw [EZ];unfold U ul;omega
 have u1:U (lm n0 n1):=by rw [Bq h0 h1];unfold U;omega
 have u2:U (lm n1 n2):=by rw [Bq h1 hU2];unfold U;omega
 have s0:0<=bZ .u64 n2 1:=by rw [TH];omega
 have s1:bZ .u64 n2 1<4:=by rw [TH];omega
 have c0:decide (cmp (n3 n0 n1 n2) 340282366920938463463374607431768211456<0)=false:=by
  refine decide_eq_false ?_
  unfold cmp n3
  rw [if_neg (by omega)]
  split <;> omega
 have d0:nl [dq 9223372036854775808 (bZ .u64 n2 1) (lm n1 n2)]=1:=by
  have:dq 9223372036854775808 (bZ .u64 n2 1) (lm n1 n2)≠0:=by
   rw [TH,Bq h1 hU2]
   unfold dq
   omega
  simp only [nl,if_neg this]
 have z0:U 0:=by unfold U;omega
 have z1:U 1:=by unfold U;omega
 rcases RV n0 n1 with ⟨h,q0,q1⟩ | ⟨h,q0,q1⟩ | ⟨h,q1⟩
 .have hn:nl [n0,n1,0,0]=0:=by rw [q0,q1];decide
  refine Ge (g0 n0 n1 n2) (aA ?_) (by rw [q0,q1];decide)
  rw [e0,e1,e2]
  simp only [sh,bX,h0,h1,hU2,u0,u1,u2,s0,s1,c0,d0,z0,z1,hn,and_true]
 .have hn:nl [n0,n1,0,0]=1:=by rw [q1];simp only [nl,if_true,if_neg q0]
  refine Ge (g1 n0 n1 n2) (aA ?_) (by rw [e0,q1];omega)
  rw [e0,e1,e2]
  simp only [sh,bX,h0,h1,hU2,u0,u1,u2,s0,s1,c0,d0,z0,z1,hn,and_true]
 .have hn:nl [n0,n1,0,0]=2:=by simp only [nl,if_true,if_neg q1]
  refine Ge (g2 n0 n1 n2) (aA ?_) (by rw [e0,e1])
  rw [e0,e1,e2]
  simp only [sh,bX,h0,h1,hU2,u0,u1,u2,s0,s1,c0,d0,z0,z1,hn,and_true]
end Go.Proofs.YticicdfijghigaaGreatDoor.Sx
