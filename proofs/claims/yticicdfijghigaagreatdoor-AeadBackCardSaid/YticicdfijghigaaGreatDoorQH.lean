/- slow.laid into sixteen bytes, the runs. -/
import Derived.Test.YticicdfijghigaaGreatDoorQG
open Go
set_option maxRecDepth 100000
namespace Go.Proofs.YticicdfijghigaaGreatDoor.Sx
def GZ (vs:List SV) (T:aZ):Option Canon:=match vs with
 | [.ptr l1 true 0,.aG lo true 0 16 16]=>match T l1,T lo with
   | some (.own [.bool _ _,X] 146),some (.own _ 59)=>match X with
     | .raw (.slice none 0 0)=>some { eR:=mR,T0:=SH (.raw (.slice none 0 0)) [.bool true false,.raw (.slice none 0 0)] nL,vl:=[(61,.lab l1 0),(62,.lab lo 0),(63,.lab l1 0)],e0:=fbE 0 }
     | .aG lx true 0 k c=>match (T lx).bind GM,k with
       | some (.u64,xs),0=>some { eR:=mR,T0:=SH (.aG 63 true 0 0 c) (wc xs) nL,vl:=[(61,.lab l1 0),(62,.lab lo 0),(63,.lab lx 0)],e0:=fbE 0 }
       | some (.u64,a0::xs),1=>some { eR:=mR,T0:=SH (.aG 63 true 0 1 c) (ww a0 (wc xs)) nL,vl:=[(61,.lab l1 0),(62,.lab lo 0),(63,.lab lx 0)],e0:=fbE a0,conds:=[M.U a0] }
       | some (.u64,a0::a1::xs),2=>some { eR:=mR,T0:=SH (.aG 63 true 0 2 c) (ww a0 (ww a1 (wc xs))) nL,vl:=[(61,.lab l1 0),(62,.lab lo 0),(63,.lab lx 0)],e0:=fbE (a0+18446744073709551616*a1),conds:=[M.U a0,M.U a1] }
       | _,_=>none
     | _=>none
   | _,_=>none
 | _=>none
theorem aTw (Γ:Env) (hg:Γ.aR=aB):aH Tryz.prog Γ 149 (aK aB 100 GZ):=by
 refine aW hg fun vs T c hd hc=>?_
 unfold GZ at hd
 split at hd
 case h_2=>cases hd
 split at hd
 case h_2=>cases hd
 split at hd
 case h_3=>cases hd
 .cases hd
  exact (MP [.bool true false,.raw (.slice none 0 0)]).words (by rw [hg];rfl) (fun _=>rfl) (fun _ _ h=>h) (fun _=>rfl) rfl rfl
 .split at hd
  case h_4=>cases hd
  .cases hd
   exact (MT _ _).words (by rw [hg];rfl) (fun _=>rfl) (fun _ _ h=>h) (fun _=>rfl) rfl rfl
  .cases hd
   exact (MR _ (hc _ (by simp)) _).words (by rw [hg];rfl) (fun _=>rfl) (fun _ _ h=>h) (fun _=>rfl) rfl rfl
  .cases hd
   exact (MQ _ (hc _ (by simp)) (hc _ (by simp)) _).words (by rw [hg];rfl) (fun _=>rfl) (fun _ _ h=>h) (fun _=>rfl) rfl rfl
noncomputable def Uy:Nat->Option Sum:=dM (dM Ya 259 (aK aB 100 HP)) 149 (aK aB 100 GZ)
theorem Cz:∀ f S,Uy f=some S->∀ Γ:Env,Γ.aR=aB->aH Tryz.prog Γ f S:=bD (bD pK 259 _ aUb) 149 _ aTw
noncomputable def orR (ex:Nat->Option Sum) (f0:Nat) (S0:Sum):Sum:=match Tryz.prog.funcs[f0]? with
 | some fn=>orS (aJ (env ex 22) fn true [] 400) S0
 | none=>S0
theorem aJp {ex:Nat->Option Sum} (hex:∀ f S,ex f=some S->∀ Γ:Env,Γ.aR=aB->aH Tryz.prog Γ f S) (f0:Nat) (S0:Sum) (h0:∀ Γ:Env,Γ.aR=aB->aH Tryz.prog Γ f0 S0):∀ Γ:Env,Γ.aR=aB->aH Tryz.prog Γ f0 (orR ex f0 S0):=by
 intro Γ hg
 unfold orR
 split
 .rename_i fn uB
  exact IW ((aM (bQ ex 22) (bW ex hex 22) mix uB (names f0 fn uB) true [] 400).aR (by rw [hg];rfl)) (h0 Γ hg)
 .exact h0 Γ hg
noncomputable def aEu (ir:Nat):Nat->Option Sum:=dM (dM Uy 186 (orR Uy 186 (aK aB 100 (tE 1 ir)))) 154 (orB Uy 154 (aK aB 100 Vc))
theorem PJ (ir:Nat):∀ f S,aEu ir f=some S->∀ Γ:Env,Γ.aR=aB->aH Tryz.prog Γ f S:=bD (bD Cz 186 _ (aJp Cz 186 _ (Cg 1 ir))) 154 _ (IX Cz 154 _ aEw)
noncomputable def EE (ir:Nat):Nat->Option Sum:=Fa (aEu ir) 209 [false]
theorem aBy (ir:Nat):∀ f S,EE ir f=some S->∀ Γ:Env,Γ.aR=aB->aH Tryz.prog Γ f S:=nS (PJ ir) 209 _
def Xs (X:SV) (xs:List SV):List (Nat × SB):=[(61,.own [.bool true false,X] 146),(62,.own nL 59),(63,.own xs 196),(17,.fO [.int true .i64 40]),(18,.fO [.int true .i64 40])]
def aGa:List (Nat × SB):=[(61,.own [.bool true false,.raw (.slice none 0 0)] 146),(62,.own nL 59),(17,.fO [.int true .i64 40]),(18,.fO [.int true .i64 40])]
noncomputable def aKk:Option bJ:=aJ (env (EE 0) 22) Tryz.f99 true [] 400 mR (fun l=>look l aGa) 100 100
noncomputable def Bo (ir:Nat) (X:SV) (xs:List SV):Option bJ:=aJ (env (EE ir) 22) Tryz.f99 true [] 400 mR (fun l=>look l (Xs X xs)) 100 100
namespace M
def lm (a b:Int):Int:=kN .u64 (dI .u64 b 63) (bZ .u64 a 1)
def Eb (n0 n1:Int):Int:=kN .u64 (bZ .u64 (dI .u64 n0 63) 63) (dI .u64 (lm n0 n1) 1)
def Hk (n0 n1 n2:Int):Int:=kN .u64 (bZ .u64 (lm n0 n1) 63) (dI .u64 (lm n1 n2%9223372036854775808) 1)
def Kp (n1 n2:Int):Int:=kN .u64 (bZ .u64 (lm n1 n2%9223372036854775808) 63) 0
def RV (n:Int):SB:=.own [.int false .u8 (nb n 0),.int false .u8 (nb n 1),.int false .u8 (nb n 2),.int false .u8 (nb n 3),.int false .u8 (nb n 4),.int false .u8 (nb n 5),.int false .u8 (nb n 6),.int false .u8 (nb n 7),.int false .u8 (nb n 8),.int false .u8 (nb n 9),.int false .u8 (nb n 10),.int false .u8 (nb n 11),.int false .u8 (nb n 12),.int false .u8 (nb n 13),.int false .u8 (nb n 14),.int false .u8 (nb n 15)] 59
end M
theorem aYc (c:Nat) (xs:List SV) :
 Bo 0 (.aG 63 true 0 0 c) xs =
 some {val:=.eL [],wr:=[(62,M.RV 0)]}:=by kernel_rfl
theorem aYb (c:Nat) (n0:Int) (xs:List SV) :
 Bo 0 (.aG 63 true 0 1 c) (ww n0 xs) =
 some {bM:=([M.U n0,[n0]=[n0]]:List Prop),val:=.eL [],wr:=[(62,M.RV n0)]}:=by kernel_rfl
theorem aYa (c:Nat) (n0 n1:Int) (xs:List SV) :
 Bo 0 (.aG 63 true 0 2 c) (ww n0 (ww n1 xs)) =
 some {bM:=([M.U n0,M.U n1,[n0,n1,0,0,0,0]=[n0,n1,0,0,0,0]]:List Prop),val:=.eL [],wr:=[(62,M.RV (n0+18446744073709551616*n1))]}:=by kernel_rfl
def Mk (cap:Nat):Prop:=∀ n0 n1 n2:Int,Bo 0 (.aG 63 true 0 3 cap) (wc (n0::n1::n2::List.replicate (cap-3) 0))=some { bM:=([[M.Eb n0 n1,M.Hk n0 n1 n2,M.Kp n1 n2,0,0,0,0,0]=[M.Eb n0 n1,M.Hk n0 n1 n2,M.Kp n1 n2,0,0,0,0,0],M.nl [M.Eb n0 n1,M.Hk n0 n1 n2,M.Kp n1 n2,0]=0,[M.Eb n0 n1,M.Hk n0 n1 n2,M.Kp n1 n2,0,0,0,0,0]=[M.Eb n0 n1,M.Hk n0 n1 n2,M.Kp n1 n2,0,0,0,0,0],M.nl [M.dq 9223372036854775808 (bZ .u64 n2 1) (M.lm n1 n2)]=1,[M.dq 9223372036854775808 (bZ .u64 n2 1) (M.lm n1 n2)]=[M.dq 9223372036854775808 (bZ .u64 n2 1) (M.lm n1 n2)],M.U (dI .u64 n0 63),M.U (M.lm n0 n1),M.U (M.lm n1 n2),0<=bZ .u64 n2 1,bZ .u64 n2 1<4,3=3,([0]:List Int)=[0],[dI .u64 n0 63,M.lm n0 n1,M.lm n1 n2,bZ .u64 n2 1,0,0,0,0]=[dI .u64 n0 63,M.lm n0 n1,M.lm n1 n2,bZ .u64 n2 1,0,0,0,0],decide (M.cmp (M.n3 n0 n1 n2) 340282366920938463463374607431768211456<0)=false,M.U n0,M.U n1,M.U n2,M.U 0,M.U 0,M.U 1,(n0::n1::n2::List.replicate (cap-3) 0)=(n0::n1::n2::List.replicate (cap-3) 0),([0,0,1,0,0,0,0,0]:List Int)=[0,0,1,0,0,0,0,0]]:List Prop),val:=.eL [],wr:=[(62,M.RV 0)] }
theorem ZT:Mk 6:=fun n0 n1 n2=>by kernel_rfl
theorem ZS:Mk 7:=fun n0 n1 n2=>by kernel_rfl
theorem ZR:Mk 8:=fun n0 n1 n2=>by kernel_rfl
theorem ZQ:Mk 9:=fun n0 n1 n2=>by kernel_rfl
def Mj (cap:Nat):Prop:=∀ n0 n1 n2:Int,Bo 1 (.aG 63 true 0 3 cap) (wc (n0::n1::n2::List.replicate (cap-3) 0))=some { bM:=([M.U (M.Eb n0 n1),[M.Eb n0 n1,M.Hk n0 n1 n2,M.Kp n1 n2,0,0,0,0,0]=[M.Eb n0 n1,M.Hk n0 n1 n2,M.Kp n1 n2,0,0,0,0,0],M.nl [M.Eb n0 n1,M.Hk n0 n1 n2,M.Kp n1 n2,0]=1,[M.Eb n0 n1,M.Hk n0 n1 n2,M.Kp n1 n2,0,0,0,0,0]=[M.Eb n0 n1,M.Hk n0 n1 n2,M.Kp n1 n2,0,0,0,0,0],M.nl [M.dq 9223372036854775808 (bZ .u64 n2 1) (M.lm n1 n2)]=1,[M.dq 9223372036854775808 (bZ .u64 n2 1) (M.lm n1 n2)]=[M.dq 9223372036854775808 (bZ .u64 n2 1) (M.lm n1 n2)],M.U (dI .u64 n0 63),M.U (M.lm n0 n1),M.U (M.lm n1 n2),0<=bZ .u64 n2 1,bZ .u64 n2 1<4,3=3,([0]:List Int)=[0],[dI .u64 n0 63,M.lm n0 n1,M.lm n1 n2,bZ .u64 n2 1,0,0,0,0]=[dI .u64 n0 63,M.lm n0 n1,M.lm n1 n2,bZ .u64 n2 1,0,0,0,0],decide (M.cmp (M.n3 n0 n1 n2) 340282366920938463463374607431768211456<0)=false,M.U n0,M.U n1,M.U n2,M.U 0,M.U 0,M.U 1,(n0::n1::n2::List.replicate (cap-3) 0)=(n0::n1::n2::List.replicate (cap-3) 0),([0,0,1,0,0,0,0,0]:List Int)=[0,0,1,0,0,0,0,0]]:List Prop),val:=.eL [],wr:=[(62,M.RV (M.Eb n0 n1))] }
theorem ZP:Mj 6:=fun n0 n1 n2=>by kernel_rfl
theorem ZO:Mj 7:=fun n0 n1 n2=>by kernel_rfl
theorem ZN:Mj 8:=fun n0 n1 n2=>by kernel_rfl
theorem ZM:Mj 9:=fun n0 n1 n2=>by kernel_rfl
def Mi (cap:Nat):Prop:=∀ n0 n1 n2:Int,Bo 2 (.aG 63 true 0 3 cap) (wc (n0::n1::n2::List.replicate (cap-3) 0))=some { bM:=([M.U (M.Eb n0 n1),M.U (M.Hk n0 n1 n2),[M.Eb n0 n1,M.Hk n0 n1 n2,M.Kp n1 n2,0,0,0,0,0]=[M.Eb n0 n1,M.Hk n0 n1 n2,M.Kp n1 n2,0,0,0,0,0],M.nl [M.Eb n0 n1,M.Hk n0 n1 n2,M.Kp n1 n2,0]=2,[M.Eb n0 n1,M.Hk n0 n1 n2,M.Kp n1 n2,0,0,0,0,0]=[M.Eb n0 n1,M.Hk n0 n1 n2,M.Kp n1 n2,0,0,0,0,0],M.nl [M.dq 9223372036854775808 (bZ .u64 n2 1) (M.lm n1 n2)]=1,[M.dq 9223372036854775808 (bZ .u64 n2 1) (M.lm n1 n2)]=[M.dq 9223372036854775808 (bZ .u64 n2 1) (M.lm n1 n2)],M.U (dI .u64 n0 63),M.U (M.lm n0 n1),M.U (M.lm n1 n2),0<=bZ .u64 n2 1,bZ .u64 n2 1<4,3=3,([0]:List Int)=[0],[dI .u64 n0 63,M.lm n0 n1,M.lm n1 n2,bZ .u64 n2 1,0,0,0,0]=[dI .u64 n0 63,M.lm n0 n1,M.lm n1 n2,bZ .u64 n2 1,0,0,0,0],decide (M.cmp (M.n3 n0 n1 n2) 340282366920938463463374607431768211456<0)=false,M.U n0,M.U n1,M.U n2,M.U 0,M.U 0,M.U 1,(n0::n1::n2::List.replicate (cap-3) 0)=(n0::n1::n2::List.replicate (cap-3) 0),([0,0,1,0,0,0,0,0]:List Int)=[0,0,1,0,0,0,0,0]]:List Prop),val:=.eL [],wr:=[(62,M.RV (M.Eb n0 n1+18446744073709551616*M.Hk n0 n1 n2))] }
theorem ZL:Mi 6:=fun n0 n1 n2=>by kernel_rfl
theorem ZK:Mi 7:=fun n0 n1 n2=>by kernel_rfl
theorem ZJ:Mi 8:=fun n0 n1 n2=>by kernel_rfl
theorem ZI:Mi 9:=fun n0 n1 n2=>by kernel_rfl
theorem aXz (_u:Nat) :
 aKk =
 some {val:=.eL [],wr:=[(62,M.RV 0)]}:=by kernel_rfl
end Go.Proofs.YticicdfijghigaaGreatDoor.Sx
