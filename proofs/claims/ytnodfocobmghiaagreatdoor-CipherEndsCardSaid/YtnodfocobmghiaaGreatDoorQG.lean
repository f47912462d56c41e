/- slow.laid into sixteen bytes, the runs. -/
import Derived.Test.YtnodfocobmghiaaGreatDoorQF
open Go
set_option maxRecDepth 100000
namespace Go.Proofs.YtnodfocobmghiaaGreatDoor.Sx
def DA (vs:List SV) (T:bB):Option Canon:=match vs with
 | [.ptr l1 true 0,.aG lo true 0 16 16]=>match T l1,T lo with
   | some (.own [.bool _ _,X] 102),some (.own _ 77)=>match X with
     | .raw (.slice none 0 0)=>some { eN:=lQ,T0:=NY (.raw (.slice none 0 0)) [.bool true false,.raw (.slice none 0 0)] mI,vl:=[(61,.lab l1 0),(62,.lab lo 0),(63,.lab l1 0)],e0:=ZD 0 }
     | .aG lx true 0 k c=>match (T lx).bind CP,k with
       | some (.u64,xs),0=>some { eN:=lQ,T0:=NY (.aG 63 true 0 0 c) (wc xs) mI,vl:=[(61,.lab l1 0),(62,.lab lo 0),(63,.lab lx 0)],e0:=ZD 0 }
       | some (.u64,a0::xs),1=>some { eN:=lQ,T0:=NY (.aG 63 true 0 1 c) (ww a0 (wc xs)) mI,vl:=[(61,.lab l1 0),(62,.lab lo 0),(63,.lab lx 0)],e0:=ZD a0,conds:=[M.U a0] }
       | some (.u64,a0::a1::xs),2=>some { eN:=lQ,T0:=NY (.aG 63 true 0 2 c) (ww a0 (ww a1 (wc xs))) mI,vl:=[(61,.lab l1 0),(62,.lab lo 0),(63,.lab lx 0)],e0:=ZD (a0+18446744073709551616*a1),conds:=[M.U a0,M.U a1] }
       | _,_=>none
     | _=>none
   | _,_=>none
 | _=>none
theorem aOx (Γ:Env) (hg:Γ.aR=aA):aF Tryz.prog Γ 109 (aL aA 100 DA):=by
 refine aU hg fun vs T c hd hc=>?_
 unfold DA at hd
 split at hd
 case h_2=>cases hd
 split at hd
 case h_2=>cases hd
 split at hd
 case h_3=>cases hd
 .cases hd
  exact (IG [.bool true false,.raw (.slice none 0 0)]).words (by rw [hg];rfl) (fun _=>rfl) (fun _ _ h=>h) (fun _=>rfl) rfl rfl
 .split at hd
  case h_4=>cases hd
  .cases hd
   exact (IJ _ _).words (by rw [hg];rfl) (fun _=>rfl) (fun _ _ h=>h) (fun _=>rfl) rfl rfl
  .cases hd
   exact (II _ (hc _ (by simp)) _).words (by rw [hg];rfl) (fun _=>rfl) (fun _ _ h=>h) (fun _=>rfl) rfl rfl
  .cases hd
   exact (IH _ (hc _ (by simp)) (hc _ (by simp)) _).words (by rw [hg];rfl) (fun _=>rfl) (fun _ _ h=>h) (fun _=>rfl) rfl rfl
noncomputable def Rq:Nat->Option Sum:=dI (dI Ut 225 (aL aA 100 DQ)) 109 (aL aA 100 DA)
theorem Bl:∀ f S,Rq f=some S->∀ Γ:Env,Γ.aR=aA->aF Tryz.prog Γ f S:=bD (bD oH 225 _ aPc) 109 _ aOx
noncomputable def orR (ex:Nat->Option Sum) (f0:Nat) (S0:Sum):Sum:=match Tryz.prog.funcs[f0]? with
 | some fn=>orS (aJ (env ex 22) fn true [] 400) S0
 | none=>S0
theorem aFe {ex:Nat->Option Sum} (hex:∀ f S,ex f=some S->∀ Γ:Env,Γ.aR=aA->aF Tryz.prog Γ f S) (f0:Nat) (S0:Sum) (h0:∀ Γ:Env,Γ.aR=aA->aF Tryz.prog Γ f0 S0):∀ Γ:Env,Γ.aR=aA->aF Tryz.prog Γ f0 (orR ex f0 S0):=by
 intro Γ hg
 unfold orR
 split
 .rename_i fn sR
  exact ER ((aM (bL ex 22) (bS ex hex 22) mix sR (names f0 fn sR) true [] 400).aR (by rw [hg];rfl)) (h0 Γ hg)
 .exact h0 Γ hg
noncomputable def aAq (ir:Nat):Nat->Option Sum:=dI (dI Rq 145 (orR Rq 145 (aL aA 100 (rV 1 ir)))) 114 (orB Rq 114 (aL aA 100 Ru))
theorem LB (ir:Nat):∀ f S,aAq ir f=some S->∀ Γ:Env,Γ.aR=aA->aF Tryz.prog Γ f S:=bD (bD Bl 145 _ (aFe Bl 145 _ (Aq 1 ir))) 114 _ (ES Bl 114 _ aAr)
noncomputable def AQ (ir:Nat):Nat->Option Sum:=zS (aAq ir) 170 [false]
theorem XB (ir:Nat):∀ f S,AQ ir f=some S->∀ Γ:Env,Γ.aR=aA->aF Tryz.prog Γ f S:=kT (LB ir) 170 _
def Uk (X:SV) (xs:List SV):List (Nat × SB):=[(61,.own [.bool true false,X] 102),(62,.own mI 77),(63,.own xs 142),(17,.fL [.int true .i64 40]),(18,.fL [.int true .i64 40])]
def aBr:List (Nat × SB):=[(61,.own [.bool true false,.raw (.slice none 0 0)] 102),(62,.own mI 77),(17,.fL [.int true .i64 40]),(18,.fL [.int true .i64 40])]
noncomputable def aFw:Option bK:=aJ (env (AQ 0) 22) Tryz.f67 true [] 400 lQ (fun l=>look l aBr) 100 100
noncomputable def zY (ir:Nat) (X:SV) (xs:List SV):Option bK:=aJ (env (AQ ir) 22) Tryz.f67 true [] 400 lQ (fun l=>look l (Uk X xs)) 100 100
namespace M
def lm (a b:Int):Int:=jQ .u64 (cZ .u64 b 63) (bU .u64 a 1)
def Ch (n0 n1:Int):Int:=jQ .u64 (bU .u64 (cZ .u64 n0 63) 63) (cZ .u64 (lm n0 n1) 1)
def Ff (n0 n1 n2:Int):Int:=jQ .u64 (bU .u64 (lm n0 n1) 63) (cZ .u64 (lm n1 n2%9223372036854775808) 1)
def Ig (n1 n2:Int):Int:=jQ .u64 (bU .u64 (lm n1 n2%9223372036854775808) 63) 0
def NN (n:Int):SB:=.own [.int false .u8 (nb n 0),.int false .u8 (nb n 1),.int false .u8 (nb n 2),.int false .u8 (nb n 3),.int false .u8 (nb n 4),.int false .u8 (nb n 5),.int false .u8 (nb n 6),.int false .u8 (nb n 7),.int false .u8 (nb n 8),.int false .u8 (nb n 9),.int false .u8 (nb n 10),.int false .u8 (nb n 11),.int false .u8 (nb n 12),.int false .u8 (nb n 13),.int false .u8 (nb n 14),.int false .u8 (nb n 15)] 77
end M
theorem aSo (c:Nat) (xs:List SV) :
 zY 0 (.aG 63 true 0 0 c) xs =
 some {val:=.eF [],wr:=[(62,M.NN 0)]}:=by kernel_rfl
theorem aSn (c:Nat) (n0:Int) (xs:List SV) :
 zY 0 (.aG 63 true 0 1 c) (ww n0 xs) =
 some {bO:=([M.U n0,[n0]=[n0]]:List Prop),val:=.eF [],wr:=[(62,M.NN n0)]}:=by kernel_rfl
theorem aSm (c:Nat) (n0 n1:Int) (xs:List SV) :
 zY 0 (.aG 63 true 0 2 c) (ww n0 (ww n1 xs)) =
 some {bO:=([M.U n0,M.U n1,[n0,n1,0,0,0,0]=[n0,n1,0,0,0,0]]:List Prop),val:=.eF [],wr:=[(62,M.NN (n0+18446744073709551616*n1))]}:=by kernel_rfl
def Kh (cap:Nat):Prop:=∀ n0 n1 n2:Int,zY 0 (.aG 63 true 0 3 cap) (wc (n0::n1::n2::List.replicate (cap-3) 0))=some { bO:=([[M.Ch n0 n1,M.Ff n0 n1 n2,M.Ig n1 n2,0,0,0,0,0]=[M.Ch n0 n1,M.Ff n0 n1 n2,M.Ig n1 n2,0,0,0,0,0],M.nl [M.Ch n0 n1,M.Ff n0 n1 n2,M.Ig n1 n2,0]=0,[M.Ch n0 n1,M.Ff n0 n1 n2,M.Ig n1 n2,0,0,0,0,0]=[M.Ch n0 n1,M.Ff n0 n1 n2,M.Ig n1 n2,0,0,0,0,0],M.nl [M.dq 9223372036854775808 (bU .u64 n2 1) (M.lm n1 n2)]=1,[M.dq 9223372036854775808 (bU .u64 n2 1) (M.lm n1 n2)]=[M.dq 9223372036854775808 (bU .u64 n2 1) (M.lm n1 n2)],M.U (cZ .u64 n0 63),M.U (M.lm n0 n1),M.U (M.lm n1 n2),0<=bU .u64 n2 1,bU .u64 n2 1<4,3=3,([0]:List Int)=[0],[cZ .u64 n0 63,M.lm n0 n1,M.lm n1 n2,bU .u64 n2 1,0,0,0,0]=[cZ .u64 n0 63,M.lm n0 n1,M.lm n1 n2,bU .u64 n2 1,0,0,0,0],decide (M.cmp (M.n3 n0 n1 n2) 340282366920938463463374607431768211456<0)=false,M.U n0,M.U n1,M.U n2,M.U 0,M.U 0,M.U 1,(n0::n1::n2::List.replicate (cap-3) 0)=(n0::n1::n2::List.replicate (cap-3) 0),([0,0,1,0,0,0,0,0]:List Int)=[0,0,1,0,0,0,0,0]]:List Prop),val:=.eF [],wr:=[(62,M.NN 0)] }
theorem VA:Kh 6:=fun n0 n1 n2=>by kernel_rfl
theorem UZ:Kh 7:=fun n0 n1 n2=>by kernel_rfl
theorem UY:Kh 8:=fun n0 n1 n2=>by kernel_rfl
theorem UX:Kh 9:=fun n0 n1 n2=>by kernel_rfl
def Kg (cap:Nat):Prop:=∀ n0 n1 n2:Int,zY 1 (.aG 63 true 0 3 cap) (wc (n0::n1::n2::List.replicate (cap-3) 0))=some { bO:=([M.U (M.Ch n0 n1),[M.Ch n0 n1,M.Ff n0 n1 n2,M.Ig n1 n2,0,0,0,0,0]=[M.Ch n0 n1,M.Ff n0 n1 n2,M.Ig n1 n2,0,0,0,0,0],M.nl [M.Ch n0 n1,M.Ff n0 n1 n2,M.Ig n1 n2,0]=1,[M.Ch n0 n1,M.Ff n0 n1 n2,M.Ig n1 n2,0,0,0,0,0]=[M.Ch n0 n1,M.Ff n0 n1 n2,M.Ig n1 n2,0,0,0,0,0],M.nl [M.dq 9223372036854775808 (bU .u64 n2 1) (M.lm n1 n2)]=1,[M.dq 9223372036854775808 (bU .u64 n2 1) (M.lm n1 n2)]=[M.dq 9223372036854775808 (bU .u64 n2 1) (M.lm n1 n2)],M.U (cZ .u64 n0 63),M.U (M.lm n0 n1),M.U (M.lm n1 n2),0<=bU .u64 n2 1,bU .u64 n2 1<4,3=3,([0]:List Int)=[0],[cZ .u64 n0 63,M.lm n0 n1,M.lm n1 n2,bU .u64 n2 1,0,0,0,0]=[cZ .u64 n0 63,M.lm n0 n1,M.lm n1 n2,bU .u64 n2 1,0,0,0,0],decide (M.cmp (M.n3 n0 n1 n2) 340282366920938463463374607431768211456<0)=false,M.U n0,M.U n1,M.U n2,M.U 0,M.U 0,M.U 1,(n0::n1::n2::List.replicate (cap-3) 0)=(n0::n1::n2::List.replicate (cap-3) 0),([0,0,1,0,0,0,0,0]:List Int)=[0,0,1,0,0,0,0,0]]:List Prop),val:=.eF [],wr:=[(62,M.NN (M.Ch n0 n1))] }
theorem UW:Kg 6:=fun n0 n1 n2=>by kernel_rfl
theorem UU:Kg 7:=fun n0 n1 n2=>by kernel_rfl
theorem UT:Kg 8:=fun n0 n1 n2=>by kernel_rfl
theorem US:Kg 9:=fun n0 n1 n2=>by kernel_rfl
def Kf (cap:Nat):Prop:=∀ n0 n1 n2:Int,zY 2 (.aG 63 true 0 3 cap) (wc (n0::n1::n2::List.replicate (cap-3) 0))=some { bO:=([M.U (M.Ch n0 n1),M.U (M.Ff n0 n1 n2),[M.Ch n0 n1,M.Ff n0 n1 n2,M.Ig n1 n2,0,0,0,0,0]=[M.Ch n0 n1,M.Ff n0 n1 n2,M.Ig n1 n2,0,0,0,0,0],M.nl [M.Ch n0 n1,M.Ff n0 n1 n2,M.Ig n1 n2,0]=2,[M.Ch n0 n1,M.Ff n0 n1 n2,M.Ig n1 n2,0,0,0,0,0]=[M.Ch n0 n1,M.Ff n0 n1 n2,M.Ig n1 n2,0,0,0,0,0],M.nl [M.dq 9223372036854775808 (bU .u64 n2 1) (M.lm n1 n2)]=1,[M.dq 9223372036854775808 (bU .u64 n2 1) (M.lm n1 n2)]=[M.dq 9223372036854775808 (bU .u64 n2 1) (M.lm n1 n2)],M.U (cZ .u64 n0 63),M.U (M.lm n0 n1),M.U (M.lm n1 n2),0<=bU .u64 n2 1,bU .u64 n2 1<4,3=3,([0]:List Int)=[0],[cZ .u64 n0 63,M.lm n0 n1,M.lm n1 n2,bU .u64 n2 1,0,0,0,0]=[cZ .u64 n0 63,M.lm n0 n1,M.lm n1 n2,bU .u64 n2 1,0,0,0,0],decide (M.cmp (M.n3 n0 n1 n2) 340282366920938463463374607431768211456<0)=false,M.U n0,M.U n1,M.U n2,M.U 0,M.U 0,M.U 1,(n0::n1::n2::List.replicate (cap-3) 0)=(n0::n1::n2::List.replicate (cap-3) 0),([0,0,1,0,0,0,0,0]:List Int)=[0,0,1,0,0,0,0,0]]:List Prop),val:=.eF [],wr:=[(62,M.NN (M.Ch n0 n1+18446744073709551616*M.Ff n0 n1 n2))] }
theorem UR:Kf 6:=fun n0 n1 n2=>by kernel_rfl
theorem UQ:Kf 7:=fun n0 n1 n2=>by kernel_rfl
theorem UP:Kf 8:=fun n0 n1 n2=>by kernel_rfl
theorem UO:Kf 9:=fun n0 n1 n2=>by kernel_rfl
theorem aSl (_u:Nat) :
 aFw =
 some {val:=.eF [],wr:=[(62,M.NN 0)]}:=by kernel_rfl
end Go.Proofs.YtnodfocobmghiaaGreatDoor.Sx
