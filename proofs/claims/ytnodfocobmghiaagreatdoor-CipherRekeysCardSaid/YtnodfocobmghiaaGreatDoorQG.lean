/- slow.laid into sixteen bytes, the runs. -/
import Derived.Test.YtnodfocobmghiaaGreatDoorQF
open Go
set_option maxRecDepth 100000
namespace Go.Proofs.YtnodfocobmghiaaGreatDoor.Sx
def DG (vs:List SV) (T:bB):Option Canon:=match vs with
 | [.ptr l1 true 0,.aH lo true 0 16 16]=>match T l1,T lo with
   | some (.own [.bool _ _,X] 102),some (.own _ 77)=>match X with
     | .raw (.slice none 0 0)=>some { eR:=lU,T0:=OF (.raw (.slice none 0 0)) [.bool true false,.raw (.slice none 0 0)] mL,vl:=[(61,.lab l1 0),(62,.lab lo 0),(63,.lab l1 0)],e0:=ZK 0 }
     | .aH lx true 0 k c=>match (T lx).bind CU,k with
       | some (.u64,xs),0=>some { eR:=lU,T0:=OF (.aH 63 true 0 0 c) (wc xs) mL,vl:=[(61,.lab l1 0),(62,.lab lo 0),(63,.lab lx 0)],e0:=ZK 0 }
       | some (.u64,a0::xs),1=>some { eR:=lU,T0:=OF (.aH 63 true 0 1 c) (ww a0 (wc xs)) mL,vl:=[(61,.lab l1 0),(62,.lab lo 0),(63,.lab lx 0)],e0:=ZK a0,conds:=[M.U a0] }
       | some (.u64,a0::a1::xs),2=>some { eR:=lU,T0:=OF (.aH 63 true 0 2 c) (ww a0 (ww a1 (wc xs))) mL,vl:=[(61,.lab l1 0),(62,.lab lo 0),(63,.lab lx 0)],e0:=ZK (a0+18446744073709551616*a1),conds:=[M.U a0,M.U a1] }
       | _,_=>none
     | _=>none
   | _,_=>none
 | _=>none
theorem aPd (Γ:Env) (hg:Γ.aR=aB):aG Tryz.prog Γ 109 (aL aB 100 DG):=by
 refine aW hg fun vs T c hd hc=>?_
 unfold DG at hd
 split at hd
 case h_2=>cases hd
 split at hd
 case h_2=>cases hd
 split at hd
 case h_3=>cases hd
 .cases hd
  exact (IN [.bool true false,.raw (.slice none 0 0)]).words (by rw [hg];rfl) (fun _=>rfl) (fun _ _ h=>h) (fun _=>rfl) rfl rfl
 .split at hd
  case h_4=>cases hd
  .cases hd
   exact (IS _ _).words (by rw [hg];rfl) (fun _=>rfl) (fun _ _ h=>h) (fun _=>rfl) rfl rfl
  .cases hd
   exact (IQ _ (hc _ (by simp)) _).words (by rw [hg];rfl) (fun _=>rfl) (fun _ _ h=>h) (fun _=>rfl) rfl rfl
  .cases hd
   exact (IP _ (hc _ (by simp)) (hc _ (by simp)) _).words (by rw [hg];rfl) (fun _=>rfl) (fun _ _ h=>h) (fun _=>rfl) rfl rfl
noncomputable def Sc:Nat->Option Sum:=dM (dM Vd 225 (aL aB 100 DV)) 109 (aL aB 100 DG)
theorem Bk:∀ f S,Sc f=some S->∀ Γ:Env,Γ.aR=aB->aG Tryz.prog Γ f S:=bF (bF oO 225 _ aPi) 109 _ aPd
noncomputable def orR (ex:Nat->Option Sum) (f0:Nat) (S0:Sum):Sum:=match Tryz.prog.funcs[f0]? with
 | some fn=>orS (aK (env ex 22) fn true [] 400) S0
 | none=>S0
theorem aFl {ex:Nat->Option Sum} (hex:∀ f S,ex f=some S->∀ Γ:Env,Γ.aR=aB->aG Tryz.prog Γ f S) (f0:Nat) (S0:Sum) (h0:∀ Γ:Env,Γ.aR=aB->aG Tryz.prog Γ f0 S0):∀ Γ:Env,Γ.aR=aB->aG Tryz.prog Γ f0 (orR ex f0 S0):=by
 intro Γ hg
 unfold orR
 split
 .rename_i fn sX
  exact EX ((aN (bN ex 22) (bT ex hex 22) mix sX (names f0 fn sX) true [] 400).aR (by rw [hg];rfl)) (h0 Γ hg)
 .exact h0 Γ hg
noncomputable def aAw (ir:Nat):Nat->Option Sum:=dM (dM Sc 145 (orR Sc 145 (aL aB 100 (rW 1 ir)))) 114 (orB Sc 114 (aL aB 100 Sg))
theorem LJ (ir:Nat):∀ f S,aAw ir f=some S->∀ Γ:Env,Γ.aR=aB->aG Tryz.prog Γ f S:=bF (bF Bk 145 _ (aFl Bk 145 _ (Aq 1 ir))) 114 _ (EY Bk 114 _ aAx)
noncomputable def AW (ir:Nat):Nat->Option Sum:=zS (aAw ir) 170 [false]
theorem XI (ir:Nat):∀ f S,AW ir f=some S->∀ Γ:Env,Γ.aR=aB->aG Tryz.prog Γ f S:=kX (LJ ir) 170 _
def Uv (X:SV) (xs:List SV):List (Nat × SB):=[(61,.own [.bool true false,X] 102),(62,.own mL 77),(63,.own xs 142),(17,.fO [.int true .i64 40]),(18,.fO [.int true .i64 40])]
def aBz:List (Nat × SB):=[(61,.own [.bool true false,.raw (.slice none 0 0)] 102),(62,.own mL 77),(17,.fO [.int true .i64 40]),(18,.fO [.int true .i64 40])]
noncomputable def aGd:Option bK:=aK (env (AW 0) 22) Tryz.f67 true [] 400 lU (fun l=>look l aBz) 100 100
noncomputable def zY (ir:Nat) (X:SV) (xs:List SV):Option bK:=aK (env (AW ir) 22) Tryz.f67 true [] 400 lU (fun l=>look l (Uv X xs)) 100 100
namespace M
def lm (a b:Int):Int:=jU .u64 (cZ .u64 b 63) (bU .u64 a 1)
def Ch (n0 n1:Int):Int:=jU .u64 (bU .u64 (cZ .u64 n0 63) 63) (cZ .u64 (lm n0 n1) 1)
def Fc (n0 n1 n2:Int):Int:=jU .u64 (bU .u64 (lm n0 n1) 63) (cZ .u64 (lm n1 n2%9223372036854775808) 1)
def Ij (n1 n2:Int):Int:=jU .u64 (bU .u64 (lm n1 n2%9223372036854775808) 63) 0
def NT (n:Int):SB:=.own [.int false .u8 (nb n 0),.int false .u8 (nb n 1),.int false .u8 (nb n 2),.int false .u8 (nb n 3),.int false .u8 (nb n 4),.int false .u8 (nb n 5),.int false .u8 (nb n 6),.int false .u8 (nb n 7),.int false .u8 (nb n 8),.int false .u8 (nb n 9),.int false .u8 (nb n 10),.int false .u8 (nb n 11),.int false .u8 (nb n 12),.int false .u8 (nb n 13),.int false .u8 (nb n 14),.int false .u8 (nb n 15)] 77
end M
theorem aSz (c:Nat) (xs:List SV) :
 zY 0 (.aH 63 true 0 0 c) xs =
 some {val:=.eH [],wr:=[(62,M.NT 0)]}:=by kernel_rfl
theorem aSy (c:Nat) (n0:Int) (xs:List SV) :
 zY 0 (.aH 63 true 0 1 c) (ww n0 xs) =
 some {bO:=([M.U n0,[n0]=[n0]]:List Prop),val:=.eH [],wr:=[(62,M.NT n0)]}:=by kernel_rfl
theorem aSx (c:Nat) (n0 n1:Int) (xs:List SV) :
 zY 0 (.aH 63 true 0 2 c) (ww n0 (ww n1 xs)) =
 some {bO:=([M.U n0,M.U n1,[n0,n1,0,0,0,0]=[n0,n1,0,0,0,0]]:List Prop),val:=.eH [],wr:=[(62,M.NT (n0+18446744073709551616*n1))]}:=by kernel_rfl
def Km (cap:Nat):Prop:=∀ n0 n1 n2:Int,zY 0 (.aH 63 true 0 3 cap) (wc (n0::n1::n2::List.replicate (cap-3) 0))=some { bO:=([[M.Ch n0 n1,M.Fc n0 n1 n2,M.Ij n1 n2,0,0,0,0,0]=[M.Ch n0 n1,M.Fc n0 n1 n2,M.Ij n1 n2,0,0,0,0,0],M.nl [M.Ch n0 n1,M.Fc n0 n1 n2,M.Ij n1 n2,0]=0,[M.Ch n0 n1,M.Fc n0 n1 n2,M.Ij n1 n2,0,0,0,0,0]=[M.Ch n0 n1,M.Fc n0 n1 n2,M.Ij n1 n2,0,0,0,0,0],M.nl [M.dq 9223372036854775808 (bU .u64 n2 1) (M.lm n1 n2)]=1,[M.dq 9223372036854775808 (bU .u64 n2 1) (M.lm n1 n2)]=[M.dq 9223372036854775808 (bU .u64 n2 1) (M.lm n1 n2)],M.U (cZ .u64 n0 63),M.U (M.lm n0 n1),M.U (M.lm n1 n2),0<=bU .u64 n2 1,bU .u64 n2 1<4,3=3,([0]:List Int)=[0],[cZ .u64 n0 63,M.lm n0 n1,M.lm n1 n2,bU .u64 n2 1,0,0,0,0]=[cZ .u64 n0 63,M.lm n0 n1,M.lm n1 n2,bU .u64 n2 1,0,0,0,0],decide (M.cmp (M.n3 n0 n1 n2) 340282366920938463463374607431768211456<0)=false,M.U n0,M.U n1,M.U n2,M.U 0,M.U 0,M.U 1,(n0::n1::n2::List.replicate (cap-3) 0)=(n0::n1::n2::List.replicate (cap-3) 0),([0,0,1,0,0,0,0,0]:List Int)=[0,0,1,0,0,0,0,0]]:List Prop),val:=.eH [],wr:=[(62,M.NT 0)] }
theorem VG:Km 6:=fun n0 n1 n2=>by kernel_rfl
theorem VF:Km 7:=fun n0 n1 n2=>by kernel_rfl
theorem VE:Km 8:=fun n0 n1 n2=>by kernel_rfl
theorem VD:Km 9:=fun n0 n1 n2=>by kernel_rfl
def Kl (cap:Nat):Prop:=∀ n0 n1 n2:Int,zY 1 (.aH 63 true 0 3 cap) (wc (n0::n1::n2::List.replicate (cap-3) 0))=some { bO:=([M.U (M.Ch n0 n1),[M.Ch n0 n1,M.Fc n0 n1 n2,M.Ij n1 n2,0,0,0,0,0]=[M.Ch n0 n1,M.Fc n0 n1 n2,M.Ij n1 n2,0,0,0,0,0],M.nl [M.Ch n0 n1,M.Fc n0 n1 n2,M.Ij n1 n2,0]=1,[M.Ch n0 n1,M.Fc n0 n1 n2,M.Ij n1 n2,0,0,0,0,0]=[M.Ch n0 n1,M.Fc n0 n1 n2,M.Ij n1 n2,0,0,0,0,0],M.nl [M.dq 9223372036854775808 (bU .u64 n2 1) (M.lm n1 n2)]=1,[M.dq 9223372036854775808 (bU .u64 n2 1) (M.lm n1 n2)]=[M.dq 9223372036854775808 (bU .u64 n2 1) (M.lm n1 n2)],M.U (cZ .u64 n0 63),M.U (M.lm n0 n1),M.U (M.lm n1 n2),0<=bU .u64 n2 1,bU .u64 n2 1<4,3=3,([0]:List Int)=[0],[cZ .u64 n0 63,M.lm n0 n1,M.lm n1 n2,bU .u64 n2 1,0,0,0,0]=[cZ .u64 n0 63,M.lm n0 n1,M.lm n1 n2,bU .u64 n2 1,0,0,0,0],decide (M.cmp (M.n3 n0 n1 n2) 340282366920938463463374607431768211456<0)=false,M.U n0,M.U n1,M.U n2,M.U 0,M.U 0,M.U 1,(n0::n1::n2::List.replicate (cap-3) 0)=(n0::n1::n2::List.replicate (cap-3) 0),([0,0,1,0,0,0,0,0]:List Int)=[0,0,1,0,0,0,0,0]]:List Prop),val:=.eH [],wr:=[(62,M.NT (M.Ch n0 n1))] }
theorem VC:Kl 6:=fun n0 n1 n2=>by kernel_rfl
theorem VB:Kl 7:=fun n0 n1 n2=>by kernel_rfl
theorem VA:Kl 8:=fun n0 n1 n2=>by kernel_rfl
theorem UZ:Kl 9:=fun n0 n1 n2=>by kernel_rfl
def Kk (cap:Nat):Prop:=∀ n0 n1 n2:Int,zY 2 (.aH 63 true 0 3 cap) (wc (n0::n1::n2::List.replicate (cap-3) 0))=some { bO:=([M.U (M.Ch n0 n1),M.U (M.Fc n0 n1 n2),[M.Ch n0 n1,M.Fc n0 n1 n2,M.Ij n1 n2,0,0,0,0,0]=[M.Ch n0 n1,M.Fc n0 n1 n2,M.Ij n1 n2,0,0,0,0,0],M.nl [M.Ch n0 n1,M.Fc n0 n1 n2,M.Ij n1 n2,0]=2,[M.Ch n0 n1,M.Fc n0 n1 n2,M.Ij n1 n2,0,0,0,0,0]=[M.Ch n0 n1,M.Fc n0 n1 n2,M.Ij n1 n2,0,0,0,0,0],M.nl [M.dq 9223372036854775808 (bU .u64 n2 1) (M.lm n1 n2)]=1,[M.dq 9223372036854775808 (bU .u64 n2 1) (M.lm n1 n2)]=[M.dq 9223372036854775808 (bU .u64 n2 1) (M.lm n1 n2)],M.U (cZ .u64 n0 63),M.U (M.lm n0 n1),M.U (M.lm n1 n2),0<=bU .u64 n2 1,bU .u64 n2 1<4,3=3,([0]:List Int)=[0],[cZ .u64 n0 63,M.lm n0 n1,M.lm n1 n2,bU .u64 n2 1,0,0,0,0]=[cZ .u64 n0 63,M.lm n0 n1,M.lm n1 n2,bU .u64 n2 1,0,0,0,0],decide (M.cmp (M.n3 n0 n1 n2) 340282366920938463463374607431768211456<0)=false,M.U n0,M.U n1,M.U n2,M.U 0,M.U 0,M.U 1,(n0::n1::n2::List.replicate (cap-3) 0)=(n0::n1::n2::List.replicate (cap-3) 0),([0,0,1,0,0,0,0,0]:List Int)=[0,0,1,0,0,0,0,0]]:List Prop),val:=.eH [],wr:=[(62,M.NT (M.Ch n0 n1+18446744073709551616*M.Fc n0 n1 n2))] }
theorem UY:Kk 6:=fun n0 n1 n2=>by kernel_rfl
theorem UX:Kk 7:=fun n0 n1 n2=>by kernel_rfl
theorem UW:Kk 8:=fun n0 n1 n2=>by kernel_rfl
theorem UU:Kk 9:=fun n0 n1 n2=>by kernel_rfl
theorem aSw (_u:Nat) :
 aGd =
 some {val:=.eH [],wr:=[(62,M.NT 0)]}:=by kernel_rfl
end Go.Proofs.YtnodfocobmghiaaGreatDoor.Sx
