/- slow.laid into sixteen bytes, the runs. -/
import Derived.Test.YtnodfocobmghiaaGreatDoorQF
open Go
set_option maxRecDepth 100000
namespace Go.Proofs.YtnodfocobmghiaaGreatDoor.Sx
def GB (vs:List SV) (T:aX):Option Canon:=match vs with
 | [.ptr l1 true 0,.aH lo true 0 16 16]=>match T l1,T lo with
   | some (.own [.bool _ _,X] 102),some (.own _ 77)=>match X with
     | .raw (.slice none 0 0)=>some { eL:=mE,T0:=RI (.raw (.slice none 0 0)) [.bool true false,.raw (.slice none 0 0)] nA,vl:=[(61,.lab l1 0),(62,.lab lo 0),(63,.lab l1 0)],e0:=fbE 0 }
     | .aH lx true 0 k c=>match (T lx).bind FP,k with
       | some (.u64,xs),0=>some { eL:=mE,T0:=RI (.aH 63 true 0 0 c) (wc xs) nA,vl:=[(61,.lab l1 0),(62,.lab lo 0),(63,.lab lx 0)],e0:=fbE 0 }
       | some (.u64,a0::xs),1=>some { eL:=mE,T0:=RI (.aH 63 true 0 1 c) (ww a0 (wc xs)) nA,vl:=[(61,.lab l1 0),(62,.lab lo 0),(63,.lab lx 0)],e0:=fbE a0,conds:=[M.U a0] }
       | some (.u64,a0::a1::xs),2=>some { eL:=mE,T0:=RI (.aH 63 true 0 2 c) (ww a0 (ww a1 (wc xs))) nA,vl:=[(61,.lab l1 0),(62,.lab lo 0),(63,.lab lx 0)],e0:=fbE (a0+18446744073709551616*a1),conds:=[M.U a0,M.U a1] }
       | _,_=>none
     | _=>none
   | _,_=>none
 | _=>none
theorem aSe (Γ:Env) (hg:Γ.aO=aB):aG Tryz.prog Γ 109 (aL aB 100 GB):=by
 refine aY hg fun vs T c hd hc=>?_
 unfold GB at hd
 split at hd
 case h_2=>cases hd
 split at hd
 case h_2=>cases hd
 split at hd
 case h_3=>cases hd
 .cases hd
  exact (LM [.bool true false,.raw (.slice none 0 0)]).words (by rw [hg];rfl) (fun _=>rfl) (fun _ _ h=>h) (fun _=>rfl) rfl rfl
 .split at hd
  case h_4=>cases hd
  .cases hd
   exact (LP _ _).words (by rw [hg];rfl) (fun _=>rfl) (fun _ _ h=>h) (fun _=>rfl) rfl rfl
  .cases hd
   exact (LO _ (hc _ (by simp)) _).words (by rw [hg];rfl) (fun _=>rfl) (fun _ _ h=>h) (fun _=>rfl) rfl rfl
  .cases hd
   exact (LN _ (hc _ (by simp)) (hc _ (by simp)) _).words (by rw [hg];rfl) (fun _=>rfl) (fun _ _ h=>h) (fun _=>rfl) rfl rfl
noncomputable def Ub:Nat->Option Sum:=dL (dL Xi 225 (aL aB 100 GR)) 109 (aL aB 100 GB)
theorem Dc:∀ f S,Ub f=some S->∀ Γ:Env,Γ.aO=aB->aG Tryz.prog Γ f S:=bE (bE pB 225 _ aSj) 109 _ aSe
noncomputable def orR (ex:Nat->Option Sum) (f0:Nat) (S0:Sum):Sum:=match Tryz.prog.funcs[f0]? with
 | some fn=>orS (aK (env ex 22) fn true [] 400) S0
 | none=>S0
theorem aIf {ex:Nat->Option Sum} (hex:∀ f S,ex f=some S->∀ Γ:Env,Γ.aO=aB->aG Tryz.prog Γ f S) (f0:Nat) (S0:Sum) (h0:∀ Γ:Env,Γ.aO=aB->aG Tryz.prog Γ f0 S0):∀ Γ:Env,Γ.aO=aB->aG Tryz.prog Γ f0 (orR ex f0 S0):=by
 intro Γ hg
 unfold orR
 split
 .rename_i fn tU
  exact HT ((aN (bL ex 22) (bV ex hex 22) mix tU (names f0 fn tU) true [] 400).aO (by rw [hg];rfl)) (h0 Γ hg)
 .exact h0 Γ hg
noncomputable def aDn (ir:Nat):Nat->Option Sum:=dL (dL Ub 145 (orR Ub 145 (aL aB 100 (sX 1 ir)))) 114 (orB Ub 114 (aL aB 100 Uf))
theorem OH (ir:Nat):∀ f S,aDn ir f=some S->∀ Γ:Env,Γ.aO=aB->aG Tryz.prog Γ f S:=bE (bE Dc 145 _ (aIf Dc 145 _ (Cj 1 ir))) 114 _ (HU Dc 114 _ aDo)
noncomputable def DL (ir:Nat):Nat->Option Sum:=Bh (aDn ir) 170 [false]
theorem aAu (ir:Nat):∀ f S,DL ir f=some S->∀ Γ:Env,Γ.aO=aB->aG Tryz.prog Γ f S:=lG (OH ir) 170 _
def Xa (X:SV) (xs:List SV):List (Nat × SB):=[(61,.own [.bool true false,X] 102),(62,.own nA 77),(63,.own xs 142),(17,.eQ [.int true .i64 40]),(18,.eQ [.int true .i64 40])]
def aEo:List (Nat × SB):=[(61,.own [.bool true false,.raw (.slice none 0 0)] 102),(62,.own nA 77),(17,.eQ [.int true .i64 40]),(18,.eQ [.int true .i64 40])]
noncomputable def aJa:Option bK:=aK (env (DL 0) 22) Tryz.f67 true [] 400 mE (fun l=>look l aEo) 100 100
noncomputable def Bo (ir:Nat) (X:SV) (xs:List SV):Option bK:=aK (env (DL ir) 22) Tryz.f67 true [] 400 mE (fun l=>look l (Xa X xs)) 100 100
namespace M
def lm (a b:Int):Int:=jZ .u64 (dD .u64 b 63) (bY .u64 a 1)
def Eb (n0 n1:Int):Int:=jZ .u64 (bY .u64 (dD .u64 n0 63) 63) (dD .u64 (lm n0 n1) 1)
def Gy (n0 n1 n2:Int):Int:=jZ .u64 (bY .u64 (lm n0 n1) 63) (dD .u64 (lm n1 n2%9223372036854775808) 1)
def Jw (n1 n2:Int):Int:=jZ .u64 (bY .u64 (lm n1 n2%9223372036854775808) 63) 0
def QQ (n:Int):SB:=.own [.int false .u8 (nb n 0),.int false .u8 (nb n 1),.int false .u8 (nb n 2),.int false .u8 (nb n 3),.int false .u8 (nb n 4),.int false .u8 (nb n 5),.int false .u8 (nb n 6),.int false .u8 (nb n 7),.int false .u8 (nb n 8),.int false .u8 (nb n 9),.int false .u8 (nb n 10),.int false .u8 (nb n 11),.int false .u8 (nb n 12),.int false .u8 (nb n 13),.int false .u8 (nb n 14),.int false .u8 (nb n 15)] 77
end M
theorem aWk (c:Nat) (xs:List SV) :
 Bo 0 (.aH 63 true 0 0 c) xs =
 some {val:=.eD [],wr:=[(62,M.QQ 0)]}:=by kernel_rfl
theorem aWj (c:Nat) (n0:Int) (xs:List SV) :
 Bo 0 (.aH 63 true 0 1 c) (ww n0 xs) =
 some {bO:=([M.U n0,[n0]=[n0]]:List Prop),val:=.eD [],wr:=[(62,M.QQ n0)]}:=by kernel_rfl
theorem aWi (c:Nat) (n0 n1:Int) (xs:List SV) :
 Bo 0 (.aH 63 true 0 2 c) (ww n0 (ww n1 xs)) =
 some {bO:=([M.U n0,M.U n1,[n0,n1,0,0,0,0]=[n0,n1,0,0,0,0]]:List Prop),val:=.eD [],wr:=[(62,M.QQ (n0+18446744073709551616*n1))]}:=by kernel_rfl
def Lw (cap:Nat):Prop:=∀ n0 n1 n2:Int,Bo 0 (.aH 63 true 0 3 cap) (wc (n0::n1::n2::List.replicate (cap-3) 0))=some { bO:=([[M.Eb n0 n1,M.Gy n0 n1 n2,M.Jw n1 n2,0,0,0,0,0]=[M.Eb n0 n1,M.Gy n0 n1 n2,M.Jw n1 n2,0,0,0,0,0],M.nl [M.Eb n0 n1,M.Gy n0 n1 n2,M.Jw n1 n2,0]=0,[M.Eb n0 n1,M.Gy n0 n1 n2,M.Jw n1 n2,0,0,0,0,0]=[M.Eb n0 n1,M.Gy n0 n1 n2,M.Jw n1 n2,0,0,0,0,0],M.nl [M.dq 9223372036854775808 (bY .u64 n2 1) (M.lm n1 n2)]=1,[M.dq 9223372036854775808 (bY .u64 n2 1) (M.lm n1 n2)]=[M.dq 9223372036854775808 (bY .u64 n2 1) (M.lm n1 n2)],M.U (dD .u64 n0 63),M.U (M.lm n0 n1),M.U (M.lm n1 n2),0<=bY .u64 n2 1,bY .u64 n2 1<4,3=3,([0]:List Int)=[0],[dD .u64 n0 63,M.lm n0 n1,M.lm n1 n2,bY .u64 n2 1,0,0,0,0]=[dD .u64 n0 63,M.lm n0 n1,M.lm n1 n2,bY .u64 n2 1,0,0,0,0],decide (M.cmp (M.n3 n0 n1 n2) 340282366920938463463374607431768211456<0)=false,M.U n0,M.U n1,M.U n2,M.U 0,M.U 0,M.U 1,(n0::n1::n2::List.replicate (cap-3) 0)=(n0::n1::n2::List.replicate (cap-3) 0),([0,0,1,0,0,0,0,0]:List Int)=[0,0,1,0,0,0,0,0]]:List Prop),val:=.eD [],wr:=[(62,M.QQ 0)] }
theorem YU:Lw 6:=fun n0 n1 n2=>by kernel_rfl
theorem YT:Lw 7:=fun n0 n1 n2=>by kernel_rfl
theorem YS:Lw 8:=fun n0 n1 n2=>by kernel_rfl
theorem YR:Lw 9:=fun n0 n1 n2=>by kernel_rfl
def Lv (cap:Nat):Prop:=∀ n0 n1 n2:Int,Bo 1 (.aH 63 true 0 3 cap) (wc (n0::n1::n2::List.replicate (cap-3) 0))=some { bO:=([M.U (M.Eb n0 n1),[M.Eb n0 n1,M.Gy n0 n1 n2,M.Jw n1 n2,0,0,0,0,0]=[M.Eb n0 n1,M.Gy n0 n1 n2,M.Jw n1 n2,0,0,0,0,0],M.nl [M.Eb n0 n1,M.Gy n0 n1 n2,M.Jw n1 n2,0]=1,[M.Eb n0 n1,M.Gy n0 n1 n2,M.Jw n1 n2,0,0,0,0,0]=[M.Eb n0 n1,M.Gy n0 n1 n2,M.Jw n1 n2,0,0,0,0,0],M.nl [M.dq 9223372036854775808 (bY .u64 n2 1) (M.lm n1 n2)]=1,[M.dq 9223372036854775808 (bY .u64 n2 1) (M.lm n1 n2)]=[M.dq 9223372036854775808 (bY .u64 n2 1) (M.lm n1 n2)],M.U (dD .u64 n0 63),M.U (M.lm n0 n1),M.U (M.lm n1 n2),0<=bY .u64 n2 1,bY .u64 n2 1<4,3=3,([0]:List Int)=[0],[dD .u64 n0 63,M.lm n0 n1,M.lm n1 n2,bY .u64 n2 1,0,0,0,0]=[dD .u64 n0 63,M.lm n0 n1,M.lm n1 n2,bY .u64 n2 1,0,0,0,0],decide (M.cmp (M.n3 n0 n1 n2) 340282366920938463463374607431768211456<0)=false,M.U n0,M.U n1,M.U n2,M.U 0,M.U 0,M.U 1,(n0::n1::n2::List.replicate (cap-3) 0)=(n0::n1::n2::List.replicate (cap-3) 0),([0,0,1,0,0,0,0,0]:List Int)=[0,0,1,0,0,0,0,0]]:List Prop),val:=.eD [],wr:=[(62,M.QQ (M.Eb n0 n1))] }
theorem YQ:Lv 6:=fun n0 n1 n2=>by kernel_rfl
theorem YP:Lv 7:=fun n0 n1 n2=>by kernel_rfl
theorem YO:Lv 8:=fun n0 n1 n2=>by kernel_rfl
theorem YN:Lv 9:=fun n0 n1 n2=>by kernel_rfl
def Lu (cap:Nat):Prop:=∀ n0 n1 n2:Int,Bo 2 (.aH 63 true 0 3 cap) (wc (n0::n1::n2::List.replicate (cap-3) 0))=some { bO:=([M.U (M.Eb n0 n1),M.U (M.Gy n0 n1 n2),[M.Eb n0 n1,M.Gy n0 n1 n2,M.Jw n1 n2,0,0,0,0,0]=[M.Eb n0 n1,M.Gy n0 n1 n2,M.Jw n1 n2,0,0,0,0,0],M.nl [M.Eb n0 n1,M.Gy n0 n1 n2,M.Jw n1 n2,0]=2,[M.Eb n0 n1,M.Gy n0 n1 n2,M.Jw n1 n2,0,0,0,0,0]=[M.Eb n0 n1,M.Gy n0 n1 n2,M.Jw n1 n2,0,0,0,0,0],M.nl [M.dq 9223372036854775808 (bY .u64 n2 1) (M.lm n1 n2)]=1,[M.dq 9223372036854775808 (bY .u64 n2 1) (M.lm n1 n2)]=[M.dq 9223372036854775808 (bY .u64 n2 1) (M.lm n1 n2)],M.U (dD .u64 n0 63),M.U (M.lm n0 n1),M.U (M.lm n1 n2),0<=bY .u64 n2 1,bY .u64 n2 1<4,3=3,([0]:List Int)=[0],[dD .u64 n0 63,M.lm n0 n1,M.lm n1 n2,bY .u64 n2 1,0,0,0,0]=[dD .u64 n0 63,M.lm n0 n1,M.lm n1 n2,bY .u64 n2 1,0,0,0,0],decide (M.cmp (M.n3 n0 n1 n2) 340282366920938463463374607431768211456<0)=false,M.U n0,M.U n1,M.U n2,M.U 0,M.U 0,M.U 1,(n0::n1::n2::List.replicate (cap-3) 0)=(n0::n1::n2::List.replicate (cap-3) 0),([0,0,1,0,0,0,0,0]:List Int)=[0,0,1,0,0,0,0,0]]:List Prop),val:=.eD [],wr:=[(62,M.QQ (M.Eb n0 n1+18446744073709551616*M.Gy n0 n1 n2))] }
theorem YM:Lu 6:=fun n0 n1 n2=>by kernel_rfl
theorem YL:Lu 7:=fun n0 n1 n2=>by kernel_rfl
theorem YK:Lu 8:=fun n0 n1 n2=>by kernel_rfl
theorem YJ:Lu 9:=fun n0 n1 n2=>by kernel_rfl
theorem aWh (_u:Nat) :
 aJa =
 some {val:=.eD [],wr:=[(62,M.QQ 0)]}:=by kernel_rfl
end Go.Proofs.YtnodfocobmghiaaGreatDoor.Sx
