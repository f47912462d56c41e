/- slow.laid into sixteen bytes, the runs. -/
import Derived.Test.YticicdfijghigaaGreatDoorQG
open Go
set_option maxRecDepth 100000
namespace Go.Proofs.YticicdfijghigaaGreatDoor.Sx
def HA (vs:List SV) (T:aZ):Option Canon:=match vs with
 | [.ptr l1 true 0,.aG lo true 0 16 16]=>match T l1,T lo with
   | some (.own [.bool _ _,X] 146),some (.own _ 59)=>match X with
     | .raw (.slice none 0 0)=>some { eR:=mQ,T0:=SJ (.raw (.slice none 0 0)) [.bool true false,.raw (.slice none 0 0)] nL,vl:=[(61,.lab l1 0),(62,.lab lo 0),(63,.lab l1 0)],e0:=fbE 0 }
     | .aG lx true 0 k c=>match (T lx).bind GN,k with
       | some (.u64,xs),0=>some { eR:=mQ,T0:=SJ (.aG 63 true 0 0 c) (wc xs) nL,vl:=[(61,.lab l1 0),(62,.lab lo 0),(63,.lab lx 0)],e0:=fbE 0 }
       | some (.u64,a0::xs),1=>some { eR:=mQ,T0:=SJ (.aG 63 true 0 1 c) (ww a0 (wc xs)) nL,vl:=[(61,.lab l1 0),(62,.lab lo 0),(63,.lab lx 0)],e0:=fbE a0,conds:=[M.U a0] }
       | some (.u64,a0::a1::xs),2=>some { eR:=mQ,T0:=SJ (.aG 63 true 0 2 c) (ww a0 (ww a1 (wc xs))) nL,vl:=[(61,.lab l1 0),(62,.lab lo 0),(63,.lab lx 0)],e0:=fbE (a0+18446744073709551616*a1),conds:=[M.U a0,M.U a1] }
       | _,_=>none
     | _=>none
   | _,_=>none
 | _=>none
theorem aTz (Γ:Env) (hg:Γ.aR=aB):aH Tryz.prog Γ 149 (aK aB 100 HA):=by
 refine aW hg fun vs T c hd hc=>?_
 unfold HA at hd
 split at hd
 case h_2=>cases hd
 split at hd
 case h_2=>cases hd
 split at hd
 case h_3=>cases hd
 .cases hd
  exact (MR [.bool true false,.raw (.slice none 0 0)]).words (by rw [hg];rfl) (fun _=>rfl) (fun _ _ h=>h) (fun _=>rfl) rfl rfl
 .split at hd
  case h_4=>cases hd
  .cases hd
   exact (MV _ _).words (by rw [hg];rfl) (fun _=>rfl) (fun _ _ h=>h) (fun _=>rfl) rfl rfl
  .cases hd
   exact (MU _ (hc _ (by simp)) _).words (by rw [hg];rfl) (fun _=>rfl) (fun _ _ h=>h) (fun _=>rfl) rfl rfl
  .cases hd
   exact (MT _ (hc _ (by simp)) (hc _ (by simp)) _).words (by rw [hg];rfl) (fun _=>rfl) (fun _ _ h=>h) (fun _=>rfl) rfl rfl
noncomputable def Vb:Nat->Option Sum:=dM (dM Ye 259 (aK aB 100 HQ)) 149 (aK aB 100 HA)
theorem Dc:∀ f S,Vb f=some S->∀ Γ:Env,Γ.aR=aB->aH Tryz.prog Γ f S:=bD (bD pK 259 _ aUe) 149 _ aTz
noncomputable def orR (ex:Nat->Option Sum) (f0:Nat) (S0:Sum):Sum:=match Tryz.prog.funcs[f0]? with
 | some fn=>orS (aJ (env ex 22) fn true [] 400) S0
 | none=>S0
theorem aJr {ex:Nat->Option Sum} (hex:∀ f S,ex f=some S->∀ Γ:Env,Γ.aR=aB->aH Tryz.prog Γ f S) (f0:Nat) (S0:Sum) (h0:∀ Γ:Env,Γ.aR=aB->aH Tryz.prog Γ f0 S0):∀ Γ:Env,Γ.aR=aB->aH Tryz.prog Γ f0 (orR ex f0 S0):=by
 intro Γ hg
 unfold orR
 split
 .rename_i fn uB
  exact IX ((aM (bQ ex 22) (bW ex hex 22) mix uB (names f0 fn uB) true [] 400).aR (by rw [hg];rfl)) (h0 Γ hg)
 .exact h0 Γ hg
noncomputable def aEx (ir:Nat):Nat->Option Sum:=dM (dM Vb 186 (orR Vb 186 (aK aB 100 (tD 1 ir)))) 154 (orB Vb 154 (aK aB 100 Vf))
theorem PL (ir:Nat):∀ f S,aEx ir f=some S->∀ Γ:Env,Γ.aR=aB->aH Tryz.prog Γ f S:=bD (bD Dc 186 _ (aJr Dc 186 _ (Cj 1 ir))) 154 _ (IY Dc 154 _ aEz)
noncomputable def EF (ir:Nat):Nat->Option Sum:=Fe (aEx ir) 209 [false]
theorem aCb (ir:Nat):∀ f S,EF ir f=some S->∀ Γ:Env,Γ.aR=aB->aH Tryz.prog Γ f S:=nS (PL ir) 209 _
def Xw (X:SV) (xs:List SV):List (Nat × SB):=[(61,.own [.bool true false,X] 146),(62,.own nL 59),(63,.own xs 196),(17,.fP [.int true .i64 40]),(18,.fP [.int true .i64 40])]
def aGc:List (Nat × SB):=[(61,.own [.bool true false,.raw (.slice none 0 0)] 146),(62,.own nL 59),(17,.fP [.int true .i64 40]),(18,.fP [.int true .i64 40])]
noncomputable def aKm:Option bJ:=aJ (env (EF 0) 22) Tryz.f99 true [] 400 mQ (fun l=>look l aGc) 100 100
noncomputable def Br (ir:Nat) (X:SV) (xs:List SV):Option bJ:=aJ (env (EF ir) 22) Tryz.f99 true [] 400 mQ (fun l=>look l (Xw X xs)) 100 100
namespace M
def lm (a b:Int):Int:=kN .u64 (dI .u64 b 63) (bZ .u64 a 1)
def Ee (n0 n1:Int):Int:=kN .u64 (bZ .u64 (dI .u64 n0 63) 63) (dI .u64 (lm n0 n1) 1)
def Hn (n0 n1 n2:Int):Int:=kN .u64 (bZ .u64 (lm n0 n1) 63) (dI .u64 (lm n1 n2%9223372036854775808) 1)
def Ks (n1 n2:Int):Int:=kN .u64 (bZ .u64 (lm n1 n2%9223372036854775808) 63) 0
def RX (n:Int):SB:=.own [.int false .u8 (nb n 0),.int false .u8 (nb n 1),.int false .u8 (nb n 2),.int false .u8 (nb n 3),.int false .u8 (nb n 4),.int false .u8 (nb n 5),.int false .u8 (nb n 6),.int false .u8 (nb n 7),.int false .u8 (nb n 8),.int false .u8 (nb n 9),.int false .u8 (nb n 10),.int false .u8 (nb n 11),.int false .u8 (nb n 12),.int false .u8 (nb n 13),.int false .u8 (nb n 14),.int false .u8 (nb n 15)] 59
end M
theorem aYf (c:Nat) (xs:List SV) :
 Br 0 (.aG 63 true 0 0 c) xs =
 some {val:=.eL [],wr:=[(62,M.RX 0)]}:=by kernel_rfl
theorem aYe (c:Nat) (n0:Int) (xs:List SV) :
 Br 0 (.aG 63 true 0 1 c) (ww n0 xs) =
 some {bM:=([M.U n0,[n0]=[n0]]:List Prop),val:=.eL [],wr:=[(62,M.RX n0)]}:=by kernel_rfl
theorem aYd (c:Nat) (n0 n1:Int) (xs:List SV) :
 Br 0 (.aG 63 true 0 2 c) (ww n0 (ww n1 xs)) =
 some {bM:=([M.U n0,M.U n1,[n0,n1,0,0,0,0]=[n0,n1,0,0,0,0]]:List Prop),val:=.eL [],wr:=[(62,M.RX (n0+18446744073709551616*n1))]}:=by kernel_rfl
def Mn (cap:Nat):Prop:=∀ n0 n1 n2:Int,Br 0 (.aG 63 true 0 3 cap) (wc (n0::n1::n2::List.replicate (cap-3) 0))=some { bM:=([[M.Ee n0 n1,M.Hn n0 n1 n2,M.Ks n1 n2,0,0,0,0,0]=[M.Ee n0 n1,M.Hn n0 n1 n2,M.Ks n1 n2,0,0,0,0,0],M.nl [M.Ee n0 n1,M.Hn n0 n1 n2,M.Ks n1 n2,0]=0,[M.Ee n0 n1,M.Hn n0 n1 n2,M.Ks n1 n2,0,0,0,0,0]=[M.Ee n0 n1,M.Hn n0 n1 n2,M.Ks n1 n2,0,0,0,0,0],M.nl [M.dq 9223372036854775808 (bZ .u64 n2 1) (M.lm n1 n2)]=1,[M.dq 9223372036854775808 (bZ .u64 n2 1) (M.lm n1 n2)]=[M.dq 9223372036854775808 (bZ .u64 n2 1) (M.lm n1 n2)],M.U (dI .u64 n0 63),M.U (M.lm n0 n1),M.U (M.lm n1 n2),0<=bZ .u64 n2 1,bZ .u64 n2 1<4,3=3,([0]:List Int)=[0],[dI .u64 n0 63,M.lm n0 n1,M.lm n1 n2,bZ .u64 n2 1,0,0,0,0]=[dI .u64 n0 63,M.lm n0 n1,M.lm n1 n2,bZ .u64 n2 1,0,0,0,0],decide (M.cmp (M.n3 n0 n1 n2) 340282366920938463463374607431768211456<0)=false,M.U n0,M.U n1,M.U n2,M.U 0,M.U 0,M.U 1,(n0::n1::n2::List.replicate (cap-3) 0)=(n0::n1::n2::List.replicate (cap-3) 0),([0,0,1,0,0,0,0,0]:List Int)=[0,0,1,0,0,0,0,0]]:List Prop),val:=.eL [],wr:=[(62,M.RX 0)] }
theorem ZW:Mn 6:=fun n0 n1 n2=>by kernel_rfl
theorem ZV:Mn 7:=fun n0 n1 n2=>by kernel_rfl
theorem ZU:Mn 8:=fun n0 n1 n2=>by kernel_rfl
theorem ZT:Mn 9:=fun n0 n1 n2=>by kernel_rfl
def Mm (cap:Nat):Prop:=∀ n0 n1 n2:Int,Br 1 (.aG 63 true 0 3 cap) (wc (n0::n1::n2::List.replicate (cap-3) 0))=some { bM:=([M.U (M.Ee n0 n1),[M.Ee n0 n1,M.Hn n0 n1 n2,M.Ks n1 n2,0,0,0,0,0]=[M.Ee n0 n1,M.Hn n0 n1 n2,M.Ks n1 n2,0,0,0,0,0],M.nl [M.Ee n0 n1,M.Hn n0 n1 n2,M.Ks n1 n2,0]=1,[M.Ee n0 n1,M.Hn n0 n1 n2,M.Ks n1 n2,0,0,0,0,0]=[M.Ee n0 n1,M.Hn n0 n1 n2,M.Ks n1 n2,0,0,0,0,0],M.nl [M.dq 9223372036854775808 (bZ .u64 n2 1) (M.lm n1 n2)]=1,[M.dq 9223372036854775808 (bZ .u64 n2 1) (M.lm n1 n2)]=[M.dq 9223372036854775808 (bZ .u64 n2 1) (M.lm n1 n2)],M.U (dI .u64 n0 63),M.U (M.lm n0 n1),M.U (M.lm n1 n2),0<=bZ .u64 n2 1,bZ .u64 n2 1<4,3=3,([0]:List Int)=[0],[dI .u64 n0 63,M.lm n0 n1,M.lm n1 n2,bZ .u64 n2 1,0,0,0,0]=[dI .u64 n0 63,M.lm n0 n1,M.lm n1 n2,bZ .u64 n2 1,0,0,0,0],decide (M.cmp (M.n3 n0 n1 n2) 340282366920938463463374607431768211456<0)=false,M.U n0,M.U n1,M.U n2,M.U 0,M.U 0,M.U 1,(n0::n1::n2::List.replicate (cap-3) 0)=(n0::n1::n2::List.replicate (cap-3) 0),([0,0,1,0,0,0,0,0]:List Int)=[0,0,1,0,0,0,0,0]]:List Prop),val:=.eL [],wr:=[(62,M.RX (M.Ee n0 n1))] }
theorem ZS:Mm 6:=fun n0 n1 n2=>by kernel_rfl
theorem ZR:Mm 7:=fun n0 n1 n2=>by kernel_rfl
theorem ZQ:Mm 8:=fun n0 n1 n2=>by kernel_rfl
theorem ZP:Mm 9:=fun n0 n1 n2=>by kernel_rfl
def Ml (cap:Nat):Prop:=∀ n0 n1 n2:Int,Br 2 (.aG 63 true 0 3 cap) (wc (n0::n1::n2::List.replicate (cap-3) 0))=some { bM:=([M.U (M.Ee n0 n1),M.U (M.Hn n0 n1 n2),[M.Ee n0 n1,M.Hn n0 n1 n2,M.Ks n1 n2,0,0,0,0,0]=[M.Ee n0 n1,M.Hn n0 n1 n2,M.Ks n1 n2,0,0,0,0,0],M.nl [M.Ee n0 n1,M.Hn n0 n1 n2,M.Ks n1 n2,0]=2,[M.Ee n0 n1,M.Hn n0 n1 n2,M.Ks n1 n2,0,0,0,0,0]=[M.Ee n0 n1,M.Hn n0 n1 n2,M.Ks n1 n2,0,0,0,0,0],M.nl [M.dq 9223372036854775808 (bZ .u64 n2 1) (M.lm n1 n2)]=1,[M.dq 9223372036854775808 (bZ .u64 n2 1) (M.lm n1 n2)]=[M.dq 9223372036854775808 (bZ .u64 n2 1) (M.lm n1 n2)],M.U (dI .u64 n0 63),M.U (M.lm n0 n1),M.U (M.lm n1 n2),0<=bZ .u64 n2 1,bZ .u64 n2 1<4,3=3,([0]:List Int)=[0],[dI .u64 n0 63,M.lm n0 n1,M.lm n1 n2,bZ .u64 n2 1,0,0,0,0]=[dI .u64 n0 63,M.lm n0 n1,M.lm n1 n2,bZ .u64 n2 1,0,0,0,0],decide (M.cmp (M.n3 n0 n1 n2) 340282366920938463463374607431768211456<0)=false,M.U n0,M.U n1,M.U n2,M.U 0,M.U 0,M.U 1,(n0::n1::n2::List.replicate (cap-3) 0)=(n0::n1::n2::List.replicate (cap-3) 0),([0,0,1,0,0,0,0,0]:List Int)=[0,0,1,0,0,0,0,0]]:List Prop),val:=.eL [],wr:=[(62,M.RX (M.Ee n0 n1+18446744073709551616*M.Hn n0 n1 n2))] }
theorem ZO:Ml 6:=fun n0 n1 n2=>by kernel_rfl
theorem ZN:Ml 7:=fun n0 n1 n2=>by kernel_rfl
theorem ZM:Ml 8:=fun n0 n1 n2=>by kernel_rfl
theorem ZL:Ml 9:=fun n0 n1 n2=>by kernel_rfl
theorem aYc (_u:Nat) :
 aKm =
 some {val:=.eL [],wr:=[(62,M.RX 0)]}:=by kernel_rfl
end Go.Proofs.YticicdfijghigaaGreatDoor.Sx
