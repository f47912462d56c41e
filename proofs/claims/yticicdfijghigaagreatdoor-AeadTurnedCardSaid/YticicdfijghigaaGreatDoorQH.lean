/- slow.laid into sixteen bytes, the runs. -/
import Derived.Test.YticicdfijghigaaGreatDoorQG
open Go
set_option maxRecDepth 100000
namespace Go.Proofs.YticicdfijghigaaGreatDoor.Sx
def JS (vs:List SV) (T:bA):Option Canon:=match vs with
 | [.ptr l1 true 0,.aJ lo true 0 16 16]=>match T l1,T lo with
   | some (.own [.bool _ _,X] 146),some (.own _ 59)=>match X with
     | .raw (.slice none 0 0)=>some { eN:=nF,T0:=VN (.raw (.slice none 0 0)) [.bool true false,.raw (.slice none 0 0)] oX,vl:=[(61,.lab l1 0),(62,.lab lo 0),(63,.lab l1 0)],e0:=fbE 0 }
     | .aJ lx true 0 k c=>match (T lx).bind JH,k with
       | some (.u64,xs),0=>some { eN:=nF,T0:=VN (.aJ 63 true 0 0 c) (wc xs) oX,vl:=[(61,.lab l1 0),(62,.lab lo 0),(63,.lab lx 0)],e0:=fbE 0 }
       | some (.u64,a0::xs),1=>some { eN:=nF,T0:=VN (.aJ 63 true 0 1 c) (ww a0 (wc xs)) oX,vl:=[(61,.lab l1 0),(62,.lab lo 0),(63,.lab lx 0)],e0:=fbE a0,conds:=[M.U a0] }
       | some (.u64,a0::a1::xs),2=>some { eN:=nF,T0:=VN (.aJ 63 true 0 2 c) (ww a0 (ww a1 (wc xs))) oX,vl:=[(61,.lab l1 0),(62,.lab lo 0),(63,.lab lx 0)],e0:=fbE (a0+18446744073709551616*a1),conds:=[M.U a0,M.U a1] }
       | _,_=>none
     | _=>none
   | _,_=>none
 | _=>none
theorem aXi (Γ:Env) (hg:Γ.aT=aB):aI Tryz.prog Γ 149 (aL aB 100 JS):=by
 refine aW hg fun vs T c hd hc=>?_
 unfold JS at hd
 split at hd
 case h_2=>cases hd
 split at hd
 case h_2=>cases hd
 split at hd
 case h_3=>cases hd
 .cases hd
  exact (PK [.bool true false,.raw (.slice none 0 0)]).words (by rw [hg];rfl) (fun _=>rfl) (fun _ _ h=>h) (fun _=>rfl) rfl rfl
 .split at hd
  case h_4=>cases hd
  .cases hd
   exact (PN _ _).words (by rw [hg];rfl) (fun _=>rfl) (fun _ _ h=>h) (fun _=>rfl) rfl rfl
  .cases hd
   exact (PM _ (hc _ (by simp)) _).words (by rw [hg];rfl) (fun _=>rfl) (fun _ _ h=>h) (fun _=>rfl) rfl rfl
  .cases hd
   exact (PL _ (hc _ (by simp)) (hc _ (by simp)) _).words (by rw [hg];rfl) (fun _=>rfl) (fun _ _ h=>h) (fun _=>rfl) rfl rfl
noncomputable def Xn:Nat->Option Sum:=dO (dO AQ 259 (aL aB 100 KI)) 149 (aL aB 100 JS)
theorem Fb:∀ f S,Xn f=some S->∀ Γ:Env,Γ.aT=aB->aI Tryz.prog Γ f S:=bE (bE qH 259 _ aXn) 149 _ aXi
noncomputable def orR (ex:Nat->Option Sum) (f0:Nat) (S0:Sum):Sum:=match Tryz.prog.funcs[f0]? with
 | some fn=>orS (aF (env ex 22) fn true [] 400) S0
 | none=>S0
theorem aMu {ex:Nat->Option Sum} (hex:∀ f S,ex f=some S->∀ Γ:Env,Γ.aT=aB->aI Tryz.prog Γ f S) (f0:Nat) (S0:Sum) (h0:∀ Γ:Env,Γ.aT=aB->aI Tryz.prog Γ f0 S0):∀ Γ:Env,Γ.aT=aB->aI Tryz.prog Γ f0 (orR ex f0 S0):=by
 intro Γ hg
 unfold orR
 split
 .rename_i fn tJ
  exact LO ((aM (bP ex 22) (bV ex hex 22) mix tJ (names f0 fn tJ) true [] 400).aT (by rw [hg];rfl)) (h0 Γ hg)
 .exact h0 Γ hg
noncomputable def aHw (ir:Nat):Nat->Option Sum:=dO (dO Xn 186 (orR Xn 186 (aL aB 100 (uM 1 ir)))) 154 (orB Xn 154 (aL aB 100 Xr))
theorem SG (ir:Nat):∀ f S,aHw ir f=some S->∀ Γ:Env,Γ.aT=aB->aI Tryz.prog Γ f S:=bE (bE Fb 186 _ (aMu Fb 186 _ (Ee 1 ir))) 154 _ (LP Fb 154 _ aHx)
noncomputable def HB (ir:Nat):Nat->Option Sum:=Hf (aHw ir) 209 [false]
theorem aEv (ir:Nat):∀ f S,HB ir f=some S->∀ Γ:Env,Γ.aT=aB->aI Tryz.prog Γ f S:=oH (SG ir) 209 _
def AH (X:SV) (xs:List SV):List (Nat × SB):=[(61,.own [.bool true false,X] 146),(62,.own oX 59),(63,.own xs 196),(17,.fS [.int true .i64 40]),(18,.fS [.int true .i64 40])]
def aJa:List (Nat × SB):=[(61,.own [.bool true false,.raw (.slice none 0 0)] 146),(62,.own oX 59),(17,.fS [.int true .i64 40]),(18,.fS [.int true .i64 40])]
noncomputable def aNp:Option bL:=aF (env (HB 0) 22) Tryz.f99 true [] 400 nF (fun l=>look l aJa) 100 100
noncomputable def Dm (ir:Nat) (X:SV) (xs:List SV):Option bL:=aF (env (HB ir) 22) Tryz.f99 true [] 400 nF (fun l=>look l (AH X xs)) 100 100
namespace M
def lm (a b:Int):Int:=lD .u64 (dK .u64 b 63) (cB .u64 a 1)
def Gh (n0 n1:Int):Int:=lD .u64 (cB .u64 (dK .u64 n0 63) 63) (dK .u64 (lm n0 n1) 1)
def Jo (n0 n1 n2:Int):Int:=lD .u64 (cB .u64 (lm n0 n1) 63) (dK .u64 (lm n1 n2%9223372036854775808) 1)
def Mr (n1 n2:Int):Int:=lD .u64 (cB .u64 (lm n1 n2%9223372036854775808) 63) 0
def VD (n:Int):SB:=.own [.int false .u8 (nb n 0),.int false .u8 (nb n 1),.int false .u8 (nb n 2),.int false .u8 (nb n 3),.int false .u8 (nb n 4),.int false .u8 (nb n 5),.int false .u8 (nb n 6),.int false .u8 (nb n 7),.int false .u8 (nb n 8),.int false .u8 (nb n 9),.int false .u8 (nb n 10),.int false .u8 (nb n 11),.int false .u8 (nb n 12),.int false .u8 (nb n 13),.int false .u8 (nb n 14),.int false .u8 (nb n 15)] 59
end M
theorem bCl (c:Nat) (xs:List SV) :
 Dm 0 (.aJ 63 true 0 0 c) xs =
 some {val:=.eP [],wr:=[(62,M.VD 0)]}:=by kernel_rfl
theorem bCk (c:Nat) (n0:Int) (xs:List SV) :
 Dm 0 (.aJ 63 true 0 1 c) (ww n0 xs) =
 some {bK:=([M.U n0,[n0]=[n0]]:List Prop),val:=.eP [],wr:=[(62,M.VD n0)]}:=by kernel_rfl
theorem bCj (c:Nat) (n0 n1:Int) (xs:List SV) :
 Dm 0 (.aJ 63 true 0 2 c) (ww n0 (ww n1 xs)) =
 some {bK:=([M.U n0,M.U n1,[n0,n1,0,0,0,0]=[n0,n1,0,0,0,0]]:List Prop),val:=.eP [],wr:=[(62,M.VD (n0+18446744073709551616*n1))]}:=by kernel_rfl
def Ow (cap:Nat):Prop:=∀ n0 n1 n2:Int,Dm 0 (.aJ 63 true 0 3 cap) (wc (n0::n1::n2::List.replicate (cap-3) 0))=some { bK:=([[M.Gh n0 n1,M.Jo n0 n1 n2,M.Mr n1 n2,0,0,0,0,0]=[M.Gh n0 n1,M.Jo n0 n1 n2,M.Mr n1 n2,0,0,0,0,0],M.nl [M.Gh n0 n1,M.Jo n0 n1 n2,M.Mr n1 n2,0]=0,[M.Gh n0 n1,M.Jo n0 n1 n2,M.Mr n1 n2,0,0,0,0,0]=[M.Gh n0 n1,M.Jo n0 n1 n2,M.Mr n1 n2,0,0,0,0,0],M.nl [M.dq 9223372036854775808 (cB .u64 n2 1) (M.lm n1 n2)]=1,[M.dq 9223372036854775808 (cB .u64 n2 1) (M.lm n1 n2)]=[M.dq 9223372036854775808 (cB .u64 n2 1) (M.lm n1 n2)],M.U (dK .u64 n0 63),M.U (M.lm n0 n1),M.U (M.lm n1 n2),0<=cB .u64 n2 1,cB .u64 n2 1<4,3=3,([0]:List Int)=[0],[dK .u64 n0 63,M.lm n0 n1,M.lm n1 n2,cB .u64 n2 1,0,0,0,0]=[dK .u64 n0 63,M.lm n0 n1,M.lm n1 n2,cB .u64 n2 1,0,0,0,0],decide (M.cmp (M.n3 n0 n1 n2) 340282366920938463463374607431768211456<0)=false,M.U n0,M.U n1,M.U n2,M.U 0,M.U 0,M.U 1,(n0::n1::n2::List.replicate (cap-3) 0)=(n0::n1::n2::List.replicate (cap-3) 0),([0,0,1,0,0,0,0,0]:List Int)=[0,0,1,0,0,0,0,0]]:List Prop),val:=.eP [],wr:=[(62,M.VD 0)] }
theorem aCr:Ow 6:=fun n0 n1 n2=>by kernel_rfl
theorem aCq:Ow 7:=fun n0 n1 n2=>by kernel_rfl
theorem aCp:Ow 8:=fun n0 n1 n2=>by kernel_rfl
theorem aCo:Ow 9:=fun n0 n1 n2=>by kernel_rfl
def Ov (cap:Nat):Prop:=∀ n0 n1 n2:Int,Dm 1 (.aJ 63 true 0 3 cap) (wc (n0::n1::n2::List.replicate (cap-3) 0))=some { bK:=([M.U (M.Gh n0 n1),[M.Gh n0 n1,M.Jo n0 n1 n2,M.Mr n1 n2,0,0,0,0,0]=[M.Gh n0 n1,M.Jo n0 n1 n2,M.Mr n1 n2,0,0,0,0,0],M.nl [M.Gh n0 n1,M.Jo n0 n1 n2,M.Mr n1 n2,0]=1,[M.Gh n0 n1,M.Jo n0 n1 n2,M.Mr n1 n2,0,0,0,0,0]=[M.Gh n0 n1,M.Jo n0 n1 n2,M.Mr n1 n2,0,0,0,0,0],M.nl [M.dq 9223372036854775808 (cB .u64 n2 1) (M.lm n1 n2)]=1,[M.dq 9223372036854775808 (cB .u64 n2 1) (M.lm n1 n2)]=[M.dq 9223372036854775808 (cB .u64 n2 1) (M.lm n1 n2)],M.U (dK .u64 n0 63),M.U (M.lm n0 n1),M.U (M.lm n1 n2),0<=cB .u64 n2 1,cB .u64 n2 1<4,3=3,([0]:List Int)=[0],[dK .u64 n0 63,M.lm n0 n1,M.lm n1 n2,cB .u64 n2 1,0,0,0,0]=[dK .u64 n0 63,M.lm n0 n1,M.lm n1 n2,cB .u64 n2 1,0,0,0,0],decide (M.cmp (M.n3 n0 n1 n2) 340282366920938463463374607431768211456<0)=false,M.U n0,M.U n1,M.U n2,M.U 0,M.U 0,M.U 1,(n0::n1::n2::List.replicate (cap-3) 0)=(n0::n1::n2::List.replicate (cap-3) 0),([0,0,1,0,0,0,0,0]:List Int)=[0,0,1,0,0,0,0,0]]:List Prop),val:=.eP [],wr:=[(62,M.VD (M.Gh n0 n1))] }
theorem aCn:Ov 6:=fun n0 n1 n2=>by kernel_rfl
theorem aCm:Ov 7:=fun n0 n1 n2=>by kernel_rfl
theorem aCl:Ov 8:=fun n0 n1 n2=>by kernel_rfl
theorem aCk:Ov 9:=fun n0 n1 n2=>by kernel_rfl
def Ou (cap:Nat):Prop:=∀ n0 n1 n2:Int,Dm 2 (.aJ 63 true 0 3 cap) (wc (n0::n1::n2::List.replicate (cap-3) 0))=some { bK:=([M.U (M.Gh n0 n1),M.U (M.Jo n0 n1 n2),[M.Gh n0 n1,M.Jo n0 n1 n2,M.Mr n1 n2,0,0,0,0,0]=[M.Gh n0 n1,M.Jo n0 n1 n2,M.Mr n1 n2,0,0,0,0,0],M.nl [M.Gh n0 n1,M.Jo n0 n1 n2,M.Mr n1 n2,0]=2,[M.Gh n0 n1,M.Jo n0 n1 n2,M.Mr n1 n2,0,0,0,0,0]=[M.Gh n0 n1,M.Jo n0 n1 n2,M.Mr n1 n2,0,0,0,0,0],M.nl [M.dq 9223372036854775808 (cB .u64 n2 1) (M.lm n1 n2)]=1,[M.dq 9223372036854775808 (cB .u64 n2 1) (M.lm n1 n2)]=[M.dq 9223372036854775808 (cB .u64 n2 1) (M.lm n1 n2)],M.U (dK .u64 n0 63),M.U (M.lm n0 n1),M.U (M.lm n1 n2),0<=cB .u64 n2 1,cB .u64 n2 1<4,3=3,([0]:List Int)=[0],[dK .u64 n0 63,M.lm n0 n1,M.lm n1 n2,cB .u64 n2 1,0,0,0,0]=[dK .u64 n0 63,M.lm n0 n1,M.lm n1 n2,cB .u64 n2 1,0,0,0,0],decide (M.cmp (M.n3 n0 n1 n2) 340282366920938463463374607431768211456<0)=false,M.U n0,M.U n1,M.U n2,M.U 0,M.U 0,M.U 1,(n0::n1::n2::List.replicate (cap-3) 0)=(n0::n1::n2::List.replicate (cap-3) 0),([0,0,1,0,0,0,0,0]:List Int)=[0,0,1,0,0,0,0,0]]:List Prop),val:=.eP [],wr:=[(62,M.VD (M.Gh n0 n1+18446744073709551616*M.Jo n0 n1 n2))] }
theorem aCj:Ou 6:=fun n0 n1 n2=>by kernel_rfl
theorem aCi:Ou 7:=fun n0 n1 n2=>by kernel_rfl
theorem aCh:Ou 8:=fun n0 n1 n2=>by kernel_rfl
theorem aCg:Ou 9:=fun n0 n1 n2=>by kernel_rfl
theorem bCi (_u:Nat) :
 aNp =
 some {val:=.eP [],wr:=[(62,M.VD 0)]}:=by kernel_rfl
end Go.Proofs.YticicdfijghigaaGreatDoor.Sx
