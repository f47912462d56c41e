/- math/big: (*Int).Add, a sum in its own words: the runs. -/
import Derived.Test.YticicdfijghigaaGreatDoorQI
open Go
set_option maxRecDepth 100000
namespace Go.Proofs.YticicdfijghigaaGreatDoor.Sx
noncomputable def EF (h h2:List Bool):Nat->Option Sum:=Fa (Fa Ya 186 h) 194 h2
theorem aCc (h h2:List Bool):∀ f S,EF h h2 f=some S->∀ Γ:Env,Γ.aR=aB->aH Tryz.prog Γ f S:=nS (nS pK 186 h) 194 h2
def zD:List SV:=[.ptr 61 true 0,.ptr 61 true 0,.ptr 63 true 0]
def SI (X Y:SV) (xs ys:List SV):List (Nat × SB):=[(61,.own [.bool true false,X] 146),(63,.own [.bool true false,Y] 146),(64,.own xs 196),(65,.own ys 196),(17,.fO [.int true .i64 40]),(18,.fO [.int true .i64 40])]
def Qc (Y:SV) (ys:List SV):List (Nat × SB):=[(61,.own [.bool true false,.raw (.slice none 0 0)] 146),(63,.own [.bool true false,Y] 146),(65,.own ys 196),(17,.fO [.int true .i64 40]),(18,.fO [.int true .i64 40])]
noncomputable def Ra (Y:SV) (ys:List SV):Option bJ:=aJ (env (EF [] []) 22) Tryz.f102 true [] 400 zD (fun l=>look l (Qc Y ys)) 100 100
noncomputable def jR (h h2:List Bool) (X Y:SV) (xs ys:List SV):Option bJ:=aJ (env (EF h h2) 22) Tryz.f102 true [] 400 zD (fun l=>look l (SI X Y xs ys)) 100 100
def vS (cap:Nat):Prop:=∀ _z:Int,jR [] [] (.aG 64 true 0 0 cap) (.aG 65 true 0 0 6) (wc (0::0::0::List.replicate (cap-3) 0)) (wc [0,0,0,0,0,0])=some { val:=.ptr 61 true 0,wr:=[(61,.own [.bool true false,.aG 64 true 0 0 cap] 146)] }
theorem PH:vS 6:=fun _z=>by kernel_rfl
theorem PG:vS 7:=fun _z=>by kernel_rfl
theorem PF:vS 8:=fun _z=>by kernel_rfl
theorem PE:vS 9:=fun _z=>by kernel_rfl
theorem aLx {cap:Nat} (h:cap=6\/cap=7\/cap=8\/cap=9):vS cap:=by
 rcases h with rfl | rfl | rfl | rfl
 .exact PH
 .exact PG
 .exact PF
 .exact PE
def vR (cap:Nat):Prop:=∀ y0:Int,jR [] [] (.aG 64 true 0 0 cap) (.aG 65 true 0 1 6) (wc (0::0::0::List.replicate (cap-3) 0)) (wc [y0,0,0,0,0,0])=some { val:=.ptr 61 true 0,wr:=[(61,.own [.bool true false,.aG 64 true 0 1 cap] 146),(64,.own (.int false .u64 y0 :: .int false .u64 0 :: .int false .u64 0 :: .int false .u64 0::wc (List.replicate (cap-4) 0)) 196)] }
theorem PD:vR 6:=fun y0=>by kernel_rfl
theorem PC:vR 7:=fun y0=>by kernel_rfl
theorem PB:vR 8:=fun y0=>by kernel_rfl
theorem PA:vR 9:=fun y0=>by kernel_rfl
theorem aLw {cap:Nat} (h:cap=6\/cap=7\/cap=8\/cap=9):vR cap:=by
 rcases h with rfl | rfl | rfl | rfl
 .exact PD
 .exact PC
 .exact PB
 .exact PA
def vQ (cap:Nat):Prop:=∀ y0 y1:Int,jR [] [] (.aG 64 true 0 0 cap) (.aG 65 true 0 2 6) (wc (0::0::0::List.replicate (cap-3) 0)) (wc [y0,y1,0,0,0,0])=some { val:=.ptr 61 true 0,wr:=[(61,.own [.bool true false,.aG 64 true 0 2 cap] 146),(64,.own (.int false .u64 y0 :: .int false .u64 y1 :: .int false .u64 0 :: .int false .u64 0::wc (List.replicate (cap-4) 0)) 196)] }
theorem OZ:vQ 6:=fun y0 y1=>by kernel_rfl
theorem OY:vQ 7:=fun y0 y1=>by kernel_rfl
theorem OX:vQ 8:=fun y0 y1=>by kernel_rfl
theorem OW:vQ 9:=fun y0 y1=>by kernel_rfl
theorem aLv {cap:Nat} (h:cap=6\/cap=7\/cap=8\/cap=9):vQ cap:=by
 rcases h with rfl | rfl | rfl | rfl
 .exact OZ
 .exact OY
 .exact OX
 .exact OW
def vP (cap:Nat):Prop:=∀ x0:Int,jR [] [] (.aG 64 true 0 1 cap) (.aG 65 true 0 0 6) (wc (x0::0::0::List.replicate (cap-3) 0)) (wc [0,0,0,0,0,0])=some { val:=.ptr 61 true 0,wr:=[(61,.own [.bool true false,.aG 64 true 0 1 cap] 146),(64,.own (.int false .u64 x0 :: .int false .u64 0 :: .int false .u64 0 :: .int false .u64 0::wc (List.replicate (cap-4) 0)) 196)] }
theorem OV:vP 6:=fun x0=>by kernel_rfl
theorem OU:vP 7:=fun x0=>by kernel_rfl
theorem OT:vP 8:=fun x0=>by kernel_rfl
theorem OS:vP 9:=fun x0=>by kernel_rfl
theorem aLu {cap:Nat} (h:cap=6\/cap=7\/cap=8\/cap=9):vP cap:=by
 rcases h with rfl | rfl | rfl | rfl
 .exact OV
 .exact OU
 .exact OT
 .exact OS
def vO (cap:Nat):Prop:=∀ x0 y0:Int,jR [true,false] [] (.aG 64 true 0 1 cap) (.aG 65 true 0 1 6) (wc (x0::0::0::List.replicate (cap-3) 0)) (wc [y0,0,0,0,0,0])=some { bM:=([(M.ul (x0+y0+0)==0)=false,(M.uh (x0+y0+0)==0)=true,M.U x0,M.U y0,M.K 0,x0=x0,y0=y0,(0:Int)=0]:List Prop),val:=.ptr 61 true 0,wr:=[(61,.own [.bool true false,.aG 64 true 0 1 cap] 146),(64,.own (.int false .u64 (M.ul (x0+y0+0)) :: .int false .u64 (M.uh (x0+y0+0)) :: .int false .u64 0 :: .int false .u64 0::wc (List.replicate (cap-4) 0)) 196)] }
theorem OR:vO 6:=fun x0 y0=>by kernel_rfl
theorem OQ:vO 7:=fun x0 y0=>by kernel_rfl
theorem OP:vO 8:=fun x0 y0=>by kernel_rfl
theorem OO:vO 9:=fun x0 y0=>by kernel_rfl
theorem aLt {cap:Nat} (h:cap=6\/cap=7\/cap=8\/cap=9):vO cap:=by
 rcases h with rfl | rfl | rfl | rfl
 .exact OR
 .exact OQ
 .exact OP
 .exact OO
def vN (cap:Nat):Prop:=∀ x0 y0:Int,jR [false] [] (.aG 64 true 0 1 cap) (.aG 65 true 0 1 6) (wc (x0::0::0::List.replicate (cap-3) 0)) (wc [y0,0,0,0,0,0])=some { bM:=([(M.uh (x0+y0+0)==0)=false,M.U x0,M.U y0,M.K 0,x0=x0,y0=y0,(0:Int)=0]:List Prop),val:=.ptr 61 true 0,wr:=[(61,.own [.bool true false,.aG 64 true 0 2 cap] 146),(64,.own (.int false .u64 (M.ul (x0+y0+0)) :: .int false .u64 (M.uh (x0+y0+0)) :: .int false .u64 0 :: .int false .u64 0::wc (List.replicate (cap-4) 0)) 196)] }
theorem ON:vN 6:=fun x0 y0=>by kernel_rfl
theorem OM:vN 7:=fun x0 y0=>by kernel_rfl
theorem OL:vN 8:=fun x0 y0=>by kernel_rfl
theorem OK:vN 9:=fun x0 y0=>by kernel_rfl
theorem aLs {cap:Nat} (h:cap=6\/cap=7\/cap=8\/cap=9):vN cap:=by
 rcases h with rfl | rfl | rfl | rfl
 .exact ON
 .exact OM
 .exact OL
 .exact OK
def vM (cap:Nat):Prop:=∀ x0 y0 y1:Int,jR [false] [true] (.aG 64 true 0 1 cap) (.aG 65 true 0 2 6) (wc (x0::0::0::List.replicate (cap-3) 0)) (wc [y0,y1,0,0,0,0])=some { bM:=([(M.ul (y1+M.uh (y0+x0+0)+0)==0)=false,(M.uh (y1+M.uh (y0+x0+0)+0)==0)=true,M.U y1,M.U (M.uh (y0+x0+0)),M.K 0,y1=y1,M.uh (y0+x0+0)=M.uh (y0+x0+0),(0:Int)=0,M.U y0,M.U x0,M.K 0,y0=y0,x0=x0,(0:Int)=0]:List Prop),val:=.ptr 61 true 0,wr:=[(61,.own [.bool true false,.aG 64 true 0 2 cap] 146),(64,.own (.int false .u64 (M.ul (y0+x0+0)) :: .int false .u64 (M.ul (y1+M.uh (y0+x0+0)+0)) :: .int true .u64 0 :: .int false .u64 0::wc (List.replicate (cap-4) 0)) 196)] }
theorem OJ:vM 6:=fun x0 y0 y1=>by kernel_rfl
theorem OI:vM 7:=fun x0 y0 y1=>by kernel_rfl
theorem OH:vM 8:=fun x0 y0 y1=>by kernel_rfl
theorem OG:vM 9:=fun x0 y0 y1=>by kernel_rfl
theorem aLr {cap:Nat} (h:cap=6\/cap=7\/cap=8\/cap=9):vM cap:=by
 rcases h with rfl | rfl | rfl | rfl
 .exact OJ
 .exact OI
 .exact OH
 .exact OG
def vL (cap:Nat):Prop:=∀ x0 y0 y1:Int,jR [] [false] (.aG 64 true 0 1 cap) (.aG 65 true 0 2 6) (wc (x0::0::0::List.replicate (cap-3) 0)) (wc [y0,y1,0,0,0,0])=some { bM:=([(M.uh (y1+M.uh (y0+x0+0)+0)==0)=false,M.U y1,M.U (M.uh (y0+x0+0)),M.K 0,y1=y1,M.uh (y0+x0+0)=M.uh (y0+x0+0),(0:Int)=0,M.U y0,M.U x0,M.K 0,y0=y0,x0=x0,(0:Int)=0]:List Prop),val:=.ptr 61 true 0,wr:=[(61,.own [.bool true false,.aG 64 true 0 3 cap] 146),(64,.own (.int false .u64 (M.ul (y0+x0+0)) :: .int false .u64 (M.ul (y1+M.uh (y0+x0+0)+0)) :: .int true .u64 1 :: .int false .u64 0::wc (List.replicate (cap-4) 0)) 196)] }
theorem OF:vL 6:=fun x0 y0 y1=>by kernel_rfl
theorem OE:vL 7:=fun x0 y0 y1=>by kernel_rfl
theorem OD:vL 8:=fun x0 y0 y1=>by kernel_rfl
theorem OC:vL 9:=fun x0 y0 y1=>by kernel_rfl
theorem aLq {cap:Nat} (h:cap=6\/cap=7\/cap=8\/cap=9):vL cap:=by
 rcases h with rfl | rfl | rfl | rfl
 .exact OF
 .exact OE
 .exact OD
 .exact OC
def vK (cap:Nat):Prop:=∀ x0 x1:Int,jR [] [] (.aG 64 true 0 2 cap) (.aG 65 true 0 0 6) (wc (x0::x1::0::List.replicate (cap-3) 0)) (wc [0,0,0,0,0,0])=some { val:=.ptr 61 true 0,wr:=[(61,.own [.bool true false,.aG 64 true 0 2 cap] 146),(64,.own (.int false .u64 x0 :: .int false .u64 x1 :: .int false .u64 0 :: .int false .u64 0::wc (List.replicate (cap-4) 0)) 196)] }
theorem OB:vK 6:=fun x0 x1=>by kernel_rfl
theorem OA:vK 7:=fun x0 x1=>by kernel_rfl
theorem NZ:vK 8:=fun x0 x1=>by kernel_rfl
theorem NY:vK 9:=fun x0 x1=>by kernel_rfl
theorem aLp {cap:Nat} (h:cap=6\/cap=7\/cap=8\/cap=9):vK cap:=by
 rcases h with rfl | rfl | rfl | rfl
 .exact OB
 .exact OA
 .exact NZ
 .exact NY
def vJ (cap:Nat):Prop:=∀ x0 x1 y0:Int,jR [false] [true] (.aG 64 true 0 2 cap) (.aG 65 true 0 1 6) (wc (x0::x1::0::List.replicate (cap-3) 0)) (wc [y0,0,0,0,0,0])=some { bM:=([(M.ul (x1+M.uh (x0+y0+0)+0)==0)=false,(M.uh (x1+M.uh (x0+y0+0)+0)==0)=true,M.U x1,M.U (M.uh (x0+y0+0)),M.K 0,x1=x1,M.uh (x0+y0+0)=M.uh (x0+y0+0),(0:Int)=0,M.U x0,M.U y0,M.K 0,x0=x0,y0=y0,(0:Int)=0]:List Prop),val:=.ptr 61 true 0,wr:=[(61,.own [.bool true false,.aG 64 true 0 2 cap] 146),(64,.own (.int false .u64 (M.ul (x0+y0+0)) :: .int false .u64 (M.ul (x1+M.uh (x0+y0+0)+0)) :: .int true .u64 0 :: .int false .u64 0::wc (List.replicate (cap-4) 0)) 196)] }
theorem NX:vJ 6:=fun x0 x1 y0=>by kernel_rfl
theorem NW:vJ 7:=fun x0 x1 y0=>by kernel_rfl
theorem NV:vJ 8:=fun x0 x1 y0=>by kernel_rfl
theorem NU:vJ 9:=fun x0 x1 y0=>by kernel_rfl
theorem aLo {cap:Nat} (h:cap=6\/cap=7\/cap=8\/cap=9):vJ cap:=by
 rcases h with rfl | rfl | rfl | rfl
 .exact NX
 .exact NW
 .exact NV
 .exact NU
def vI (cap:Nat):Prop:=∀ x0 x1 y0:Int,jR [] [false] (.aG 64 true 0 2 cap) (.aG 65 true 0 1 6) (wc (x0::x1::0::List.replicate (cap-3) 0)) (wc [y0,0,0,0,0,0])=some { bM:=([(M.uh (x1+M.uh (x0+y0+0)+0)==0)=false,M.U x1,M.U (M.uh (x0+y0+0)),M.K 0,x1=x1,M.uh (x0+y0+0)=M.uh (x0+y0+0),(0:Int)=0,M.U x0,M.U y0,M.K 0,x0=x0,y0=y0,(0:Int)=0]:List Prop),val:=.ptr 61 true 0,wr:=[(61,.own [.bool true false,.aG 64 true 0 3 cap] 146),(64,.own (.int false .u64 (M.ul (x0+y0+0)) :: .int false .u64 (M.ul (x1+M.uh (x0+y0+0)+0)) :: .int true .u64 1 :: .int false .u64 0::wc (List.replicate (cap-4) 0)) 196)] }
theorem NT:vI 6:=fun x0 x1 y0=>by kernel_rfl
theorem NS:vI 7:=fun x0 x1 y0=>by kernel_rfl
theorem NR:vI 8:=fun x0 x1 y0=>by kernel_rfl
theorem NQ:vI 9:=fun x0 x1 y0=>by kernel_rfl
theorem aLn {cap:Nat} (h:cap=6\/cap=7\/cap=8\/cap=9):vI cap:=by
 rcases h with rfl | rfl | rfl | rfl
 .exact NT
 .exact NS
 .exact NR
 .exact NQ
def vH (cap:Nat):Prop:=∀ x0 x1 y0 y1:Int,jR [true,false] [] (.aG 64 true 0 2 cap) (.aG 65 true 0 2 6) (wc (x0::x1::0::List.replicate (cap-3) 0)) (wc [y0,y1,0,0,0,0])=some { bM:=([(M.ul (x1+y1+M.uh (x0+y0+0))==0)=false,(M.uh (x1+y1+M.uh (x0+y0+0))==0)=true,M.U x1,M.U y1,M.K (M.uh (x0+y0+0)),x1=x1,y1=y1,M.uh (x0+y0+0)=M.uh (x0+y0+0),M.U x0,M.U y0,M.K 0,x0=x0,y0=y0,(0:Int)=0]:List Prop),val:=.ptr 61 true 0,wr:=[(61,.own [.bool true false,.aG 64 true 0 2 cap] 146),(64,.own (.int false .u64 (M.ul (x0+y0+0)) :: .int false .u64 (M.ul (x1+y1+M.uh (x0+y0+0))) :: .int false .u64 (M.uh (x1+y1+M.uh (x0+y0+0))) :: .int false .u64 0::wc (List.replicate (cap-4) 0)) 196)] }
theorem NP:vH 6:=fun x0 x1 y0 y1=>by kernel_rfl
theorem NO:vH 7:=fun x0 x1 y0 y1=>by kernel_rfl
theorem NN:vH 8:=fun x0 x1 y0 y1=>by kernel_rfl
theorem NM:vH 9:=fun x0 x1 y0 y1=>by kernel_rfl
theorem aLm {cap:Nat} (h:cap=6\/cap=7\/cap=8\/cap=9):vH cap:=by
 rcases h with rfl | rfl | rfl | rfl
 .exact NP
 .exact NO
 .exact NN
 .exact NM
def vG (cap:Nat):Prop:=∀ x0 x1 y0 y1:Int,jR [false] [] (.aG 64 true 0 2 cap) (.aG 65 true 0 2 6) (wc (x0::x1::0::List.replicate (cap-3) 0)) (wc [y0,y1,0,0,0,0])=some { bM:=([(M.uh (x1+y1+M.uh (x0+y0+0))==0)=false,M.U x1,M.U y1,M.K (M.uh (x0+y0+0)),x1=x1,y1=y1,M.uh (x0+y0+0)=M.uh (x0+y0+0),M.U x0,M.U y0,M.K 0,x0=x0,y0=y0,(0:Int)=0]:List Prop),val:=.ptr 61 true 0,wr:=[(61,.own [.bool true false,.aG 64 true 0 3 cap] 146),(64,.own (.int false .u64 (M.ul (x0+y0+0)) :: .int false .u64 (M.ul (x1+y1+M.uh (x0+y0+0))) :: .int false .u64 (M.uh (x1+y1+M.uh (x0+y0+0))) :: .int false .u64 0::wc (List.replicate (cap-4) 0)) 196)] }
theorem NL:vG 6:=fun x0 x1 y0 y1=>by kernel_rfl
theorem NK:vG 7:=fun x0 x1 y0 y1=>by kernel_rfl
theorem NJ:vG 8:=fun x0 x1 y0 y1=>by kernel_rfl
theorem NI:vG 9:=fun x0 x1 y0 y1=>by kernel_rfl
theorem aLl {cap:Nat} (h:cap=6\/cap=7\/cap=8\/cap=9):vG cap:=by
 rcases h with rfl | rfl | rfl | rfl
 .exact NL
 .exact NK
 .exact NJ
 .exact NI
def vF (cap:Nat):Prop:=∀ x0 x1 x2:Int,jR [] [] (.aG 64 true 0 3 cap) (.aG 65 true 0 0 6) (wc (x0::x1::x2::List.replicate (cap-3) 0)) (wc [0,0,0,0,0,0])=some { val:=.ptr 61 true 0,wr:=[(61,.own [.bool true false,.aG 64 true 0 3 cap] 146),(64,.own (.int false .u64 x0 :: .int false .u64 x1 :: .int false .u64 x2 :: .int false .u64 0::wc (List.replicate (cap-4) 0)) 196)] }
theorem NH:vF 6:=fun x0 x1 x2=>by kernel_rfl
theorem NG:vF 7:=fun x0 x1 x2=>by kernel_rfl
theorem NF:vF 8:=fun x0 x1 x2=>by kernel_rfl
theorem ND:vF 9:=fun x0 x1 x2=>by kernel_rfl
theorem aLk {cap:Nat} (h:cap=6\/cap=7\/cap=8\/cap=9):vF cap:=by
 rcases h with rfl | rfl | rfl | rfl
 .exact NH
 .exact NG
 .exact NF
 .exact ND
def vE (cap:Nat):Prop:=∀ x0 x1 x2 y0:Int,jR [false] [true] (.aG 64 true 0 3 cap) (.aG 65 true 0 1 6) (wc (x0::x1::x2::List.replicate (cap-3) 0)) (wc [y0,0,0,0,0,0])=some { bM:=([(x2==0)=false,(M.uh (x1+M.uh (x0+y0+0)+0)==0)=true,M.U x1,M.U (M.uh (x0+y0+0)),M.K 0,x1=x1,M.uh (x0+y0+0)=M.uh (x0+y0+0),(0:Int)=0,M.U x0,M.U y0,M.K 0,x0=x0,y0=y0,(0:Int)=0]:List Prop),val:=.ptr 61 true 0,wr:=[(61,.own [.bool true false,.aG 64 true 0 3 cap] 146),(64,.own (.int false .u64 (M.ul (x0+y0+0)) :: .int false .u64 (M.ul (x1+M.uh (x0+y0+0)+0)) :: .int false .u64 x2 :: .int true .u64 0::wc (List.replicate (cap-4) 0)) 196)] }
theorem NC:vE 6:=fun x0 x1 x2 y0=>by kernel_rfl
theorem NB:vE 7:=fun x0 x1 x2 y0=>by kernel_rfl
theorem NA:vE 8:=fun x0 x1 x2 y0=>by kernel_rfl
theorem MZ:vE 9:=fun x0 x1 x2 y0=>by kernel_rfl
theorem aLj {cap:Nat} (h:cap=6\/cap=7\/cap=8\/cap=9):vE cap:=by
 rcases h with rfl | rfl | rfl | rfl
 .exact NC
 .exact NB
 .exact NA
 .exact MZ
def rE (cap:Nat):Prop:=∀ x0 x1 x2 y0:Int,jR [false] [false,true] (.aG 64 true 0 3 cap) (.aG 65 true 0 1 6) (wc (x0::x1::x2::List.replicate (cap-3) 0)) (wc [y0,0,0,0,0,0])=some { bM:=([(IntKind.u64.wrap (x2+1)==0)=false,(x2 != 18446744073709551615)=true,(M.uh (x1+M.uh (x0+y0+0)+0)==0)=false,M.U x1,M.U (M.uh (x0+y0+0)),M.K 0,x1=x1,M.uh (x0+y0+0)=M.uh (x0+y0+0),(0:Int)=0,M.U x0,M.U y0,M.K 0,x0=x0,y0=y0,(0:Int)=0]:List Prop),val:=.ptr 61 true 0,wr:=[(61,.own [.bool true false,.aG 64 true 0 3 cap] 146),(64,.own (.int false .u64 (M.ul (x0+y0+0)) :: .int false .u64 (M.ul (x1+M.uh (x0+y0+0)+0)) :: .int false .u64 (IntKind.u64.wrap (x2+1)) :: .int true .u64 0::wc (List.replicate (cap-4) 0)) 196)] }
theorem AU:rE 6:=fun x0 x1 x2 y0=>by kernel_rfl
theorem AT:rE 7:=fun x0 x1 x2 y0=>by kernel_rfl
theorem AS:rE 8:=fun x0 x1 x2 y0=>by kernel_rfl
theorem AR:rE 9:=fun x0 x1 x2 y0=>by kernel_rfl
theorem aBp {cap:Nat} (h:cap=6\/cap=7\/cap=8\/cap=9):rE cap:=by
 rcases h with rfl | rfl | rfl | rfl
 .exact AU
 .exact AT
 .exact AS
 .exact AR
def vD (cap:Nat):Prop:=∀ x0 x1 x2 y0 y1:Int,jR [false] [true] (.aG 64 true 0 3 cap) (.aG 65 true 0 2 6) (wc (x0::x1::x2::List.replicate (cap-3) 0)) (wc [y0,y1,0,0,0,0])=some { bM:=([(M.ul (x2+M.uh (x1+y1+M.uh (x0+y0+0))+0)==0)=false,(M.uh (x2+M.uh (x1+y1+M.uh (x0+y0+0))+0)==0)=true,M.U x2,M.U (M.uh (x1+y1+M.uh (x0+y0+0))),M.K 0,x2=x2,M.uh (x1+y1+M.uh (x0+y0+0))=M.uh (x1+y1+M.uh (x0+y0+0)),(0:Int)=0,M.U x1,M.U y1,M.K (M.uh (x0+y0+0)),x1=x1,y1=y1,M.uh (x0+y0+0)=M.uh (x0+y0+0),M.U x0,M.U y0,M.K 0,x0=x0,y0=y0,(0:Int)=0]:List Prop),val:=.ptr 61 true 0,wr:=[(61,.own [.bool true false,.aG 64 true 0 3 cap] 146),(64,.own (.int false .u64 (M.ul (x0+y0+0)) :: .int false .u64 (M.ul (x1+y1+M.uh (x0+y0+0))) :: .int false .u64 (M.ul (x2+M.uh (x1+y1+M.uh (x0+y0+0))+0)) :: .int true .u64 0::wc (List.replicate (cap-4) 0)) 196)] }
theorem MY:vD 6:=fun x0 x1 x2 y0 y1=>by kernel_rfl
theorem MX:vD 7:=fun x0 x1 x2 y0 y1=>by kernel_rfl
theorem MW:vD 8:=fun x0 x1 x2 y0 y1=>by kernel_rfl
theorem MV:vD 9:=fun x0 x1 x2 y0 y1=>by kernel_rfl
theorem aLi {cap:Nat} (h:cap=6\/cap=7\/cap=8\/cap=9):vD cap:=by
 rcases h with rfl | rfl | rfl | rfl
 .exact MY
 .exact MX
 .exact MW
 .exact MV
theorem aTz (_z:Int) :
 Ra (.aG 65 true 0 0 6) (wc [0,0,0,0,0,0]) =
 some {val:=.ptr 61 true 0,wr:=[(61,.own [.bool true false,.raw (Value.slice none 0 0)] 146)]}:=by kernel_rfl
theorem aTy (y0:Int) :
 Ra (.aG 65 true 0 1 6) (wc [y0,0,0,0,0,0]) =
 some {val:=.ptr 61 true 0,new:=[.own [.int false .u64 y0] 196],wr:=[(61,.own [.bool true false,.aG 100 true 0 1 1] 146)]}:=by kernel_rfl
theorem aTx (y0 y1:Int) :
 Ra (.aG 65 true 0 2 6) (wc [y0,y1,0,0,0,0]) =
 some {val:=.ptr 61 true 0,new:=[.own [.int false .u64 y0,.int false .u64 y1,.int true .u64 0,.int true .u64 0,.int true .u64 0,.int true .u64 0] 196],wr:=[(61,.own [.bool true false,.aG 100 true 0 2 6] 146)]}:=by kernel_rfl
end Go.Proofs.YticicdfijghigaaGreatDoor.Sx
