/- math/big: (*Int).Add, a sum in its own words: the runs. -/
import Derived.Test.YticicdfijghigaaGreatDoorQI
open Go
set_option maxRecDepth 100000
namespace Go.Proofs.YticicdfijghigaaGreatDoor.Sx
noncomputable def EF (h h2:List Bool):Nat->Option Sum:=Ez (Ez Yb 186 h) 194 h2
theorem aCf (h h2:List Bool):∀ f S,EF h h2 f=some S->∀ Γ:Env,Γ.aR=aB->aI Tryz.prog Γ f S:=nS (nS pK 186 h) 194 h2
def zD:List SV:=[.ptr 61 true 0,.ptr 61 true 0,.ptr 63 true 0]
def SK (X Y:SV) (xs ys:List SV):List (Nat × SB):=[(61,.own [.bool true false,X] 146),(63,.own [.bool true false,Y] 146),(64,.own xs 196),(65,.own ys 196),(17,.fN [.int true .i64 40]),(18,.fN [.int true .i64 40])]
def Qa (Y:SV) (ys:List SV):List (Nat × SB):=[(61,.own [.bool true false,.raw (.slice none 0 0)] 146),(63,.own [.bool true false,Y] 146),(65,.own ys 196),(17,.fN [.int true .i64 40]),(18,.fN [.int true .i64 40])]
noncomputable def Ra (Y:SV) (ys:List SV):Option bJ:=aJ (env (EF [] []) 22) Tryz.f102 true [] 400 zD (fun l=>look l (Qa Y ys)) 100 100
noncomputable def jR (h h2:List Bool) (X Y:SV) (xs ys:List SV):Option bJ:=aJ (env (EF h h2) 22) Tryz.f102 true [] 400 zD (fun l=>look l (SK X Y xs ys)) 100 100
def vR (cap:Nat):Prop:=∀ _z:Int,jR [] [] (.aH 64 true 0 0 cap) (.aH 65 true 0 0 6) (wc (0::0::0::List.replicate (cap-3) 0)) (wc [0,0,0,0,0,0])=some { val:=.ptr 61 true 0,wr:=[(61,.own [.bool true false,.aH 64 true 0 0 cap] 146)] }
theorem PH:vR 6:=fun _z=>by kernel_rfl
theorem PG:vR 7:=fun _z=>by kernel_rfl
theorem PF:vR 8:=fun _z=>by kernel_rfl
theorem PE:vR 9:=fun _z=>by kernel_rfl
theorem aLz {cap:Nat} (h:cap=6\/cap=7\/cap=8\/cap=9):vR cap:=by
 rcases h with rfl | rfl | rfl | rfl
 .exact PH
 .exact PG
 .exact PF
 .exact PE
def vQ (cap:Nat):Prop:=∀ y0:Int,jR [] [] (.aH 64 true 0 0 cap) (.aH 65 true 0 1 6) (wc (0::0::0::List.replicate (cap-3) 0)) (wc [y0,0,0,0,0,0])=some { val:=.ptr 61 true 0,wr:=[(61,.own [.bool true false,.aH 64 true 0 1 cap] 146),(64,.own (.int false .u64 y0 :: .int false .u64 0 :: .int false .u64 0 :: .int false .u64 0::wc (List.replicate (cap-4) 0)) 196)] }
theorem PD:vQ 6:=fun y0=>by kernel_rfl
theorem PC:vQ 7:=fun y0=>by kernel_rfl
theorem PB:vQ 8:=fun y0=>by kernel_rfl
theorem PA:vQ 9:=fun y0=>by kernel_rfl
theorem aLy {cap:Nat} (h:cap=6\/cap=7\/cap=8\/cap=9):vQ cap:=by
 rcases h with rfl | rfl | rfl | rfl
 .exact PD
 .exact PC
 .exact PB
 .exact PA
def vP (cap:Nat):Prop:=∀ y0 y1:Int,jR [] [] (.aH 64 true 0 0 cap) (.aH 65 true 0 2 6) (wc (0::0::0::List.replicate (cap-3) 0)) (wc [y0,y1,0,0,0,0])=some { val:=.ptr 61 true 0,wr:=[(61,.own [.bool true false,.aH 64 true 0 2 cap] 146),(64,.own (.int false .u64 y0 :: .int false .u64 y1 :: .int false .u64 0 :: .int false .u64 0::wc (List.replicate (cap-4) 0)) 196)] }
theorem OZ:vP 6:=fun y0 y1=>by kernel_rfl
theorem OY:vP 7:=fun y0 y1=>by kernel_rfl
theorem OX:vP 8:=fun y0 y1=>by kernel_rfl
theorem OW:vP 9:=fun y0 y1=>by kernel_rfl
theorem aLx {cap:Nat} (h:cap=6\/cap=7\/cap=8\/cap=9):vP cap:=by
 rcases h with rfl | rfl | rfl | rfl
 .exact OZ
 .exact OY
 .exact OX
 .exact OW
def vO (cap:Nat):Prop:=∀ x0:Int,jR [] [] (.aH 64 true 0 1 cap) (.aH 65 true 0 0 6) (wc (x0::0::0::List.replicate (cap-3) 0)) (wc [0,0,0,0,0,0])=some { val:=.ptr 61 true 0,wr:=[(61,.own [.bool true false,.aH 64 true 0 1 cap] 146),(64,.own (.int false .u64 x0 :: .int false .u64 0 :: .int false .u64 0 :: .int false .u64 0::wc (List.replicate (cap-4) 0)) 196)] }
theorem OV:vO 6:=fun x0=>by kernel_rfl
theorem OU:vO 7:=fun x0=>by kernel_rfl
theorem OT:vO 8:=fun x0=>by kernel_rfl
theorem OS:vO 9:=fun x0=>by kernel_rfl
theorem aLw {cap:Nat} (h:cap=6\/cap=7\/cap=8\/cap=9):vO cap:=by
 rcases h with rfl | rfl | rfl | rfl
 .exact OV
 .exact OU
 .exact OT
 .exact OS
def vN (cap:Nat):Prop:=∀ x0 y0:Int,jR [true,false] [] (.aH 64 true 0 1 cap) (.aH 65 true 0 1 6) (wc (x0::0::0::List.replicate (cap-3) 0)) (wc [y0,0,0,0,0,0])=some { bK:=([(M.ul (x0+y0+0)==0)=false,(M.uh (x0+y0+0)==0)=true,M.U x0,M.U y0,M.K 0,x0=x0,y0=y0,(0:Int)=0]:List Prop),val:=.ptr 61 true 0,wr:=[(61,.own [.bool true false,.aH 64 true 0 1 cap] 146),(64,.own (.int false .u64 (M.ul (x0+y0+0)) :: .int false .u64 (M.uh (x0+y0+0)) :: .int false .u64 0 :: .int false .u64 0::wc (List.replicate (cap-4) 0)) 196)] }
theorem OR:vN 6:=fun x0 y0=>by kernel_rfl
theorem OQ:vN 7:=fun x0 y0=>by kernel_rfl
theorem OP:vN 8:=fun x0 y0=>by kernel_rfl
theorem OO:vN 9:=fun x0 y0=>by kernel_rfl
theorem aLv {cap:Nat} (h:cap=6\/cap=7\/cap=8\/cap=9):vN cap:=by
 rcases h with rfl | rfl | rfl | rfl
 .exact OR
 .exact OQ
 .exact OP
 .exact OO
def vM (cap:Nat):Prop:=∀ x0 y0:Int,jR [false] [] (.aH 64 true 0 1 cap) (.aH 65 true 0 1 6) (wc (x0::0::0::List.replicate (cap-3) 0)) (wc [y0,0,0,0,0,0])=some { bK:=([(M.uh (x0+y0+0)==0)=false,M.U x0,M.U y0,M.K 0,x0=x0,y0=y0,(0:Int)=0]:List Prop),val:=.ptr 61 true 0,wr:=[(61,.own [.bool true false,.aH 64 true 0 2 cap] 146),(64,.own (.int false .u64 (M.ul (x0+y0+0)) :: .int false .u64 (M.uh (x0+y0+0)) :: .int false .u64 0 :: .int false .u64 0::wc (List.replicate (cap-4) 0)) 196)] }
theorem ON:vM 6:=fun x0 y0=>by kernel_rfl
theorem OM:vM 7:=fun x0 y0=>by kernel_rfl
theorem OL:vM 8:=fun x0 y0=>by kernel_rfl
theorem OK:vM 9:=fun x0 y0=>by kernel_rfl
theorem aLu {cap:Nat} (h:cap=6\/cap=7\/cap=8\/cap=9):vM cap:=by
 rcases h with rfl | rfl | rfl | rfl
 .exact ON
 .exact OM
 .exact OL
 .exact OK
def vL (cap:Nat):Prop:=∀ x0 y0 y1:Int,jR [false] [true] (.aH 64 true 0 1 cap) (.aH 65 true 0 2 6) (wc (x0::0::0::List.replicate (cap-3) 0)) (wc [y0,y1,0,0,0,0])=some { bK:=([(M.ul (y1+M.uh (y0+x0+0)+0)==0)=false,(M.uh (y1+M.uh (y0+x0+0)+0)==0)=true,M.U y1,M.U (M.uh (y0+x0+0)),M.K 0,y1=y1,M.uh (y0+x0+0)=M.uh (y0+x0+0),(0:Int)=0,M.U y0,M.U x0,M.K 0,y0=y0,x0=x0,(0:Int)=0]:List Prop),val:=.ptr 61 true 0,wr:=[(61,.own [.bool true false,.aH 64 true 0 2 cap] 146),(64,.own (.int false .u64 (M.ul (y0+x0+0)) :: .int false .u64 (M.ul (y1+M.uh (y0+x0+0)+0)) :: .int true .u64 0 :: .int false .u64 0::wc (List.replicate (cap-4) 0)) 196)] }
theorem OJ:vL 6:=fun x0 y0 y1=>by kernel_rfl
theorem OI:vL 7:=fun x0 y0 y1=>by kernel_rfl
theorem OH:vL 8:=fun x0 y0 y1=>by kernel_rfl
theorem OG:vL 9:=fun x0 y0 y1=>by kernel_rfl
theorem aLt {cap:Nat} (h:cap=6\/cap=7\/cap=8\/cap=9):vL cap:=by
 rcases h with rfl | rfl | rfl | rfl
 .exact OJ
 .exact OI
 .exact OH
 .exact OG
def vK (cap:Nat):Prop:=∀ x0 y0 y1:Int,jR [] [false] (.aH 64 true 0 1 cap) (.aH 65 true 0 2 6) (wc (x0::0::0::List.replicate (cap-3) 0)) (wc [y0,y1,0,0,0,0])=some { bK:=([(M.uh (y1+M.uh (y0+x0+0)+0)==0)=false,M.U y1,M.U (M.uh (y0+x0+0)),M.K 0,y1=y1,M.uh (y0+x0+0)=M.uh (y0+x0+0),(0:Int)=0,M.U y0,M.U x0,M.K 0,y0=y0,x0=x0,(0:Int)=0]:List Prop),val:=.ptr 61 true 0,wr:=[(61,.own [.bool true false,.aH 64 true 0 3 cap] 146),(64,.own (.int false .u64 (M.ul (y0+x0+0)) :: .int false .u64 (M.ul (y1+M.uh (y0+x0+0)+0)) :: .int true .u64 1 :: .int false .u64 0::wc (List.replicate (cap-4) 0)) 196)] }
theorem OF:vK 6:=fun x0 y0 y1=>by kernel_rfl
theorem OE:vK 7:=fun x0 y0 y1=>by kernel_rfl
theorem OD:vK 8:=fun x0 y0 y1=>by kernel_rfl
theorem OC:vK 9:=fun x0 y0 y1=>by kernel_rfl
theorem aLs {cap:Nat} (h:cap=6\/cap=7\/cap=8\/cap=9):vK cap:=by
 rcases h with rfl | rfl | rfl | rfl
 .exact OF
 .exact OE
 .exact OD
 .exact OC
def vJ (cap:Nat):Prop:=∀ x0 x1:Int,jR [] [] (.aH 64 true 0 2 cap) (.aH 65 true 0 0 6) (wc (x0::x1::0::List.replicate (cap-3) 0)) (wc [0,0,0,0,0,0])=some { val:=.ptr 61 true 0,wr:=[(61,.own [.bool true false,.aH 64 true 0 2 cap] 146),(64,.own (.int false .u64 x0 :: .int false .u64 x1 :: .int false .u64 0 :: .int false .u64 0::wc (List.replicate (cap-4) 0)) 196)] }
theorem OB:vJ 6:=fun x0 x1=>by kernel_rfl
theorem OA:vJ 7:=fun x0 x1=>by kernel_rfl
theorem NZ:vJ 8:=fun x0 x1=>by kernel_rfl
theorem NY:vJ 9:=fun x0 x1=>by kernel_rfl
theorem aLr {cap:Nat} (h:cap=6\/cap=7\/cap=8\/cap=9):vJ cap:=by
 rcases h with rfl | rfl | rfl | rfl
 .exact OB
 .exact OA
 .exact NZ
 .exact NY
def vI (cap:Nat):Prop:=∀ x0 x1 y0:Int,jR [false] [true] (.aH 64 true 0 2 cap) (.aH 65 true 0 1 6) (wc (x0::x1::0::List.replicate (cap-3) 0)) (wc [y0,0,0,0,0,0])=some { bK:=([(M.ul (x1+M.uh (x0+y0+0)+0)==0)=false,(M.uh (x1+M.uh (x0+y0+0)+0)==0)=true,M.U x1,M.U (M.uh (x0+y0+0)),M.K 0,x1=x1,M.uh (x0+y0+0)=M.uh (x0+y0+0),(0:Int)=0,M.U x0,M.U y0,M.K 0,x0=x0,y0=y0,(0:Int)=0]:List Prop),val:=.ptr 61 true 0,wr:=[(61,.own [.bool true false,.aH 64 true 0 2 cap] 146),(64,.own (.int false .u64 (M.ul (x0+y0+0)) :: .int false .u64 (M.ul (x1+M.uh (x0+y0+0)+0)) :: .int true .u64 0 :: .int false .u64 0::wc (List.replicate (cap-4) 0)) 196)] }
theorem NX:vI 6:=fun x0 x1 y0=>by kernel_rfl
theorem NW:vI 7:=fun x0 x1 y0=>by kernel_rfl
theorem NV:vI 8:=fun x0 x1 y0=>by kernel_rfl
theorem NU:vI 9:=fun x0 x1 y0=>by kernel_rfl
theorem aLq {cap:Nat} (h:cap=6\/cap=7\/cap=8\/cap=9):vI cap:=by
 rcases h with rfl | rfl | rfl | rfl
 .exact NX
 .exact NW
 .exact NV
 .exact NU
def vH (cap:Nat):Prop:=∀ x0 x1 y0:Int,jR [] [false] (.aH 64 true 0 2 cap) (.aH 65 true 0 1 6) (wc (x0::x1::0::List.replicate (cap-3) 0)) (wc [y0,0,0,0,0,0])=some { bK:=([(M.uh (x1+M.uh (x0+y0+0)+0)==0)=false,M.U x1,M.U (M.uh (x0+y0+0)),M.K 0,x1=x1,M.uh (x0+y0+0)=M.uh (x0+y0+0),(0:Int)=0,M.U x0,M.U y0,M.K 0,x0=x0,y0=y0,(0:Int)=0]:List Prop),val:=.ptr 61 true 0,wr:=[(61,.own [.bool true false,.aH 64 true 0 3 cap] 146),(64,.own (.int false .u64 (M.ul (x0+y0+0)) :: .int false .u64 (M.ul (x1+M.uh (x0+y0+0)+0)) :: .int true .u64 1 :: .int false .u64 0::wc (List.replicate (cap-4) 0)) 196)] }
theorem NT:vH 6:=fun x0 x1 y0=>by kernel_rfl
theorem NS:vH 7:=fun x0 x1 y0=>by kernel_rfl
theorem NR:vH 8:=fun x0 x1 y0=>by kernel_rfl
theorem NQ:vH 9:=fun x0 x1 y0=>by kernel_rfl
theorem aLp {cap:Nat} (h:cap=6\/cap=7\/cap=8\/cap=9):vH cap:=by
 rcases h with rfl | rfl | rfl | rfl
 .exact NT
 .exact NS
 .exact NR
 .exact NQ
def vG (cap:Nat):Prop:=∀ x0 x1 y0 y1:Int,jR [true,false] [] (.aH 64 true 0 2 cap) (.aH 65 true 0 2 6) (wc (x0::x1::0::List.replicate (cap-3) 0)) (wc [y0,y1,0,0,0,0])=some { bK:=([(M.ul (x1+y1+M.uh (x0+y0+0))==0)=false,(M.uh (x1+y1+M.uh (x0+y0+0))==0)=true,M.U x1,M.U y1,M.K (M.uh (x0+y0+0)),x1=x1,y1=y1,M.uh (x0+y0+0)=M.uh (x0+y0+0),M.U x0,M.U y0,M.K 0,x0=x0,y0=y0,(0:Int)=0]:List Prop),val:=.ptr 61 true 0,wr:=[(61,.own [.bool true false,.aH 64 true 0 2 cap] 146),(64,.own (.int false .u64 (M.ul (x0+y0+0)) :: .int false .u64 (M.ul (x1+y1+M.uh (x0+y0+0))) :: .int false .u64 (M.uh (x1+y1+M.uh (x0+y0+0))) :: .int false .u64 0::wc (List.replicate (cap-4) 0)) 196)] }
theorem NP:vG 6:=fun x0 x1 y0 y1=>by kernel_rfl
theorem NO:vG 7:=fun x0 x1 y0 y1=>by kernel_rfl
theorem NN:vG 8:=fun x0 x1 y0 y1=>by kernel_rfl
theorem NM:vG 9:=fun x0 x1 y0 y1=>by kernel_rfl
theorem aLo {cap:Nat} (h:cap=6\/cap=7\/cap=8\/cap=9):vG cap:=by
 rcases h with rfl | rfl | rfl | rfl
 .exact NP
 .exact NO
 .exact NN
 .exact NM
def vF (cap:Nat):Prop:=∀ x0 x1 y0 y1:Int,jR [false] [] (.aH 64 true 0 2 cap) (.aH 65 true 0 2 6) (wc (x0::x1::0::List.replicate (cap-3) 0)) (wc [y0,y1,0,0,0,0])=some { bK:=([(M.uh (x1+y1+M.uh (x0+y0+0))==0)=false,M.U x1,M.U y1,M.K (M.uh (x0+y0+0)),x1=x1,y1=y1,M.uh (x0+y0+0)=M.uh (x0+y0+0),M.U x0,M.U y0,M.K 0,x0=x0,y0=y0,(0:Int)=0]:List Prop),val:=.ptr 61 true 0,wr:=[(61,.own [.bool true false,.aH 64 true 0 3 cap] 146),(64,.own (.int false .u64 (M.ul (x0+y0+0)) :: .int false .u64 (M.ul (x1+y1+M.uh (x0+y0+0))) :: .int false .u64 (M.uh (x1+y1+M.uh (x0+y0+0))) :: .int false .u64 0::wc (List.replicate (cap-4) 0)) 196)] }
theorem NL:vF 6:=fun x0 x1 y0 y1=>by kernel_rfl
theorem NK:vF 7:=fun x0 x1 y0 y1=>by kernel_rfl
theorem NJ:vF 8:=fun x0 x1 y0 y1=>by kernel_rfl
theorem NI:vF 9:=fun x0 x1 y0 y1=>by kernel_rfl
theorem aLn {cap:Nat} (h:cap=6\/cap=7\/cap=8\/cap=9):vF cap:=by
 rcases h with rfl | rfl | rfl | rfl
 .exact NL
 .exact NK
 .exact NJ
 .exact NI
def vE (cap:Nat):Prop:=∀ x0 x1 x2:Int,jR [] [] (.aH 64 true 0 3 cap) (.aH 65 true 0 0 6) (wc (x0::x1::x2::List.replicate (cap-3) 0)) (wc [0,0,0,0,0,0])=some { val:=.ptr 61 true 0,wr:=[(61,.own [.bool true false,.aH 64 true 0 3 cap] 146),(64,.own (.int false .u64 x0 :: .int false .u64 x1 :: .int false .u64 x2 :: .int false .u64 0::wc (List.replicate (cap-4) 0)) 196)] }
theorem NH:vE 6:=fun x0 x1 x2=>by kernel_rfl
theorem NG:vE 7:=fun x0 x1 x2=>by kernel_rfl
theorem NF:vE 8:=fun x0 x1 x2=>by kernel_rfl
theorem ND:vE 9:=fun x0 x1 x2=>by kernel_rfl
theorem aLm {cap:Nat} (h:cap=6\/cap=7\/cap=8\/cap=9):vE cap:=by
 rcases h with rfl | rfl | rfl | rfl
 .exact NH
 .exact NG
 .exact NF
 .exact ND
def vD (cap:Nat):Prop:=∀ x0 x1 x2 y0:Int,jR [false] [true] (.aH 64 true 0 3 cap) (.aH 65 true 0 1 6) (wc (x0::x1::x2::List.replicate (cap-3) 0)) (wc [y0,0,0,0,0,0])=some { bK:=([(x2==0)=false,(M.uh (x1+M.uh (x0+y0+0)+0)==0)=true,M.U x1,M.U (M.uh (x0+y0+0)),M.K 0,x1=x1,M.uh (x0+y0+0)=M.uh (x0+y0+0),(0:Int)=0,M.U x0,M.U y0,M.K 0,x0=x0,y0=y0,(0:Int)=0]:List Prop),val:=.ptr 61 true 0,wr:=[(61,.own [.bool true false,.aH 64 true 0 3 cap] 146),(64,.own (.int false .u64 (M.ul (x0+y0+0)) :: .int false .u64 (M.ul (x1+M.uh (x0+y0+0)+0)) :: .int false .u64 x2 :: .int true .u64 0::wc (List.replicate (cap-4) 0)) 196)] }
theorem NC:vD 6:=fun x0 x1 x2 y0=>by kernel_rfl
theorem NB:vD 7:=fun x0 x1 x2 y0=>by kernel_rfl
theorem NA:vD 8:=fun x0 x1 x2 y0=>by kernel_rfl
theorem MZ:vD 9:=fun x0 x1 x2 y0=>by kernel_rfl
theorem aLl {cap:Nat} (h:cap=6\/cap=7\/cap=8\/cap=9):vD cap:=by
 rcases h with rfl | rfl | rfl | rfl
 .exact NC
 .exact NB
 .exact NA
 .exact MZ
def rE (cap:Nat):Prop:=∀ x0 x1 x2 y0:Int,jR [false] [false,true] (.aH 64 true 0 3 cap) (.aH 65 true 0 1 6) (wc (x0::x1::x2::List.replicate (cap-3) 0)) (wc [y0,0,0,0,0,0])=some { bK:=([(IntKind.u64.wrap (x2+1)==0)=false,(x2 != 18446744073709551615)=true,(M.uh (x1+M.uh (x0+y0+0)+0)==0)=false,M.U x1,M.U (M.uh (x0+y0+0)),M.K 0,x1=x1,M.uh (x0+y0+0)=M.uh (x0+y0+0),(0:Int)=0,M.U x0,M.U y0,M.K 0,x0=x0,y0=y0,(0:Int)=0]:List Prop),val:=.ptr 61 true 0,wr:=[(61,.own [.bool true false,.aH 64 true 0 3 cap] 146),(64,.own (.int false .u64 (M.ul (x0+y0+0)) :: .int false .u64 (M.ul (x1+M.uh (x0+y0+0)+0)) :: .int false .u64 (IntKind.u64.wrap (x2+1)) :: .int true .u64 0::wc (List.replicate (cap-4) 0)) 196)] }
theorem AU:rE 6:=fun x0 x1 x2 y0=>by kernel_rfl
theorem AT:rE 7:=fun x0 x1 x2 y0=>by kernel_rfl
theorem AS:rE 8:=fun x0 x1 x2 y0=>by kernel_rfl
theorem AR:rE 9:=fun x0 x1 x2 y0=>by kernel_rfl
theorem aBs {cap:Nat} (h:cap=6\/cap=7\/cap=8\/cap=9):rE cap:=by
 rcases h with rfl | rfl | rfl | rfl
 .exact AU
 .exact AT
 .exact AS
 .exact AR
def vC (cap:Nat):Prop:=∀ x0 x1 x2 y0 y1:Int,jR [false] [true] (.aH 64 true 0 3 cap) (.aH 65 true 0 2 6) (wc (x0::x1::x2::List.replicate (cap-3) 0)) (wc [y0,y1,0,0,0,0])=some { bK:=([(M.ul (x2+M.uh (x1+y1+M.uh (x0+y0+0))+0)==0)=false,(M.uh (x2+M.uh (x1+y1+M.uh (x0+y0+0))+0)==0)=true,M.U x2,M.U (M.uh (x1+y1+M.uh (x0+y0+0))),M.K 0,x2=x2,M.uh (x1+y1+M.uh (x0+y0+0))=M.uh (x1+y1+M.uh (x0+y0+0)),(0:Int)=0,M.U x1,M.U y1,M.K (M.uh (x0+y0+0)),x1=x1,y1=y1,M.uh (x0+y0+0)=M.uh (x0+y0+0),M.U x0,M.U y0,M.K 0,x0=x0,y0=y0,(0:Int)=0]:List Prop),val:=.ptr 61 true 0,wr:=[(61,.own [.bool true false,.aH 64 true 0 3 cap] 146),(64,.own (.int false .u64 (M.ul (x0+y0+0)) :: .int false .u64 (M.ul (x1+y1+M.uh (x0+y0+0))) :: .int false .u64 (M.ul (x2+M.uh (x1+y1+M.uh (x0+y0+0))+0)) :: .int true .u64 0::wc (List.replicate (cap-4) 0)) 196)] }
theorem MY:vC 6:=fun x0 x1 x2 y0 y1=>by kernel_rfl
theorem MX:vC 7:=fun x0 x1 x2 y0 y1=>by kernel_rfl
theorem MW:vC 8:=fun x0 x1 x2 y0 y1=>by kernel_rfl
theorem MV:vC 9:=fun x0 x1 x2 y0 y1=>by kernel_rfl
theorem aLk {cap:Nat} (h:cap=6\/cap=7\/cap=8\/cap=9):vC cap:=by
 rcases h with rfl | rfl | rfl | rfl
 .exact MY
 .exact MX
 .exact MW
 .exact MV
theorem aTz (_z:Int) :
 Ra (.aH 65 true 0 0 6) (wc [0,0,0,0,0,0]) =
 some {val:=.ptr 61 true 0,wr:=[(61,.own [.bool true false,.raw (Value.slice none 0 0)] 146)]}:=by kernel_rfl
theorem aTy (y0:Int) :
 Ra (.aH 65 true 0 1 6) (wc [y0,0,0,0,0,0]) =
 some {val:=.ptr 61 true 0,new:=[.own [.int false .u64 y0] 196],wr:=[(61,.own [.bool true false,.aH 100 true 0 1 1] 146)]}:=by kernel_rfl
theorem aTx (y0 y1:Int) :
 Ra (.aH 65 true 0 2 6) (wc [y0,y1,0,0,0,0]) =
 some {val:=.ptr 61 true 0,new:=[.own [.int false .u64 y0,.int false .u64 y1,.int true .u64 0,.int true .u64 0,.int true .u64 0,.int true .u64 0] 196],wr:=[(61,.own [.bool true false,.aH 100 true 0 2 6] 146)]}:=by kernel_rfl
end Go.Proofs.YticicdfijghigaaGreatDoor.Sx
