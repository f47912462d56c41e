/- math/big: (*Int).Add, a sum in its own words: the runs. -/
import Derived.Test.YticicdfijghigaaGreatDoorQI
open Go
set_option maxRecDepth 100000
namespace Go.Proofs.YticicdfijghigaaGreatDoor.Sx
noncomputable def EG (h h2:List Bool):Nat->Option Sum:=Fe (Fe Ye 186 h) 194 h2
theorem aCf (h h2:List Bool):∀ f S,EG h h2 f=some S->∀ Γ:Env,Γ.aR=aB->aH Tryz.prog Γ f S:=nS (nS pK 186 h) 194 h2
def zG:List SV:=[.ptr 61 true 0,.ptr 61 true 0,.ptr 63 true 0]
def SK (X Y:SV) (xs ys:List SV):List (Nat × SB):=[(61,.own [.bool true false,X] 146),(63,.own [.bool true false,Y] 146),(64,.own xs 196),(65,.own ys 196),(17,.fP [.int true .i64 40]),(18,.fP [.int true .i64 40])]
def Qf (Y:SV) (ys:List SV):List (Nat × SB):=[(61,.own [.bool true false,.raw (.slice none 0 0)] 146),(63,.own [.bool true false,Y] 146),(65,.own ys 196),(17,.fP [.int true .i64 40]),(18,.fP [.int true .i64 40])]
noncomputable def Rd (Y:SV) (ys:List SV):Option bJ:=aJ (env (EG [] []) 22) Tryz.f102 true [] 400 zG (fun l=>look l (Qf Y ys)) 100 100
noncomputable def jR (h h2:List Bool) (X Y:SV) (xs ys:List SV):Option bJ:=aJ (env (EG h h2) 22) Tryz.f102 true [] 400 zG (fun l=>look l (SK X Y xs ys)) 100 100
def vT (cap:Nat):Prop:=∀ _z:Int,jR [] [] (.aG 64 true 0 0 cap) (.aG 65 true 0 0 6) (wc (0::0::0::List.replicate (cap-3) 0)) (wc [0,0,0,0,0,0])=some { val:=.ptr 61 true 0,wr:=[(61,.own [.bool true false,.aG 64 true 0 0 cap] 146)] }
theorem PJ:vT 6:=fun _z=>by kernel_rfl
theorem PI:vT 7:=fun _z=>by kernel_rfl
theorem PH:vT 8:=fun _z=>by kernel_rfl
theorem PG:vT 9:=fun _z=>by kernel_rfl
theorem aLz {cap:Nat} (h:cap=6\/cap=7\/cap=8\/cap=9):vT cap:=by
 rcases h with rfl | rfl | rfl | rfl
 .exact PJ
 .exact PI
 .exact PH
 .exact PG
def vS (cap:Nat):Prop:=∀ y0:Int,jR [] [] (.aG 64 true 0 0 cap) (.aG 65 true 0 1 6) (wc (0::0::0::List.replicate (cap-3) 0)) (wc [y0,0,0,0,0,0])=some { val:=.ptr 61 true 0,wr:=[(61,.own [.bool true false,.aG 64 true 0 1 cap] 146),(64,.own (.int false .u64 y0 :: .int false .u64 0 :: .int false .u64 0 :: .int false .u64 0::wc (List.replicate (cap-4) 0)) 196)] }
theorem PF:vS 6:=fun y0=>by kernel_rfl
theorem PE:vS 7:=fun y0=>by kernel_rfl
theorem PD:vS 8:=fun y0=>by kernel_rfl
theorem PC:vS 9:=fun y0=>by kernel_rfl
theorem aLy {cap:Nat} (h:cap=6\/cap=7\/cap=8\/cap=9):vS cap:=by
 rcases h with rfl | rfl | rfl | rfl
 .exact PF
 .exact PE
 .exact PD
 .exact PC
def vR (cap:Nat):Prop:=∀ y0 y1:Int,jR [] [] (.aG 64 true 0 0 cap) (.aG 65 true 0 2 6) (wc (0::0::0::List.replicate (cap-3) 0)) (wc [y0,y1,0,0,0,0])=some { val:=.ptr 61 true 0,wr:=[(61,.own [.bool true false,.aG 64 true 0 2 cap] 146),(64,.own (.int false .u64 y0 :: .int false .u64 y1 :: .int false .u64 0 :: .int false .u64 0::wc (List.replicate (cap-4) 0)) 196)] }
theorem PB:vR 6:=fun y0 y1=>by kernel_rfl
theorem PA:vR 7:=fun y0 y1=>by kernel_rfl
theorem OZ:vR 8:=fun y0 y1=>by kernel_rfl
theorem OY:vR 9:=fun y0 y1=>by kernel_rfl
theorem aLx {cap:Nat} (h:cap=6\/cap=7\/cap=8\/cap=9):vR cap:=by
 rcases h with rfl | rfl | rfl | rfl
 .exact PB
 .exact PA
 .exact OZ
 .exact OY
def vQ (cap:Nat):Prop:=∀ x0:Int,jR [] [] (.aG 64 true 0 1 cap) (.aG 65 true 0 0 6) (wc (x0::0::0::List.replicate (cap-3) 0)) (wc [0,0,0,0,0,0])=some { val:=.ptr 61 true 0,wr:=[(61,.own [.bool true false,.aG 64 true 0 1 cap] 146),(64,.own (.int false .u64 x0 :: .int false .u64 0 :: .int false .u64 0 :: .int false .u64 0::wc (List.replicate (cap-4) 0)) 196)] }
theorem OX:vQ 6:=fun x0=>by kernel_rfl
theorem OW:vQ 7:=fun x0=>by kernel_rfl
theorem OV:vQ 8:=fun x0=>by kernel_rfl
theorem OU:vQ 9:=fun x0=>by kernel_rfl
theorem aLw {cap:Nat} (h:cap=6\/cap=7\/cap=8\/cap=9):vQ cap:=by
 rcases h with rfl | rfl | rfl | rfl
 .exact OX
 .exact OW
 .exact OV
 .exact OU
def vP (cap:Nat):Prop:=∀ x0 y0:Int,jR [true,false] [] (.aG 64 true 0 1 cap) (.aG 65 true 0 1 6) (wc (x0::0::0::List.replicate (cap-3) 0)) (wc [y0,0,0,0,0,0])=some { bM:=([(M.ul (x0+y0+0)==0)=false,(M.uh (x0+y0+0)==0)=true,M.U x0,M.U y0,M.K 0,x0=x0,y0=y0,(0:Int)=0]:List Prop),val:=.ptr 61 true 0,wr:=[(61,.own [.bool true false,.aG 64 true 0 1 cap] 146),(64,.own (.int false .u64 (M.ul (x0+y0+0)) :: .int false .u64 (M.uh (x0+y0+0)) :: .int false .u64 0 :: .int false .u64 0::wc (List.replicate (cap-4) 0)) 196)] }
theorem OT:vP 6:=fun x0 y0=>by kernel_rfl
theorem OS:vP 7:=fun x0 y0=>by kernel_rfl
theorem OR:vP 8:=fun x0 y0=>by kernel_rfl
theorem OQ:vP 9:=fun x0 y0=>by kernel_rfl
theorem aLv {cap:Nat} (h:cap=6\/cap=7\/cap=8\/cap=9):vP cap:=by
 rcases h with rfl | rfl | rfl | rfl
 .exact OT
 .exact OS
 .exact OR
 .exact OQ
def vO (cap:Nat):Prop:=∀ x0 y0:Int,jR [false] [] (.aG 64 true 0 1 cap) (.aG 65 true 0 1 6) (wc (x0::0::0::List.replicate (cap-3) 0)) (wc [y0,0,0,0,0,0])=some { bM:=([(M.uh (x0+y0+0)==0)=false,M.U x0,M.U y0,M.K 0,x0=x0,y0=y0,(0:Int)=0]:List Prop),val:=.ptr 61 true 0,wr:=[(61,.own [.bool true false,.aG 64 true 0 2 cap] 146),(64,.own (.int false .u64 (M.ul (x0+y0+0)) :: .int false .u64 (M.uh (x0+y0+0)) :: .int false .u64 0 :: .int false .u64 0::wc (List.replicate (cap-4) 0)) 196)] }
theorem OP:vO 6:=fun x0 y0=>by kernel_rfl
theorem OO:vO 7:=fun x0 y0=>by kernel_rfl
theorem ON:vO 8:=fun x0 y0=>by kernel_rfl
theorem OM:vO 9:=fun x0 y0=>by kernel_rfl
theorem aLu {cap:Nat} (h:cap=6\/cap=7\/cap=8\/cap=9):vO cap:=by
 rcases h with rfl | rfl | rfl | rfl
 .exact OP
 .exact OO
 .exact ON
 .exact OM
def vN (cap:Nat):Prop:=∀ x0 y0 y1:Int,jR [false] [true] (.aG 64 true 0 1 cap) (.aG 65 true 0 2 6) (wc (x0::0::0::List.replicate (cap-3) 0)) (wc [y0,y1,0,0,0,0])=some { bM:=([(M.ul (y1+M.uh (y0+x0+0)+0)==0)=false,(M.uh (y1+M.uh (y0+x0+0)+0)==0)=true,M.U y1,M.U (M.uh (y0+x0+0)),M.K 0,y1=y1,M.uh (y0+x0+0)=M.uh (y0+x0+0),(0:Int)=0,M.U y0,M.U x0,M.K 0,y0=y0,x0=x0,(0:Int)=0]:List Prop),val:=.ptr 61 true 0,wr:=[(61,.own [.bool true false,.aG 64 true 0 2 cap] 146),(64,.own (.int false .u64 (M.ul (y0+x0+0)) :: .int false .u64 (M.ul (y1+M.uh (y0+x0+0)+0)) :: .int true .u64 0 :: .int false .u64 0::wc (List.replicate (cap-4) 0)) 196)] }
theorem OL:vN 6:=fun x0 y0 y1=>by kernel_rfl
theorem OK:vN 7:=fun x0 y0 y1=>by kernel_rfl
theorem OJ:vN 8:=fun x0 y0 y1=>by kernel_rfl
theorem OI:vN 9:=fun x0 y0 y1=>by kernel_rfl
theorem aLt {cap:Nat} (h:cap=6\/cap=7\/cap=8\/cap=9):vN cap:=by
 rcases h with rfl | rfl | rfl | rfl
 .exact OL
 .exact OK
 .exact OJ
 .exact OI
def vM (cap:Nat):Prop:=∀ x0 y0 y1:Int,jR [] [false] (.aG 64 true 0 1 cap) (.aG 65 true 0 2 6) (wc (x0::0::0::List.replicate (cap-3) 0)) (wc [y0,y1,0,0,0,0])=some { bM:=([(M.uh (y1+M.uh (y0+x0+0)+0)==0)=false,M.U y1,M.U (M.uh (y0+x0+0)),M.K 0,y1=y1,M.uh (y0+x0+0)=M.uh (y0+x0+0),(0:Int)=0,M.U y0,M.U x0,M.K 0,y0=y0,x0=x0,(0:Int)=0]:List Prop),val:=.ptr 61 true 0,wr:=[(61,.own [.bool true false,.aG 64 true 0 3 cap] 146),(64,.own (.int false .u64 (M.ul (y0+x0+0)) :: .int false .u64 (M.ul (y1+M.uh (y0+x0+0)+0)) :: .int true .u64 1 :: .int false .u64 0::wc (List.replicate (cap-4) 0)) 196)] }
theorem OH:vM 6:=fun x0 y0 y1=>by kernel_rfl
theorem OG:vM 7:=fun x0 y0 y1=>by kernel_rfl
theorem OF:vM 8:=fun x0 y0 y1=>by kernel_rfl
theorem OE:vM 9:=fun x0 y0 y1=>by kernel_rfl
theorem aLs {cap:Nat} (h:cap=6\/cap=7\/cap=8\/cap=9):vM cap:=by
 rcases h with rfl | rfl | rfl | rfl
 .exact OH
 .exact OG
 .exact OF
 .exact OE
def vL (cap:Nat):Prop:=∀ x0 x1:Int,jR [] [] (.aG 64 true 0 2 cap) (.aG 65 true 0 0 6) (wc (x0::x1::0::List.replicate (cap-3) 0)) (wc [0,0,0,0,0,0])=some { val:=.ptr 61 true 0,wr:=[(61,.own [.bool true false,.aG 64 true 0 2 cap] 146),(64,.own (.int false .u64 x0 :: .int false .u64 x1 :: .int false .u64 0 :: .int false .u64 0::wc (List.replicate (cap-4) 0)) 196)] }
theorem OD:vL 6:=fun x0 x1=>by kernel_rfl
theorem OC:vL 7:=fun x0 x1=>by kernel_rfl
theorem OB:vL 8:=fun x0 x1=>by kernel_rfl
theorem OA:vL 9:=fun x0 x1=>by kernel_rfl
theorem aLr {cap:Nat} (h:cap=6\/cap=7\/cap=8\/cap=9):vL cap:=by
 rcases h with rfl | rfl | rfl | rfl
 .exact OD
 .exact OC
 .exact OB
 .exact OA
def vK (cap:Nat):Prop:=∀ x0 x1 y0:Int,jR [false] [true] (.aG 64 true 0 2 cap) (.aG 65 true 0 1 6) (wc (x0::x1::0::List.replicate (cap-3) 0)) (wc [y0,0,0,0,0,0])=some { bM:=([(M.ul (x1+M.uh (x0+y0+0)+0)==0)=false,(M.uh (x1+M.uh (x0+y0+0)+0)==0)=true,M.U x1,M.U (M.uh (x0+y0+0)),M.K 0,x1=x1,M.uh (x0+y0+0)=M.uh (x0+y0+0),(0:Int)=0,M.U x0,M.U y0,M.K 0,x0=x0,y0=y0,(0:Int)=0]:List Prop),val:=.ptr 61 true 0,wr:=[(61,.own [.bool true false,.aG 64 true 0 2 cap] 146),(64,.own (.int false .u64 (M.ul (x0+y0+0)) :: .int false .u64 (M.ul (x1+M.uh (x0+y0+0)+0)) :: .int true .u64 0 :: .int false .u64 0::wc (List.replicate (cap-4) 0)) 196)] }
theorem NZ:vK 6:=fun x0 x1 y0=>by kernel_rfl
theorem NY:vK 7:=fun x0 x1 y0=>by kernel_rfl
theorem NX:vK 8:=fun x0 x1 y0=>by kernel_rfl
theorem NW:vK 9:=fun x0 x1 y0=>by kernel_rfl
theorem aLq {cap:Nat} (h:cap=6\/cap=7\/cap=8\/cap=9):vK cap:=by
 rcases h with rfl | rfl | rfl | rfl
 .exact NZ
 .exact NY
 .exact NX
 .exact NW
def vJ (cap:Nat):Prop:=∀ x0 x1 y0:Int,jR [] [false] (.aG 64 true 0 2 cap) (.aG 65 true 0 1 6) (wc (x0::x1::0::List.replicate (cap-3) 0)) (wc [y0,0,0,0,0,0])=some { bM:=([(M.uh (x1+M.uh (x0+y0+0)+0)==0)=false,M.U x1,M.U (M.uh (x0+y0+0)),M.K 0,x1=x1,M.uh (x0+y0+0)=M.uh (x0+y0+0),(0:Int)=0,M.U x0,M.U y0,M.K 0,x0=x0,y0=y0,(0:Int)=0]:List Prop),val:=.ptr 61 true 0,wr:=[(61,.own [.bool true false,.aG 64 true 0 3 cap] 146),(64,.own (.int false .u64 (M.ul (x0+y0+0)) :: .int false .u64 (M.ul (x1+M.uh (x0+y0+0)+0)) :: .int true .u64 1 :: .int false .u64 0::wc (List.replicate (cap-4) 0)) 196)] }
theorem NV:vJ 6:=fun x0 x1 y0=>by kernel_rfl
theorem NU:vJ 7:=fun x0 x1 y0=>by kernel_rfl
theorem NT:vJ 8:=fun x0 x1 y0=>by kernel_rfl
theorem NS:vJ 9:=fun x0 x1 y0=>by kernel_rfl
theorem aLp {cap:Nat} (h:cap=6\/cap=7\/cap=8\/cap=9):vJ cap:=by
 rcases h with rfl | rfl | rfl | rfl
 .exact NV
 .exact NU
 .exact NT
 .exact NS
def vI (cap:Nat):Prop:=∀ x0 x1 y0 y1:Int,jR [true,false] [] (.aG 64 true 0 2 cap) (.aG 65 true 0 2 6) (wc (x0::x1::0::List.replicate (cap-3) 0)) (wc [y0,y1,0,0,0,0])=some { bM:=([(M.ul (x1+y1+M.uh (x0+y0+0))==0)=false,(M.uh (x1+y1+M.uh (x0+y0+0))==0)=true,M.U x1,M.U y1,M.K (M.uh (x0+y0+0)),x1=x1,y1=y1,M.uh (x0+y0+0)=M.uh (x0+y0+0),M.U x0,M.U y0,M.K 0,x0=x0,y0=y0,(0:Int)=0]:List Prop),val:=.ptr 61 true 0,wr:=[(61,.own [.bool true false,.aG 64 true 0 2 cap] 146),(64,.own (.int false .u64 (M.ul (x0+y0+0)) :: .int false .u64 (M.ul (x1+y1+M.uh (x0+y0+0))) :: .int false .u64 (M.uh (x1+y1+M.uh (x0+y0+0))) :: .int false .u64 0::wc (List.replicate (cap-4) 0)) 196)] }
theorem NR:vI 6:=fun x0 x1 y0 y1=>by kernel_rfl
theorem NQ:vI 7:=fun x0 x1 y0 y1=>by kernel_rfl
theorem NP:vI 8:=fun x0 x1 y0 y1=>by kernel_rfl
theorem NO:vI 9:=fun x0 x1 y0 y1=>by kernel_rfl
theorem aLo {cap:Nat} (h:cap=6\/cap=7\/cap=8\/cap=9):vI cap:=by
 rcases h with rfl | rfl | rfl | rfl
 .exact NR
 .exact NQ
 .exact NP
 .exact NO
def vH (cap:Nat):Prop:=∀ x0 x1 y0 y1:Int,jR [false] [] (.aG 64 true 0 2 cap) (.aG 65 true 0 2 6) (wc (x0::x1::0::List.replicate (cap-3) 0)) (wc [y0,y1,0,0,0,0])=some { bM:=([(M.uh (x1+y1+M.uh (x0+y0+0))==0)=false,M.U x1,M.U y1,M.K (M.uh (x0+y0+0)),x1=x1,y1=y1,M.uh (x0+y0+0)=M.uh (x0+y0+0),M.U x0,M.U y0,M.K 0,x0=x0,y0=y0,(0:Int)=0]:List Prop),val:=.ptr 61 true 0,wr:=[(61,.own [.bool true false,.aG 64 true 0 3 cap] 146),(64,.own (.int false .u64 (M.ul (x0+y0+0)) :: .int false .u64 (M.ul (x1+y1+M.uh (x0+y0+0))) :: .int false .u64 (M.uh (x1+y1+M.uh (x0+y0+0))) :: .int false .u64 0::wc (List.replicate (cap-4) 0)) 196)] }
theorem NN:vH 6:=fun x0 x1 y0 y1=>by kernel_rfl
theorem NM:vH 7:=fun x0 x1 y0 y1=>by kernel_rfl
theorem NL:vH 8:=fun x0 x1 y0 y1=>by kernel_rfl
theorem NK:vH 9:=fun x0 x1 y0 y1=>by kernel_rfl
theorem aLn {cap:Nat} (h:cap=6\/cap=7\/cap=8\/cap=9):vH cap:=by
 rcases h with rfl | rfl | rfl | rfl
 .exact NN
 .exact NM
 .exact NL
 .exact NK
def vG (cap:Nat):Prop:=∀ x0 x1 x2:Int,jR [] [] (.aG 64 true 0 3 cap) (.aG 65 true 0 0 6) (wc (x0::x1::x2::List.replicate (cap-3) 0)) (wc [0,0,0,0,0,0])=some { val:=.ptr 61 true 0,wr:=[(61,.own [.bool true false,.aG 64 true 0 3 cap] 146),(64,.own (.int false .u64 x0 :: .int false .u64 x1 :: .int false .u64 x2 :: .int false .u64 0::wc (List.replicate (cap-4) 0)) 196)] }
theorem NJ:vG 6:=fun x0 x1 x2=>by kernel_rfl
theorem NI:vG 7:=fun x0 x1 x2=>by kernel_rfl
theorem NH:vG 8:=fun x0 x1 x2=>by kernel_rfl
theorem NG:vG 9:=fun x0 x1 x2=>by kernel_rfl
theorem aLm {cap:Nat} (h:cap=6\/cap=7\/cap=8\/cap=9):vG cap:=by
 rcases h with rfl | rfl | rfl | rfl
 .exact NJ
 .exact NI
 .exact NH
 .exact NG
def vF (cap:Nat):Prop:=∀ x0 x1 x2 y0:Int,jR [false] [true] (.aG 64 true 0 3 cap) (.aG 65 true 0 1 6) (wc (x0::x1::x2::List.replicate (cap-3) 0)) (wc [y0,0,0,0,0,0])=some { bM:=([(x2==0)=false,(M.uh (x1+M.uh (x0+y0+0)+0)==0)=true,M.U x1,M.U (M.uh (x0+y0+0)),M.K 0,x1=x1,M.uh (x0+y0+0)=M.uh (x0+y0+0),(0:Int)=0,M.U x0,M.U y0,M.K 0,x0=x0,y0=y0,(0:Int)=0]:List Prop),val:=.ptr 61 true 0,wr:=[(61,.own [.bool true false,.aG 64 true 0 3 cap] 146),(64,.own (.int false .u64 (M.ul (x0+y0+0)) :: .int false .u64 (M.ul (x1+M.uh (x0+y0+0)+0)) :: .int false .u64 x2 :: .int true .u64 0::wc (List.replicate (cap-4) 0)) 196)] }
theorem NF:vF 6:=fun x0 x1 x2 y0=>by kernel_rfl
theorem ND:vF 7:=fun x0 x1 x2 y0=>by kernel_rfl
theorem NC:vF 8:=fun x0 x1 x2 y0=>by kernel_rfl
theorem NB:vF 9:=fun x0 x1 x2 y0=>by kernel_rfl
theorem aLl {cap:Nat} (h:cap=6\/cap=7\/cap=8\/cap=9):vF cap:=by
 rcases h with rfl | rfl | rfl | rfl
 .exact NF
 .exact ND
 .exact NC
 .exact NB
def rD (cap:Nat):Prop:=∀ x0 x1 x2 y0:Int,jR [false] [false,true] (.aG 64 true 0 3 cap) (.aG 65 true 0 1 6) (wc (x0::x1::x2::List.replicate (cap-3) 0)) (wc [y0,0,0,0,0,0])=some { bM:=([(IntKind.u64.wrap (x2+1)==0)=false,(x2 != 18446744073709551615)=true,(M.uh (x1+M.uh (x0+y0+0)+0)==0)=false,M.U x1,M.U (M.uh (x0+y0+0)),M.K 0,x1=x1,M.uh (x0+y0+0)=M.uh (x0+y0+0),(0:Int)=0,M.U x0,M.U y0,M.K 0,x0=x0,y0=y0,(0:Int)=0]:List Prop),val:=.ptr 61 true 0,wr:=[(61,.own [.bool true false,.aG 64 true 0 3 cap] 146),(64,.own (.int false .u64 (M.ul (x0+y0+0)) :: .int false .u64 (M.ul (x1+M.uh (x0+y0+0)+0)) :: .int false .u64 (IntKind.u64.wrap (x2+1)) :: .int true .u64 0::wc (List.replicate (cap-4) 0)) 196)] }
theorem AW:rD 6:=fun x0 x1 x2 y0=>by kernel_rfl
theorem AV:rD 7:=fun x0 x1 x2 y0=>by kernel_rfl
theorem AU:rD 8:=fun x0 x1 x2 y0=>by kernel_rfl
theorem AT:rD 9:=fun x0 x1 x2 y0=>by kernel_rfl
theorem aBs {cap:Nat} (h:cap=6\/cap=7\/cap=8\/cap=9):rD cap:=by
 rcases h with rfl | rfl | rfl | rfl
 .exact AW
 .exact AV
 .exact AU
 .exact AT
def vE (cap:Nat):Prop:=∀ x0 x1 x2 y0 y1:Int,jR [false] [true] (.aG 64 true 0 3 cap) (.aG 65 true 0 2 6) (wc (x0::x1::x2::List.replicate (cap-3) 0)) (wc [y0,y1,0,0,0,0])=some { bM:=([(M.ul (x2+M.uh (x1+y1+M.uh (x0+y0+0))+0)==0)=false,(M.uh (x2+M.uh (x1+y1+M.uh (x0+y0+0))+0)==0)=true,M.U x2,M.U (M.uh (x1+y1+M.uh (x0+y0+0))),M.K 0,x2=x2,M.uh (x1+y1+M.uh (x0+y0+0))=M.uh (x1+y1+M.uh (x0+y0+0)),(0:Int)=0,M.U x1,M.U y1,M.K (M.uh (x0+y0+0)),x1=x1,y1=y1,M.uh (x0+y0+0)=M.uh (x0+y0+0),M.U x0,M.U y0,M.K 0,x0=x0,y0=y0,(0:Int)=0]:List Prop),val:=.ptr 61 true 0,wr:=[(61,.own [.bool true false,.aG 64 true 0 3 cap] 146),(64,.own (.int false .u64 (M.ul (x0+y0+0)) :: .int false .u64 (M.ul (x1+y1+M.uh (x0+y0+0))) :: .int false .u64 (M.ul (x2+M.uh (x1+y1+M.uh (x0+y0+0))+0)) :: .int true .u64 0::wc (List.replicate (cap-4) 0)) 196)] }
theorem NA:vE 6:=fun x0 x1 x2 y0 y1=>by kernel_rfl
theorem MZ:vE 7:=fun x0 x1 x2 y0 y1=>by kernel_rfl
theorem MY:vE 8:=fun x0 x1 x2 y0 y1=>by kernel_rfl
theorem MX:vE 9:=fun x0 x1 x2 y0 y1=>by kernel_rfl
theorem aLk {cap:Nat} (h:cap=6\/cap=7\/cap=8\/cap=9):vE cap:=by
 rcases h with rfl | rfl | rfl | rfl
 .exact NA
 .exact MZ
 .exact MY
 .exact MX
theorem aUc (_z:Int) :
 Rd (.aG 65 true 0 0 6) (wc [0,0,0,0,0,0]) =
 some {val:=.ptr 61 true 0,wr:=[(61,.own [.bool true false,.raw (Value.slice none 0 0)] 146)]}:=by kernel_rfl
theorem aUb (y0:Int) :
 Rd (.aG 65 true 0 1 6) (wc [y0,0,0,0,0,0]) =
 some {val:=.ptr 61 true 0,new:=[.own [.int false .u64 y0] 196],wr:=[(61,.own [.bool true false,.aG 100 true 0 1 1] 146)]}:=by kernel_rfl
theorem aUa (y0 y1:Int) :
 Rd (.aG 65 true 0 2 6) (wc [y0,y1,0,0,0,0]) =
 some {val:=.ptr 61 true 0,new:=[.own [.int false .u64 y0,.int false .u64 y1,.int true .u64 0,.int true .u64 0,.int true .u64 0,.int true .u64 0] 196],wr:=[(61,.own [.bool true false,.aG 100 true 0 2 6] 146)]}:=by kernel_rfl
end Go.Proofs.YticicdfijghigaaGreatDoor.Sx
