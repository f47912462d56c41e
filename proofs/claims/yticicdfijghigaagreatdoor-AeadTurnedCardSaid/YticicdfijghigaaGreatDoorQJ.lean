/- math/big: (*Int).Add, a sum in its own words: the runs. -/
import Derived.Test.YticicdfijghigaaGreatDoorQI
open Go
set_option maxRecDepth 100000
namespace Go.Proofs.YticicdfijghigaaGreatDoor.Sx
noncomputable def HC (h h2:List Bool):Nat->Option Sum:=Hf (Hf AQ 186 h) 194 h2
theorem aEz (h h2:List Bool):∀ f S,HC h h2 f=some S->∀ Γ:Env,Γ.aT=aB->aI Tryz.prog Γ f S:=oH (oH qH 186 h) 194 h2
def Av:List SV:=[.ptr 61 true 0,.ptr 61 true 0,.ptr 63 true 0]
def VO (X Y:SV) (xs ys:List SV):List (Nat × SB):=[(61,.own [.bool true false,X] 146),(63,.own [.bool true false,Y] 146),(64,.own xs 196),(65,.own ys 196),(17,.fS [.int true .i64 40]),(18,.fS [.int true .i64 40])]
def So (Y:SV) (ys:List SV):List (Nat × SB):=[(61,.own [.bool true false,.raw (.slice none 0 0)] 146),(63,.own [.bool true false,Y] 146),(65,.own ys 196),(17,.fS [.int true .i64 40]),(18,.fS [.int true .i64 40])]
noncomputable def Tt (Y:SV) (ys:List SV):Option bL:=aF (env (HC [] []) 22) Tryz.f102 true [] 400 Av (fun l=>look l (So Y ys)) 100 100
noncomputable def kD (h h2:List Bool) (X Y:SV) (xs ys:List SV):Option bL:=aF (env (HC h h2) 22) Tryz.f102 true [] 400 Av (fun l=>look l (VO X Y xs ys)) 100 100
def wZ (cap:Nat):Prop:=∀ _z:Int,kD [] [] (.aJ 64 true 0 0 cap) (.aJ 65 true 0 0 6) (wc (0::0::0::List.replicate (cap-3) 0)) (wc [0,0,0,0,0,0])=some { val:=.ptr 61 true 0,wr:=[(61,.own [.bool true false,.aJ 64 true 0 0 cap] 146)] }
theorem SE:wZ 6:=fun _z=>by kernel_rfl
theorem SD:wZ 7:=fun _z=>by kernel_rfl
theorem SC:wZ 8:=fun _z=>by kernel_rfl
theorem SA:wZ 9:=fun _z=>by kernel_rfl
theorem aPc {cap:Nat} (h:cap=6\/cap=7\/cap=8\/cap=9):wZ cap:=by
 rcases h with rfl | rfl | rfl | rfl
 .exact SE
 .exact SD
 .exact SC
 .exact SA
def wY (cap:Nat):Prop:=∀ y0:Int,kD [] [] (.aJ 64 true 0 0 cap) (.aJ 65 true 0 1 6) (wc (0::0::0::List.replicate (cap-3) 0)) (wc [y0,0,0,0,0,0])=some { val:=.ptr 61 true 0,wr:=[(61,.own [.bool true false,.aJ 64 true 0 1 cap] 146),(64,.own (.int false .u64 y0 :: .int false .u64 0 :: .int false .u64 0 :: .int false .u64 0::wc (List.replicate (cap-4) 0)) 196)] }
theorem RZ:wY 6:=fun y0=>by kernel_rfl
theorem RY:wY 7:=fun y0=>by kernel_rfl
theorem RX:wY 8:=fun y0=>by kernel_rfl
theorem RW:wY 9:=fun y0=>by kernel_rfl
theorem aPb {cap:Nat} (h:cap=6\/cap=7\/cap=8\/cap=9):wY cap:=by
 rcases h with rfl | rfl | rfl | rfl
 .exact RZ
 .exact RY
 .exact RX
 .exact RW
def wX (cap:Nat):Prop:=∀ y0 y1:Int,kD [] [] (.aJ 64 true 0 0 cap) (.aJ 65 true 0 2 6) (wc (0::0::0::List.replicate (cap-3) 0)) (wc [y0,y1,0,0,0,0])=some { val:=.ptr 61 true 0,wr:=[(61,.own [.bool true false,.aJ 64 true 0 2 cap] 146),(64,.own (.int false .u64 y0 :: .int false .u64 y1 :: .int false .u64 0 :: .int false .u64 0::wc (List.replicate (cap-4) 0)) 196)] }
theorem RV:wX 6:=fun y0 y1=>by kernel_rfl
theorem RU:wX 7:=fun y0 y1=>by kernel_rfl
theorem RT:wX 8:=fun y0 y1=>by kernel_rfl
theorem RS:wX 9:=fun y0 y1=>by kernel_rfl
theorem aPa {cap:Nat} (h:cap=6\/cap=7\/cap=8\/cap=9):wX cap:=by
 rcases h with rfl | rfl | rfl | rfl
 .exact RV
 .exact RU
 .exact RT
 .exact RS
def wW (cap:Nat):Prop:=∀ x0:Int,kD [] [] (.aJ 64 true 0 1 cap) (.aJ 65 true 0 0 6) (wc (x0::0::0::List.replicate (cap-3) 0)) (wc [0,0,0,0,0,0])=some { val:=.ptr 61 true 0,wr:=[(61,.own [.bool true false,.aJ 64 true 0 1 cap] 146),(64,.own (.int false .u64 x0 :: .int false .u64 0 :: .int false .u64 0 :: .int false .u64 0::wc (List.replicate (cap-4) 0)) 196)] }
theorem RR:wW 6:=fun x0=>by kernel_rfl
theorem RQ:wW 7:=fun x0=>by kernel_rfl
theorem RP:wW 8:=fun x0=>by kernel_rfl
theorem RO:wW 9:=fun x0=>by kernel_rfl
theorem aOz {cap:Nat} (h:cap=6\/cap=7\/cap=8\/cap=9):wW cap:=by
 rcases h with rfl | rfl | rfl | rfl
 .exact RR
 .exact RQ
 .exact RP
 .exact RO
def wV (cap:Nat):Prop:=∀ x0 y0:Int,kD [true,false] [] (.aJ 64 true 0 1 cap) (.aJ 65 true 0 1 6) (wc (x0::0::0::List.replicate (cap-3) 0)) (wc [y0,0,0,0,0,0])=some { bK:=([(M.ul (x0+y0+0)==0)=false,(M.uh (x0+y0+0)==0)=true,M.U x0,M.U y0,M.K 0,x0=x0,y0=y0,(0:Int)=0]:List Prop),val:=.ptr 61 true 0,wr:=[(61,.own [.bool true false,.aJ 64 true 0 1 cap] 146),(64,.own (.int false .u64 (M.ul (x0+y0+0)) :: .int false .u64 (M.uh (x0+y0+0)) :: .int false .u64 0 :: .int false .u64 0::wc (List.replicate (cap-4) 0)) 196)] }
theorem RM:wV 6:=fun x0 y0=>by kernel_rfl
theorem RL:wV 7:=fun x0 y0=>by kernel_rfl
theorem RK:wV 8:=fun x0 y0=>by kernel_rfl
theorem RJ:wV 9:=fun x0 y0=>by kernel_rfl
theorem aOy {cap:Nat} (h:cap=6\/cap=7\/cap=8\/cap=9):wV cap:=by
 rcases h with rfl | rfl | rfl | rfl
 .exact RM
 .exact RL
 .exact RK
 .exact RJ
def wU (cap:Nat):Prop:=∀ x0 y0:Int,kD [false] [] (.aJ 64 true 0 1 cap) (.aJ 65 true 0 1 6) (wc (x0::0::0::List.replicate (cap-3) 0)) (wc [y0,0,0,0,0,0])=some { bK:=([(M.uh (x0+y0+0)==0)=false,M.U x0,M.U y0,M.K 0,x0=x0,y0=y0,(0:Int)=0]:List Prop),val:=.ptr 61 true 0,wr:=[(61,.own [.bool true false,.aJ 64 true 0 2 cap] 146),(64,.own (.int false .u64 (M.ul (x0+y0+0)) :: .int false .u64 (M.uh (x0+y0+0)) :: .int false .u64 0 :: .int false .u64 0::wc (List.replicate (cap-4) 0)) 196)] }
theorem RI:wU 6:=fun x0 y0=>by kernel_rfl
theorem RH:wU 7:=fun x0 y0=>by kernel_rfl
theorem RG:wU 8:=fun x0 y0=>by kernel_rfl
theorem RF:wU 9:=fun x0 y0=>by kernel_rfl
theorem aOx {cap:Nat} (h:cap=6\/cap=7\/cap=8\/cap=9):wU cap:=by
 rcases h with rfl | rfl | rfl | rfl
 .exact RI
 .exact RH
 .exact RG
 .exact RF
def wT (cap:Nat):Prop:=∀ x0 y0 y1:Int,kD [false] [true] (.aJ 64 true 0 1 cap) (.aJ 65 true 0 2 6) (wc (x0::0::0::List.replicate (cap-3) 0)) (wc [y0,y1,0,0,0,0])=some { bK:=([(M.ul (y1+M.uh (y0+x0+0)+0)==0)=false,(M.uh (y1+M.uh (y0+x0+0)+0)==0)=true,M.U y1,M.U (M.uh (y0+x0+0)),M.K 0,y1=y1,M.uh (y0+x0+0)=M.uh (y0+x0+0),(0:Int)=0,M.U y0,M.U x0,M.K 0,y0=y0,x0=x0,(0:Int)=0]:List Prop),val:=.ptr 61 true 0,wr:=[(61,.own [.bool true false,.aJ 64 true 0 2 cap] 146),(64,.own (.int false .u64 (M.ul (y0+x0+0)) :: .int false .u64 (M.ul (y1+M.uh (y0+x0+0)+0)) :: .int true .u64 0 :: .int false .u64 0::wc (List.replicate (cap-4) 0)) 196)] }
theorem RE:wT 6:=fun x0 y0 y1=>by kernel_rfl
theorem RD:wT 7:=fun x0 y0 y1=>by kernel_rfl
theorem RC:wT 8:=fun x0 y0 y1=>by kernel_rfl
theorem RB:wT 9:=fun x0 y0 y1=>by kernel_rfl
theorem aOw {cap:Nat} (h:cap=6\/cap=7\/cap=8\/cap=9):wT cap:=by
 rcases h with rfl | rfl | rfl | rfl
 .exact RE
 .exact RD
 .exact RC
 .exact RB
def wS (cap:Nat):Prop:=∀ x0 y0 y1:Int,kD [] [false] (.aJ 64 true 0 1 cap) (.aJ 65 true 0 2 6) (wc (x0::0::0::List.replicate (cap-3) 0)) (wc [y0,y1,0,0,0,0])=some { bK:=([(M.uh (y1+M.uh (y0+x0+0)+0)==0)=false,M.U y1,M.U (M.uh (y0+x0+0)),M.K 0,y1=y1,M.uh (y0+x0+0)=M.uh (y0+x0+0),(0:Int)=0,M.U y0,M.U x0,M.K 0,y0=y0,x0=x0,(0:Int)=0]:List Prop),val:=.ptr 61 true 0,wr:=[(61,.own [.bool true false,.aJ 64 true 0 3 cap] 146),(64,.own (.int false .u64 (M.ul (y0+x0+0)) :: .int false .u64 (M.ul (y1+M.uh (y0+x0+0)+0)) :: .int true .u64 1 :: .int false .u64 0::wc (List.replicate (cap-4) 0)) 196)] }
theorem QZ:wS 6:=fun x0 y0 y1=>by kernel_rfl
theorem QY:wS 7:=fun x0 y0 y1=>by kernel_rfl
theorem QX:wS 8:=fun x0 y0 y1=>by kernel_rfl
theorem QW:wS 9:=fun x0 y0 y1=>by kernel_rfl
theorem aOv {cap:Nat} (h:cap=6\/cap=7\/cap=8\/cap=9):wS cap:=by
 rcases h with rfl | rfl | rfl | rfl
 .exact QZ
 .exact QY
 .exact QX
 .exact QW
def wR (cap:Nat):Prop:=∀ x0 x1:Int,kD [] [] (.aJ 64 true 0 2 cap) (.aJ 65 true 0 0 6) (wc (x0::x1::0::List.replicate (cap-3) 0)) (wc [0,0,0,0,0,0])=some { val:=.ptr 61 true 0,wr:=[(61,.own [.bool true false,.aJ 64 true 0 2 cap] 146),(64,.own (.int false .u64 x0 :: .int false .u64 x1 :: .int false .u64 0 :: .int false .u64 0::wc (List.replicate (cap-4) 0)) 196)] }
theorem QV:wR 6:=fun x0 x1=>by kernel_rfl
theorem QU:wR 7:=fun x0 x1=>by kernel_rfl
theorem QT:wR 8:=fun x0 x1=>by kernel_rfl
theorem QS:wR 9:=fun x0 x1=>by kernel_rfl
theorem aOu {cap:Nat} (h:cap=6\/cap=7\/cap=8\/cap=9):wR cap:=by
 rcases h with rfl | rfl | rfl | rfl
 .exact QV
 .exact QU
 .exact QT
 .exact QS
def wQ (cap:Nat):Prop:=∀ x0 x1 y0:Int,kD [false] [true] (.aJ 64 true 0 2 cap) (.aJ 65 true 0 1 6) (wc (x0::x1::0::List.replicate (cap-3) 0)) (wc [y0,0,0,0,0,0])=some { bK:=([(M.ul (x1+M.uh (x0+y0+0)+0)==0)=false,(M.uh (x1+M.uh (x0+y0+0)+0)==0)=true,M.U x1,M.U (M.uh (x0+y0+0)),M.K 0,x1=x1,M.uh (x0+y0+0)=M.uh (x0+y0+0),(0:Int)=0,M.U x0,M.U y0,M.K 0,x0=x0,y0=y0,(0:Int)=0]:List Prop),val:=.ptr 61 true 0,wr:=[(61,.own [.bool true false,.aJ 64 true 0 2 cap] 146),(64,.own (.int false .u64 (M.ul (x0+y0+0)) :: .int false .u64 (M.ul (x1+M.uh (x0+y0+0)+0)) :: .int true .u64 0 :: .int false .u64 0::wc (List.replicate (cap-4) 0)) 196)] }
theorem QR:wQ 6:=fun x0 x1 y0=>by kernel_rfl
theorem QQ:wQ 7:=fun x0 x1 y0=>by kernel_rfl
theorem QP:wQ 8:=fun x0 x1 y0=>by kernel_rfl
theorem QO:wQ 9:=fun x0 x1 y0=>by kernel_rfl
theorem aOt {cap:Nat} (h:cap=6\/cap=7\/cap=8\/cap=9):wQ cap:=by
 rcases h with rfl | rfl | rfl | rfl
 .exact QR
 .exact QQ
 .exact QP
 .exact QO
def wP (cap:Nat):Prop:=∀ x0 x1 y0:Int,kD [] [false] (.aJ 64 true 0 2 cap) (.aJ 65 true 0 1 6) (wc (x0::x1::0::List.replicate (cap-3) 0)) (wc [y0,0,0,0,0,0])=some { bK:=([(M.uh (x1+M.uh (x0+y0+0)+0)==0)=false,M.U x1,M.U (M.uh (x0+y0+0)),M.K 0,x1=x1,M.uh (x0+y0+0)=M.uh (x0+y0+0),(0:Int)=0,M.U x0,M.U y0,M.K 0,x0=x0,y0=y0,(0:Int)=0]:List Prop),val:=.ptr 61 true 0,wr:=[(61,.own [.bool true false,.aJ 64 true 0 3 cap] 146),(64,.own (.int false .u64 (M.ul (x0+y0+0)) :: .int false .u64 (M.ul (x1+M.uh (x0+y0+0)+0)) :: .int true .u64 1 :: .int false .u64 0::wc (List.replicate (cap-4) 0)) 196)] }
theorem QN:wP 6:=fun x0 x1 y0=>by kernel_rfl
theorem QM:wP 7:=fun x0 x1 y0=>by kernel_rfl
theorem QL:wP 8:=fun x0 x1 y0=>by kernel_rfl
theorem QK:wP 9:=fun x0 x1 y0=>by kernel_rfl
theorem aOs {cap:Nat} (h:cap=6\/cap=7\/cap=8\/cap=9):wP cap:=by
 rcases h with rfl | rfl | rfl | rfl
 .exact QN
 .exact QM
 .exact QL
 .exact QK
def wO (cap:Nat):Prop:=∀ x0 x1 y0 y1:Int,kD [true,false] [] (.aJ 64 true 0 2 cap) (.aJ 65 true 0 2 6) (wc (x0::x1::0::List.replicate (cap-3) 0)) (wc [y0,y1,0,0,0,0])=some { bK:=([(M.ul (x1+y1+M.uh (x0+y0+0))==0)=false,(M.uh (x1+y1+M.uh (x0+y0+0))==0)=true,M.U x1,M.U y1,M.K (M.uh (x0+y0+0)),x1=x1,y1=y1,M.uh (x0+y0+0)=M.uh (x0+y0+0),M.U x0,M.U y0,M.K 0,x0=x0,y0=y0,(0:Int)=0]:List Prop),val:=.ptr 61 true 0,wr:=[(61,.own [.bool true false,.aJ 64 true 0 2 cap] 146),(64,.own (.int false .u64 (M.ul (x0+y0+0)) :: .int false .u64 (M.ul (x1+y1+M.uh (x0+y0+0))) :: .int false .u64 (M.uh (x1+y1+M.uh (x0+y0+0))) :: .int false .u64 0::wc (List.replicate (cap-4) 0)) 196)] }
theorem QJ:wO 6:=fun x0 x1 y0 y1=>by kernel_rfl
theorem QI:wO 7:=fun x0 x1 y0 y1=>by kernel_rfl
theorem QH:wO 8:=fun x0 x1 y0 y1=>by kernel_rfl
theorem QG:wO 9:=fun x0 x1 y0 y1=>by kernel_rfl
theorem aOr {cap:Nat} (h:cap=6\/cap=7\/cap=8\/cap=9):wO cap:=by
 rcases h with rfl | rfl | rfl | rfl
 .exact QJ
 .exact QI
 .exact QH
 .exact QG
def wM (cap:Nat):Prop:=∀ x0 x1 y0 y1:Int,kD [false] [] (.aJ 64 true 0 2 cap) (.aJ 65 true 0 2 6) (wc (x0::x1::0::List.replicate (cap-3) 0)) (wc [y0,y1,0,0,0,0])=some { bK:=([(M.uh (x1+y1+M.uh (x0+y0+0))==0)=false,M.U x1,M.U y1,M.K (M.uh (x0+y0+0)),x1=x1,y1=y1,M.uh (x0+y0+0)=M.uh (x0+y0+0),M.U x0,M.U y0,M.K 0,x0=x0,y0=y0,(0:Int)=0]:List Prop),val:=.ptr 61 true 0,wr:=[(61,.own [.bool true false,.aJ 64 true 0 3 cap] 146),(64,.own (.int false .u64 (M.ul (x0+y0+0)) :: .int false .u64 (M.ul (x1+y1+M.uh (x0+y0+0))) :: .int false .u64 (M.uh (x1+y1+M.uh (x0+y0+0))) :: .int false .u64 0::wc (List.replicate (cap-4) 0)) 196)] }
theorem QF:wM 6:=fun x0 x1 y0 y1=>by kernel_rfl
theorem QE:wM 7:=fun x0 x1 y0 y1=>by kernel_rfl
theorem QD:wM 8:=fun x0 x1 y0 y1=>by kernel_rfl
theorem QC:wM 9:=fun x0 x1 y0 y1=>by kernel_rfl
theorem aOq {cap:Nat} (h:cap=6\/cap=7\/cap=8\/cap=9):wM cap:=by
 rcases h with rfl | rfl | rfl | rfl
 .exact QF
 .exact QE
 .exact QD
 .exact QC
def wL (cap:Nat):Prop:=∀ x0 x1 x2:Int,kD [] [] (.aJ 64 true 0 3 cap) (.aJ 65 true 0 0 6) (wc (x0::x1::x2::List.replicate (cap-3) 0)) (wc [0,0,0,0,0,0])=some { val:=.ptr 61 true 0,wr:=[(61,.own [.bool true false,.aJ 64 true 0 3 cap] 146),(64,.own (.int false .u64 x0 :: .int false .u64 x1 :: .int false .u64 x2 :: .int false .u64 0::wc (List.replicate (cap-4) 0)) 196)] }
theorem QB:wL 6:=fun x0 x1 x2=>by kernel_rfl
theorem QA:wL 7:=fun x0 x1 x2=>by kernel_rfl
theorem PZ:wL 8:=fun x0 x1 x2=>by kernel_rfl
theorem PY:wL 9:=fun x0 x1 x2=>by kernel_rfl
theorem aOp {cap:Nat} (h:cap=6\/cap=7\/cap=8\/cap=9):wL cap:=by
 rcases h with rfl | rfl | rfl | rfl
 .exact QB
 .exact QA
 .exact PZ
 .exact PY
def wK (cap:Nat):Prop:=∀ x0 x1 x2 y0:Int,kD [false] [true] (.aJ 64 true 0 3 cap) (.aJ 65 true 0 1 6) (wc (x0::x1::x2::List.replicate (cap-3) 0)) (wc [y0,0,0,0,0,0])=some { bK:=([(x2==0)=false,(M.uh (x1+M.uh (x0+y0+0)+0)==0)=true,M.U x1,M.U (M.uh (x0+y0+0)),M.K 0,x1=x1,M.uh (x0+y0+0)=M.uh (x0+y0+0),(0:Int)=0,M.U x0,M.U y0,M.K 0,x0=x0,y0=y0,(0:Int)=0]:List Prop),val:=.ptr 61 true 0,wr:=[(61,.own [.bool true false,.aJ 64 true 0 3 cap] 146),(64,.own (.int false .u64 (M.ul (x0+y0+0)) :: .int false .u64 (M.ul (x1+M.uh (x0+y0+0)+0)) :: .int false .u64 x2 :: .int true .u64 0::wc (List.replicate (cap-4) 0)) 196)] }
theorem PX:wK 6:=fun x0 x1 x2 y0=>by kernel_rfl
theorem PW:wK 7:=fun x0 x1 x2 y0=>by kernel_rfl
theorem PV:wK 8:=fun x0 x1 x2 y0=>by kernel_rfl
theorem PU:wK 9:=fun x0 x1 x2 y0=>by kernel_rfl
theorem aOo {cap:Nat} (h:cap=6\/cap=7\/cap=8\/cap=9):wK cap:=by
 rcases h with rfl | rfl | rfl | rfl
 .exact PX
 .exact PW
 .exact PV
 .exact PU
def sH (cap:Nat):Prop:=∀ x0 x1 x2 y0:Int,kD [false] [false,true] (.aJ 64 true 0 3 cap) (.aJ 65 true 0 1 6) (wc (x0::x1::x2::List.replicate (cap-3) 0)) (wc [y0,0,0,0,0,0])=some { bK:=([(IntKind.u64.wrap (x2+1)==0)=false,(x2 != 18446744073709551615)=true,(M.uh (x1+M.uh (x0+y0+0)+0)==0)=false,M.U x1,M.U (M.uh (x0+y0+0)),M.K 0,x1=x1,M.uh (x0+y0+0)=M.uh (x0+y0+0),(0:Int)=0,M.U x0,M.U y0,M.K 0,x0=x0,y0=y0,(0:Int)=0]:List Prop),val:=.ptr 61 true 0,wr:=[(61,.own [.bool true false,.aJ 64 true 0 3 cap] 146),(64,.own (.int false .u64 (M.ul (x0+y0+0)) :: .int false .u64 (M.ul (x1+M.uh (x0+y0+0)+0)) :: .int false .u64 (IntKind.u64.wrap (x2+1)) :: .int true .u64 0::wc (List.replicate (cap-4) 0)) 196)] }
theorem DM:sH 6:=fun x0 x1 x2 y0=>by kernel_rfl
theorem DL:sH 7:=fun x0 x1 x2 y0=>by kernel_rfl
theorem DK:sH 8:=fun x0 x1 x2 y0=>by kernel_rfl
theorem DJ:sH 9:=fun x0 x1 x2 y0=>by kernel_rfl
theorem aEn {cap:Nat} (h:cap=6\/cap=7\/cap=8\/cap=9):sH cap:=by
 rcases h with rfl | rfl | rfl | rfl
 .exact DM
 .exact DL
 .exact DK
 .exact DJ
def wJ (cap:Nat):Prop:=∀ x0 x1 x2 y0 y1:Int,kD [false] [true] (.aJ 64 true 0 3 cap) (.aJ 65 true 0 2 6) (wc (x0::x1::x2::List.replicate (cap-3) 0)) (wc [y0,y1,0,0,0,0])=some { bK:=([(M.ul (x2+M.uh (x1+y1+M.uh (x0+y0+0))+0)==0)=false,(M.uh (x2+M.uh (x1+y1+M.uh (x0+y0+0))+0)==0)=true,M.U x2,M.U (M.uh (x1+y1+M.uh (x0+y0+0))),M.K 0,x2=x2,M.uh (x1+y1+M.uh (x0+y0+0))=M.uh (x1+y1+M.uh (x0+y0+0)),(0:Int)=0,M.U x1,M.U y1,M.K (M.uh (x0+y0+0)),x1=x1,y1=y1,M.uh (x0+y0+0)=M.uh (x0+y0+0),M.U x0,M.U y0,M.K 0,x0=x0,y0=y0,(0:Int)=0]:List Prop),val:=.ptr 61 true 0,wr:=[(61,.own [.bool true false,.aJ 64 true 0 3 cap] 146),(64,.own (.int false .u64 (M.ul (x0+y0+0)) :: .int false .u64 (M.ul (x1+y1+M.uh (x0+y0+0))) :: .int false .u64 (M.ul (x2+M.uh (x1+y1+M.uh (x0+y0+0))+0)) :: .int true .u64 0::wc (List.replicate (cap-4) 0)) 196)] }
theorem PT:wJ 6:=fun x0 x1 x2 y0 y1=>by kernel_rfl
theorem PS:wJ 7:=fun x0 x1 x2 y0 y1=>by kernel_rfl
theorem PR:wJ 8:=fun x0 x1 x2 y0 y1=>by kernel_rfl
theorem PQ:wJ 9:=fun x0 x1 x2 y0 y1=>by kernel_rfl
theorem aOn {cap:Nat} (h:cap=6\/cap=7\/cap=8\/cap=9):wJ cap:=by
 rcases h with rfl | rfl | rfl | rfl
 .exact PT
 .exact PS
 .exact PR
 .exact PQ
theorem aXl (_z:Int) :
 Tt (.aJ 65 true 0 0 6) (wc [0,0,0,0,0,0]) =
 some {val:=.ptr 61 true 0,wr:=[(61,.own [.bool true false,.raw (Value.slice none 0 0)] 146)]}:=by kernel_rfl
theorem aXk (y0:Int) :
 Tt (.aJ 65 true 0 1 6) (wc [y0,0,0,0,0,0]) =
 some {val:=.ptr 61 true 0,new:=[.own [.int false .u64 y0] 196],wr:=[(61,.own [.bool true false,.aJ 100 true 0 1 1] 146)]}:=by kernel_rfl
theorem aXj (y0 y1:Int) :
 Tt (.aJ 65 true 0 2 6) (wc [y0,y1,0,0,0,0]) =
 some {val:=.ptr 61 true 0,new:=[.own [.int false .u64 y0,.int false .u64 y1,.int true .u64 0,.int true .u64 0,.int true .u64 0,.int true .u64 0] 196],wr:=[(61,.own [.bool true false,.aJ 100 true 0 2 6] 146)]}:=by kernel_rfl
end Go.Proofs.YticicdfijghigaaGreatDoor.Sx
