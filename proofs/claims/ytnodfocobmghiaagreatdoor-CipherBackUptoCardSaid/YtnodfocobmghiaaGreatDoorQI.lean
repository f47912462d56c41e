/- math/big: (*Int).Add, a sum in its own words: the runs. -/
import Derived.Test.YtnodfocobmghiaaGreatDoorQH
open Go
set_option maxRecDepth 100000
namespace Go.Proofs.YtnodfocobmghiaaGreatDoor.Sx
noncomputable def DM (h h2:List Bool):Nat->Option Sum:=Bh (Bh Xi 145 h) 153 h2
theorem aAx (h h2:List Bool):∀ f S,DM h h2 f=some S->∀ Γ:Env,Γ.aO=aB->aG Tryz.prog Γ f S:=lG (lG pB 145 h) 153 h2
def yZ:List SV:=[.ptr 61 true 0,.ptr 61 true 0,.ptr 63 true 0]
def RJ (X Y:SV) (xs ys:List SV):List (Nat × SB):=[(61,.own [.bool true false,X] 102),(63,.own [.bool true false,Y] 102),(64,.own xs 142),(65,.own ys 142),(17,.eQ [.int true .i64 40]),(18,.eQ [.int true .i64 40])]
def Pq (Y:SV) (ys:List SV):List (Nat × SB):=[(61,.own [.bool true false,.raw (.slice none 0 0)] 102),(63,.own [.bool true false,Y] 102),(65,.own ys 142),(17,.eQ [.int true .i64 40]),(18,.eQ [.int true .i64 40])]
noncomputable def Ql (Y:SV) (ys:List SV):Option bK:=aK (env (DM [] []) 22) Tryz.f70 true [] 400 yZ (fun l=>look l (Pq Y ys)) 100 100
noncomputable def jJ (h h2:List Bool) (X Y:SV) (xs ys:List SV):Option bK:=aK (env (DM h h2) 22) Tryz.f70 true [] 400 yZ (fun l=>look l (RJ X Y xs ys)) 100 100
def vN (cap:Nat):Prop:=∀ _z:Int,jJ [] [] (.aH 64 true 0 0 cap) (.aH 65 true 0 0 6) (wc (0::0::0::List.replicate (cap-3) 0)) (wc [0,0,0,0,0,0])=some { val:=.ptr 61 true 0,wr:=[(61,.own [.bool true false,.aH 64 true 0 0 cap] 102)] }
theorem OF:vN 6:=fun _z=>by kernel_rfl
theorem OE:vN 7:=fun _z=>by kernel_rfl
theorem OD:vN 8:=fun _z=>by kernel_rfl
theorem OC:vN 9:=fun _z=>by kernel_rfl
theorem aKm {cap:Nat} (h:cap=6\/cap=7\/cap=8\/cap=9):vN cap:=by
 rcases h with rfl | rfl | rfl | rfl
 .exact OF
 .exact OE
 .exact OD
 .exact OC
def vM (cap:Nat):Prop:=∀ y0:Int,jJ [] [] (.aH 64 true 0 0 cap) (.aH 65 true 0 1 6) (wc (0::0::0::List.replicate (cap-3) 0)) (wc [y0,0,0,0,0,0])=some { val:=.ptr 61 true 0,wr:=[(61,.own [.bool true false,.aH 64 true 0 1 cap] 102),(64,.own (.int false .u64 y0 :: .int false .u64 0 :: .int false .u64 0 :: .int false .u64 0::wc (List.replicate (cap-4) 0)) 142)] }
theorem OB:vM 6:=fun y0=>by kernel_rfl
theorem OA:vM 7:=fun y0=>by kernel_rfl
theorem NZ:vM 8:=fun y0=>by kernel_rfl
theorem NY:vM 9:=fun y0=>by kernel_rfl
theorem aKl {cap:Nat} (h:cap=6\/cap=7\/cap=8\/cap=9):vM cap:=by
 rcases h with rfl | rfl | rfl | rfl
 .exact OB
 .exact OA
 .exact NZ
 .exact NY
def vL (cap:Nat):Prop:=∀ y0 y1:Int,jJ [] [] (.aH 64 true 0 0 cap) (.aH 65 true 0 2 6) (wc (0::0::0::List.replicate (cap-3) 0)) (wc [y0,y1,0,0,0,0])=some { val:=.ptr 61 true 0,wr:=[(61,.own [.bool true false,.aH 64 true 0 2 cap] 102),(64,.own (.int false .u64 y0 :: .int false .u64 y1 :: .int false .u64 0 :: .int false .u64 0::wc (List.replicate (cap-4) 0)) 142)] }
theorem NX:vL 6:=fun y0 y1=>by kernel_rfl
theorem NW:vL 7:=fun y0 y1=>by kernel_rfl
theorem NV:vL 8:=fun y0 y1=>by kernel_rfl
theorem NU:vL 9:=fun y0 y1=>by kernel_rfl
theorem aKk {cap:Nat} (h:cap=6\/cap=7\/cap=8\/cap=9):vL cap:=by
 rcases h with rfl | rfl | rfl | rfl
 .exact NX
 .exact NW
 .exact NV
 .exact NU
def vK (cap:Nat):Prop:=∀ x0:Int,jJ [] [] (.aH 64 true 0 1 cap) (.aH 65 true 0 0 6) (wc (x0::0::0::List.replicate (cap-3) 0)) (wc [0,0,0,0,0,0])=some { val:=.ptr 61 true 0,wr:=[(61,.own [.bool true false,.aH 64 true 0 1 cap] 102),(64,.own (.int false .u64 x0 :: .int false .u64 0 :: .int false .u64 0 :: .int false .u64 0::wc (List.replicate (cap-4) 0)) 142)] }
theorem NT:vK 6:=fun x0=>by kernel_rfl
theorem NS:vK 7:=fun x0=>by kernel_rfl
theorem NR:vK 8:=fun x0=>by kernel_rfl
theorem NQ:vK 9:=fun x0=>by kernel_rfl
theorem aKj {cap:Nat} (h:cap=6\/cap=7\/cap=8\/cap=9):vK cap:=by
 rcases h with rfl | rfl | rfl | rfl
 .exact NT
 .exact NS
 .exact NR
 .exact NQ
def vJ (cap:Nat):Prop:=∀ x0 y0:Int,jJ [true,false] [] (.aH 64 true 0 1 cap) (.aH 65 true 0 1 6) (wc (x0::0::0::List.replicate (cap-3) 0)) (wc [y0,0,0,0,0,0])=some { bO:=([(M.ul (x0+y0+0)==0)=false,(M.uh (x0+y0+0)==0)=true,M.U x0,M.U y0,M.K 0,x0=x0,y0=y0,(0:Int)=0]:List Prop),val:=.ptr 61 true 0,wr:=[(61,.own [.bool true false,.aH 64 true 0 1 cap] 102),(64,.own (.int false .u64 (M.ul (x0+y0+0)) :: .int false .u64 (M.uh (x0+y0+0)) :: .int false .u64 0 :: .int false .u64 0::wc (List.replicate (cap-4) 0)) 142)] }
theorem NP:vJ 6:=fun x0 y0=>by kernel_rfl
theorem NO:vJ 7:=fun x0 y0=>by kernel_rfl
theorem NN:vJ 8:=fun x0 y0=>by kernel_rfl
theorem NM:vJ 9:=fun x0 y0=>by kernel_rfl
theorem aKi {cap:Nat} (h:cap=6\/cap=7\/cap=8\/cap=9):vJ cap:=by
 rcases h with rfl | rfl | rfl | rfl
 .exact NP
 .exact NO
 .exact NN
 .exact NM
def vI (cap:Nat):Prop:=∀ x0 y0:Int,jJ [false] [] (.aH 64 true 0 1 cap) (.aH 65 true 0 1 6) (wc (x0::0::0::List.replicate (cap-3) 0)) (wc [y0,0,0,0,0,0])=some { bO:=([(M.uh (x0+y0+0)==0)=false,M.U x0,M.U y0,M.K 0,x0=x0,y0=y0,(0:Int)=0]:List Prop),val:=.ptr 61 true 0,wr:=[(61,.own [.bool true false,.aH 64 true 0 2 cap] 102),(64,.own (.int false .u64 (M.ul (x0+y0+0)) :: .int false .u64 (M.uh (x0+y0+0)) :: .int false .u64 0 :: .int false .u64 0::wc (List.replicate (cap-4) 0)) 142)] }
theorem NL:vI 6:=fun x0 y0=>by kernel_rfl
theorem NK:vI 7:=fun x0 y0=>by kernel_rfl
theorem NJ:vI 8:=fun x0 y0=>by kernel_rfl
theorem NI:vI 9:=fun x0 y0=>by kernel_rfl
theorem aKh {cap:Nat} (h:cap=6\/cap=7\/cap=8\/cap=9):vI cap:=by
 rcases h with rfl | rfl | rfl | rfl
 .exact NL
 .exact NK
 .exact NJ
 .exact NI
def vH (cap:Nat):Prop:=∀ x0 y0 y1:Int,jJ [false] [true] (.aH 64 true 0 1 cap) (.aH 65 true 0 2 6) (wc (x0::0::0::List.replicate (cap-3) 0)) (wc [y0,y1,0,0,0,0])=some { bO:=([(M.ul (y1+M.uh (y0+x0+0)+0)==0)=false,(M.uh (y1+M.uh (y0+x0+0)+0)==0)=true,M.U y1,M.U (M.uh (y0+x0+0)),M.K 0,y1=y1,M.uh (y0+x0+0)=M.uh (y0+x0+0),(0:Int)=0,M.U y0,M.U x0,M.K 0,y0=y0,x0=x0,(0:Int)=0]:List Prop),val:=.ptr 61 true 0,wr:=[(61,.own [.bool true false,.aH 64 true 0 2 cap] 102),(64,.own (.int false .u64 (M.ul (y0+x0+0)) :: .int false .u64 (M.ul (y1+M.uh (y0+x0+0)+0)) :: .int true .u64 0 :: .int false .u64 0::wc (List.replicate (cap-4) 0)) 142)] }
theorem NH:vH 6:=fun x0 y0 y1=>by kernel_rfl
theorem NG:vH 7:=fun x0 y0 y1=>by kernel_rfl
theorem NF:vH 8:=fun x0 y0 y1=>by kernel_rfl
theorem ND:vH 9:=fun x0 y0 y1=>by kernel_rfl
theorem aKg {cap:Nat} (h:cap=6\/cap=7\/cap=8\/cap=9):vH cap:=by
 rcases h with rfl | rfl | rfl | rfl
 .exact NH
 .exact NG
 .exact NF
 .exact ND
def vG (cap:Nat):Prop:=∀ x0 y0 y1:Int,jJ [] [false] (.aH 64 true 0 1 cap) (.aH 65 true 0 2 6) (wc (x0::0::0::List.replicate (cap-3) 0)) (wc [y0,y1,0,0,0,0])=some { bO:=([(M.uh (y1+M.uh (y0+x0+0)+0)==0)=false,M.U y1,M.U (M.uh (y0+x0+0)),M.K 0,y1=y1,M.uh (y0+x0+0)=M.uh (y0+x0+0),(0:Int)=0,M.U y0,M.U x0,M.K 0,y0=y0,x0=x0,(0:Int)=0]:List Prop),val:=.ptr 61 true 0,wr:=[(61,.own [.bool true false,.aH 64 true 0 3 cap] 102),(64,.own (.int false .u64 (M.ul (y0+x0+0)) :: .int false .u64 (M.ul (y1+M.uh (y0+x0+0)+0)) :: .int true .u64 1 :: .int false .u64 0::wc (List.replicate (cap-4) 0)) 142)] }
theorem NC:vG 6:=fun x0 y0 y1=>by kernel_rfl
theorem NB:vG 7:=fun x0 y0 y1=>by kernel_rfl
theorem NA:vG 8:=fun x0 y0 y1=>by kernel_rfl
theorem MZ:vG 9:=fun x0 y0 y1=>by kernel_rfl
theorem aKf {cap:Nat} (h:cap=6\/cap=7\/cap=8\/cap=9):vG cap:=by
 rcases h with rfl | rfl | rfl | rfl
 .exact NC
 .exact NB
 .exact NA
 .exact MZ
def vF (cap:Nat):Prop:=∀ x0 x1:Int,jJ [] [] (.aH 64 true 0 2 cap) (.aH 65 true 0 0 6) (wc (x0::x1::0::List.replicate (cap-3) 0)) (wc [0,0,0,0,0,0])=some { val:=.ptr 61 true 0,wr:=[(61,.own [.bool true false,.aH 64 true 0 2 cap] 102),(64,.own (.int false .u64 x0 :: .int false .u64 x1 :: .int false .u64 0 :: .int false .u64 0::wc (List.replicate (cap-4) 0)) 142)] }
theorem MY:vF 6:=fun x0 x1=>by kernel_rfl
theorem MX:vF 7:=fun x0 x1=>by kernel_rfl
theorem MW:vF 8:=fun x0 x1=>by kernel_rfl
theorem MV:vF 9:=fun x0 x1=>by kernel_rfl
theorem aKe {cap:Nat} (h:cap=6\/cap=7\/cap=8\/cap=9):vF cap:=by
 rcases h with rfl | rfl | rfl | rfl
 .exact MY
 .exact MX
 .exact MW
 .exact MV
def vE (cap:Nat):Prop:=∀ x0 x1 y0:Int,jJ [false] [true] (.aH 64 true 0 2 cap) (.aH 65 true 0 1 6) (wc (x0::x1::0::List.replicate (cap-3) 0)) (wc [y0,0,0,0,0,0])=some { bO:=([(M.ul (x1+M.uh (x0+y0+0)+0)==0)=false,(M.uh (x1+M.uh (x0+y0+0)+0)==0)=true,M.U x1,M.U (M.uh (x0+y0+0)),M.K 0,x1=x1,M.uh (x0+y0+0)=M.uh (x0+y0+0),(0:Int)=0,M.U x0,M.U y0,M.K 0,x0=x0,y0=y0,(0:Int)=0]:List Prop),val:=.ptr 61 true 0,wr:=[(61,.own [.bool true false,.aH 64 true 0 2 cap] 102),(64,.own (.int false .u64 (M.ul (x0+y0+0)) :: .int false .u64 (M.ul (x1+M.uh (x0+y0+0)+0)) :: .int true .u64 0 :: .int false .u64 0::wc (List.replicate (cap-4) 0)) 142)] }
theorem MU:vE 6:=fun x0 x1 y0=>by kernel_rfl
theorem MT:vE 7:=fun x0 x1 y0=>by kernel_rfl
theorem MR:vE 8:=fun x0 x1 y0=>by kernel_rfl
theorem MQ:vE 9:=fun x0 x1 y0=>by kernel_rfl
theorem aKd {cap:Nat} (h:cap=6\/cap=7\/cap=8\/cap=9):vE cap:=by
 rcases h with rfl | rfl | rfl | rfl
 .exact MU
 .exact MT
 .exact MR
 .exact MQ
def vD (cap:Nat):Prop:=∀ x0 x1 y0:Int,jJ [] [false] (.aH 64 true 0 2 cap) (.aH 65 true 0 1 6) (wc (x0::x1::0::List.replicate (cap-3) 0)) (wc [y0,0,0,0,0,0])=some { bO:=([(M.uh (x1+M.uh (x0+y0+0)+0)==0)=false,M.U x1,M.U (M.uh (x0+y0+0)),M.K 0,x1=x1,M.uh (x0+y0+0)=M.uh (x0+y0+0),(0:Int)=0,M.U x0,M.U y0,M.K 0,x0=x0,y0=y0,(0:Int)=0]:List Prop),val:=.ptr 61 true 0,wr:=[(61,.own [.bool true false,.aH 64 true 0 3 cap] 102),(64,.own (.int false .u64 (M.ul (x0+y0+0)) :: .int false .u64 (M.ul (x1+M.uh (x0+y0+0)+0)) :: .int true .u64 1 :: .int false .u64 0::wc (List.replicate (cap-4) 0)) 142)] }
theorem MP:vD 6:=fun x0 x1 y0=>by kernel_rfl
theorem MO:vD 7:=fun x0 x1 y0=>by kernel_rfl
theorem MN:vD 8:=fun x0 x1 y0=>by kernel_rfl
theorem MM:vD 9:=fun x0 x1 y0=>by kernel_rfl
theorem aKc {cap:Nat} (h:cap=6\/cap=7\/cap=8\/cap=9):vD cap:=by
 rcases h with rfl | rfl | rfl | rfl
 .exact MP
 .exact MO
 .exact MN
 .exact MM
def vC (cap:Nat):Prop:=∀ x0 x1 y0 y1:Int,jJ [true,false] [] (.aH 64 true 0 2 cap) (.aH 65 true 0 2 6) (wc (x0::x1::0::List.replicate (cap-3) 0)) (wc [y0,y1,0,0,0,0])=some { bO:=([(M.ul (x1+y1+M.uh (x0+y0+0))==0)=false,(M.uh (x1+y1+M.uh (x0+y0+0))==0)=true,M.U x1,M.U y1,M.K (M.uh (x0+y0+0)),x1=x1,y1=y1,M.uh (x0+y0+0)=M.uh (x0+y0+0),M.U x0,M.U y0,M.K 0,x0=x0,y0=y0,(0:Int)=0]:List Prop),val:=.ptr 61 true 0,wr:=[(61,.own [.bool true false,.aH 64 true 0 2 cap] 102),(64,.own (.int false .u64 (M.ul (x0+y0+0)) :: .int false .u64 (M.ul (x1+y1+M.uh (x0+y0+0))) :: .int false .u64 (M.uh (x1+y1+M.uh (x0+y0+0))) :: .int false .u64 0::wc (List.replicate (cap-4) 0)) 142)] }
theorem ML:vC 6:=fun x0 x1 y0 y1=>by kernel_rfl
theorem MK:vC 7:=fun x0 x1 y0 y1=>by kernel_rfl
theorem MJ:vC 8:=fun x0 x1 y0 y1=>by kernel_rfl
theorem MI:vC 9:=fun x0 x1 y0 y1=>by kernel_rfl
theorem aKb {cap:Nat} (h:cap=6\/cap=7\/cap=8\/cap=9):vC cap:=by
 rcases h with rfl | rfl | rfl | rfl
 .exact ML
 .exact MK
 .exact MJ
 .exact MI
def vB (cap:Nat):Prop:=∀ x0 x1 y0 y1:Int,jJ [false] [] (.aH 64 true 0 2 cap) (.aH 65 true 0 2 6) (wc (x0::x1::0::List.replicate (cap-3) 0)) (wc [y0,y1,0,0,0,0])=some { bO:=([(M.uh (x1+y1+M.uh (x0+y0+0))==0)=false,M.U x1,M.U y1,M.K (M.uh (x0+y0+0)),x1=x1,y1=y1,M.uh (x0+y0+0)=M.uh (x0+y0+0),M.U x0,M.U y0,M.K 0,x0=x0,y0=y0,(0:Int)=0]:List Prop),val:=.ptr 61 true 0,wr:=[(61,.own [.bool true false,.aH 64 true 0 3 cap] 102),(64,.own (.int false .u64 (M.ul (x0+y0+0)) :: .int false .u64 (M.ul (x1+y1+M.uh (x0+y0+0))) :: .int false .u64 (M.uh (x1+y1+M.uh (x0+y0+0))) :: .int false .u64 0::wc (List.replicate (cap-4) 0)) 142)] }
theorem MH:vB 6:=fun x0 x1 y0 y1=>by kernel_rfl
theorem MG:vB 7:=fun x0 x1 y0 y1=>by kernel_rfl
theorem MF:vB 8:=fun x0 x1 y0 y1=>by kernel_rfl
theorem ME:vB 9:=fun x0 x1 y0 y1=>by kernel_rfl
theorem aKa {cap:Nat} (h:cap=6\/cap=7\/cap=8\/cap=9):vB cap:=by
 rcases h with rfl | rfl | rfl | rfl
 .exact MH
 .exact MG
 .exact MF
 .exact ME
def vA (cap:Nat):Prop:=∀ x0 x1 x2:Int,jJ [] [] (.aH 64 true 0 3 cap) (.aH 65 true 0 0 6) (wc (x0::x1::x2::List.replicate (cap-3) 0)) (wc [0,0,0,0,0,0])=some { val:=.ptr 61 true 0,wr:=[(61,.own [.bool true false,.aH 64 true 0 3 cap] 102),(64,.own (.int false .u64 x0 :: .int false .u64 x1 :: .int false .u64 x2 :: .int false .u64 0::wc (List.replicate (cap-4) 0)) 142)] }
theorem MD:vA 6:=fun x0 x1 x2=>by kernel_rfl
theorem MC:vA 7:=fun x0 x1 x2=>by kernel_rfl
theorem MB:vA 8:=fun x0 x1 x2=>by kernel_rfl
theorem MA:vA 9:=fun x0 x1 x2=>by kernel_rfl
theorem aJz {cap:Nat} (h:cap=6\/cap=7\/cap=8\/cap=9):vA cap:=by
 rcases h with rfl | rfl | rfl | rfl
 .exact MD
 .exact MC
 .exact MB
 .exact MA
def uZ (cap:Nat):Prop:=∀ x0 x1 x2 y0:Int,jJ [false] [true] (.aH 64 true 0 3 cap) (.aH 65 true 0 1 6) (wc (x0::x1::x2::List.replicate (cap-3) 0)) (wc [y0,0,0,0,0,0])=some { bO:=([(x2==0)=false,(M.uh (x1+M.uh (x0+y0+0)+0)==0)=true,M.U x1,M.U (M.uh (x0+y0+0)),M.K 0,x1=x1,M.uh (x0+y0+0)=M.uh (x0+y0+0),(0:Int)=0,M.U x0,M.U y0,M.K 0,x0=x0,y0=y0,(0:Int)=0]:List Prop),val:=.ptr 61 true 0,wr:=[(61,.own [.bool true false,.aH 64 true 0 3 cap] 102),(64,.own (.int false .u64 (M.ul (x0+y0+0)) :: .int false .u64 (M.ul (x1+M.uh (x0+y0+0)+0)) :: .int false .u64 x2 :: .int true .u64 0::wc (List.replicate (cap-4) 0)) 142)] }
theorem LZ:uZ 6:=fun x0 x1 x2 y0=>by kernel_rfl
theorem LY:uZ 7:=fun x0 x1 x2 y0=>by kernel_rfl
theorem LX:uZ 8:=fun x0 x1 x2 y0=>by kernel_rfl
theorem LW:uZ 9:=fun x0 x1 x2 y0=>by kernel_rfl
theorem aJy {cap:Nat} (h:cap=6\/cap=7\/cap=8\/cap=9):uZ cap:=by
 rcases h with rfl | rfl | rfl | rfl
 .exact LZ
 .exact LY
 .exact LX
 .exact LW
def qT (cap:Nat):Prop:=∀ x0 x1 x2 y0:Int,jJ [false] [false,true] (.aH 64 true 0 3 cap) (.aH 65 true 0 1 6) (wc (x0::x1::x2::List.replicate (cap-3) 0)) (wc [y0,0,0,0,0,0])=some { bO:=([(IntKind.u64.wrap (x2+1)==0)=false,(x2 != 18446744073709551615)=true,(M.uh (x1+M.uh (x0+y0+0)+0)==0)=false,M.U x1,M.U (M.uh (x0+y0+0)),M.K 0,x1=x1,M.uh (x0+y0+0)=M.uh (x0+y0+0),(0:Int)=0,M.U x0,M.U y0,M.K 0,x0=x0,y0=y0,(0:Int)=0]:List Prop),val:=.ptr 61 true 0,wr:=[(61,.own [.bool true false,.aH 64 true 0 3 cap] 102),(64,.own (.int false .u64 (M.ul (x0+y0+0)) :: .int false .u64 (M.ul (x1+M.uh (x0+y0+0)+0)) :: .int false .u64 (IntKind.u64.wrap (x2+1)) :: .int true .u64 0::wc (List.replicate (cap-4) 0)) 142)] }
theorem Zz:qT 6:=fun x0 x1 x2 y0=>by kernel_rfl
theorem Zy:qT 7:=fun x0 x1 x2 y0=>by kernel_rfl
theorem Zx:qT 8:=fun x0 x1 x2 y0=>by kernel_rfl
theorem Zw:qT 9:=fun x0 x1 x2 y0=>by kernel_rfl
theorem aAm {cap:Nat} (h:cap=6\/cap=7\/cap=8\/cap=9):qT cap:=by
 rcases h with rfl | rfl | rfl | rfl
 .exact Zz
 .exact Zy
 .exact Zx
 .exact Zw
def uY (cap:Nat):Prop:=∀ x0 x1 x2 y0 y1:Int,jJ [false] [true] (.aH 64 true 0 3 cap) (.aH 65 true 0 2 6) (wc (x0::x1::x2::List.replicate (cap-3) 0)) (wc [y0,y1,0,0,0,0])=some { bO:=([(M.ul (x2+M.uh (x1+y1+M.uh (x0+y0+0))+0)==0)=false,(M.uh (x2+M.uh (x1+y1+M.uh (x0+y0+0))+0)==0)=true,M.U x2,M.U (M.uh (x1+y1+M.uh (x0+y0+0))),M.K 0,x2=x2,M.uh (x1+y1+M.uh (x0+y0+0))=M.uh (x1+y1+M.uh (x0+y0+0)),(0:Int)=0,M.U x1,M.U y1,M.K (M.uh (x0+y0+0)),x1=x1,y1=y1,M.uh (x0+y0+0)=M.uh (x0+y0+0),M.U x0,M.U y0,M.K 0,x0=x0,y0=y0,(0:Int)=0]:List Prop),val:=.ptr 61 true 0,wr:=[(61,.own [.bool true false,.aH 64 true 0 3 cap] 102),(64,.own (.int false .u64 (M.ul (x0+y0+0)) :: .int false .u64 (M.ul (x1+y1+M.uh (x0+y0+0))) :: .int false .u64 (M.ul (x2+M.uh (x1+y1+M.uh (x0+y0+0))+0)) :: .int true .u64 0::wc (List.replicate (cap-4) 0)) 142)] }
theorem LV:uY 6:=fun x0 x1 x2 y0 y1=>by kernel_rfl
theorem LU:uY 7:=fun x0 x1 x2 y0 y1=>by kernel_rfl
theorem LS:uY 8:=fun x0 x1 x2 y0 y1=>by kernel_rfl
theorem LR:uY 9:=fun x0 x1 x2 y0 y1=>by kernel_rfl
theorem aJx {cap:Nat} (h:cap=6\/cap=7\/cap=8\/cap=9):uY cap:=by
 rcases h with rfl | rfl | rfl | rfl
 .exact LV
 .exact LU
 .exact LS
 .exact LR
theorem aSh (_z:Int) :
 Ql (.aH 65 true 0 0 6) (wc [0,0,0,0,0,0]) =
 some {val:=.ptr 61 true 0,wr:=[(61,.own [.bool true false,.raw (Value.slice none 0 0)] 102)]}:=by kernel_rfl
theorem aSg (y0:Int) :
 Ql (.aH 65 true 0 1 6) (wc [y0,0,0,0,0,0]) =
 some {val:=.ptr 61 true 0,new:=[.own [.int false .u64 y0] 142],wr:=[(61,.own [.bool true false,.aH 100 true 0 1 1] 102)]}:=by kernel_rfl
theorem aSf (y0 y1:Int) :
 Ql (.aH 65 true 0 2 6) (wc [y0,y1,0,0,0,0]) =
 some {val:=.ptr 61 true 0,new:=[.own [.int false .u64 y0,.int false .u64 y1,.int true .u64 0,.int true .u64 0,.int true .u64 0,.int true .u64 0] 142],wr:=[(61,.own [.bool true false,.aH 100 true 0 2 6] 102)]}:=by kernel_rfl
end Go.Proofs.YtnodfocobmghiaaGreatDoor.Sx
