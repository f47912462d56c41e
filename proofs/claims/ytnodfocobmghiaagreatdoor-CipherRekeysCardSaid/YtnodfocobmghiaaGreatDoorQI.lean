/- math/big: (*Int).Add, a sum in its own words: the runs. -/
import Derived.Test.YtnodfocobmghiaaGreatDoorQH
open Go
set_option maxRecDepth 100000
namespace Go.Proofs.YtnodfocobmghiaaGreatDoor.Sx
noncomputable def AX (h h2:List Bool):Nat->Option Sum:=zS (zS Vd 145 h) 153 h2
theorem XL (h h2:List Bool):∀ f S,AX h h2 f=some S->∀ Γ:Env,Γ.aR=aB->aG Tryz.prog Γ f S:=kX (kX oO 145 h) 153 h2
def xS:List SV:=[.ptr 61 true 0,.ptr 61 true 0,.ptr 63 true 0]
def OG (X Y:SV) (xs ys:List SV):List (Nat × SB):=[(61,.own [.bool true false,X] 102),(63,.own [.bool true false,Y] 102),(64,.own xs 142),(65,.own ys 142),(17,.fO [.int true .i64 40]),(18,.fO [.int true .i64 40])]
def Nq (Y:SV) (ys:List SV):List (Nat × SB):=[(61,.own [.bool true false,.raw (.slice none 0 0)] 102),(63,.own [.bool true false,Y] 102),(65,.own ys 142),(17,.fO [.int true .i64 40]),(18,.fO [.int true .i64 40])]
noncomputable def Om (Y:SV) (ys:List SV):Option bK:=aK (env (AX [] []) 22) Tryz.f70 true [] 400 xS (fun l=>look l (Nq Y ys)) 100 100
noncomputable def jE (h h2:List Bool) (X Y:SV) (xs ys:List SV):Option bK:=aK (env (AX h h2) 22) Tryz.f70 true [] 400 xS (fun l=>look l (OG X Y xs ys)) 100 100
def uK (cap:Nat):Prop:=∀ _z:Int,jE [] [] (.aH 64 true 0 0 cap) (.aH 65 true 0 0 6) (wc (0::0::0::List.replicate (cap-3) 0)) (wc [0,0,0,0,0,0])=some { val:=.ptr 61 true 0,wr:=[(61,.own [.bool true false,.aH 64 true 0 0 cap] 102)] }
theorem LH:uK 6:=fun _z=>by kernel_rfl
theorem LG:uK 7:=fun _z=>by kernel_rfl
theorem LF:uK 8:=fun _z=>by kernel_rfl
theorem LD:uK 9:=fun _z=>by kernel_rfl
theorem aHo {cap:Nat} (h:cap=6\/cap=7\/cap=8\/cap=9):uK cap:=by
 rcases h with rfl | rfl | rfl | rfl
 .exact LH
 .exact LG
 .exact LF
 .exact LD
def uJ (cap:Nat):Prop:=∀ y0:Int,jE [] [] (.aH 64 true 0 0 cap) (.aH 65 true 0 1 6) (wc (0::0::0::List.replicate (cap-3) 0)) (wc [y0,0,0,0,0,0])=some { val:=.ptr 61 true 0,wr:=[(61,.own [.bool true false,.aH 64 true 0 1 cap] 102),(64,.own (.int false .u64 y0 :: .int false .u64 0 :: .int false .u64 0 :: .int false .u64 0::wc (List.replicate (cap-4) 0)) 142)] }
theorem LC:uJ 6:=fun y0=>by kernel_rfl
theorem LB:uJ 7:=fun y0=>by kernel_rfl
theorem LA:uJ 8:=fun y0=>by kernel_rfl
theorem KZ:uJ 9:=fun y0=>by kernel_rfl
theorem aHn {cap:Nat} (h:cap=6\/cap=7\/cap=8\/cap=9):uJ cap:=by
 rcases h with rfl | rfl | rfl | rfl
 .exact LC
 .exact LB
 .exact LA
 .exact KZ
def uI (cap:Nat):Prop:=∀ y0 y1:Int,jE [] [] (.aH 64 true 0 0 cap) (.aH 65 true 0 2 6) (wc (0::0::0::List.replicate (cap-3) 0)) (wc [y0,y1,0,0,0,0])=some { val:=.ptr 61 true 0,wr:=[(61,.own [.bool true false,.aH 64 true 0 2 cap] 102),(64,.own (.int false .u64 y0 :: .int false .u64 y1 :: .int false .u64 0 :: .int false .u64 0::wc (List.replicate (cap-4) 0)) 142)] }
theorem KY:uI 6:=fun y0 y1=>by kernel_rfl
theorem KX:uI 7:=fun y0 y1=>by kernel_rfl
theorem KW:uI 8:=fun y0 y1=>by kernel_rfl
theorem KV:uI 9:=fun y0 y1=>by kernel_rfl
theorem aHm {cap:Nat} (h:cap=6\/cap=7\/cap=8\/cap=9):uI cap:=by
 rcases h with rfl | rfl | rfl | rfl
 .exact KY
 .exact KX
 .exact KW
 .exact KV
def uH (cap:Nat):Prop:=∀ x0:Int,jE [] [] (.aH 64 true 0 1 cap) (.aH 65 true 0 0 6) (wc (x0::0::0::List.replicate (cap-3) 0)) (wc [0,0,0,0,0,0])=some { val:=.ptr 61 true 0,wr:=[(61,.own [.bool true false,.aH 64 true 0 1 cap] 102),(64,.own (.int false .u64 x0 :: .int false .u64 0 :: .int false .u64 0 :: .int false .u64 0::wc (List.replicate (cap-4) 0)) 142)] }
theorem KU:uH 6:=fun x0=>by kernel_rfl
theorem KT:uH 7:=fun x0=>by kernel_rfl
theorem KS:uH 8:=fun x0=>by kernel_rfl
theorem KR:uH 9:=fun x0=>by kernel_rfl
theorem aHl {cap:Nat} (h:cap=6\/cap=7\/cap=8\/cap=9):uH cap:=by
 rcases h with rfl | rfl | rfl | rfl
 .exact KU
 .exact KT
 .exact KS
 .exact KR
def uG (cap:Nat):Prop:=∀ x0 y0:Int,jE [true,false] [] (.aH 64 true 0 1 cap) (.aH 65 true 0 1 6) (wc (x0::0::0::List.replicate (cap-3) 0)) (wc [y0,0,0,0,0,0])=some { bO:=([(M.ul (x0+y0+0)==0)=false,(M.uh (x0+y0+0)==0)=true,M.U x0,M.U y0,M.K 0,x0=x0,y0=y0,(0:Int)=0]:List Prop),val:=.ptr 61 true 0,wr:=[(61,.own [.bool true false,.aH 64 true 0 1 cap] 102),(64,.own (.int false .u64 (M.ul (x0+y0+0)) :: .int false .u64 (M.uh (x0+y0+0)) :: .int false .u64 0 :: .int false .u64 0::wc (List.replicate (cap-4) 0)) 142)] }
theorem KP:uG 6:=fun x0 y0=>by kernel_rfl
theorem KO:uG 7:=fun x0 y0=>by kernel_rfl
theorem KN:uG 8:=fun x0 y0=>by kernel_rfl
theorem KM:uG 9:=fun x0 y0=>by kernel_rfl
theorem aHk {cap:Nat} (h:cap=6\/cap=7\/cap=8\/cap=9):uG cap:=by
 rcases h with rfl | rfl | rfl | rfl
 .exact KP
 .exact KO
 .exact KN
 .exact KM
def uF (cap:Nat):Prop:=∀ x0 y0:Int,jE [false] [] (.aH 64 true 0 1 cap) (.aH 65 true 0 1 6) (wc (x0::0::0::List.replicate (cap-3) 0)) (wc [y0,0,0,0,0,0])=some { bO:=([(M.uh (x0+y0+0)==0)=false,M.U x0,M.U y0,M.K 0,x0=x0,y0=y0,(0:Int)=0]:List Prop),val:=.ptr 61 true 0,wr:=[(61,.own [.bool true false,.aH 64 true 0 2 cap] 102),(64,.own (.int false .u64 (M.ul (x0+y0+0)) :: .int false .u64 (M.uh (x0+y0+0)) :: .int false .u64 0 :: .int false .u64 0::wc (List.replicate (cap-4) 0)) 142)] }
theorem KL:uF 6:=fun x0 y0=>by kernel_rfl
theorem KK:uF 7:=fun x0 y0=>by kernel_rfl
theorem KJ:uF 8:=fun x0 y0=>by kernel_rfl
theorem KI:uF 9:=fun x0 y0=>by kernel_rfl
theorem aHj {cap:Nat} (h:cap=6\/cap=7\/cap=8\/cap=9):uF cap:=by
 rcases h with rfl | rfl | rfl | rfl
 .exact KL
 .exact KK
 .exact KJ
 .exact KI
def uE (cap:Nat):Prop:=∀ x0 y0 y1:Int,jE [false] [true] (.aH 64 true 0 1 cap) (.aH 65 true 0 2 6) (wc (x0::0::0::List.replicate (cap-3) 0)) (wc [y0,y1,0,0,0,0])=some { bO:=([(M.ul (y1+M.uh (y0+x0+0)+0)==0)=false,(M.uh (y1+M.uh (y0+x0+0)+0)==0)=true,M.U y1,M.U (M.uh (y0+x0+0)),M.K 0,y1=y1,M.uh (y0+x0+0)=M.uh (y0+x0+0),(0:Int)=0,M.U y0,M.U x0,M.K 0,y0=y0,x0=x0,(0:Int)=0]:List Prop),val:=.ptr 61 true 0,wr:=[(61,.own [.bool true false,.aH 64 true 0 2 cap] 102),(64,.own (.int false .u64 (M.ul (y0+x0+0)) :: .int false .u64 (M.ul (y1+M.uh (y0+x0+0)+0)) :: .int true .u64 0 :: .int false .u64 0::wc (List.replicate (cap-4) 0)) 142)] }
theorem KH:uE 6:=fun x0 y0 y1=>by kernel_rfl
theorem KG:uE 7:=fun x0 y0 y1=>by kernel_rfl
theorem KF:uE 8:=fun x0 y0 y1=>by kernel_rfl
theorem KE:uE 9:=fun x0 y0 y1=>by kernel_rfl
theorem aHi {cap:Nat} (h:cap=6\/cap=7\/cap=8\/cap=9):uE cap:=by
 rcases h with rfl | rfl | rfl | rfl
 .exact KH
 .exact KG
 .exact KF
 .exact KE
def uD (cap:Nat):Prop:=∀ x0 y0 y1:Int,jE [] [false] (.aH 64 true 0 1 cap) (.aH 65 true 0 2 6) (wc (x0::0::0::List.replicate (cap-3) 0)) (wc [y0,y1,0,0,0,0])=some { bO:=([(M.uh (y1+M.uh (y0+x0+0)+0)==0)=false,M.U y1,M.U (M.uh (y0+x0+0)),M.K 0,y1=y1,M.uh (y0+x0+0)=M.uh (y0+x0+0),(0:Int)=0,M.U y0,M.U x0,M.K 0,y0=y0,x0=x0,(0:Int)=0]:List Prop),val:=.ptr 61 true 0,wr:=[(61,.own [.bool true false,.aH 64 true 0 3 cap] 102),(64,.own (.int false .u64 (M.ul (y0+x0+0)) :: .int false .u64 (M.ul (y1+M.uh (y0+x0+0)+0)) :: .int true .u64 1 :: .int false .u64 0::wc (List.replicate (cap-4) 0)) 142)] }
theorem KD:uD 6:=fun x0 y0 y1=>by kernel_rfl
theorem KC:uD 7:=fun x0 y0 y1=>by kernel_rfl
theorem KB:uD 8:=fun x0 y0 y1=>by kernel_rfl
theorem KA:uD 9:=fun x0 y0 y1=>by kernel_rfl
theorem aHh {cap:Nat} (h:cap=6\/cap=7\/cap=8\/cap=9):uD cap:=by
 rcases h with rfl | rfl | rfl | rfl
 .exact KD
 .exact KC
 .exact KB
 .exact KA
def uC (cap:Nat):Prop:=∀ x0 x1:Int,jE [] [] (.aH 64 true 0 2 cap) (.aH 65 true 0 0 6) (wc (x0::x1::0::List.replicate (cap-3) 0)) (wc [0,0,0,0,0,0])=some { val:=.ptr 61 true 0,wr:=[(61,.own [.bool true false,.aH 64 true 0 2 cap] 102),(64,.own (.int false .u64 x0 :: .int false .u64 x1 :: .int false .u64 0 :: .int false .u64 0::wc (List.replicate (cap-4) 0)) 142)] }
theorem JZ:uC 6:=fun x0 x1=>by kernel_rfl
theorem JY:uC 7:=fun x0 x1=>by kernel_rfl
theorem JX:uC 8:=fun x0 x1=>by kernel_rfl
theorem JW:uC 9:=fun x0 x1=>by kernel_rfl
theorem aHg {cap:Nat} (h:cap=6\/cap=7\/cap=8\/cap=9):uC cap:=by
 rcases h with rfl | rfl | rfl | rfl
 .exact JZ
 .exact JY
 .exact JX
 .exact JW
def uB (cap:Nat):Prop:=∀ x0 x1 y0:Int,jE [false] [true] (.aH 64 true 0 2 cap) (.aH 65 true 0 1 6) (wc (x0::x1::0::List.replicate (cap-3) 0)) (wc [y0,0,0,0,0,0])=some { bO:=([(M.ul (x1+M.uh (x0+y0+0)+0)==0)=false,(M.uh (x1+M.uh (x0+y0+0)+0)==0)=true,M.U x1,M.U (M.uh (x0+y0+0)),M.K 0,x1=x1,M.uh (x0+y0+0)=M.uh (x0+y0+0),(0:Int)=0,M.U x0,M.U y0,M.K 0,x0=x0,y0=y0,(0:Int)=0]:List Prop),val:=.ptr 61 true 0,wr:=[(61,.own [.bool true false,.aH 64 true 0 2 cap] 102),(64,.own (.int false .u64 (M.ul (x0+y0+0)) :: .int false .u64 (M.ul (x1+M.uh (x0+y0+0)+0)) :: .int true .u64 0 :: .int false .u64 0::wc (List.replicate (cap-4) 0)) 142)] }
theorem JV:uB 6:=fun x0 x1 y0=>by kernel_rfl
theorem JU:uB 7:=fun x0 x1 y0=>by kernel_rfl
theorem JT:uB 8:=fun x0 x1 y0=>by kernel_rfl
theorem JS:uB 9:=fun x0 x1 y0=>by kernel_rfl
theorem aHf {cap:Nat} (h:cap=6\/cap=7\/cap=8\/cap=9):uB cap:=by
 rcases h with rfl | rfl | rfl | rfl
 .exact JV
 .exact JU
 .exact JT
 .exact JS
def uA (cap:Nat):Prop:=∀ x0 x1 y0:Int,jE [] [false] (.aH 64 true 0 2 cap) (.aH 65 true 0 1 6) (wc (x0::x1::0::List.replicate (cap-3) 0)) (wc [y0,0,0,0,0,0])=some { bO:=([(M.uh (x1+M.uh (x0+y0+0)+0)==0)=false,M.U x1,M.U (M.uh (x0+y0+0)),M.K 0,x1=x1,M.uh (x0+y0+0)=M.uh (x0+y0+0),(0:Int)=0,M.U x0,M.U y0,M.K 0,x0=x0,y0=y0,(0:Int)=0]:List Prop),val:=.ptr 61 true 0,wr:=[(61,.own [.bool true false,.aH 64 true 0 3 cap] 102),(64,.own (.int false .u64 (M.ul (x0+y0+0)) :: .int false .u64 (M.ul (x1+M.uh (x0+y0+0)+0)) :: .int true .u64 1 :: .int false .u64 0::wc (List.replicate (cap-4) 0)) 142)] }
theorem JR:uA 6:=fun x0 x1 y0=>by kernel_rfl
theorem JQ:uA 7:=fun x0 x1 y0=>by kernel_rfl
theorem JP:uA 8:=fun x0 x1 y0=>by kernel_rfl
theorem JO:uA 9:=fun x0 x1 y0=>by kernel_rfl
theorem aHe {cap:Nat} (h:cap=6\/cap=7\/cap=8\/cap=9):uA cap:=by
 rcases h with rfl | rfl | rfl | rfl
 .exact JR
 .exact JQ
 .exact JP
 .exact JO
def tZ (cap:Nat):Prop:=∀ x0 x1 y0 y1:Int,jE [true,false] [] (.aH 64 true 0 2 cap) (.aH 65 true 0 2 6) (wc (x0::x1::0::List.replicate (cap-3) 0)) (wc [y0,y1,0,0,0,0])=some { bO:=([(M.ul (x1+y1+M.uh (x0+y0+0))==0)=false,(M.uh (x1+y1+M.uh (x0+y0+0))==0)=true,M.U x1,M.U y1,M.K (M.uh (x0+y0+0)),x1=x1,y1=y1,M.uh (x0+y0+0)=M.uh (x0+y0+0),M.U x0,M.U y0,M.K 0,x0=x0,y0=y0,(0:Int)=0]:List Prop),val:=.ptr 61 true 0,wr:=[(61,.own [.bool true false,.aH 64 true 0 2 cap] 102),(64,.own (.int false .u64 (M.ul (x0+y0+0)) :: .int false .u64 (M.ul (x1+y1+M.uh (x0+y0+0))) :: .int false .u64 (M.uh (x1+y1+M.uh (x0+y0+0))) :: .int false .u64 0::wc (List.replicate (cap-4) 0)) 142)] }
theorem JN:tZ 6:=fun x0 x1 y0 y1=>by kernel_rfl
theorem JM:tZ 7:=fun x0 x1 y0 y1=>by kernel_rfl
theorem JL:tZ 8:=fun x0 x1 y0 y1=>by kernel_rfl
theorem JK:tZ 9:=fun x0 x1 y0 y1=>by kernel_rfl
theorem aHd {cap:Nat} (h:cap=6\/cap=7\/cap=8\/cap=9):tZ cap:=by
 rcases h with rfl | rfl | rfl | rfl
 .exact JN
 .exact JM
 .exact JL
 .exact JK
def tY (cap:Nat):Prop:=∀ x0 x1 y0 y1:Int,jE [false] [] (.aH 64 true 0 2 cap) (.aH 65 true 0 2 6) (wc (x0::x1::0::List.replicate (cap-3) 0)) (wc [y0,y1,0,0,0,0])=some { bO:=([(M.uh (x1+y1+M.uh (x0+y0+0))==0)=false,M.U x1,M.U y1,M.K (M.uh (x0+y0+0)),x1=x1,y1=y1,M.uh (x0+y0+0)=M.uh (x0+y0+0),M.U x0,M.U y0,M.K 0,x0=x0,y0=y0,(0:Int)=0]:List Prop),val:=.ptr 61 true 0,wr:=[(61,.own [.bool true false,.aH 64 true 0 3 cap] 102),(64,.own (.int false .u64 (M.ul (x0+y0+0)) :: .int false .u64 (M.ul (x1+y1+M.uh (x0+y0+0))) :: .int false .u64 (M.uh (x1+y1+M.uh (x0+y0+0))) :: .int false .u64 0::wc (List.replicate (cap-4) 0)) 142)] }
theorem JJ:tY 6:=fun x0 x1 y0 y1=>by kernel_rfl
theorem JI:tY 7:=fun x0 x1 y0 y1=>by kernel_rfl
theorem JH:tY 8:=fun x0 x1 y0 y1=>by kernel_rfl
theorem JG:tY 9:=fun x0 x1 y0 y1=>by kernel_rfl
theorem aHc {cap:Nat} (h:cap=6\/cap=7\/cap=8\/cap=9):tY cap:=by
 rcases h with rfl | rfl | rfl | rfl
 .exact JJ
 .exact JI
 .exact JH
 .exact JG
def tX (cap:Nat):Prop:=∀ x0 x1 x2:Int,jE [] [] (.aH 64 true 0 3 cap) (.aH 65 true 0 0 6) (wc (x0::x1::x2::List.replicate (cap-3) 0)) (wc [0,0,0,0,0,0])=some { val:=.ptr 61 true 0,wr:=[(61,.own [.bool true false,.aH 64 true 0 3 cap] 102),(64,.own (.int false .u64 x0 :: .int false .u64 x1 :: .int false .u64 x2 :: .int false .u64 0::wc (List.replicate (cap-4) 0)) 142)] }
theorem JF:tX 6:=fun x0 x1 x2=>by kernel_rfl
theorem JE:tX 7:=fun x0 x1 x2=>by kernel_rfl
theorem JD:tX 8:=fun x0 x1 x2=>by kernel_rfl
theorem JC:tX 9:=fun x0 x1 x2=>by kernel_rfl
theorem aHb {cap:Nat} (h:cap=6\/cap=7\/cap=8\/cap=9):tX cap:=by
 rcases h with rfl | rfl | rfl | rfl
 .exact JF
 .exact JE
 .exact JD
 .exact JC
def tW (cap:Nat):Prop:=∀ x0 x1 x2 y0:Int,jE [false] [true] (.aH 64 true 0 3 cap) (.aH 65 true 0 1 6) (wc (x0::x1::x2::List.replicate (cap-3) 0)) (wc [y0,0,0,0,0,0])=some { bO:=([(x2==0)=false,(M.uh (x1+M.uh (x0+y0+0)+0)==0)=true,M.U x1,M.U (M.uh (x0+y0+0)),M.K 0,x1=x1,M.uh (x0+y0+0)=M.uh (x0+y0+0),(0:Int)=0,M.U x0,M.U y0,M.K 0,x0=x0,y0=y0,(0:Int)=0]:List Prop),val:=.ptr 61 true 0,wr:=[(61,.own [.bool true false,.aH 64 true 0 3 cap] 102),(64,.own (.int false .u64 (M.ul (x0+y0+0)) :: .int false .u64 (M.ul (x1+M.uh (x0+y0+0)+0)) :: .int false .u64 x2 :: .int true .u64 0::wc (List.replicate (cap-4) 0)) 142)] }
theorem JB:tW 6:=fun x0 x1 x2 y0=>by kernel_rfl
theorem JA:tW 7:=fun x0 x1 x2 y0=>by kernel_rfl
theorem IZ:tW 8:=fun x0 x1 x2 y0=>by kernel_rfl
theorem IY:tW 9:=fun x0 x1 x2 y0=>by kernel_rfl
theorem aHa {cap:Nat} (h:cap=6\/cap=7\/cap=8\/cap=9):tW cap:=by
 rcases h with rfl | rfl | rfl | rfl
 .exact JB
 .exact JA
 .exact IZ
 .exact IY
def qC (cap:Nat):Prop:=∀ x0 x1 x2 y0:Int,jE [false] [false,true] (.aH 64 true 0 3 cap) (.aH 65 true 0 1 6) (wc (x0::x1::x2::List.replicate (cap-3) 0)) (wc [y0,0,0,0,0,0])=some { bO:=([(IntKind.u64.wrap (x2+1)==0)=false,(x2 != 18446744073709551615)=true,(M.uh (x1+M.uh (x0+y0+0)+0)==0)=false,M.U x1,M.U (M.uh (x0+y0+0)),M.K 0,x1=x1,M.uh (x0+y0+0)=M.uh (x0+y0+0),(0:Int)=0,M.U x0,M.U y0,M.K 0,x0=x0,y0=y0,(0:Int)=0]:List Prop),val:=.ptr 61 true 0,wr:=[(61,.own [.bool true false,.aH 64 true 0 3 cap] 102),(64,.own (.int false .u64 (M.ul (x0+y0+0)) :: .int false .u64 (M.ul (x1+M.uh (x0+y0+0)+0)) :: .int false .u64 (IntKind.u64.wrap (x2+1)) :: .int true .u64 0::wc (List.replicate (cap-4) 0)) 142)] }
theorem Xv:qC 6:=fun x0 x1 x2 y0=>by kernel_rfl
theorem Xu:qC 7:=fun x0 x1 x2 y0=>by kernel_rfl
theorem Xt:qC 8:=fun x0 x1 x2 y0=>by kernel_rfl
theorem Xs:qC 9:=fun x0 x1 x2 y0=>by kernel_rfl
theorem XA {cap:Nat} (h:cap=6\/cap=7\/cap=8\/cap=9):qC cap:=by
 rcases h with rfl | rfl | rfl | rfl
 .exact Xv
 .exact Xu
 .exact Xt
 .exact Xs
def tV (cap:Nat):Prop:=∀ x0 x1 x2 y0 y1:Int,jE [false] [true] (.aH 64 true 0 3 cap) (.aH 65 true 0 2 6) (wc (x0::x1::x2::List.replicate (cap-3) 0)) (wc [y0,y1,0,0,0,0])=some { bO:=([(M.ul (x2+M.uh (x1+y1+M.uh (x0+y0+0))+0)==0)=false,(M.uh (x2+M.uh (x1+y1+M.uh (x0+y0+0))+0)==0)=true,M.U x2,M.U (M.uh (x1+y1+M.uh (x0+y0+0))),M.K 0,x2=x2,M.uh (x1+y1+M.uh (x0+y0+0))=M.uh (x1+y1+M.uh (x0+y0+0)),(0:Int)=0,M.U x1,M.U y1,M.K (M.uh (x0+y0+0)),x1=x1,y1=y1,M.uh (x0+y0+0)=M.uh (x0+y0+0),M.U x0,M.U y0,M.K 0,x0=x0,y0=y0,(0:Int)=0]:List Prop),val:=.ptr 61 true 0,wr:=[(61,.own [.bool true false,.aH 64 true 0 3 cap] 102),(64,.own (.int false .u64 (M.ul (x0+y0+0)) :: .int false .u64 (M.ul (x1+y1+M.uh (x0+y0+0))) :: .int false .u64 (M.ul (x2+M.uh (x1+y1+M.uh (x0+y0+0))+0)) :: .int true .u64 0::wc (List.replicate (cap-4) 0)) 142)] }
theorem IX:tV 6:=fun x0 x1 x2 y0 y1=>by kernel_rfl
theorem IW:tV 7:=fun x0 x1 x2 y0 y1=>by kernel_rfl
theorem IV:tV 8:=fun x0 x1 x2 y0 y1=>by kernel_rfl
theorem IU:tV 9:=fun x0 x1 x2 y0 y1=>by kernel_rfl
theorem aGz {cap:Nat} (h:cap=6\/cap=7\/cap=8\/cap=9):tV cap:=by
 rcases h with rfl | rfl | rfl | rfl
 .exact IX
 .exact IW
 .exact IV
 .exact IU
theorem aPg (_z:Int) :
 Om (.aH 65 true 0 0 6) (wc [0,0,0,0,0,0]) =
 some {val:=.ptr 61 true 0,wr:=[(61,.own [.bool true false,.raw (Value.slice none 0 0)] 102)]}:=by kernel_rfl
theorem aPf (y0:Int) :
 Om (.aH 65 true 0 1 6) (wc [y0,0,0,0,0,0]) =
 some {val:=.ptr 61 true 0,new:=[.own [.int false .u64 y0] 142],wr:=[(61,.own [.bool true false,.aH 100 true 0 1 1] 102)]}:=by kernel_rfl
theorem aPe (y0 y1:Int) :
 Om (.aH 65 true 0 2 6) (wc [y0,y1,0,0,0,0]) =
 some {val:=.ptr 61 true 0,new:=[.own [.int false .u64 y0,.int false .u64 y1,.int true .u64 0,.int true .u64 0,.int true .u64 0,.int true .u64 0] 142],wr:=[(61,.own [.bool true false,.aH 100 true 0 2 6] 102)]}:=by kernel_rfl
end Go.Proofs.YtnodfocobmghiaaGreatDoor.Sx
