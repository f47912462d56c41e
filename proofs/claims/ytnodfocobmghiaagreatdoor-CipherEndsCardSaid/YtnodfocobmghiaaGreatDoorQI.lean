/- math/big: (*Int).Add, a sum in its own words: the runs. -/
import Derived.Test.YtnodfocobmghiaaGreatDoorQH
open Go
set_option maxRecDepth 100000
namespace Go.Proofs.YtnodfocobmghiaaGreatDoor.Sx
noncomputable def AR (h h2:List Bool):Nat->Option Sum:=zS (zS Ut 145 h) 153 h2
theorem XE (h h2:List Bool):∀ f S,AR h h2 f=some S->∀ Γ:Env,Γ.aR=aA->aF Tryz.prog Γ f S:=kT (kT oH 145 h) 153 h2
def xN:List SV:=[.ptr 61 true 0,.ptr 61 true 0,.ptr 63 true 0]
def NZ (X Y:SV) (xs ys:List SV):List (Nat × SB):=[(61,.own [.bool true false,X] 102),(63,.own [.bool true false,Y] 102),(64,.own xs 142),(65,.own ys 142),(17,.fL [.int true .i64 40]),(18,.fL [.int true .i64 40])]
def Ng (Y:SV) (ys:List SV):List (Nat × SB):=[(61,.own [.bool true false,.raw (.slice none 0 0)] 102),(63,.own [.bool true false,Y] 102),(65,.own ys 142),(17,.fL [.int true .i64 40]),(18,.fL [.int true .i64 40])]
noncomputable def Nz (Y:SV) (ys:List SV):Option bK:=aJ (env (AR [] []) 22) Tryz.f70 true [] 400 xN (fun l=>look l (Ng Y ys)) 100 100
noncomputable def jC (h h2:List Bool) (X Y:SV) (xs ys:List SV):Option bK:=aJ (env (AR h h2) 22) Tryz.f70 true [] 400 xN (fun l=>look l (NZ X Y xs ys)) 100 100
def uI (cap:Nat):Prop:=∀ _z:Int,jC [] [] (.aG 64 true 0 0 cap) (.aG 65 true 0 0 6) (wc (0::0::0::List.replicate (cap-3) 0)) (wc [0,0,0,0,0,0])=some { val:=.ptr 61 true 0,wr:=[(61,.own [.bool true false,.aG 64 true 0 0 cap] 102)] }
theorem KZ:uI 6:=fun _z=>by kernel_rfl
theorem KY:uI 7:=fun _z=>by kernel_rfl
theorem KX:uI 8:=fun _z=>by kernel_rfl
theorem KW:uI 9:=fun _z=>by kernel_rfl
theorem aHg {cap:Nat} (h:cap=6\/cap=7\/cap=8\/cap=9):uI cap:=by
 rcases h with rfl | rfl | rfl | rfl
 .exact KZ
 .exact KY
 .exact KX
 .exact KW
def uH (cap:Nat):Prop:=∀ y0:Int,jC [] [] (.aG 64 true 0 0 cap) (.aG 65 true 0 1 6) (wc (0::0::0::List.replicate (cap-3) 0)) (wc [y0,0,0,0,0,0])=some { val:=.ptr 61 true 0,wr:=[(61,.own [.bool true false,.aG 64 true 0 1 cap] 102),(64,.own (.int false .u64 y0 :: .int false .u64 0 :: .int false .u64 0 :: .int false .u64 0::wc (List.replicate (cap-4) 0)) 142)] }
theorem KV:uH 6:=fun y0=>by kernel_rfl
theorem KU:uH 7:=fun y0=>by kernel_rfl
theorem KT:uH 8:=fun y0=>by kernel_rfl
theorem KS:uH 9:=fun y0=>by kernel_rfl
theorem aHf {cap:Nat} (h:cap=6\/cap=7\/cap=8\/cap=9):uH cap:=by
 rcases h with rfl | rfl | rfl | rfl
 .exact KV
 .exact KU
 .exact KT
 .exact KS
def uG (cap:Nat):Prop:=∀ y0 y1:Int,jC [] [] (.aG 64 true 0 0 cap) (.aG 65 true 0 2 6) (wc (0::0::0::List.replicate (cap-3) 0)) (wc [y0,y1,0,0,0,0])=some { val:=.ptr 61 true 0,wr:=[(61,.own [.bool true false,.aG 64 true 0 2 cap] 102),(64,.own (.int false .u64 y0 :: .int false .u64 y1 :: .int false .u64 0 :: .int false .u64 0::wc (List.replicate (cap-4) 0)) 142)] }
theorem KR:uG 6:=fun y0 y1=>by kernel_rfl
theorem KP:uG 7:=fun y0 y1=>by kernel_rfl
theorem KO:uG 8:=fun y0 y1=>by kernel_rfl
theorem KN:uG 9:=fun y0 y1=>by kernel_rfl
theorem aHe {cap:Nat} (h:cap=6\/cap=7\/cap=8\/cap=9):uG cap:=by
 rcases h with rfl | rfl | rfl | rfl
 .exact KR
 .exact KP
 .exact KO
 .exact KN
def uF (cap:Nat):Prop:=∀ x0:Int,jC [] [] (.aG 64 true 0 1 cap) (.aG 65 true 0 0 6) (wc (x0::0::0::List.replicate (cap-3) 0)) (wc [0,0,0,0,0,0])=some { val:=.ptr 61 true 0,wr:=[(61,.own [.bool true false,.aG 64 true 0 1 cap] 102),(64,.own (.int false .u64 x0 :: .int false .u64 0 :: .int false .u64 0 :: .int false .u64 0::wc (List.replicate (cap-4) 0)) 142)] }
theorem KM:uF 6:=fun x0=>by kernel_rfl
theorem KL:uF 7:=fun x0=>by kernel_rfl
theorem KK:uF 8:=fun x0=>by kernel_rfl
theorem KJ:uF 9:=fun x0=>by kernel_rfl
theorem aHd {cap:Nat} (h:cap=6\/cap=7\/cap=8\/cap=9):uF cap:=by
 rcases h with rfl | rfl | rfl | rfl
 .exact KM
 .exact KL
 .exact KK
 .exact KJ
def uE (cap:Nat):Prop:=∀ x0 y0:Int,jC [true,false] [] (.aG 64 true 0 1 cap) (.aG 65 true 0 1 6) (wc (x0::0::0::List.replicate (cap-3) 0)) (wc [y0,0,0,0,0,0])=some { bO:=([(M.ul (x0+y0+0)==0)=false,(M.uh (x0+y0+0)==0)=true,M.U x0,M.U y0,M.K 0,x0=x0,y0=y0,(0:Int)=0]:List Prop),val:=.ptr 61 true 0,wr:=[(61,.own [.bool true false,.aG 64 true 0 1 cap] 102),(64,.own (.int false .u64 (M.ul (x0+y0+0)) :: .int false .u64 (M.uh (x0+y0+0)) :: .int false .u64 0 :: .int false .u64 0::wc (List.replicate (cap-4) 0)) 142)] }
theorem KI:uE 6:=fun x0 y0=>by kernel_rfl
theorem KH:uE 7:=fun x0 y0=>by kernel_rfl
theorem KG:uE 8:=fun x0 y0=>by kernel_rfl
theorem KF:uE 9:=fun x0 y0=>by kernel_rfl
theorem aHc {cap:Nat} (h:cap=6\/cap=7\/cap=8\/cap=9):uE cap:=by
 rcases h with rfl | rfl | rfl | rfl
 .exact KI
 .exact KH
 .exact KG
 .exact KF
def uD (cap:Nat):Prop:=∀ x0 y0:Int,jC [false] [] (.aG 64 true 0 1 cap) (.aG 65 true 0 1 6) (wc (x0::0::0::List.replicate (cap-3) 0)) (wc [y0,0,0,0,0,0])=some { bO:=([(M.uh (x0+y0+0)==0)=false,M.U x0,M.U y0,M.K 0,x0=x0,y0=y0,(0:Int)=0]:List Prop),val:=.ptr 61 true 0,wr:=[(61,.own [.bool true false,.aG 64 true 0 2 cap] 102),(64,.own (.int false .u64 (M.ul (x0+y0+0)) :: .int false .u64 (M.uh (x0+y0+0)) :: .int false .u64 0 :: .int false .u64 0::wc (List.replicate (cap-4) 0)) 142)] }
theorem KE:uD 6:=fun x0 y0=>by kernel_rfl
theorem KD:uD 7:=fun x0 y0=>by kernel_rfl
theorem KC:uD 8:=fun x0 y0=>by kernel_rfl
theorem KB:uD 9:=fun x0 y0=>by kernel_rfl
theorem aHb {cap:Nat} (h:cap=6\/cap=7\/cap=8\/cap=9):uD cap:=by
 rcases h with rfl | rfl | rfl | rfl
 .exact KE
 .exact KD
 .exact KC
 .exact KB
def uC (cap:Nat):Prop:=∀ x0 y0 y1:Int,jC [false] [true] (.aG 64 true 0 1 cap) (.aG 65 true 0 2 6) (wc (x0::0::0::List.replicate (cap-3) 0)) (wc [y0,y1,0,0,0,0])=some { bO:=([(M.ul (y1+M.uh (y0+x0+0)+0)==0)=false,(M.uh (y1+M.uh (y0+x0+0)+0)==0)=true,M.U y1,M.U (M.uh (y0+x0+0)),M.K 0,y1=y1,M.uh (y0+x0+0)=M.uh (y0+x0+0),(0:Int)=0,M.U y0,M.U x0,M.K 0,y0=y0,x0=x0,(0:Int)=0]:List Prop),val:=.ptr 61 true 0,wr:=[(61,.own [.bool true false,.aG 64 true 0 2 cap] 102),(64,.own (.int false .u64 (M.ul (y0+x0+0)) :: .int false .u64 (M.ul (y1+M.uh (y0+x0+0)+0)) :: .int true .u64 0 :: .int false .u64 0::wc (List.replicate (cap-4) 0)) 142)] }
theorem KA:uC 6:=fun x0 y0 y1=>by kernel_rfl
theorem JZ:uC 7:=fun x0 y0 y1=>by kernel_rfl
theorem JY:uC 8:=fun x0 y0 y1=>by kernel_rfl
theorem JX:uC 9:=fun x0 y0 y1=>by kernel_rfl
theorem aHa {cap:Nat} (h:cap=6\/cap=7\/cap=8\/cap=9):uC cap:=by
 rcases h with rfl | rfl | rfl | rfl
 .exact KA
 .exact JZ
 .exact JY
 .exact JX
def uB (cap:Nat):Prop:=∀ x0 y0 y1:Int,jC [] [false] (.aG 64 true 0 1 cap) (.aG 65 true 0 2 6) (wc (x0::0::0::List.replicate (cap-3) 0)) (wc [y0,y1,0,0,0,0])=some { bO:=([(M.uh (y1+M.uh (y0+x0+0)+0)==0)=false,M.U y1,M.U (M.uh (y0+x0+0)),M.K 0,y1=y1,M.uh (y0+x0+0)=M.uh (y0+x0+0),(0:Int)=0,M.U y0,M.U x0,M.K 0,y0=y0,x0=x0,(0:Int)=0]:List Prop),val:=.ptr 61 true 0,wr:=[(61,.own [.bool true false,.aG 64 true 0 3 cap] 102),(64,.own (.int false .u64 (M.ul (y0+x0+0)) :: .int false .u64 (M.ul (y1+M.uh (y0+x0+0)+0)) :: .int true .u64 1 :: .int false .u64 0::wc (List.replicate (cap-4) 0)) 142)] }
theorem JW:uB 6:=fun x0 y0 y1=>by kernel_rfl
theorem JV:uB 7:=fun x0 y0 y1=>by kernel_rfl
theorem JU:uB 8:=fun x0 y0 y1=>by kernel_rfl
theorem JT:uB 9:=fun x0 y0 y1=>by kernel_rfl
theorem aGz {cap:Nat} (h:cap=6\/cap=7\/cap=8\/cap=9):uB cap:=by
 rcases h with rfl | rfl | rfl | rfl
 .exact JW
 .exact JV
 .exact JU
 .exact JT
def uA (cap:Nat):Prop:=∀ x0 x1:Int,jC [] [] (.aG 64 true 0 2 cap) (.aG 65 true 0 0 6) (wc (x0::x1::0::List.replicate (cap-3) 0)) (wc [0,0,0,0,0,0])=some { val:=.ptr 61 true 0,wr:=[(61,.own [.bool true false,.aG 64 true 0 2 cap] 102),(64,.own (.int false .u64 x0 :: .int false .u64 x1 :: .int false .u64 0 :: .int false .u64 0::wc (List.replicate (cap-4) 0)) 142)] }
theorem JS:uA 6:=fun x0 x1=>by kernel_rfl
theorem JR:uA 7:=fun x0 x1=>by kernel_rfl
theorem JQ:uA 8:=fun x0 x1=>by kernel_rfl
theorem JP:uA 9:=fun x0 x1=>by kernel_rfl
theorem aGy {cap:Nat} (h:cap=6\/cap=7\/cap=8\/cap=9):uA cap:=by
 rcases h with rfl | rfl | rfl | rfl
 .exact JS
 .exact JR
 .exact JQ
 .exact JP
def tZ (cap:Nat):Prop:=∀ x0 x1 y0:Int,jC [false] [true] (.aG 64 true 0 2 cap) (.aG 65 true 0 1 6) (wc (x0::x1::0::List.replicate (cap-3) 0)) (wc [y0,0,0,0,0,0])=some { bO:=([(M.ul (x1+M.uh (x0+y0+0)+0)==0)=false,(M.uh (x1+M.uh (x0+y0+0)+0)==0)=true,M.U x1,M.U (M.uh (x0+y0+0)),M.K 0,x1=x1,M.uh (x0+y0+0)=M.uh (x0+y0+0),(0:Int)=0,M.U x0,M.U y0,M.K 0,x0=x0,y0=y0,(0:Int)=0]:List Prop),val:=.ptr 61 true 0,wr:=[(61,.own [.bool true false,.aG 64 true 0 2 cap] 102),(64,.own (.int false .u64 (M.ul (x0+y0+0)) :: .int false .u64 (M.ul (x1+M.uh (x0+y0+0)+0)) :: .int true .u64 0 :: .int false .u64 0::wc (List.replicate (cap-4) 0)) 142)] }
theorem JO:tZ 6:=fun x0 x1 y0=>by kernel_rfl
theorem JN:tZ 7:=fun x0 x1 y0=>by kernel_rfl
theorem JM:tZ 8:=fun x0 x1 y0=>by kernel_rfl
theorem JL:tZ 9:=fun x0 x1 y0=>by kernel_rfl
theorem aGx {cap:Nat} (h:cap=6\/cap=7\/cap=8\/cap=9):tZ cap:=by
 rcases h with rfl | rfl | rfl | rfl
 .exact JO
 .exact JN
 .exact JM
 .exact JL
def tY (cap:Nat):Prop:=∀ x0 x1 y0:Int,jC [] [false] (.aG 64 true 0 2 cap) (.aG 65 true 0 1 6) (wc (x0::x1::0::List.replicate (cap-3) 0)) (wc [y0,0,0,0,0,0])=some { bO:=([(M.uh (x1+M.uh (x0+y0+0)+0)==0)=false,M.U x1,M.U (M.uh (x0+y0+0)),M.K 0,x1=x1,M.uh (x0+y0+0)=M.uh (x0+y0+0),(0:Int)=0,M.U x0,M.U y0,M.K 0,x0=x0,y0=y0,(0:Int)=0]:List Prop),val:=.ptr 61 true 0,wr:=[(61,.own [.bool true false,.aG 64 true 0 3 cap] 102),(64,.own (.int false .u64 (M.ul (x0+y0+0)) :: .int false .u64 (M.ul (x1+M.uh (x0+y0+0)+0)) :: .int true .u64 1 :: .int false .u64 0::wc (List.replicate (cap-4) 0)) 142)] }
theorem JK:tY 6:=fun x0 x1 y0=>by kernel_rfl
theorem JJ:tY 7:=fun x0 x1 y0=>by kernel_rfl
theorem JI:tY 8:=fun x0 x1 y0=>by kernel_rfl
theorem JH:tY 9:=fun x0 x1 y0=>by kernel_rfl
theorem aGw {cap:Nat} (h:cap=6\/cap=7\/cap=8\/cap=9):tY cap:=by
 rcases h with rfl | rfl | rfl | rfl
 .exact JK
 .exact JJ
 .exact JI
 .exact JH
def tX (cap:Nat):Prop:=∀ x0 x1 y0 y1:Int,jC [true,false] [] (.aG 64 true 0 2 cap) (.aG 65 true 0 2 6) (wc (x0::x1::0::List.replicate (cap-3) 0)) (wc [y0,y1,0,0,0,0])=some { bO:=([(M.ul (x1+y1+M.uh (x0+y0+0))==0)=false,(M.uh (x1+y1+M.uh (x0+y0+0))==0)=true,M.U x1,M.U y1,M.K (M.uh (x0+y0+0)),x1=x1,y1=y1,M.uh (x0+y0+0)=M.uh (x0+y0+0),M.U x0,M.U y0,M.K 0,x0=x0,y0=y0,(0:Int)=0]:List Prop),val:=.ptr 61 true 0,wr:=[(61,.own [.bool true false,.aG 64 true 0 2 cap] 102),(64,.own (.int false .u64 (M.ul (x0+y0+0)) :: .int false .u64 (M.ul (x1+y1+M.uh (x0+y0+0))) :: .int false .u64 (M.uh (x1+y1+M.uh (x0+y0+0))) :: .int false .u64 0::wc (List.replicate (cap-4) 0)) 142)] }
theorem JG:tX 6:=fun x0 x1 y0 y1=>by kernel_rfl
theorem JF:tX 7:=fun x0 x1 y0 y1=>by kernel_rfl
theorem JE:tX 8:=fun x0 x1 y0 y1=>by kernel_rfl
theorem JD:tX 9:=fun x0 x1 y0 y1=>by kernel_rfl
theorem aGv {cap:Nat} (h:cap=6\/cap=7\/cap=8\/cap=9):tX cap:=by
 rcases h with rfl | rfl | rfl | rfl
 .exact JG
 .exact JF
 .exact JE
 .exact JD
def tW (cap:Nat):Prop:=∀ x0 x1 y0 y1:Int,jC [false] [] (.aG 64 true 0 2 cap) (.aG 65 true 0 2 6) (wc (x0::x1::0::List.replicate (cap-3) 0)) (wc [y0,y1,0,0,0,0])=some { bO:=([(M.uh (x1+y1+M.uh (x0+y0+0))==0)=false,M.U x1,M.U y1,M.K (M.uh (x0+y0+0)),x1=x1,y1=y1,M.uh (x0+y0+0)=M.uh (x0+y0+0),M.U x0,M.U y0,M.K 0,x0=x0,y0=y0,(0:Int)=0]:List Prop),val:=.ptr 61 true 0,wr:=[(61,.own [.bool true false,.aG 64 true 0 3 cap] 102),(64,.own (.int false .u64 (M.ul (x0+y0+0)) :: .int false .u64 (M.ul (x1+y1+M.uh (x0+y0+0))) :: .int false .u64 (M.uh (x1+y1+M.uh (x0+y0+0))) :: .int false .u64 0::wc (List.replicate (cap-4) 0)) 142)] }
theorem JC:tW 6:=fun x0 x1 y0 y1=>by kernel_rfl
theorem JB:tW 7:=fun x0 x1 y0 y1=>by kernel_rfl
theorem JA:tW 8:=fun x0 x1 y0 y1=>by kernel_rfl
theorem IZ:tW 9:=fun x0 x1 y0 y1=>by kernel_rfl
theorem aGu {cap:Nat} (h:cap=6\/cap=7\/cap=8\/cap=9):tW cap:=by
 rcases h with rfl | rfl | rfl | rfl
 .exact JC
 .exact JB
 .exact JA
 .exact IZ
def tV (cap:Nat):Prop:=∀ x0 x1 x2:Int,jC [] [] (.aG 64 true 0 3 cap) (.aG 65 true 0 0 6) (wc (x0::x1::x2::List.replicate (cap-3) 0)) (wc [0,0,0,0,0,0])=some { val:=.ptr 61 true 0,wr:=[(61,.own [.bool true false,.aG 64 true 0 3 cap] 102),(64,.own (.int false .u64 x0 :: .int false .u64 x1 :: .int false .u64 x2 :: .int false .u64 0::wc (List.replicate (cap-4) 0)) 142)] }
theorem IY:tV 6:=fun x0 x1 x2=>by kernel_rfl
theorem IX:tV 7:=fun x0 x1 x2=>by kernel_rfl
theorem IW:tV 8:=fun x0 x1 x2=>by kernel_rfl
theorem IV:tV 9:=fun x0 x1 x2=>by kernel_rfl
theorem aGt {cap:Nat} (h:cap=6\/cap=7\/cap=8\/cap=9):tV cap:=by
 rcases h with rfl | rfl | rfl | rfl
 .exact IY
 .exact IX
 .exact IW
 .exact IV
def tU (cap:Nat):Prop:=∀ x0 x1 x2 y0:Int,jC [false] [true] (.aG 64 true 0 3 cap) (.aG 65 true 0 1 6) (wc (x0::x1::x2::List.replicate (cap-3) 0)) (wc [y0,0,0,0,0,0])=some { bO:=([(x2==0)=false,(M.uh (x1+M.uh (x0+y0+0)+0)==0)=true,M.U x1,M.U (M.uh (x0+y0+0)),M.K 0,x1=x1,M.uh (x0+y0+0)=M.uh (x0+y0+0),(0:Int)=0,M.U x0,M.U y0,M.K 0,x0=x0,y0=y0,(0:Int)=0]:List Prop),val:=.ptr 61 true 0,wr:=[(61,.own [.bool true false,.aG 64 true 0 3 cap] 102),(64,.own (.int false .u64 (M.ul (x0+y0+0)) :: .int false .u64 (M.ul (x1+M.uh (x0+y0+0)+0)) :: .int false .u64 x2 :: .int true .u64 0::wc (List.replicate (cap-4) 0)) 142)] }
theorem IU:tU 6:=fun x0 x1 x2 y0=>by kernel_rfl
theorem IT:tU 7:=fun x0 x1 x2 y0=>by kernel_rfl
theorem IS:tU 8:=fun x0 x1 x2 y0=>by kernel_rfl
theorem IQ:tU 9:=fun x0 x1 x2 y0=>by kernel_rfl
theorem aGs {cap:Nat} (h:cap=6\/cap=7\/cap=8\/cap=9):tU cap:=by
 rcases h with rfl | rfl | rfl | rfl
 .exact IU
 .exact IT
 .exact IS
 .exact IQ
def pY (cap:Nat):Prop:=∀ x0 x1 x2 y0:Int,jC [false] [false,true] (.aG 64 true 0 3 cap) (.aG 65 true 0 1 6) (wc (x0::x1::x2::List.replicate (cap-3) 0)) (wc [y0,0,0,0,0,0])=some { bO:=([(IntKind.u64.wrap (x2+1)==0)=false,(x2 != 18446744073709551615)=true,(M.uh (x1+M.uh (x0+y0+0)+0)==0)=false,M.U x1,M.U (M.uh (x0+y0+0)),M.K 0,x1=x1,M.uh (x0+y0+0)=M.uh (x0+y0+0),(0:Int)=0,M.U x0,M.U y0,M.K 0,x0=x0,y0=y0,(0:Int)=0]:List Prop),val:=.ptr 61 true 0,wr:=[(61,.own [.bool true false,.aG 64 true 0 3 cap] 102),(64,.own (.int false .u64 (M.ul (x0+y0+0)) :: .int false .u64 (M.ul (x1+M.uh (x0+y0+0)+0)) :: .int false .u64 (IntKind.u64.wrap (x2+1)) :: .int true .u64 0::wc (List.replicate (cap-4) 0)) 142)] }
theorem Xm:pY 6:=fun x0 x1 x2 y0=>by kernel_rfl
theorem Xl:pY 7:=fun x0 x1 x2 y0=>by kernel_rfl
theorem Xk:pY 8:=fun x0 x1 x2 y0=>by kernel_rfl
theorem Xj:pY 9:=fun x0 x1 x2 y0=>by kernel_rfl
theorem WT {cap:Nat} (h:cap=6\/cap=7\/cap=8\/cap=9):pY cap:=by
 rcases h with rfl | rfl | rfl | rfl
 .exact Xm
 .exact Xl
 .exact Xk
 .exact Xj
def tT (cap:Nat):Prop:=∀ x0 x1 x2 y0 y1:Int,jC [false] [true] (.aG 64 true 0 3 cap) (.aG 65 true 0 2 6) (wc (x0::x1::x2::List.replicate (cap-3) 0)) (wc [y0,y1,0,0,0,0])=some { bO:=([(M.ul (x2+M.uh (x1+y1+M.uh (x0+y0+0))+0)==0)=false,(M.uh (x2+M.uh (x1+y1+M.uh (x0+y0+0))+0)==0)=true,M.U x2,M.U (M.uh (x1+y1+M.uh (x0+y0+0))),M.K 0,x2=x2,M.uh (x1+y1+M.uh (x0+y0+0))=M.uh (x1+y1+M.uh (x0+y0+0)),(0:Int)=0,M.U x1,M.U y1,M.K (M.uh (x0+y0+0)),x1=x1,y1=y1,M.uh (x0+y0+0)=M.uh (x0+y0+0),M.U x0,M.U y0,M.K 0,x0=x0,y0=y0,(0:Int)=0]:List Prop),val:=.ptr 61 true 0,wr:=[(61,.own [.bool true false,.aG 64 true 0 3 cap] 102),(64,.own (.int false .u64 (M.ul (x0+y0+0)) :: .int false .u64 (M.ul (x1+y1+M.uh (x0+y0+0))) :: .int false .u64 (M.ul (x2+M.uh (x1+y1+M.uh (x0+y0+0))+0)) :: .int true .u64 0::wc (List.replicate (cap-4) 0)) 142)] }
theorem IP:tT 6:=fun x0 x1 x2 y0 y1=>by kernel_rfl
theorem IN:tT 7:=fun x0 x1 x2 y0 y1=>by kernel_rfl
theorem IM:tT 8:=fun x0 x1 x2 y0 y1=>by kernel_rfl
theorem IL:tT 9:=fun x0 x1 x2 y0 y1=>by kernel_rfl
theorem aGr {cap:Nat} (h:cap=6\/cap=7\/cap=8\/cap=9):tT cap:=by
 rcases h with rfl | rfl | rfl | rfl
 .exact IP
 .exact IN
 .exact IM
 .exact IL
theorem aPa (_z:Int) :
 Nz (.aG 65 true 0 0 6) (wc [0,0,0,0,0,0]) =
 some {val:=.ptr 61 true 0,wr:=[(61,.own [.bool true false,.raw (Value.slice none 0 0)] 102)]}:=by kernel_rfl
theorem aOz (y0:Int) :
 Nz (.aG 65 true 0 1 6) (wc [y0,0,0,0,0,0]) =
 some {val:=.ptr 61 true 0,new:=[.own [.int false .u64 y0] 142],wr:=[(61,.own [.bool true false,.aG 100 true 0 1 1] 102)]}:=by kernel_rfl
theorem aOy (y0 y1:Int) :
 Nz (.aG 65 true 0 2 6) (wc [y0,y1,0,0,0,0]) =
 some {val:=.ptr 61 true 0,new:=[.own [.int false .u64 y0,.int false .u64 y1,.int true .u64 0,.int true .u64 0,.int true .u64 0,.int true .u64 0] 142],wr:=[(61,.own [.bool true false,.aG 100 true 0 2 6] 102)]}:=by kernel_rfl
end Go.Proofs.YtnodfocobmghiaaGreatDoor.Sx
