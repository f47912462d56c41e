/- The fast stream: four blocks at once, runs. -/
import Derived.Test.YtnodfocobmghiaaGreatDoorQC
open Go
set_option maxRecDepth 100000
namespace Go.Proofs.YtnodfocobmghiaaGreatDoor.Sx
namespace Q
def lane (k:Nat) (v:List Int):List Int:=(List.range 16).map fun i=>v.getD (4*i+k) 0
def Dx (a b c d:List Int) (j:Nat):Int:=match j%4 with
 | 0=>a.getD (j/4) 0
 | 1=>b.getD (j/4) 0
 | 2=>c.getD (j/4) 0
 | _=>d.getD (j/4) 0
def xL (a b c d:List Int):List Int:=(List.range 64).map (Dx a b c d)
def DW (s:List Int) (j:Nat):Int:=match Nat.beq (j/4) 12 with
 | true=>IntKind.u32.wrap (s.getD 12 0+IntKind.u32.wrap ((j%4:Nat):Int))
 | false=>s.getD (j/4) 0
def iU (s:List Int):List Int:=(List.range 64).map (DW s)
def dr4 (v:List Int):List Int:=xL (B.dr (lane 0 v)) (B.dr (lane 1 v)) (B.dr (lane 2 v)) (B.dr (lane 3 v))
def ix (i k n:Int):Int:=IntKind.i64.wrap (IntKind.i64.wrap (IntKind.i64.wrap (64*k)+IntKind.i64.wrap (4*i))+n)
def ad (off:Nat) (i k n:Int):Nat:=off+(ix i k n).toNat*1
def wd (v:List Int) (i k:Int):Int:=v.getD (0+i.toNat*4+k.toNat*1+0) 0
def byt (v w:List Int) (i k n:Int):Int:=IntKind.u8.wrap (bU .u32 (IntKind.u32.wrap (wd v i k+wd w i k)) (8*n))
def X (off:Nat) (v w:List Int) (i k:Int) (xs:List Int):Nat->List Int
 | 0=>xs
 | n+1=>(X off v w i k xs n).set (ad off i k n) (gW .u8 ((X off v w i k xs n).getD (ad off i k n+0) 0) (byt v w i k n))
def ob (off:Nat) (v w:List Int) (i k:Int) (xs:List Int):Nat->List Prop->List Prop
 | 0,r=>r
 | n+1,r=>(ad off i k n<(X off v w i k xs n).length)::(0<=ix i k n/\ix i k n<256)::(ad off i k n+1<=(X off v w i k xs n).length)::(0<=ix i k n/\ix i k n<256)::ob off v w i k xs n r
end Q
def PN (off:Nat) (s:List Int):List SV:=[.agg (cK .u32 16 s),.ptr 60 false off]
noncomputable def Us (xs:List Int) (t:TypeId) (cf:Cf) (K:List Fr) (s:St):Option qH:=gV yX (bI 100 (sO xs t)) 100 Tryz.f83.ntmps [18,29,32] 400 6000 cf K s
def Iw (off:Nat) (i:Int):List (Nat × SV):=[(1,.ptr 60 false off),(4,.ptr 100 true 0),(8,.ptr 101 true 0),(42,.int false .i64 i)]
def Iu (xs w v:List Int) (t:TypeId):List (Nat × SB):=[(60,.ints .u8 xs t),(100,.ints .u32 w 170),(101,.own (cK .u32 64 v) 170)]
noncomputable def fqR:Option qH:=Us [] 0 (.go (codeOf Tryz.f83)) [] ((Dg (PN 0 []) 100).hint [])
noncomputable def aCa:Code:=Jd fqR
noncomputable def fqK:List Fr:=Jc fqR
def Iv (off:Nat) (i:Int):List (Nat × SV):=[(1,.ptr 60 false off),(4,.ptr 100 true 0),(8,.ptr 101 true 0),(85,.int false .i64 i)]
def rN (xs w v:List Int) (t:TypeId):List (Nat × SB):=[(60,.ints .u8 xs t),(100,.ints .u32 w 170),(101,.ints .u32 v 170)]
noncomputable def aKp:Option qH:=Us [] 0 (.at (.exit 6)) fqK ((cG (Iw 0 0) (Iu [] [] [] 0) 102 [60] []).hint [])
noncomputable def PO:Code:=Jd aKp
noncomputable def aKr:List Fr:=Jc aKp
noncomputable def aKo:Option qH:=Us [] 0 (.go PO) [] ((cG (Iv 0 0) (rN [] [] [] 0) 102 [60] []).hint [true])
noncomputable def aCb:Code:=Jd aKo
noncomputable def aKq:List Fr:=Jc aKo
def Nf (off:Nat) (i k:Int):List (Nat × SV):=[(1,.ptr 60 false off),(4,.ptr 100 true 0),(8,.ptr 101 true 0),(9,.int false .i64 i),(85,.int false .i64 i),(88,.int false .i64 k)]
theorem aUj (xs hY s w' v':List Int) (t:TypeId) (off eY:Nat) (i':Int):hZ 100 Tryz.f83.ntmps (bI 100 (sO xs t)) [] (Iw eY i') (Iu hY w' v' t) 102 [60] [] (Us xs t (.go (codeOf Tryz.f83)) [] ((Dg (PN off s) 100).hint [])) =
 some (.go (.loop aCa),fqK,(off=eY)::(0=i')::(xs=hY/\t=t)::(Q.iU s=w'/\(170:Nat)=(170:TypeId))::[Q.iU s=dA 64 v']):=by kernel_rfl
theorem aUi (gI xs hY w v w' v':List Int) (t:TypeId) (off eY:Nat) (i i':Int):hZ 100 Tryz.f83.ntmps (bI 100 (sO gI t)) [] (Iw eY i') (Iu hY w' v' t) 102 [60] [] (Us gI t (.go aCa) [] ((cG (Iw off i) (Iu xs w v t) 102 [60] []).hint [true])) =
 some (.at .normal,[],(decide (i<10)=true)::(off=eY)::(IntKind.i64.wrap (i+1)=i')::(xs=hY/\t=t)::(w=w'/\(170:Nat)=(170:TypeId))::[Q.dr4 v=dA 64 v']):=by kernel_rfl
theorem aUh (gI xs hY w v w' v':List Int) (t:TypeId) (off eY:Nat) (i i':Int):hZ 100 Tryz.f83.ntmps (bI 100 (sO gI t)) [] (Iw eY i') (Iu hY w' v' t) 102 [60] [] (Us gI t (.go aCa) [] ((cG (Iw off i) (Iu xs w v t) 102 [60] []).hint [false])) =
 some (.at (.exit 6),[],(decide (i<10)=false)::(off=eY)::(i=i')::(xs=hY/\t=t)::(w=w'/\(170:Nat)=(170:TypeId))::[dA 64 v=dA 64 v']):=by kernel_rfl
theorem aUg (gI xs hY w v w' v':List Int) (t:TypeId) (off eY:Nat) (i i':Int):hZ 100 Tryz.f83.ntmps (bI 100 (sO gI t)) [] (Iv eY i') (rN hY w' v' t) 102 [60] [] (Us gI t (.at (.exit 6)) fqK ((cG (Iw off i) (Iu xs w v t) 102 [60] []).hint [])) =
 some (.go (.loop PO),aKr,[off=eY,0=i',xs=hY/\t=t,w=w'/\(170:Nat)=(170:TypeId),dA 64 v=v'/\(170:Nat)=(170:TypeId)]):=by kernel_rfl
theorem aUd (gI xs hY w v w' v':List Int) (t:TypeId) (off eY:Nat) (i i' k':Int):hZ 100 Tryz.f83.ntmps (bI 100 (sO gI t)) [] (Nf eY i' k') (rN hY w' v' t) 102 [60] [] (Us gI t (.go PO) [] ((cG (Iv off i) (rN xs w v t) 102 [60] []).hint [true])) =
 some (.go (.loop aCb),aKq,[decide (i<16)=true,off=eY,i=i',i=i',0=k',xs=hY/\t=t,w=w'/\(170:Nat)=(170:TypeId),v=v'/\(170:Nat)=(170:TypeId)]):=by kernel_rfl
theorem aUc (gI xs hY w v w' v':List Int) (t:TypeId) (off eY:Nat) (i i' k k':Int):hZ 100 Tryz.f83.ntmps (bI 100 (sO gI t)) [] (Nf eY i' k') (rN hY w' v' t) 102 [60] [] (Us gI t (.go aCb) [] ((cG (Nf off i k) (rN xs w v t) 102 [60] []).hint [true])) =
 some (.at .normal,[],Q.ob off v w i k xs 4 [0+i.toNat*4+k.toNat*1+1<=w.length,0<=k/\k<4,0<=i/\i<16,0+i.toNat*4+k.toNat*1+1<=v.length,0<=k/\k<4,0<=i/\i<16,decide (k<4)=true,
  off=eY,i=i',i=i',IntKind.i64.wrap (k+1)=k',Q.X off v w i k xs 4=hY/\t=t,w=w'/\(170:Nat)=(170:TypeId),v=v'/\(170:Nat)=(170:TypeId)]):=by kernel_rfl
theorem aUb (gI xs hY w v w' v':List Int) (t:TypeId) (off eY:Nat) (i i' k k':Int):hZ 100 Tryz.f83.ntmps (bI 100 (sO gI t)) [] (Nf eY i' k') (rN hY w' v' t) 102 [60] [] (Us gI t (.go aCb) [] ((cG (Nf off i k) (rN xs w v t) 102 [60] []).hint [false])) =
 some (.at (.exit 10),[],[decide (k<4)=false,off=eY,i=i',i=i',k=k',xs=hY/\t=t,w=w'/\(170:Nat)=(170:TypeId),v=v'/\(170:Nat)=(170:TypeId)]):=by kernel_rfl
theorem aUa (gI xs hY w v w' v':List Int) (t:TypeId) (off eY:Nat) (i i' k:Int):hZ 100 Tryz.f83.ntmps (bI 100 (sO gI t)) [] (Iv eY i') (rN hY w' v' t) 102 [60] [] (Us gI t (.at (.exit 10)) aKq ((cG (Nf off i k) (rN xs w v t) 102 [60] []).hint [])) =
 some (.at .normal,[],[off=eY,IntKind.i64.wrap (i+1)=i',xs=hY/\t=t,w=w'/\(170:Nat)=(170:TypeId),v=v'/\(170:Nat)=(170:TypeId)]):=by kernel_rfl
theorem aUf (gI xs hY w v w' v':List Int) (t:TypeId) (off eY:Nat) (i i':Int):hZ 100 Tryz.f83.ntmps (bI 100 (sO gI t)) [] (Iv eY i') (rN hY w' v' t) 102 [60] [] (Us gI t (.go PO) [] ((cG (Iv off i) (rN xs w v t) 102 [60] []).hint [false])) =
 some (.at (.exit 8),[],[decide (i<16)=false,off=eY,i=i',xs=hY/\t=t,w=w'/\(170:Nat)=(170:TypeId),v=v'/\(170:Nat)=(170:TypeId)]):=by kernel_rfl
theorem aUe (gI xs w v:List Int) (t:TypeId) (off:Nat) (i:Int):xP yX (sO gI t) 100 100 Tryz.f83 [] (Us gI t (.at (.exit 8)) aKr ((cG (Iv off i) (rN xs w v t) 102 [60] []).hint [])) =
 some { val:=.eF [],wr:=[(60,.ints .u8 xs t)] }:=by kernel_rfl
end Go.Proofs.YtnodfocobmghiaaGreatDoor.Sx
