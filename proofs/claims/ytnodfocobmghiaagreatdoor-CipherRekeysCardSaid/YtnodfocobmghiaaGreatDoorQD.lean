/- The fast stream: four blocks at once, runs. -/
import Derived.Test.YtnodfocobmghiaaGreatDoorQC
open Go
set_option maxRecDepth 100000
namespace Go.Proofs.YtnodfocobmghiaaGreatDoor.Sx
namespace Q
def lane (k:Nat) (v:List Int):List Int:=(List.range 16).map fun i=>v.getD (4*i+k) 0
def Dv (a b c d:List Int) (j:Nat):Int:=match j%4 with
 | 0=>a.getD (j/4) 0
 | 1=>b.getD (j/4) 0
 | 2=>c.getD (j/4) 0
 | _=>d.getD (j/4) 0
def xP (a b c d:List Int):List Int:=(List.range 64).map (Dv a b c d)
def EB (s:List Int) (j:Nat):Int:=match Nat.beq (j/4) 12 with
 | true=>IntKind.u32.wrap (s.getD 12 0+IntKind.u32.wrap ((j%4:Nat):Int))
 | false=>s.getD (j/4) 0
def iW (s:List Int):List Int:=(List.range 64).map (EB s)
def dr4 (v:List Int):List Int:=xP (B.dr (lane 0 v)) (B.dr (lane 1 v)) (B.dr (lane 2 v)) (B.dr (lane 3 v))
def ix (i k n:Int):Int:=IntKind.i64.wrap (IntKind.i64.wrap (IntKind.i64.wrap (64*k)+IntKind.i64.wrap (4*i))+n)
def ad (off:Nat) (i k n:Int):Nat:=off+(ix i k n).toNat*1
def wd (v:List Int) (i k:Int):Int:=v.getD (0+i.toNat*4+k.toNat*1+0) 0
def byt (v w:List Int) (i k n:Int):Int:=IntKind.u8.wrap (bU .u32 (IntKind.u32.wrap (wd v i k+wd w i k)) (8*n))
def X (off:Nat) (v w:List Int) (i k:Int) (xs:List Int):Nat->List Int
 | 0=>xs
 | n+1=>(X off v w i k xs n).set (ad off i k n) (hY .u8 ((X off v w i k xs n).getD (ad off i k n+0) 0) (byt v w i k n))
def ob (off:Nat) (v w:List Int) (i k:Int) (xs:List Int):Nat->List Prop->List Prop
 | 0,r=>r
 | n+1,r=>(ad off i k n<(X off v w i k xs n).length)::(0<=ix i k n/\ix i k n<256)::(ad off i k n+1<=(X off v w i k xs n).length)::(0<=ix i k n/\ix i k n<256)::ob off v w i k xs n r
end Q
def PV (off:Nat) (s:List Int):List SV:=[.agg (cK .u32 16 s),.ptr 60 false off]
noncomputable def Vc (xs:List Int) (t:TypeId) (cf:Cf) (K:List Fr) (s:St):Option qL:=hH yY (bI 100 (sS xs t)) 100 Tryz.f83.ntmps [18,29,32] 400 6000 cf K s
def Ja (off:Nat) (i:Int):List (Nat × SV):=[(1,.ptr 60 false off),(4,.ptr 100 true 0),(8,.ptr 101 true 0),(42,.int false .i64 i)]
def Iy (xs w v:List Int) (t:TypeId):List (Nat × SB):=[(60,.ints .u8 xs t),(100,.ints .u32 w 170),(101,.own (cK .u32 64 v) 170)]
noncomputable def fqR:Option qL:=Vc [] 0 (.go (codeOf Tryz.f83)) [] ((Df (PV 0 []) 100).hint [])
noncomputable def aCi:Code:=Jh fqR
noncomputable def fqK:List Fr:=Jg fqR
def Iz (off:Nat) (i:Int):List (Nat × SV):=[(1,.ptr 60 false off),(4,.ptr 100 true 0),(8,.ptr 101 true 0),(85,.int false .i64 i)]
def rO (xs w v:List Int) (t:TypeId):List (Nat × SB):=[(60,.ints .u8 xs t),(100,.ints .u32 w 170),(101,.ints .u32 v 170)]
noncomputable def aKw:Option qL:=Vc [] 0 (.at (.exit 6)) fqK ((cE (Ja 0 0) (Iy [] [] [] 0) 102 [60] []).hint [])
noncomputable def PW:Code:=Jh aKw
noncomputable def aKy:List Fr:=Jg aKw
noncomputable def aKv:Option qL:=Vc [] 0 (.go PW) [] ((cE (Iz 0 0) (rO [] [] [] 0) 102 [60] []).hint [true])
noncomputable def aCj:Code:=Jh aKv
noncomputable def aKx:List Fr:=Jg aKv
def Np (off:Nat) (i k:Int):List (Nat × SV):=[(1,.ptr 60 false off),(4,.ptr 100 true 0),(8,.ptr 101 true 0),(9,.int false .i64 i),(85,.int false .i64 i),(88,.int false .i64 k)]
theorem aUv (xs iF s w' v':List Int) (t:TypeId) (off fC:Nat) (i':Int):gX 100 Tryz.f83.ntmps (bI 100 (sS xs t)) [] (Ja fC i') (Iy iF w' v' t) 102 [60] [] (Vc xs t (.go (codeOf Tryz.f83)) [] ((Df (PV off s) 100).hint [])) =
 some (.go (.loop aCi),fqK,(off=fC)::(0=i')::(xs=iF/\t=t)::(Q.iW s=w'/\(170:Nat)=(170:TypeId))::[Q.iW s=dA 64 v']):=by kernel_rfl
theorem aUu (gJ xs iF w v w' v':List Int) (t:TypeId) (off fC:Nat) (i i':Int):gX 100 Tryz.f83.ntmps (bI 100 (sS gJ t)) [] (Ja fC i') (Iy iF w' v' t) 102 [60] [] (Vc gJ t (.go aCi) [] ((cE (Ja off i) (Iy xs w v t) 102 [60] []).hint [true])) =
 some (.at .normal,[],(decide (i<10)=true)::(off=fC)::(IntKind.i64.wrap (i+1)=i')::(xs=iF/\t=t)::(w=w'/\(170:Nat)=(170:TypeId))::[Q.dr4 v=dA 64 v']):=by kernel_rfl
theorem aUt (gJ xs iF w v w' v':List Int) (t:TypeId) (off fC:Nat) (i i':Int):gX 100 Tryz.f83.ntmps (bI 100 (sS gJ t)) [] (Ja fC i') (Iy iF w' v' t) 102 [60] [] (Vc gJ t (.go aCi) [] ((cE (Ja off i) (Iy xs w v t) 102 [60] []).hint [false])) =
 some (.at (.exit 6),[],(decide (i<10)=false)::(off=fC)::(i=i')::(xs=iF/\t=t)::(w=w'/\(170:Nat)=(170:TypeId))::[dA 64 v=dA 64 v']):=by kernel_rfl
theorem aUs (gJ xs iF w v w' v':List Int) (t:TypeId) (off fC:Nat) (i i':Int):gX 100 Tryz.f83.ntmps (bI 100 (sS gJ t)) [] (Iz fC i') (rO iF w' v' t) 102 [60] [] (Vc gJ t (.at (.exit 6)) fqK ((cE (Ja off i) (Iy xs w v t) 102 [60] []).hint [])) =
 some (.go (.loop PW),aKy,[off=fC,0=i',xs=iF/\t=t,w=w'/\(170:Nat)=(170:TypeId),dA 64 v=v'/\(170:Nat)=(170:TypeId)]):=by kernel_rfl
theorem aUp (gJ xs iF w v w' v':List Int) (t:TypeId) (off fC:Nat) (i i' k':Int):gX 100 Tryz.f83.ntmps (bI 100 (sS gJ t)) [] (Np fC i' k') (rO iF w' v' t) 102 [60] [] (Vc gJ t (.go PW) [] ((cE (Iz off i) (rO xs w v t) 102 [60] []).hint [true])) =
 some (.go (.loop aCj),aKx,[decide (i<16)=true,off=fC,i=i',i=i',0=k',xs=iF/\t=t,w=w'/\(170:Nat)=(170:TypeId),v=v'/\(170:Nat)=(170:TypeId)]):=by kernel_rfl
theorem aUo (gJ xs iF w v w' v':List Int) (t:TypeId) (off fC:Nat) (i i' k k':Int):gX 100 Tryz.f83.ntmps (bI 100 (sS gJ t)) [] (Np fC i' k') (rO iF w' v' t) 102 [60] [] (Vc gJ t (.go aCj) [] ((cE (Np off i k) (rO xs w v t) 102 [60] []).hint [true])) =
 some (.at .normal,[],Q.ob off v w i k xs 4 [0+i.toNat*4+k.toNat*1+1<=w.length,0<=k/\k<4,0<=i/\i<16,0+i.toNat*4+k.toNat*1+1<=v.length,0<=k/\k<4,0<=i/\i<16,decide (k<4)=true,
  off=fC,i=i',i=i',IntKind.i64.wrap (k+1)=k',Q.X off v w i k xs 4=iF/\t=t,w=w'/\(170:Nat)=(170:TypeId),v=v'/\(170:Nat)=(170:TypeId)]):=by kernel_rfl
theorem aUn (gJ xs iF w v w' v':List Int) (t:TypeId) (off fC:Nat) (i i' k k':Int):gX 100 Tryz.f83.ntmps (bI 100 (sS gJ t)) [] (Np fC i' k') (rO iF w' v' t) 102 [60] [] (Vc gJ t (.go aCj) [] ((cE (Np off i k) (rO xs w v t) 102 [60] []).hint [false])) =
 some (.at (.exit 10),[],[decide (k<4)=false,off=fC,i=i',i=i',k=k',xs=iF/\t=t,w=w'/\(170:Nat)=(170:TypeId),v=v'/\(170:Nat)=(170:TypeId)]):=by kernel_rfl
theorem aUm (gJ xs iF w v w' v':List Int) (t:TypeId) (off fC:Nat) (i i' k:Int):gX 100 Tryz.f83.ntmps (bI 100 (sS gJ t)) [] (Iz fC i') (rO iF w' v' t) 102 [60] [] (Vc gJ t (.at (.exit 10)) aKx ((cE (Np off i k) (rO xs w v t) 102 [60] []).hint [])) =
 some (.at .normal,[],[off=fC,IntKind.i64.wrap (i+1)=i',xs=iF/\t=t,w=w'/\(170:Nat)=(170:TypeId),v=v'/\(170:Nat)=(170:TypeId)]):=by kernel_rfl
theorem aUr (gJ xs iF w v w' v':List Int) (t:TypeId) (off fC:Nat) (i i':Int):gX 100 Tryz.f83.ntmps (bI 100 (sS gJ t)) [] (Iz fC i') (rO iF w' v' t) 102 [60] [] (Vc gJ t (.go PW) [] ((cE (Iz off i) (rO xs w v t) 102 [60] []).hint [false])) =
 some (.at (.exit 8),[],[decide (i<16)=false,off=fC,i=i',xs=iF/\t=t,w=w'/\(170:Nat)=(170:TypeId),v=v'/\(170:Nat)=(170:TypeId)]):=by kernel_rfl
theorem aUq (gJ xs w v:List Int) (t:TypeId) (off:Nat) (i:Int):xU yY (sS gJ t) 100 100 Tryz.f83 [] (Vc gJ t (.at (.exit 8)) aKy ((cE (Iz off i) (rO xs w v t) 102 [60] []).hint [])) =
 some { val:=.eH [],wr:=[(60,.ints .u8 xs t)] }:=by kernel_rfl
end Go.Proofs.YtnodfocobmghiaaGreatDoor.Sx
