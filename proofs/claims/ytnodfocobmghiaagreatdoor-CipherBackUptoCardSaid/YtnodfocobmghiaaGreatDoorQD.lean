/- The fast stream: four blocks at once, runs. -/
import Derived.Test.YtnodfocobmghiaaGreatDoorQC
open Go
set_option maxRecDepth 100000
namespace Go.Proofs.YtnodfocobmghiaaGreatDoor.Sx
namespace Q
def lane (k:Nat) (v:List Int):List Int:=(List.range 16).map fun i=>v.getD (4*i+k) 0
def Fv (a b c d:List Int) (j:Nat):Int:=match j%4 with
 | 0=>a.getD (j/4) 0
 | 1=>b.getD (j/4) 0
 | 2=>c.getD (j/4) 0
 | _=>d.getD (j/4) 0
def yW (a b c d:List Int):List Int:=(List.range 64).map (Fv a b c d)
def GZ (s:List Int) (j:Nat):Int:=match Nat.beq (j/4) 12 with
 | true=>IntKind.u32.wrap (s.getD 12 0+IntKind.u32.wrap ((j%4:Nat):Int))
 | false=>s.getD (j/4) 0
def jA (s:List Int):List Int:=(List.range 64).map (GZ s)
def dr4 (v:List Int):List Int:=yW (B.dr (lane 0 v)) (B.dr (lane 1 v)) (B.dr (lane 2 v)) (B.dr (lane 3 v))
def ix (i k n:Int):Int:=IntKind.i64.wrap (IntKind.i64.wrap (IntKind.i64.wrap (64*k)+IntKind.i64.wrap (4*i))+n)
def ad (off:Nat) (i k n:Int):Nat:=off+(ix i k n).toNat*1
def wd (v:List Int) (i k:Int):Int:=v.getD (0+i.toNat*4+k.toNat*1+0) 0
def byt (v w:List Int) (i k n:Int):Int:=IntKind.u8.wrap (bY .u32 (IntKind.u32.wrap (wd v i k+wd w i k)) (8*n))
def X (off:Nat) (v w:List Int) (i k:Int) (xs:List Int):Nat->List Int
 | 0=>xs
 | n+1=>(X off v w i k xs n).set (ad off i k n) (gI .u8 ((X off v w i k xs n).getD (ad off i k n+0) 0) (byt v w i k n))
def ob (off:Nat) (v w:List Int) (i k:Int) (xs:List Int):Nat->List Prop->List Prop
 | 0,r=>r
 | n+1,r=>(ad off i k n<(X off v w i k xs n).length)::(0<=ix i k n/\ix i k n<256)::(ad off i k n+1<=(X off v w i k xs n).length)::(0<=ix i k n/\ix i k n<256)::ob off v w i k xs n r
end Q
def TF (off:Nat) (s:List Int):List SV:=[.agg (cN .u32 16 s),.ptr 60 false off]
noncomputable def Xh (xs:List Int) (t:TypeId) (cf:Cf) (K:List Fr) (s:St):Option nM:=fX Aj (aZ 100 (tR xs t)) 100 Tryz.f83.ntmps [18,29,32] 400 6000 cf K s
def Kl (off:Nat) (i:Int):List (Nat × SV):=[(1,.ptr 60 false off),(4,.ptr 100 true 0),(8,.ptr 101 true 0),(42,.int false .i64 i)]
def Kj (xs w v:List Int) (t:TypeId):List (Nat × SB):=[(60,.ints .u8 xs t),(100,.ints .u32 w 170),(101,.own (cN .u32 64 v) 170)]
noncomputable def fqR:Option nM:=Xh [] 0 (.go (codeOf Tryz.f83)) [] ((yM (TF 0 []) 100).hint [])
noncomputable def aEw:Code:=Eu fqR
noncomputable def fqK:List Fr:=Be fqR
def Kk (off:Nat) (i:Int):List (Nat × SV):=[(1,.ptr 60 false off),(4,.ptr 100 true 0),(8,.ptr 101 true 0),(85,.int false .i64 i)]
def sN (xs w v:List Int) (t:TypeId):List (Nat × SB):=[(60,.ints .u8 xs t),(100,.ints .u32 w 170),(101,.ints .u32 v 170)]
noncomputable def aNu:Option nM:=Xh [] 0 (.at (.exit 6)) fqK ((bQ (Kl 0 0) (Kj [] [] [] 0) 102 [60] []).hint [])
noncomputable def TG:Code:=Eu aNu
noncomputable def aNw:List Fr:=Be aNu
noncomputable def aNt:Option nM:=Xh [] 0 (.go TG) [] ((bQ (Kk 0 0) (sN [] [] [] 0) 102 [60] []).hint [true])
noncomputable def aEx:Code:=Eu aNt
noncomputable def aNv:List Fr:=Be aNt
def Pp (off:Nat) (i k:Int):List (Nat × SV):=[(1,.ptr 60 false off),(4,.ptr 100 true 0),(8,.ptr 101 true 0),(9,.int false .i64 i),(85,.int false .i64 i),(88,.int false .i64 k)]
theorem aYo (xs iJ s w' v':List Int) (t:TypeId) (off fE:Nat) (i':Int):eJ 100 Tryz.f83.ntmps (aZ 100 (tR xs t)) [] (Kl fE i') (Kj iJ w' v' t) 102 [60] [] (Xh xs t (.go (codeOf Tryz.f83)) [] ((yM (TF off s) 100).hint [])) =
 some (.go (.loop aEw),fqK,(off=fE)::(0=i')::(xs=iJ/\t=t)::(Q.jA s=w'/\(170:Nat)=(170:TypeId))::[Q.jA s=dE 64 v']):=by kernel_rfl
theorem aYn (gV xs iJ w v w' v':List Int) (t:TypeId) (off fE:Nat) (i i':Int):eJ 100 Tryz.f83.ntmps (aZ 100 (tR gV t)) [] (Kl fE i') (Kj iJ w' v' t) 102 [60] [] (Xh gV t (.go aEw) [] ((bQ (Kl off i) (Kj xs w v t) 102 [60] []).hint [true])) =
 some (.at .normal,[],(decide (i<10)=true)::(off=fE)::(IntKind.i64.wrap (i+1)=i')::(xs=iJ/\t=t)::(w=w'/\(170:Nat)=(170:TypeId))::[Q.dr4 v=dE 64 v']):=by kernel_rfl
theorem aYm (gV xs iJ w v w' v':List Int) (t:TypeId) (off fE:Nat) (i i':Int):eJ 100 Tryz.f83.ntmps (aZ 100 (tR gV t)) [] (Kl fE i') (Kj iJ w' v' t) 102 [60] [] (Xh gV t (.go aEw) [] ((bQ (Kl off i) (Kj xs w v t) 102 [60] []).hint [false])) =
 some (.at (.exit 6),[],(decide (i<10)=false)::(off=fE)::(i=i')::(xs=iJ/\t=t)::(w=w'/\(170:Nat)=(170:TypeId))::[dE 64 v=dE 64 v']):=by kernel_rfl
theorem aYl (gV xs iJ w v w' v':List Int) (t:TypeId) (off fE:Nat) (i i':Int):eJ 100 Tryz.f83.ntmps (aZ 100 (tR gV t)) [] (Kk fE i') (sN iJ w' v' t) 102 [60] [] (Xh gV t (.at (.exit 6)) fqK ((bQ (Kl off i) (Kj xs w v t) 102 [60] []).hint [])) =
 some (.go (.loop TG),aNw,[off=fE,0=i',xs=iJ/\t=t,w=w'/\(170:Nat)=(170:TypeId),dE 64 v=v'/\(170:Nat)=(170:TypeId)]):=by kernel_rfl
theorem aYi (gV xs iJ w v w' v':List Int) (t:TypeId) (off fE:Nat) (i i' k':Int):eJ 100 Tryz.f83.ntmps (aZ 100 (tR gV t)) [] (Pp fE i' k') (sN iJ w' v' t) 102 [60] [] (Xh gV t (.go TG) [] ((bQ (Kk off i) (sN xs w v t) 102 [60] []).hint [true])) =
 some (.go (.loop aEx),aNv,[decide (i<16)=true,off=fE,i=i',i=i',0=k',xs=iJ/\t=t,w=w'/\(170:Nat)=(170:TypeId),v=v'/\(170:Nat)=(170:TypeId)]):=by kernel_rfl
theorem aYh (gV xs iJ w v w' v':List Int) (t:TypeId) (off fE:Nat) (i i' k k':Int):eJ 100 Tryz.f83.ntmps (aZ 100 (tR gV t)) [] (Pp fE i' k') (sN iJ w' v' t) 102 [60] [] (Xh gV t (.go aEx) [] ((bQ (Pp off i k) (sN xs w v t) 102 [60] []).hint [true])) =
 some (.at .normal,[],Q.ob off v w i k xs 4 [0+i.toNat*4+k.toNat*1+1<=w.length,0<=k/\k<4,0<=i/\i<16,0+i.toNat*4+k.toNat*1+1<=v.length,0<=k/\k<4,0<=i/\i<16,decide (k<4)=true,
  off=fE,i=i',i=i',IntKind.i64.wrap (k+1)=k',Q.X off v w i k xs 4=iJ/\t=t,w=w'/\(170:Nat)=(170:TypeId),v=v'/\(170:Nat)=(170:TypeId)]):=by kernel_rfl
theorem aYg (gV xs iJ w v w' v':List Int) (t:TypeId) (off fE:Nat) (i i' k k':Int):eJ 100 Tryz.f83.ntmps (aZ 100 (tR gV t)) [] (Pp fE i' k') (sN iJ w' v' t) 102 [60] [] (Xh gV t (.go aEx) [] ((bQ (Pp off i k) (sN xs w v t) 102 [60] []).hint [false])) =
 some (.at (.exit 10),[],[decide (k<4)=false,off=fE,i=i',i=i',k=k',xs=iJ/\t=t,w=w'/\(170:Nat)=(170:TypeId),v=v'/\(170:Nat)=(170:TypeId)]):=by kernel_rfl
theorem aYf (gV xs iJ w v w' v':List Int) (t:TypeId) (off fE:Nat) (i i' k:Int):eJ 100 Tryz.f83.ntmps (aZ 100 (tR gV t)) [] (Kk fE i') (sN iJ w' v' t) 102 [60] [] (Xh gV t (.at (.exit 10)) aNv ((bQ (Pp off i k) (sN xs w v t) 102 [60] []).hint [])) =
 some (.at .normal,[],[off=fE,IntKind.i64.wrap (i+1)=i',xs=iJ/\t=t,w=w'/\(170:Nat)=(170:TypeId),v=v'/\(170:Nat)=(170:TypeId)]):=by kernel_rfl
theorem aYk (gV xs iJ w v w' v':List Int) (t:TypeId) (off fE:Nat) (i i':Int):eJ 100 Tryz.f83.ntmps (aZ 100 (tR gV t)) [] (Kk fE i') (sN iJ w' v' t) 102 [60] [] (Xh gV t (.go TG) [] ((bQ (Kk off i) (sN xs w v t) 102 [60] []).hint [false])) =
 some (.at (.exit 8),[],[decide (i<16)=false,off=fE,i=i',xs=iJ/\t=t,w=w'/\(170:Nat)=(170:TypeId),v=v'/\(170:Nat)=(170:TypeId)]):=by kernel_rfl
theorem aYj (gV xs w v:List Int) (t:TypeId) (off:Nat) (i:Int):qF Aj (tR gV t) 100 100 Tryz.f83 [] (Xh gV t (.at (.exit 8)) aNw ((bQ (Kk off i) (sN xs w v t) 102 [60] []).hint [])) =
 some { val:=.eD [],wr:=[(60,.ints .u8 xs t)] }:=by kernel_rfl
end Go.Proofs.YtnodfocobmghiaaGreatDoor.Sx
