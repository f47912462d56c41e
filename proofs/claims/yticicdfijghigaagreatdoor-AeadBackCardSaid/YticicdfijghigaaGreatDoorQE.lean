/- The fast stream: four blocks at once, runs. -/
import Derived.Test.YticicdfijghigaaGreatDoorQD
open Go
set_option maxRecDepth 100000
namespace Go.Proofs.YticicdfijghigaaGreatDoor.Sx
namespace Q
def lane (k:Nat) (v:List Int):List Int:=(List.range 16).map fun i=>v.getD (4*i+k) 0
def Fx (a b c d:List Int) (j:Nat):Int:=match j%4 with
 | 0=>a.getD (j/4) 0
 | 1=>b.getD (j/4) 0
 | 2=>c.getD (j/4) 0
 | _=>d.getD (j/4) 0
def zA (a b c d:List Int):List Int:=(List.range 64).map (Fx a b c d)
def HX (s:List Int) (j:Nat):Int:=match Nat.beq (j/4) 12 with
 | true=>IntKind.u32.wrap (s.getD 12 0+IntKind.u32.wrap ((j%4:Nat):Int))
 | false=>s.getD (j/4) 0
def jI (s:List Int):List Int:=(List.range 64).map (HX s)
def dr4 (v:List Int):List Int:=zA (B.dr (lane 0 v)) (B.dr (lane 1 v)) (B.dr (lane 2 v)) (B.dr (lane 3 v))
def ix (i k n:Int):Int:=IntKind.i64.wrap (IntKind.i64.wrap (IntKind.i64.wrap (64*k)+IntKind.i64.wrap (4*i))+n)
def ad (off:Nat) (i k n:Int):Nat:=off+(ix i k n).toNat*1
def wd (v:List Int) (i k:Int):Int:=v.getD (0+i.toNat*4+k.toNat*1+0) 0
def byt (v w:List Int) (i k n:Int):Int:=IntKind.u8.wrap (bZ .u32 (IntKind.u32.wrap (wd v i k+wd w i k)) (8*n))
def X (off:Nat) (v w:List Int) (i k:Int) (xs:List Int):Nat->List Int
 | 0=>xs
 | n+1=>(X off v w i k xs n).set (ad off i k n) (iK .u8 ((X off v w i k xs n).getD (ad off i k n+0) 0) (byt v w i k n))
def ob (off:Nat) (v w:List Int) (i k:Int) (xs:List Int):Nat->List Prop->List Prop
 | 0,r=>r
 | n+1,r=>(ad off i k n<(X off v w i k xs n).length)::(0<=ix i k n/\ix i k n<256)::(ad off i k n+1<=(X off v w i k xs n).length)::(0<=ix i k n/\ix i k n<256)::ob off v w i k xs n r
end Q
def UN (off:Nat) (s:List Int):List SV:=[.agg (cO .u32 16 s),.ptr 60 false off]
noncomputable def Ya (xs:List Int) (t:TypeId) (cf:Cf) (K:List Fr) (s:St):Option pU:=gY qN (bH 100 (tZ xs t)) 100 Tryz.f80.ntmps [18,29,32] 400 6000 cf K s
def Lb (off:Nat) (i:Int):List (Nat × SV):=[(1,.ptr 60 false off),(4,.ptr 100 true 0),(8,.ptr 101 true 0),(42,.int false .i64 i)]
def Kz (xs w v:List Int) (t:TypeId):List (Nat × SB):=[(60,.ints .u8 xs t),(100,.ints .u32 w 173),(101,.own (cO .u32 64 v) 173)]
noncomputable def fqR:Option pU:=Ya [] 0 (.go (codeOf Tryz.f80)) [] ((zJ (UN 0 []) 100).hint [])
noncomputable def aGm:Code:=Ew fqR
noncomputable def fqK:List Fr:=Ev fqR
def La (off:Nat) (i:Int):List (Nat × SV):=[(1,.ptr 60 false off),(4,.ptr 100 true 0),(8,.ptr 101 true 0),(85,.int false .i64 i)]
def sV (xs w v:List Int) (t:TypeId):List (Nat × SB):=[(60,.ints .u8 xs t),(100,.ints .u32 w 173),(101,.ints .u32 v 173)]
noncomputable def aPi:Option pU:=Ya [] 0 (.at (.exit 6)) fqK ((cA (Lb 0 0) (Kz [] [] [] 0) 102 [60] []).hint [])
noncomputable def UO:Code:=Ew aPi
noncomputable def aPk:List Fr:=Ev aPi
noncomputable def aPh:Option pU:=Ya [] 0 (.go UO) [] ((cA (La 0 0) (sV [] [] [] 0) 102 [60] []).hint [true])
noncomputable def aGn:Code:=Ew aPh
noncomputable def aPj:List Fr:=Ev aPh
def Pz (off:Nat) (i k:Int):List (Nat × SV):=[(1,.ptr 60 false off),(4,.ptr 100 true 0),(8,.ptr 101 true 0),(9,.int false .i64 i),(85,.int false .i64 i),(88,.int false .i64 k)]
theorem bAb (xs iR s w' v':List Int) (t:TypeId) (off fM:Nat) (i':Int):fL 100 Tryz.f80.ntmps (bH 100 (tZ xs t)) [] (Lb fM i') (Kz iR w' v' t) 102 [60] [] (Ya xs t (.go (codeOf Tryz.f80)) [] ((zJ (UN off s) 100).hint [])) =
 some (.go (.loop aGm),fqK,(off=fM)::(0=i')::(xs=iR/\t=t)::(Q.jI s=w'/\(173:Nat)=(173:TypeId))::[Q.jI s=dJ 64 v']):=by kernel_rfl
theorem bAa (hY xs iR w v w' v':List Int) (t:TypeId) (off fM:Nat) (i i':Int):fL 100 Tryz.f80.ntmps (bH 100 (tZ hY t)) [] (Lb fM i') (Kz iR w' v' t) 102 [60] [] (Ya hY t (.go aGm) [] ((cA (Lb off i) (Kz xs w v t) 102 [60] []).hint [true])) =
 some (.at .normal,[],(decide (i<10)=true)::(off=fM)::(IntKind.i64.wrap (i+1)=i')::(xs=iR/\t=t)::(w=w'/\(173:Nat)=(173:TypeId))::[Q.dr4 v=dJ 64 v']):=by kernel_rfl
theorem aZz (hY xs iR w v w' v':List Int) (t:TypeId) (off fM:Nat) (i i':Int):fL 100 Tryz.f80.ntmps (bH 100 (tZ hY t)) [] (Lb fM i') (Kz iR w' v' t) 102 [60] [] (Ya hY t (.go aGm) [] ((cA (Lb off i) (Kz xs w v t) 102 [60] []).hint [false])) =
 some (.at (.exit 6),[],(decide (i<10)=false)::(off=fM)::(i=i')::(xs=iR/\t=t)::(w=w'/\(173:Nat)=(173:TypeId))::[dJ 64 v=dJ 64 v']):=by kernel_rfl
theorem aZy (hY xs iR w v w' v':List Int) (t:TypeId) (off fM:Nat) (i i':Int):fL 100 Tryz.f80.ntmps (bH 100 (tZ hY t)) [] (La fM i') (sV iR w' v' t) 102 [60] [] (Ya hY t (.at (.exit 6)) fqK ((cA (Lb off i) (Kz xs w v t) 102 [60] []).hint [])) =
 some (.go (.loop UO),aPk,[off=fM,0=i',xs=iR/\t=t,w=w'/\(173:Nat)=(173:TypeId),dJ 64 v=v'/\(173:Nat)=(173:TypeId)]):=by kernel_rfl
theorem aZv (hY xs iR w v w' v':List Int) (t:TypeId) (off fM:Nat) (i i' k':Int):fL 100 Tryz.f80.ntmps (bH 100 (tZ hY t)) [] (Pz fM i' k') (sV iR w' v' t) 102 [60] [] (Ya hY t (.go UO) [] ((cA (La off i) (sV xs w v t) 102 [60] []).hint [true])) =
 some (.go (.loop aGn),aPj,[decide (i<16)=true,off=fM,i=i',i=i',0=k',xs=iR/\t=t,w=w'/\(173:Nat)=(173:TypeId),v=v'/\(173:Nat)=(173:TypeId)]):=by kernel_rfl
theorem aZu (hY xs iR w v w' v':List Int) (t:TypeId) (off fM:Nat) (i i' k k':Int):fL 100 Tryz.f80.ntmps (bH 100 (tZ hY t)) [] (Pz fM i' k') (sV iR w' v' t) 102 [60] [] (Ya hY t (.go aGn) [] ((cA (Pz off i k) (sV xs w v t) 102 [60] []).hint [true])) =
 some (.at .normal,[],Q.ob off v w i k xs 4 [0+i.toNat*4+k.toNat*1+1<=w.length,0<=k/\k<4,0<=i/\i<16,0+i.toNat*4+k.toNat*1+1<=v.length,0<=k/\k<4,0<=i/\i<16,decide (k<4)=true,
  off=fM,i=i',i=i',IntKind.i64.wrap (k+1)=k',Q.X off v w i k xs 4=iR/\t=t,w=w'/\(173:Nat)=(173:TypeId),v=v'/\(173:Nat)=(173:TypeId)]):=by kernel_rfl
theorem aZt (hY xs iR w v w' v':List Int) (t:TypeId) (off fM:Nat) (i i' k k':Int):fL 100 Tryz.f80.ntmps (bH 100 (tZ hY t)) [] (Pz fM i' k') (sV iR w' v' t) 102 [60] [] (Ya hY t (.go aGn) [] ((cA (Pz off i k) (sV xs w v t) 102 [60] []).hint [false])) =
 some (.at (.exit 10),[],[decide (k<4)=false,off=fM,i=i',i=i',k=k',xs=iR/\t=t,w=w'/\(173:Nat)=(173:TypeId),v=v'/\(173:Nat)=(173:TypeId)]):=by kernel_rfl
theorem aZs (hY xs iR w v w' v':List Int) (t:TypeId) (off fM:Nat) (i i' k:Int):fL 100 Tryz.f80.ntmps (bH 100 (tZ hY t)) [] (La fM i') (sV iR w' v' t) 102 [60] [] (Ya hY t (.at (.exit 10)) aPj ((cA (Pz off i k) (sV xs w v t) 102 [60] []).hint [])) =
 some (.at .normal,[],[off=fM,IntKind.i64.wrap (i+1)=i',xs=iR/\t=t,w=w'/\(173:Nat)=(173:TypeId),v=v'/\(173:Nat)=(173:TypeId)]):=by kernel_rfl
theorem aZx (hY xs iR w v w' v':List Int) (t:TypeId) (off fM:Nat) (i i':Int):fL 100 Tryz.f80.ntmps (bH 100 (tZ hY t)) [] (La fM i') (sV iR w' v' t) 102 [60] [] (Ya hY t (.go UO) [] ((cA (La off i) (sV xs w v t) 102 [60] []).hint [false])) =
 some (.at (.exit 8),[],[decide (i<16)=false,off=fM,i=i',xs=iR/\t=t,w=w'/\(173:Nat)=(173:TypeId),v=v'/\(173:Nat)=(173:TypeId)]):=by kernel_rfl
theorem aZw (hY xs w v:List Int) (t:TypeId) (off:Nat) (i:Int):sX qN (tZ hY t) 100 100 Tryz.f80 [] (Ya hY t (.at (.exit 8)) aPk ((cA (La off i) (sV xs w v t) 102 [60] []).hint [])) =
 some { val:=.eL [],wr:=[(60,.ints .u8 xs t)] }:=by kernel_rfl
end Go.Proofs.YticicdfijghigaaGreatDoor.Sx
