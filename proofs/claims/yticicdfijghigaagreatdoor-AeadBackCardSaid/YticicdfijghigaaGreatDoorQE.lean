/- The fast stream: four blocks at once, runs. -/
import Derived.Test.YticicdfijghigaaGreatDoorQD
open Go
set_option maxRecDepth 100000
namespace Go.Proofs.YticicdfijghigaaGreatDoor.Sx
namespace Q
def lane (k:Nat) (v:List Int):List Int:=(List.range 16).map fun i=>v.getD (4*i+k) 0
def Gb (a b c d:List Int) (j:Nat):Int:=match j%4 with
 | 0=>a.getD (j/4) 0
 | 1=>b.getD (j/4) 0
 | 2=>c.getD (j/4) 0
 | _=>d.getD (j/4) 0
def zD (a b c d:List Int):List Int:=(List.range 64).map (Gb a b c d)
def HY (s:List Int) (j:Nat):Int:=match Nat.beq (j/4) 12 with
 | true=>IntKind.u32.wrap (s.getD 12 0+IntKind.u32.wrap ((j%4:Nat):Int))
 | false=>s.getD (j/4) 0
def jI (s:List Int):List Int:=(List.range 64).map (HY s)
def dr4 (v:List Int):List Int:=zD (B.dr (lane 0 v)) (B.dr (lane 1 v)) (B.dr (lane 2 v)) (B.dr (lane 3 v))
def ix (i k n:Int):Int:=IntKind.i64.wrap (IntKind.i64.wrap (IntKind.i64.wrap (64*k)+IntKind.i64.wrap (4*i))+n)
def ad (off:Nat) (i k n:Int):Nat:=off+(ix i k n).toNat*1
def wd (v:List Int) (i k:Int):Int:=v.getD (0+i.toNat*4+k.toNat*1+0) 0
def byt (v w:List Int) (i k n:Int):Int:=IntKind.u8.wrap (bZ .u32 (IntKind.u32.wrap (wd v i k+wd w i k)) (8*n))
def X (off:Nat) (v w:List Int) (i k:Int) (xs:List Int):Nat->List Int
 | 0=>xs
 | n+1=>(X off v w i k xs n).set (ad off i k n) (gO .u8 ((X off v w i k xs n).getD (ad off i k n+0) 0) (byt v w i k n))
def ob (off:Nat) (v w:List Int) (i k:Int) (xs:List Int):Nat->List Prop->List Prop
 | 0,r=>r
 | n+1,r=>(ad off i k n<(X off v w i k xs n).length)::(0<=ix i k n/\ix i k n<256)::(ad off i k n+1<=(X off v w i k xs n).length)::(0<=ix i k n/\ix i k n<256)::ob off v w i k xs n r
end Q
def UO (off:Nat) (s:List Int):List SV:=[.agg (cO .u32 16 s),.ptr 60 false off]
noncomputable def Yd (xs:List Int) (t:TypeId) (cf:Cf) (K:List Fr) (s:St):Option pU:=gZ qN (bH 100 (uA xs t)) 100 Tryz.f80.ntmps [18,29,32] 400 6000 cf K s
def Lf (off:Nat) (i:Int):List (Nat × SV):=[(1,.ptr 60 false off),(4,.ptr 100 true 0),(8,.ptr 101 true 0),(42,.int false .i64 i)]
def Ld (xs w v:List Int) (t:TypeId):List (Nat × SB):=[(60,.ints .u8 xs t),(100,.ints .u32 w 173),(101,.own (cO .u32 64 v) 173)]
noncomputable def fqR:Option pU:=Yd [] 0 (.go (codeOf Tryz.f80)) [] ((zM (UO 0 []) 100).hint [])
noncomputable def aGm:Code:=Fb fqR
noncomputable def fqK:List Fr:=Fa fqR
def Le (off:Nat) (i:Int):List (Nat × SV):=[(1,.ptr 60 false off),(4,.ptr 100 true 0),(8,.ptr 101 true 0),(85,.int false .i64 i)]
def sS (xs w v:List Int) (t:TypeId):List (Nat × SB):=[(60,.ints .u8 xs t),(100,.ints .u32 w 173),(101,.ints .u32 v 173)]
noncomputable def aPj:Option pU:=Yd [] 0 (.at (.exit 6)) fqK ((cB (Lf 0 0) (Ld [] [] [] 0) 102 [60] []).hint [])
noncomputable def UP:Code:=Fb aPj
noncomputable def aPl:List Fr:=Fa aPj
noncomputable def aPi:Option pU:=Yd [] 0 (.go UP) [] ((cB (Le 0 0) (sS [] [] [] 0) 102 [60] []).hint [true])
noncomputable def aGn:Code:=Fb aPi
noncomputable def aPk:List Fr:=Fa aPi
def Qe (off:Nat) (i k:Int):List (Nat × SV):=[(1,.ptr 60 false off),(4,.ptr 100 true 0),(8,.ptr 101 true 0),(9,.int false .i64 i),(85,.int false .i64 i),(88,.int false .i64 k)]
theorem bAf (xs iR s w' v':List Int) (t:TypeId) (off fN:Nat) (i':Int):fM 100 Tryz.f80.ntmps (bH 100 (uA xs t)) [] (Lf fN i') (Ld iR w' v' t) 102 [60] [] (Yd xs t (.go (codeOf Tryz.f80)) [] ((zM (UO off s) 100).hint [])) =
 some (.go (.loop aGm),fqK,(off=fN)::(0=i')::(xs=iR/\t=t)::(Q.jI s=w'/\(173:Nat)=(173:TypeId))::[Q.jI s=dJ 64 v']):=by kernel_rfl
theorem bAe (iA xs iR w v w' v':List Int) (t:TypeId) (off fN:Nat) (i i':Int):fM 100 Tryz.f80.ntmps (bH 100 (uA iA t)) [] (Lf fN i') (Ld iR w' v' t) 102 [60] [] (Yd iA t (.go aGm) [] ((cB (Lf off i) (Ld xs w v t) 102 [60] []).hint [true])) =
 some (.at .normal,[],(decide (i<10)=true)::(off=fN)::(IntKind.i64.wrap (i+1)=i')::(xs=iR/\t=t)::(w=w'/\(173:Nat)=(173:TypeId))::[Q.dr4 v=dJ 64 v']):=by kernel_rfl
theorem bAd (iA xs iR w v w' v':List Int) (t:TypeId) (off fN:Nat) (i i':Int):fM 100 Tryz.f80.ntmps (bH 100 (uA iA t)) [] (Lf fN i') (Ld iR w' v' t) 102 [60] [] (Yd iA t (.go aGm) [] ((cB (Lf off i) (Ld xs w v t) 102 [60] []).hint [false])) =
 some (.at (.exit 6),[],(decide (i<10)=false)::(off=fN)::(i=i')::(xs=iR/\t=t)::(w=w'/\(173:Nat)=(173:TypeId))::[dJ 64 v=dJ 64 v']):=by kernel_rfl
theorem bAc (iA xs iR w v w' v':List Int) (t:TypeId) (off fN:Nat) (i i':Int):fM 100 Tryz.f80.ntmps (bH 100 (uA iA t)) [] (Le fN i') (sS iR w' v' t) 102 [60] [] (Yd iA t (.at (.exit 6)) fqK ((cB (Lf off i) (Ld xs w v t) 102 [60] []).hint [])) =
 some (.go (.loop UP),aPl,[off=fN,0=i',xs=iR/\t=t,w=w'/\(173:Nat)=(173:TypeId),dJ 64 v=v'/\(173:Nat)=(173:TypeId)]):=by kernel_rfl
theorem aZz (iA xs iR w v w' v':List Int) (t:TypeId) (off fN:Nat) (i i' k':Int):fM 100 Tryz.f80.ntmps (bH 100 (uA iA t)) [] (Qe fN i' k') (sS iR w' v' t) 102 [60] [] (Yd iA t (.go UP) [] ((cB (Le off i) (sS xs w v t) 102 [60] []).hint [true])) =
 some (.go (.loop aGn),aPk,[decide (i<16)=true,off=fN,i=i',i=i',0=k',xs=iR/\t=t,w=w'/\(173:Nat)=(173:TypeId),v=v'/\(173:Nat)=(173:TypeId)]):=by kernel_rfl
theorem aZy (iA xs iR w v w' v':List Int) (t:TypeId) (off fN:Nat) (i i' k k':Int):fM 100 Tryz.f80.ntmps (bH 100 (uA iA t)) [] (Qe fN i' k') (sS iR w' v' t) 102 [60] [] (Yd iA t (.go aGn) [] ((cB (Qe off i k) (sS xs w v t) 102 [60] []).hint [true])) =
 some (.at .normal,[],Q.ob off v w i k xs 4 [0+i.toNat*4+k.toNat*1+1<=w.length,0<=k/\k<4,0<=i/\i<16,0+i.toNat*4+k.toNat*1+1<=v.length,0<=k/\k<4,0<=i/\i<16,decide (k<4)=true,
  off=fN,i=i',i=i',IntKind.i64.wrap (k+1)=k',Q.X off v w i k xs 4=iR/\t=t,w=w'/\(173:Nat)=(173:TypeId),v=v'/\(173:Nat)=(173:TypeId)]):=by kernel_rfl
theorem aZx (iA xs iR w v w' v':List Int) (t:TypeId) (off fN:Nat) (i i' k k':Int):fM 100 Tryz.f80.ntmps (bH 100 (uA iA t)) [] (Qe fN i' k') (sS iR w' v' t) 102 [60] [] (Yd iA t (.go aGn) [] ((cB (Qe off i k) (sS xs w v t) 102 [60] []).hint [false])) =
 some (.at (.exit 10),[],[decide (k<4)=false,off=fN,i=i',i=i',k=k',xs=iR/\t=t,w=w'/\(173:Nat)=(173:TypeId),v=v'/\(173:Nat)=(173:TypeId)]):=by kernel_rfl
theorem aZw (iA xs iR w v w' v':List Int) (t:TypeId) (off fN:Nat) (i i' k:Int):fM 100 Tryz.f80.ntmps (bH 100 (uA iA t)) [] (Le fN i') (sS iR w' v' t) 102 [60] [] (Yd iA t (.at (.exit 10)) aPk ((cB (Qe off i k) (sS xs w v t) 102 [60] []).hint [])) =
 some (.at .normal,[],[off=fN,IntKind.i64.wrap (i+1)=i',xs=iR/\t=t,w=w'/\(173:Nat)=(173:TypeId),v=v'/\(173:Nat)=(173:TypeId)]):=by kernel_rfl
theorem bAb (iA xs iR w v w' v':List Int) (t:TypeId) (off fN:Nat) (i i':Int):fM 100 Tryz.f80.ntmps (bH 100 (uA iA t)) [] (Le fN i') (sS iR w' v' t) 102 [60] [] (Yd iA t (.go UP) [] ((cB (Le off i) (sS xs w v t) 102 [60] []).hint [false])) =
 some (.at (.exit 8),[],[decide (i<16)=false,off=fN,i=i',xs=iR/\t=t,w=w'/\(173:Nat)=(173:TypeId),v=v'/\(173:Nat)=(173:TypeId)]):=by kernel_rfl
theorem bAa (iA xs w v:List Int) (t:TypeId) (off:Nat) (i:Int):sW qN (uA iA t) 100 100 Tryz.f80 [] (Yd iA t (.at (.exit 8)) aPl ((cB (Le off i) (sS xs w v t) 102 [60] []).hint [])) =
 some { val:=.eL [],wr:=[(60,.ints .u8 xs t)] }:=by kernel_rfl
end Go.Proofs.YticicdfijghigaaGreatDoor.Sx
