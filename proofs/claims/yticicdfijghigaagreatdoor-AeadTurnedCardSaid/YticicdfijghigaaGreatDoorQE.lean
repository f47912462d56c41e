/- The fast stream: four blocks at once, runs. -/
import Derived.Test.YticicdfijghigaaGreatDoorQD
open Go
set_option maxRecDepth 100000
namespace Go.Proofs.YticicdfijghigaaGreatDoor.Sx
namespace Q
def lane (k:Nat) (v:List Int):List Int:=(List.range 16).map fun i=>v.getD (4*i+k) 0
def Ia (a b c d:List Int) (j:Nat):Int:=match j%4 with
 | 0=>a.getD (j/4) 0
 | 1=>b.getD (j/4) 0
 | 2=>c.getD (j/4) 0
 | _=>d.getD (j/4) 0
def Ar (a b c d:List Int):List Int:=(List.range 64).map (Ia a b c d)
def KS (s:List Int) (j:Nat):Int:=match Nat.beq (j/4) 12 with
 | true=>IntKind.u32.wrap (s.getD 12 0+IntKind.u32.wrap ((j%4:Nat):Int))
 | false=>s.getD (j/4) 0
def jR (s:List Int):List Int:=(List.range 64).map (KS s)
def dr4 (v:List Int):List Int:=Ar (B.dr (lane 0 v)) (B.dr (lane 1 v)) (B.dr (lane 2 v)) (B.dr (lane 3 v))
def ix (i k n:Int):Int:=IntKind.i64.wrap (IntKind.i64.wrap (IntKind.i64.wrap (64*k)+IntKind.i64.wrap (4*i))+n)
def ad (off:Nat) (i k n:Int):Nat:=off+(ix i k n).toNat*1
def wd (v:List Int) (i k:Int):Int:=v.getD (0+i.toNat*4+k.toNat*1+0) 0
def byt (v w:List Int) (i k n:Int):Int:=IntKind.u8.wrap (cB .u32 (IntKind.u32.wrap (wd v i k+wd w i k)) (8*n))
def X (off:Nat) (v w:List Int) (i k:Int) (xs:List Int):Nat->List Int
 | 0=>xs
 | n+1=>(X off v w i k xs n).set (ad off i k n) (eZ .u8 ((X off v w i k xs n).getD (ad off i k n+0) 0) (byt v w i k n))
def ob (off:Nat) (v w:List Int) (i k:Int) (xs:List Int):Nat->List Prop->List Prop
 | 0,r=>r
 | n+1,r=>(ad off i k n<(X off v w i k xs n).length)::(0<=ix i k n/\ix i k n<256)::(ad off i k n+1<=(X off v w i k xs n).length)::(0<=ix i k n/\ix i k n<256)::ob off v w i k xs n r
end Q
def XN (off:Nat) (s:List Int):List SV:=[.agg (cI .u32 16 s),.ptr 60 false off]
noncomputable def AP (xs:List Int) (t:TypeId) (cf:Cf) (K:List Fr) (s:St):Option oY:=gV rM (aY 100 (vG xs t)) 100 Tryz.f80.ntmps [18,29,32] 400 6000 cf K s
def Ni (off:Nat) (i:Int):List (Nat × SV):=[(1,.ptr 60 false off),(4,.ptr 100 true 0),(8,.ptr 101 true 0),(42,.int false .i64 i)]
def Ng (xs w v:List Int) (t:TypeId):List (Nat × SB):=[(60,.ints .u8 xs t),(100,.ints .u32 w 173),(101,.own (cI .u32 64 v) 173)]
noncomputable def fqR:Option oY:=AP [] 0 (.go (codeOf Tryz.f80)) [] ((zL (XN 0 []) 100).hint [])
noncomputable def aJk:Code:=Df fqR
noncomputable def fqK:List Fr:=De fqR
def Nh (off:Nat) (i:Int):List (Nat × SV):=[(1,.ptr 60 false off),(4,.ptr 100 true 0),(8,.ptr 101 true 0),(85,.int false .i64 i)]
def uE (xs w v:List Int) (t:TypeId):List (Nat × SB):=[(60,.ints .u8 xs t),(100,.ints .u32 w 173),(101,.ints .u32 v 173)]
noncomputable def aSo:Option oY:=AP [] 0 (.at (.exit 6)) fqK ((bM (Ni 0 0) (Ng [] [] [] 0) 102 [60] []).hint [])
noncomputable def XO:Code:=Df aSo
noncomputable def aSq:List Fr:=De aSo
noncomputable def aSn:Option oY:=AP [] 0 (.go XO) [] ((bM (Nh 0 0) (uE [] [] [] 0) 102 [60] []).hint [true])
noncomputable def aJl:Code:=Df aSn
noncomputable def aSp:List Fr:=De aSn
def Sn (off:Nat) (i k:Int):List (Nat × SV):=[(1,.ptr 60 false off),(4,.ptr 100 true 0),(8,.ptr 101 true 0),(9,.int false .i64 i),(85,.int false .i64 i),(88,.int false .i64 k)]
theorem bEn (xs iZ s w' v':List Int) (t:TypeId) (off fR:Nat) (i':Int):cW 100 Tryz.f80.ntmps (aY 100 (vG xs t)) [] (Ni fR i') (Ng iZ w' v' t) 102 [60] [] (AP xs t (.go (codeOf Tryz.f80)) [] ((zL (XN off s) 100).hint [])) =
 some (.go (.loop aJk),fqK,(off=fR)::(0=i')::(xs=iZ/\t=t)::(Q.jR s=w'/\(173:Nat)=(173:TypeId))::[Q.jR s=cN 64 v']):=by kernel_rfl
theorem bEm (iK xs iZ w v w' v':List Int) (t:TypeId) (off fR:Nat) (i i':Int):cW 100 Tryz.f80.ntmps (aY 100 (vG iK t)) [] (Ni fR i') (Ng iZ w' v' t) 102 [60] [] (AP iK t (.go aJk) [] ((bM (Ni off i) (Ng xs w v t) 102 [60] []).hint [true])) =
 some (.at .normal,[],(decide (i<10)=true)::(off=fR)::(IntKind.i64.wrap (i+1)=i')::(xs=iZ/\t=t)::(w=w'/\(173:Nat)=(173:TypeId))::[Q.dr4 v=cN 64 v']):=by kernel_rfl
theorem bEl (iK xs iZ w v w' v':List Int) (t:TypeId) (off fR:Nat) (i i':Int):cW 100 Tryz.f80.ntmps (aY 100 (vG iK t)) [] (Ni fR i') (Ng iZ w' v' t) 102 [60] [] (AP iK t (.go aJk) [] ((bM (Ni off i) (Ng xs w v t) 102 [60] []).hint [false])) =
 some (.at (.exit 6),[],(decide (i<10)=false)::(off=fR)::(i=i')::(xs=iZ/\t=t)::(w=w'/\(173:Nat)=(173:TypeId))::[cN 64 v=cN 64 v']):=by kernel_rfl
theorem bEk (iK xs iZ w v w' v':List Int) (t:TypeId) (off fR:Nat) (i i':Int):cW 100 Tryz.f80.ntmps (aY 100 (vG iK t)) [] (Nh fR i') (uE iZ w' v' t) 102 [60] [] (AP iK t (.at (.exit 6)) fqK ((bM (Ni off i) (Ng xs w v t) 102 [60] []).hint [])) =
 some (.go (.loop XO),aSq,[off=fR,0=i',xs=iZ/\t=t,w=w'/\(173:Nat)=(173:TypeId),cN 64 v=v'/\(173:Nat)=(173:TypeId)]):=by kernel_rfl
theorem bEh (iK xs iZ w v w' v':List Int) (t:TypeId) (off fR:Nat) (i i' k':Int):cW 100 Tryz.f80.ntmps (aY 100 (vG iK t)) [] (Sn fR i' k') (uE iZ w' v' t) 102 [60] [] (AP iK t (.go XO) [] ((bM (Nh off i) (uE xs w v t) 102 [60] []).hint [true])) =
 some (.go (.loop aJl),aSp,[decide (i<16)=true,off=fR,i=i',i=i',0=k',xs=iZ/\t=t,w=w'/\(173:Nat)=(173:TypeId),v=v'/\(173:Nat)=(173:TypeId)]):=by kernel_rfl
theorem bEg (iK xs iZ w v w' v':List Int) (t:TypeId) (off fR:Nat) (i i' k k':Int):cW 100 Tryz.f80.ntmps (aY 100 (vG iK t)) [] (Sn fR i' k') (uE iZ w' v' t) 102 [60] [] (AP iK t (.go aJl) [] ((bM (Sn off i k) (uE xs w v t) 102 [60] []).hint [true])) =
 some (.at .normal,[],Q.ob off v w i k xs 4 [0+i.toNat*4+k.toNat*1+1<=w.length,0<=k/\k<4,0<=i/\i<16,0+i.toNat*4+k.toNat*1+1<=v.length,0<=k/\k<4,0<=i/\i<16,decide (k<4)=true,
  off=fR,i=i',i=i',IntKind.i64.wrap (k+1)=k',Q.X off v w i k xs 4=iZ/\t=t,w=w'/\(173:Nat)=(173:TypeId),v=v'/\(173:Nat)=(173:TypeId)]):=by kernel_rfl
theorem bEf (iK xs iZ w v w' v':List Int) (t:TypeId) (off fR:Nat) (i i' k k':Int):cW 100 Tryz.f80.ntmps (aY 100 (vG iK t)) [] (Sn fR i' k') (uE iZ w' v' t) 102 [60] [] (AP iK t (.go aJl) [] ((bM (Sn off i k) (uE xs w v t) 102 [60] []).hint [false])) =
 some (.at (.exit 10),[],[decide (k<4)=false,off=fR,i=i',i=i',k=k',xs=iZ/\t=t,w=w'/\(173:Nat)=(173:TypeId),v=v'/\(173:Nat)=(173:TypeId)]):=by kernel_rfl
theorem bEe (iK xs iZ w v w' v':List Int) (t:TypeId) (off fR:Nat) (i i' k:Int):cW 100 Tryz.f80.ntmps (aY 100 (vG iK t)) [] (Nh fR i') (uE iZ w' v' t) 102 [60] [] (AP iK t (.at (.exit 10)) aSp ((bM (Sn off i k) (uE xs w v t) 102 [60] []).hint [])) =
 some (.at .normal,[],[off=fR,IntKind.i64.wrap (i+1)=i',xs=iZ/\t=t,w=w'/\(173:Nat)=(173:TypeId),v=v'/\(173:Nat)=(173:TypeId)]):=by kernel_rfl
theorem bEj (iK xs iZ w v w' v':List Int) (t:TypeId) (off fR:Nat) (i i':Int):cW 100 Tryz.f80.ntmps (aY 100 (vG iK t)) [] (Nh fR i') (uE iZ w' v' t) 102 [60] [] (AP iK t (.go XO) [] ((bM (Nh off i) (uE xs w v t) 102 [60] []).hint [false])) =
 some (.at (.exit 8),[],[decide (i<16)=false,off=fR,i=i',xs=iZ/\t=t,w=w'/\(173:Nat)=(173:TypeId),v=v'/\(173:Nat)=(173:TypeId)]):=by kernel_rfl
theorem bEi (iK xs w v:List Int) (t:TypeId) (off:Nat) (i:Int):pY rM (vG iK t) 100 100 Tryz.f80 [] (AP iK t (.at (.exit 8)) aSq ((bM (Nh off i) (uE xs w v t) 102 [60] []).hint [])) =
 some { val:=.eP [],wr:=[(60,.ints .u8 xs t)] }:=by kernel_rfl
end Go.Proofs.YticicdfijghigaaGreatDoor.Sx
