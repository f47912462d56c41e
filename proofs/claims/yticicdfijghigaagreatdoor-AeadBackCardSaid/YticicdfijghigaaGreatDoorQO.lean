/- AeadBack: runs. -/
import Derived.Test.YticicdfijghigaaGreatDoorQN
open Go
set_option maxRecDepth 100000
namespace Go.Proofs.YticicdfijghigaaGreatDoor.Sx
def Nr (x y N:Int) (key:List Int) (la lp lr:Nat):List SV:=[.int false .i64 x,.int false .i64 y,.ai .u8 key,.int false .u64 N,.eH 60 la,.eH 61 lp,.eH 62 lr]
def abL (ad p r:List Int):List (Nat × SB):=[(60,.gL .u8 ad),(61,.gL .u8 p),(62,.gL .u8 r)]++(erO++US)
def Rv (ad p r:List Int):bA:=fun l=>look l (abL ad p r)
noncomputable def abN (rm:List Int->List Int) (sb:iF) (ob:iC) (e:Nat) (ad p r:List Int) (k:Nat) (cf:Cf) (K:List Fr) (s:St):Option oY:=gV (Cn rm sb ob Cg Cg e) (aY 100 (Rv ad p r)) 100 Tryz.f3.ntmps [] 400 k cf K s
def aTi (x y N:Int) (la lp lr m:Nat):List (Nat × SV):=[(0,.int false .i64 x),(1,.int false .i64 y),(3,.int false .u64 N),(4,.eH 60 la),(5,.eH 61 lp),(6,.eH 62 lr),(9,.ptr 100 true 0),(15,.buf 101),(16,.aJ 102 false 0 m m)]
def YB (key X Z:List Int):List (Nat × SB):=[(100,.ints .u8 key 23),(101,.cS .u8 X 5),(102,.ints .u8 Z 5)]
def aTh (y N:Int) (la lp lr n m:Nat):List (Nat × SV):=[(1,.int false .i64 y),(3,.int false .u64 N),(4,.eH 60 la),(5,.eH 61 lp),(6,.eH 62 lr),(9,.ptr 100 true 0),(15,.buf 101),(16,.aJ 102 false 0 m m),(17,.int false .i64 (n:Int)),(18,.raw .nilIface)]
def aTg (y N:Int) (la lp lr n m:Nat):List (Nat × SV):=[(1,.int false .i64 y),(3,.int false .u64 N),(4,.eH 60 la),(5,.eH 61 lp),(6,.eH 62 lr),(9,.ptr 100 true 0),(15,.buf 101),(16,.aJ 102 false 0 m m),(17,.int false .i64 (n:Int)),(19,.buf 103)]
def aTf (lp lr n m:Nat) (k:Int):List (Nat × SV):=[(5,.eH 61 lp),(6,.eH 62 lr),(15,.buf 100),(16,.aJ 101 false 0 m m),(17,.int false .i64 (n:Int)),(18,.raw .nilIface),(19,.buf 102),(20,.int false .i64 k)]
def aTm (key X Z W:List Int):List (Nat × SB):=[(100,.ints .u8 key 23),(101,.cS .u8 X 5),(102,.ints .u8 Z 5),(103,.cS .u8 W 5)]
def aTl (X Z W:List Int):List (Nat × SB):=[(100,.cS .u8 X 5),(101,.ints .u8 Z 5),(102,.cS .u8 W 5)]
def aTe (m:Nat):List (Nat × SV):=[(15,.buf 100),(16,.aJ 101 false 0 m m)]
def aTk (X Z:List Int):List (Nat × SB):=[(100,.cS .u8 X 5),(101,.ints .u8 Z 5)]
def aTd (lx cap m:Nat):List (Nat × SV):=[(15,.aJ 100 false 0 lx cap),(16,.aJ 101 false 0 m m)]
def aTj (Y Z:List Int):List (Nat × SB):=[(100,.ints .u8 Y 5),(101,.ints .u8 Z 5)]
theorem bGu (e:Nat) (he:e=1\/e=2) (rm:List Int->List Int) (sb:iF) (ob:iC) (x y N:Int) (key ad p r X Z:List Int) (m:Nat) :
 (cW 100 Tryz.f3.ntmps (aY 100 (Rv ad p r)) [] (aTi x y N ad.length p.length r.length m) (YB key X Z) 103 [] [] (abN rm sb ob e ad p r 22 (.go (codeOf Tryz.f3)) [] ((zL (Nr x y N key ad.length p.length r.length) 100).hint [false,false,false]))) =
 sh (0:Int) fun z1=>
 sh (List.take 0 []++p++List.replicate 16 z1++r) fun z0=>
 sh (131072:Int) fun z2=>
 some (.go (bR 6 (codeOf Tryz.f3)),[],[Nu rm z0,z0.length<=1073741824,z0.length=z0.length,List.take 0 []++p++List.replicate 16 z1++r=List.take 0 []++p++List.replicate 16 z1++r,((List.take 0 []++p++List.replicate 16 z1).length+r.length)*1<=140737488355328,z1<(16:Int)/\((↑(List.take 0 []++p).length:Int)+(16:Int))*(1:Int)<=(140737488355328:Int),(0+p.length)*1<=140737488355328,decide ((↑r.length:Int)>z2)=false,decide ((↑p.length:Int)>z2)=false,decide ((↑ad.length:Int)>z2)=false,x=x,y=y,N=N,ad.length=ad.length,p.length=p.length,r.length=r.length,0=0,z0.length+70=m,z0.length+70=m,key=key/\23=23,List.take 0 []++p++List.replicate 16 z1++r=X,rm z0=Z/\5=5]):=by rcases he with rfl | rfl <;> kernel_rfl
theorem bGt (e:Nat) (he:e=1\/e=2) (rm:List Int->List Int) (sb:iF) (ob:iC) (x y N:Int) (key ad p r X Z Z':List Int) (n m lp lr:Nat) :
 (cW 100 Tryz.f3.ntmps (aY 100 (Rv ad p r)) [] (aTh y N ad.length lp lr n m) (YB key X Z') 103 [] [] (abN rm sb ob e ad p r 3 (.go (bR 6 (codeOf Tryz.f3))) [] ((bM (aTi x y N ad.length lp lr m) (YB key X Z) 103 [] []).hint []))) =
 sh (↑X.length:Int) fun z0=>
 sh (↑lp:Int) fun z1=>
 sh (↑m:Int) fun z2=>
 sh (0:Int) fun z3=>
 some (.go (bR 7 (codeOf Tryz.f3)),[],[Ns sb key N ad Z z1.toNat,cV e,key.length=32,bI ad,bI (Z.take z1.toNat),ad.length<=500000000,z1.toNat+16<=z0.toNat-0,z0.toNat-0<=z2.toNat-0,z0.toNat-0<=Z.length,z0.toNat-0<=500000000,key=key,N=N,ad.length=ad.length,ad.length=ad.length,0=0,z0.toNat-0=z0.toNat-0,z2.toNat-0=z2.toNat-0,z1=(↑z1.toNat:Int),Z=Z/\5=5,ad=ad,z3<=z2/\z2<=z2/\z3<=z0/\z0<=z2/\z3<=z3/\z3<=z0,key.length=32,(e=1\/e=2),(x.tmod (2:Int) != z3)=mkF e,x=x,y=y,N=N,ad.length=ad.length,lp=lp,lr=lr,0=0,m=m,m=m,(↑(z1.toNat+16):Int)=(↑n:Int),key=key/\23=23,X=X,sb key N ad Z z1.toNat=Z'/\5=5]):=by rcases he with rfl | rfl <;> kernel_rfl
theorem bGs (e:Nat) (he:e=1\/e=2) (rm:List Int->List Int) (sb:iF) (ob:iC) (y N:Int) (key ad p r X Z W:List Int) (n m lp lr:Nat) :
 (cW 100 Tryz.f3.ntmps (aY 100 (Rv ad p r)) [] (aTg y N ad.length lp lr n m) (aTm key X Z W) 104 [] [] (abN rm sb ob e ad p r 10 (.go (bR 7 (codeOf Tryz.f3))) [] ((bM (aTh y N ad.length lp lr n m) (YB key X Z) 103 [] []).hint [false]))) =
 sh (↑n:Int) fun z0=>
 sh (↑m:Int) fun z3=>
 sh (List.drop (if z3=z0 then 0 else 0+z0.toNat*1) Z) fun z1=>
 sh (↑X.length:Int) fun z4=>
 sh (z4.toNat-z0.toNat) fun z2=>
 sh (↑lp:Int) fun z5=>
 sh (List.drop (if z3=z5 then 0 else 0+z5.toNat*1) Z) fun z6=>
 sh (z0.toNat-z5.toNat) fun z7=>
 sh (0:Int) fun z8=>
 sh (List.take z2 z1) fun z9=>
 some (.go (bR 9 (codeOf Tryz.f3)),[],[(0+(List.take z7 z6).length)*1<=140737488355328,(if z3=z5 then 0 else 0+z5.toNat*1)+z7<=Z.length,z8<=z3/\z3<=z3/\z8<=z0/\z0<=z3/\z8<=z5/\z5<=z0,List.take z2 z1=r,z9.length<=1073741824,(if z3=z0 then 0 else 0+z0.toNat*1)+z2<=Z.length/\z4.toNat-z0.toNat<=z3.toNat-z0.toNat,(if z3=z0 then 0 else 0+z0.toNat*1)=if z3=z0 then 0 else 0+z0.toNat*1,z4.toNat-z0.toNat=z4.toNat-z0.toNat,z3.toNat-z0.toNat=z3.toNat-z0.toNat,(if z3=z0 then 0 else 0+z0.toNat*1)+z2<=Z.length/\z4.toNat-z0.toNat<=z3.toNat-z0.toNat,z9.length=z9.length,lr=lr,r.length=r.length,List.take z2 z1=List.take z2 z1,(if z3=z0 then 0 else 0+z0.toNat*1)+z2<=Z.length/\z4.toNat-z0.toNat<=z3.toNat-z0.toNat,r=r,z8<=z3/\z3<=z3/\z8<=z4/\z4<=z3/\z8<=z0/\z0<=z4,(z0 != IntKind.i64.wrap (z5+(16:Int)))=false,y=y,N=N,ad.length=ad.length,lp=lp,lr=lr,0=0,m=m,m=m,z0=z0,key=key/\23=23,X=X,Z=Z/\5=5,List.take 0 []++List.take z7 z6=W]):=by rcases he with rfl | rfl <;> kernel_rfl
theorem bGr (e:Nat) (he:e=1\/e=2) (rm:List Int->List Int) (sb:iF) (ob:iC) (y N k:Int) (key ad p r X Z Z' W:List Int) (n m lp lr:Nat) :
 (cW 100 Tryz.f3.ntmps (aY 100 (Rv ad p r)) [] (aTf lp lr n m k) (aTl X Z' W) 103 [] [] (abN rm sb ob e ad p r 3 (.go (bR 9 (codeOf Tryz.f3))) [] ((bM (aTg y N ad.length lp lr n m) (aTm key X Z W) 104 [] []).hint []))) =
 sh (↑X.length:Int) fun z0=>
 sh (↑n:Int) fun z1=>
 sh (↑m:Int) fun z2=>
 sh (z1.toNat-16) fun z3=>
 sh (0:Int) fun z4=>
 some (.go (bR 10 (codeOf Tryz.f3)),[],[yK ob true key N Z z3,cV e,key.length=32,bI ad,bI (Z.take (z1.toNat-16+16)),ad.length<=500000000,z1.toNat-16+16<=z0.toNat-0,z0.toNat-0<=z2.toNat-0,z0.toNat-0<=Z.length,z0.toNat-0<=500000000,iN true key N ad Z z3,key=key,N=N,ad.length=ad.length,ad.length=ad.length,0=0,z0.toNat-0=z0.toNat-0,z2.toNat-0=z2.toNat-0,z1=(↑(z1.toNat-16+16):Int),Z=Z/\5=5,ad=ad,z4<=z2/\z2<=z2/\z4<=z0/\z0<=z2/\z4<=z4/\z4<=z0,key.length=32,(e=1\/e=2),(y.tmod (2:Int) != z4)=mkF e,y=y,lp=lp,lr=lr,0=0,m=m,m=m,z1=z1,(↑z3:Int)=k,X=X,ob true key N Z z3=Z'/\5=5,W=W]):=by rcases he with rfl | rfl <;> kernel_rfl
theorem bGq (e:Nat) (he:e=1\/e=2) (rm:List Int->List Int) (sb:iF) (ob:iC) (k:Int) (ad p r X Z W:List Int) (n m lp lr:Nat) :
 (cW 100 Tryz.f3.ntmps (aY 100 (Rv ad p r)) [] (aTe m) (aTk X Z) 102 [] [] (abN rm sb ob e ad p r 7 (.go (bR 10 (codeOf Tryz.f3))) [] ((bM (aTf lp lr n m k) (aTl X Z W) 103 [] []).hint [false]))) =
 sh (↑n:Int) fun z0=>
 sh (↑m:Int) fun z1=>
 sh (↑X.length:Int) fun z6=>
 sh (z6.toNat-z0.toNat) fun z2=>
 sh (List.drop (if z1=z0 then 0 else 0+z0.toNat*1) Z) fun z3=>
 sh (List.drop (if z1=k then 0 else 0+k.toNat*1) Z) fun z4=>
 sh (z0.toNat-k.toNat) fun z5=>
 sh (k.toNat-0) fun z7=>
 sh (0:Int) fun z8=>
 sh (List.drop 0 Z) fun z9=>
 sh (List.take z2 z3) fun z10=>
 sh (List.take z5 z4) fun z11=>
 sh (List.take z7 z9) fun z12=>
 some (.go (bR 11 (codeOf Tryz.f3)),[],[List.take z2 z3=r,z10.length<=1073741824,(if z1=z0 then 0 else 0+z0.toNat*1)+z2<=Z.length/\z6.toNat-z0.toNat<=z1.toNat-z0.toNat,(if z1=z0 then 0 else 0+z0.toNat*1)=if z1=z0 then 0 else 0+z0.toNat*1,z6.toNat-z0.toNat=z6.toNat-z0.toNat,z1.toNat-z0.toNat=z1.toNat-z0.toNat,(if z1=z0 then 0 else 0+z0.toNat*1)+z2<=Z.length/\z6.toNat-z0.toNat<=z1.toNat-z0.toNat,z10.length=z10.length,lr=lr,r.length=r.length,List.take z2 z3=List.take z2 z3,(if z1=z0 then 0 else 0+z0.toNat*1)+z2<=Z.length/\z6.toNat-z0.toNat<=z1.toNat-z0.toNat,r=r,z8<=z1/\z1<=z1/\z8<=z6/\z6<=z1/\z8<=z0/\z0<=z6,List.take z5 z4=W,z11.length<=1073741824,(if z1=k then 0 else 0+k.toNat*1)+z5<=Z.length/\z0.toNat-k.toNat<=z1.toNat-k.toNat,(if z1=k then 0 else 0+k.toNat*1)=if z1=k then 0 else 0+k.toNat*1,z0.toNat-k.toNat=z0.toNat-k.toNat,z1.toNat-k.toNat=z1.toNat-k.toNat,(if z1=k then 0 else 0+k.toNat*1)+z5<=Z.length/\z0.toNat-k.toNat<=z1.toNat-k.toNat,z11.length=z11.length,W.length=W.length,List.take z5 z4=List.take z5 z4,(if z1=k then 0 else 0+k.toNat*1)+z5<=Z.length/\z0.toNat-k.toNat<=z1.toNat-k.toNat,W=W,z8<=z1/\z1<=z1/\z8<=z0/\z0<=z1/\z8<=k/\k<=z0,List.take z7 z9=p,z12.length<=1073741824,0+z7<=Z.length/\k.toNat-0<=z1.toNat-0,0=0,k.toNat-0=k.toNat-0,z1.toNat-0=z1.toNat-0,0+z7<=Z.length/\k.toNat-0<=z1.toNat-0,z12.length=z12.length,lp=lp,p.length=p.length,List.take z7 z9=List.take z7 z9,0+z7<=Z.length/\k.toNat-0<=z1.toNat-0,p=p,z8<=z1/\z1<=z1/\z8<=k/\k<=z1/\z8<=z8/\z8<=k,(k != (↑lp:Int))=false,0=0,m=m,m=m,X=X,Z=Z/\5=5]):=by rcases he with rfl | rfl <;> kernel_rfl
theorem bGp (e:Nat) (he:e=1\/e=2) (rm:List Int->List Int) (sb:iF) (ob:iC) (ad p r X Y Z zs:List Int) (m cap lx:Nat) :
 (cW 100 Tryz.f3.ntmps (aY 100 (Rv ad p r)) [] (aTd lx cap m) (aTj Y Z) 102 [] [] (abN rm sb ob e ad p r 3 (.go (bR 11 (codeOf Tryz.f3))) [] ((yR 100 Tryz.f3.ntmps (aY 100 (Rv ad p r)) 15 cap zs (bM (aTe m) (aTk X Z) 102 [] [])).hint []))) =
 sh (↑X.length:Int) fun z1=>
 sh (List.take (z1.toNat-0) (List.drop 0 Z)) fun z0=>
 sh (↑m:Int) fun z2=>
 sh (0:Int) fun z3=>
 some (.go (bR 12 (codeOf Tryz.f3)),[],[0+z0.length.min X.length<=(X++zs).length,0+(z1.toNat-0)<=Z.length,z3<=z2/\z2<=z2/\z3<=z1/\z1<=z2/\z3<=z3/\z3<=z1,0=0,X.length=lx,cap=cap,0=0,m=m,m=m,List.take 0 (X++zs)++List.take (z0.length.min X.length) z0++List.drop (0+z0.length.min X.length) (X++zs)=Y/\5=5,Z=Z/\5=5]):=by rcases he with rfl | rfl <;> kernel_rfl
theorem bGo (e:Nat) (he:e=1\/e=2) (rm:List Int->List Int) (sb:iF) (ob:iC) (ad p r Y Z:List Int) (m cap lx:Nat) :
 pY (Cn rm sb ob Cg Cg e) (Rv ad p r) 100 100 Tryz.f3 [] (abN rm sb ob e ad p r 400 (.go (bR 12 (codeOf Tryz.f3))) [] ((bM (aTd lx cap m) (aTj Y Z) 102 [] []).hint [])) =
 sh (List.drop 0 Y) fun z2=>
 sh (List.take lx z2) fun z0=>
 sh (List.drop 0 Z) fun z1=>
 some {bK:=[Nu rm z0,List.take m z1=rm z0,z0.length<=1073741824,0+m<=Z.length/\m<=m,0+lx<=Y.length/\lx<=cap,0=0,m=m,m=m,0+m<=Z.length/\m<=m,(List.take m z1).length=(List.take m z1).length,0=0,lx=lx,cap=cap,0+lx<=Y.length/\lx<=cap,z0.length=z0.length,List.take m z1=List.take m z1,0+m<=Z.length/\m<=m,List.take lx z2=List.take lx z2,0+lx<=Y.length/\lx<=cap],val:=SV.bool true true}:=by rcases he with rfl | rfl <;> kernel_rfl
theorem bGn (e:Nat) (he:e=1\/e=2) (rm:List Int->List Int) (sb:iF) (ob:iC) (x y N:Int) (key ad p r:List Int) :
 aF (Cn rm sb ob Cg Cg e) Tryz.f3 true [true] 400 (Nr x y N key ad.length p.length r.length) (Rv ad p r) 100 100 =
 some {bK:=[decide ((↑ad.length:Int)>(131072:Int))=true],val:=SV.bool true true}:=by rcases he with rfl | rfl <;> kernel_rfl
theorem bGm (e:Nat) (he:e=1\/e=2) (rm:List Int->List Int) (sb:iF) (ob:iC) (x y N:Int) (key ad p r:List Int) :
 aF (Cn rm sb ob Cg Cg e) Tryz.f3 true [false,true] 400 (Nr x y N key ad.length p.length r.length) (Rv ad p r) 100 100 =
 some {bK:=[decide ((↑p.length:Int)>(131072:Int))=true,decide ((↑ad.length:Int)>(131072:Int))=false],val:=SV.bool true true}:=by rcases he with rfl | rfl <;> kernel_rfl
theorem bGl (e:Nat) (he:e=1\/e=2) (rm:List Int->List Int) (sb:iF) (ob:iC) (x y N:Int) (key ad p r:List Int) :
 aF (Cn rm sb ob Cg Cg e) Tryz.f3 true [false,false,true] 400 (Nr x y N key ad.length p.length r.length) (Rv ad p r) 100 100 =
 sh (131072:Int) fun z0=>
 some {bK:=[decide ((↑r.length:Int)>z0)=true,decide ((↑p.length:Int)>z0)=false,decide ((↑ad.length:Int)>z0)=false],val:=SV.bool true true}:=by rcases he with rfl | rfl <;> kernel_rfl
noncomputable abbrev ΓW (e:Nat):Env:=Cn Q.gG Q.bU Q.jA Cg Cg e
theorem aQz {x y N:Int} {key ad p r:List Int} (h:ad.length>131072\/p.length>131072\/r.length>131072):aE Tryz.prog (ΓW 1) 3 (Nr x y N key ad.length p.length r.length) (Rv ad p r) 100 100 { val:=.bool true true }:=by
 have hI:∀ hs,aI Tryz.prog (ΓW 1) 3 (aF (ΓW 1) Tryz.f3 true hs 400):=fun hs=>aM (Bj _ _ _ _ _ _) (Bk _ _ _ _ _ _) mix Tryz.func3 (by kernel_rfl) true hs 400
 by_cases h1:ad.length>131072
 .exact ((hI _).call (bGn 1 (.inl rfl) _ _ _ x y N key ad p r) (aA ⟨decide_eq_true (by omega),trivial⟩)).words rfl (fun _=>rfl) (fun _ _ h=>h) (fun _=>rfl) rfl rfl
 .by_cases h2:p.length>131072
  .exact ((hI _).call (bGm 1 (.inl rfl) _ _ _ x y N key ad p r) (aA ⟨decide_eq_true (by omega),zzF (by omega),trivial⟩)).words rfl (fun _=>rfl) (fun _ _ h=>h) (fun _=>rfl) rfl rfl
  .exact ((hI _).call (bGl 1 (.inl rfl) _ _ _ x y N key ad p r) (aA ⟨decide_eq_true (by omega),zzF (by omega),zzF (by omega),trivial⟩)).words rfl (fun _=>rfl) (fun _ _ h=>h) (fun _=>rfl) rfl rfl
theorem aGh {x y N:Int} {key ad p r:List Int} (hk:key.length=32) (ha:bI ad) (hp:bI p) (hr:bI r) (la:ad.length<=131072) (lp:p.length<=131072) (lr:r.length<=131072) :
 aE Tryz.prog (ΓW (Gy x)) 3 (Nr x y N key ad.length p.length r.length) (Rv ad p r) 100 100 { val:=.bool true true }:=by
 have he:=Lo x
 have hE:=Ey he
 have hm:=Ln x
 have he2:=Lo y
 have hE2:=Ey he2
 have hm2:=Ln y
 generalize Gy x=e at *
 generalize Gy y=e2 at *
 have aR:=Bj Q.gG Q.bU Q.jA Cg Cg e
 have aU:=Bk Q.gG Q.bU Q.jA Cg Cg e
 refine gI aR aU Tryz.func3 (by kernel_rfl) rfl (zzL (by kernel_rfl)) rfl [] ?_
 intro w0 Mx V0 Qx cA H
 have hz:bI (List.replicate 16 (0:Int)):=Q.xA 16
 have hXl:(p++List.replicate 16 0++r).length=p.length+16+r.length:=by simp only [List.length_append,List.length_replicate]
 have hXB:bI (p++List.replicate 16 0++r):=Q.iI (Q.iI hp hz) hr
 have hZ:Q.gG (p++List.replicate 16 0++r)=p++(List.replicate 16 0++(r++Q.TV (p.length+16+r.length))):=by
  rw [Q.Km,hXl];simp only [List.append_assoc]
 have hZB:=Q.aBa hXB
 have hZt:∀ n,bI ((Q.gG (p++List.replicate 16 0++r)).take n):=fun n=>Q.lN n hZB
 have hZl:(Q.gG (p++List.replicate 16 0++r)).length=p.length+16+r.length+70:=by rw [Q.uX,hXl]
 generalize hX:p++List.replicate 16 0++r=X at *
 generalize Ch:Q.TV (p.length+16+r.length)=K at *
 have hKl:K.length=70:=by rw [<- Ch,Q.Fu]
 have gK:0<X.length:=by omega
 have d1:decide ((r.length:Int)>131072)=false:=zzF (by omega)
 have d2:decide ((p.length:Int)>131072)=false:=zzF (by omega)
 have d3:decide ((ad.length:Int)>131072)=false:=zzF (by omega)
 refine G.cW aR aU mix cA [false,false,false] (bGu e he Q.gG Q.bU Q.jA x y N key ad p r X (Q.gG X) (X.length+70)) (aA ?_) ?_
 .simp only [bJ,List.take_zero,zzv,hX,List.length_append,List.length_replicate]
  repeat' apply And.intro
  all_goals first | rfl | assumption | omega | trivial | exact ⟨rfl⟩ | exact hZt _
 have Oj:Q.bU key N ad (Q.gG X) p.length=Q.cx key N p++(Q.tg key N ad (Q.cx key N p)++(r++K)):=by rw [hZ];exact Q.uW key N ad p _ _ (by simp)
 have UN:=Q.iJ key N p
 have hCB:=Q.Ei key N hp
 have hTl:=Q.kY key N ad (Q.cx key N p)
 have UM:=Q.Tb key N ad (Q.cx key N p)
 have Aj:=Q.KL key N hp
 generalize hC:Q.cx key N p=C at *
 generalize hT:Q.tg key N ad C=Tg at *
 have bDr:(C++(Tg++(r++K))).length=X.length+70:=by simp only [List.length_append];omega
 have bDs:bI (C++(Tg++(r++K))):=by rw [<- Oj];exact Q.Ph _ _ _ _ hZB
 have bDq:∀ n,bI ((C++(Tg++(r++K))).take n):=fun n=>Q.lN n bDs
 have hKB:bI K:=by rw [<- Ch];exact Q.Lg _
 refine G.cW aR aU mix cA [] (bGt e he Q.gG Q.bU Q.jA x y N key ad p r X (Q.gG X) (C++(Tg++(r++K))) (p.length+16) (X.length+70) p.length r.length) (aA ?_) ?_
 .simp only [bJ,zzt,Nat.sub_zero,Oj]
  repeat' apply And.intro
  all_goals first | rfl | assumption | omega | trivial | exact ⟨rfl⟩ | exact hZt _
 have hsf:∀ a:Nat,a<X.length+70->(if ((X.length+70:Nat):Int)=(a:Int) then 0 else 0+a*1)=a:=fun a ha=>by rw [if_neg (by omega)];omega
 have g1:List.drop p.length (C++(Tg++(r++K)))=Tg++(r++K):=by rw [<- UN,List.drop_left]
 have g2:List.drop (p.length+16) (C++(Tg++(r++K)))=r++K:=by rw [<- UN,List.drop_length_add_append,<- hTl,List.drop_left]
 have g3:List.take 16 (Tg++(r++K))=Tg:=by rw [<- hTl,List.take_left]
 have g4:List.take r.length (r++K)=r:=List.take_left
 have g5:X.length-(p.length+16)=r.length:=by omega
 have g6:p.length+16-p.length=16:=by omega
 have g7:((p.length+16:Nat):Int)=IntKind.i64.wrap ((p.length:Int)+16):=by rw [IntWalk.i64_in _ ⟨by omega,by omega⟩];omega
 have g8:(((p.length+16:Nat):Int) != IntKind.i64.wrap ((p.length:Int)+16))=false:=by rw [<- g7];simp
 refine G.cW aR aU mix cA [false] (bGs e he Q.gG Q.bU Q.jA y N key ad p r X (C++(Tg++(r++K))) Tg (p.length+16) (X.length+70) p.length r.length) (aA ?_) ?_
 .simp only [bJ,zzt,Nat.sub_zero,hsf p.length (by omega),hsf (p.length+16) (by omega),g1,g2,g5,g6,g3,g4,List.take_zero,zzv,bDr,hTl]
  repeat' apply And.intro
  all_goals first | rfl | assumption | omega | trivial | exact ⟨rfl⟩
 have bY:Q.eL key N (C++(Tg++(r++K))) p.length=p++(Tg++(r++K)):=by rw [<- UN,Q.Fs,Aj]
 have hdt:decide (Q.tg key N ad (List.take p.length (C++(Tg++(r++K))))=List.take 16 (List.drop p.length (C++(Tg++(r++K)))))=true:=by
  rw [g1,g3,<- UN,List.take_left,hT];exact decide_eq_true rfl
 refine G.Hm (Sv _ _ _ _ _ e2 e) ?_
 refine G.cW (Bj Q.gG Q.bU Q.jA Cg Cg e2) (Bk Q.gG Q.bU Q.jA Cg Cg e2) mix (cA.Hm (Sv _ _ _ _ _ e2 e)) [] (bGr e2 he2 Q.gG Q.bU Q.jA y N (p.length:Int) key ad p r X (C++(Tg++(r++K))) (p++(Tg++(r++K))) Tg (p.length+16) (X.length+70) p.length r.length) (aA ?_) ?_
 .simp only [bJ,zzt,Nat.sub_zero,Nat.add_sub_cancel]
  repeat' apply And.intro
  all_goals first | rfl | assumption | omega | trivial | exact ⟨rfl⟩ | exact ⟨hdt⟩ | exact bDq _
 refine G.Hm (Sv _ _ _ _ _ e e2) ?_
 have Sm:(p++(Tg++(r++K))).length=X.length+70:=by simp only [List.length_append];omega
 have k1:List.drop p.length (p++(Tg++(r++K)))=Tg++(r++K):=List.drop_left
 have k2:List.drop (p.length+16) (p++(Tg++(r++K)))=r++K:=by rw [List.drop_length_add_append,<- hTl,List.drop_left]
 have k3:List.take p.length (p++(Tg++(r++K)))=p:=List.take_left
 have k4:((p.length:Int) != (p.length:Int))=false:=by simp
 refine G.cW aR aU mix cA [false] (bGq e he Q.gG Q.bU Q.jA (p.length:Int) ad p r X (p++(Tg++(r++K))) Tg (p.length+16) (X.length+70) p.length r.length) (aA ?_) ?_
 .simp only [bJ,zzt,Nat.sub_zero,hsf p.length (by omega),hsf (p.length+16) (by omega),k1,k2,k3,g5,g6,g3,g4,List.drop_zero,Sm,hTl]
  repeat' apply And.intro
  all_goals first | rfl | assumption | omega | trivial | exact ⟨rfl⟩
 refine G.grown (t:=15) (l:=100) (k:=.u8) (xs:=X) (el:=5) (by kernel_rfl) (by kernel_rfl) gK ?_
 intro cap zs rC Kd
 have u1:List.take X.length (p++(Tg++(r++K)))=p++(Tg++r):=by
  have e1:p++(Tg++(r++K))=(p++(Tg++r))++K:=by simp only [List.append_assoc]
  have e2:X.length=(p++(Tg++r)).length:=by simp only [List.length_append];omega
  rw [e1,e2,List.take_left]
 have u2:(p++(Tg++r)).length=X.length:=by simp only [List.length_append];omega
 have u3:List.drop X.length (X++zs)=zs:=List.drop_left
 have u4:X.length.min X.length=X.length:=Nat.min_self _
 have u5:List.take X.length (p++(Tg++r))=p++(Tg++r):=List.take_of_length_le (by omega)
 refine G.cW aR aU mix cA [] (bGp e he Q.gG Q.bU Q.jA ad p r X (p++(Tg++r)++zs) (p++(Tg++(r++K))) zs (X.length+70) cap X.length) (aA ?_) ?_
 .simp only [bJ,zzt,Nat.sub_zero,List.drop_zero,List.take_zero,zzv,u1,u2,u4,u5,Nat.zero_add,u3,Sm]
  repeat' apply And.intro
  all_goals first | rfl | assumption | omega | trivial | (rw [List.length_append];omega)
 have v1:List.take X.length (p++(Tg++r)++zs)=p++(Tg++r):=by rw [<- u2,List.take_left]
 have v2:List.take (X.length+70) (p++(Tg++(r++K)))=p++(Tg++(r++K)):=List.take_of_length_le (by omega)
 have v3:p++(Tg++(r++K))=Q.gG (p++(Tg++r)):=by
  rw [Q.Km,u2,hXl,Ch];simp only [List.append_assoc]
 have v4:(p++(Tg++r)++zs).length=X.length+zs.length:=by rw [List.length_append,u2]
 refine G.oQ (cl:=[]) aR aU mix [] H (bGo e he Q.gG Q.bU Q.jA ad p r (p++(Tg++r)++zs) (p++(Tg++(r++K))) (X.length+70) cap X.length) (aA ?_) rfl rfl rfl
 simp only [bJ,List.drop_zero,v1,v2,u2,v4,Sm]
 repeat' apply And.intro
 all_goals first | rfl | assumption | omega | trivial | exact ⟨rfl⟩
end Go.Proofs.YticicdfijghigaaGreatDoor.Sx
section
open Go Go.Proofs.YticicdfijghigaaGreatDoor
set_option maxRecDepth 100000
namespace Go.Proofs.YticicdfijghigaaGreatDoor.AeadBack
open Go.ChangeShapes Go.WideShapes Go.ChangeAt Go.RowKit Go.Proofs.YticicdfijghigaaGreatDoor.Sx Go.Proofs.YticicdfijghigaaGreatDoor.Aea
theorem walk {W:World} (h:laidMet Tryz.prog listed W) {x y N:Int} {v4 v5 v6:Value} {key ad p r:List Int} (_:(Lit.int .i64 x).wf=true) (_:(Lit.int .i64 y).wf=true) (hk:key.length=32) (_:bI key) (_:(Lit.int .u64 N).wf=true) (r4:nI W .u8 v4 ad) (b4:bI ad) (r5:nI W .u8 v5 p) (b5:bI p) (r6:nI W .u8 v6 r) (b6:bI r) :
 Calls Tryz.prog 3 #[.int .i64 x,.int .i64 y,.agg (key.map (Value.int .u8)).toArray,.int .u64 N,v4,v5,v6] W fun e w'=>e = .returned (.bool true)/\Below W.heap.size W w':=by
 obtain ⟨V,k1,k2,k3,k4⟩:=Bu h [(60,.gL .u8 ad),(61,.gL .u8 p),(62,.gL .u8 r)] [(60,v4),(61,v5),(62,v6)] rfl fun V hV x hx=>by
  simp only [List.mem_cons,List.not_mem_nil,or_false] at hx
  rcases hx with rfl | rfl | rfl
  .exact ⟨⟨_,rfl,v4,by rw [hV];rfl,r4⟩,rfl,trivial⟩
  .exact ⟨⟨_,rfl,v5,by rw [hV];rfl,r5⟩,rfl,trivial⟩
  .exact ⟨⟨_,rfl,v6,by rw [hV];rfl,r6⟩,rfl,trivial⟩
 have k5:V.σ 60=some v4:=(k4 60).trans rfl
 have k6:V.σ 61=some v5:=(k4 61).trans rfl
 have k7:V.σ 62=some v6:=(k4 62).trans rfl
 have Gt:aG V (Nr x y N key ad.length p.length r.length)=some [.int .i64 x,.int .i64 y,.agg (key.map (Value.int .u8)).toArray,.int .u64 N,v4,v5,v6]:=by
  simp only [Nr,aG,den,k5,k6,k7,zza,qE r4,qE r5,qE r6,zzm]
 have fin:∀ (V':aZ) (x:Value) (w':World),V.ext 100 V'->den V' (.bool true true)=some x->aC W (fun _=>False) V' (eG (Rv ad p r) 100 { val:=.bool true true }) w'->Ending.returned x = .returned (.bool true)/\Below W.heap.size W w':=fun V' x w' _ hx hT=>by
  simp only [den,zzI] at hx
  subst hx
  exact ⟨rfl,hT.frame.os,hT.frame.tape,hT.frame.output,hT.frame.size,fun k hk=>hT.frame.block k hk (fun h=>h)⟩
 by_cases hs:ad.length<=131072/\p.length<=131072/\r.length<=131072
 .exact calls (Sx.aGh hk b4 b5 b6 hs.1 hs.2.1 hs.2.2) Tryz.func3 (by kernel_rfl) (c:=codeOf Tryz.f3) rfl k1 (fun n l hn=>k2 n l hn) (fun l Rd _=>k3 l Rd) k3 Gt fin
 .exact calls (Sx.aQz (by omega)) Tryz.func3 (by kernel_rfl) (c:=codeOf Tryz.f3) rfl k1 (fun n l hn=>k2 n l hn) (fun l Rd _=>k3 l Rd) k3 Gt fin
end Go.Proofs.YticicdfijghigaaGreatDoor.AeadBack
end
