/- AeadTurned: runs. -/
import Derived.Test.YticicdfijghigaaGreatDoorQN
open Go
set_option maxRecDepth 100000
namespace Go.Proofs.YticicdfijghigaaGreatDoor.Sx
noncomputable def Jv (rm:List Int->List Int) (sb:iF) (ob:iC) (q e:Nat):Env:=Cn rm sb ob (Rg 0) (Rg q) e
def Nn (x N i b:Int) (key:List Int) (la lp:Nat):List SV:=[.int false .i64 x,.ai .u8 key,.int false .u64 N,.eH 60 la,.eH 61 lp,.int false .i64 i,.int false .u8 b]
noncomputable def VQ (rm:List Int->List Int) (sb:iF) (ob:iC) (q e:Nat) (ad p:List Int) (k:Nat) (cf:Cf) (K:List Fr) (s:St):Option oY:=gV (Jv rm sb ob q e) (aY 100 (jS ad p)) 100 Tryz.f5.ntmps [] 400 k cf K s
def aSx (x N i b:Int) (la lp:Nat) (l:Int):List (Nat × SV):=[(0,.int false .i64 x),(2,.int false .u64 N),(3,.eH 60 la),(4,.eH 61 lp),(5,.int false .i64 i),(6,.int false .u8 b),(8,.ptr 100 true 0),(15,.int false .i64 l),(16,.buf 101)]
def aSy (key X:List Int):List (Nat × SB):=[(100,.ints .u8 key 23),(101,.cS .u8 X 5)]
noncomputable def auS (ad p key X zs:List Int) (x N i b l:Int) (la lp c:Nat):St:=yR 100 Tryz.f5.ntmps (aY 100 (jS ad p)) 16 c zs (bM (aSx x N i b la lp l) (aSy key X) 102 [] [])
def No (x N i b l k:Int) (la lp lb c:Nat):List (Nat × SV):=[(0,.int false .i64 x),(2,.int false .u64 N),(3,.eH 60 la),(4,.eH 61 lp),(5,.int false .i64 i),(6,.int false .u8 b),(8,.ptr 100 true 0),(15,.int false .i64 l),(16,.aJ 101 false 0 lb c),(17,.int false .i64 k),(18,.raw .nilIface)]
def Np (key Y:List Int):List (Nat × SB):=[(100,.ints .u8 key 23),(101,.ints .u8 Y 5)]
def aKa (x N i b l k:Int) (la lp lb c m:Nat):List (Nat × SV):=[(0,.int false .i64 x),(2,.int false .u64 N),(3,.eH 60 la),(4,.eH 61 lp),(6,.int false .u8 b),(8,.ptr 100 true 0),(15,.int false .i64 l),(16,.aJ 101 false 0 lb c),(17,.int false .i64 k),(19,.aJ 102 false 0 m m)]
def aKb (key Y Z:List Int):List (Nat × SB):=[(100,.ints .u8 key 23),(101,.ints .u8 Y 5),(102,.ints .u8 Z 5)]
def HG (b l t:Int) (lp lb c m q:Nat):List (Nat × SV):=[(4,.eH 61 lp),(6,.int false .u8 b),(15,.int false .i64 l),(16,.aJ 100 false 0 lb c),(18,erE q),(19,.aJ 101 false 0 m m),(20,nV t q)]
def Ax (Y Z:List Int):List (Nat × SB):=[(100,.ints .u8 Y 5),(101,.ints .u8 Z 5)]
def Ss (l i:Int) (lb c m:Nat):List (Nat × SV):=[(15,.int false .i64 l),(16,.aJ 100 false 0 lb c),(18,erE 4),(19,.aJ 101 false 0 m m),(20,nV 0 4),(21,.int false .i64 i)]
noncomputable def auL (rm:List Int->List Int) (sb:iF) (ob:iC) (q e:Nat) (ad p:List Int) (cf:Cf) (K:List Fr) (s:St):Option oY:=gV (Jv rm sb ob q e) (aY 100 (jS ad p)) 100 Tryz.f5.ntmps [16] 400 3000 cf K s
noncomputable def auR:Option oY:=auL id (fun _ _ _ _ _=>[]) (fun _ _ _ _ _=>[]) 4 1 [] [] (.go (bR 11 (codeOf Tryz.f5))) [] ((bM (HG 0 0 0 0 0 0 0 4) (Ax [] []) 102 [] []).hint [false])
noncomputable def aJz:Code:=Df auR
noncomputable def auK:List Fr:=De auR
theorem bFq (e:Nat) (he:e=1\/e=2) (rm:List Int->List Int) (sb:iF) (ob:iC) (x N i b:Int) (key ad p:List Int) :
 aF (Jv rm sb ob 0 e) Tryz.f5 true [true] 400 (Nn x N i b key ad.length p.length) (jS ad p) 100 100 =
 some {bK:=[decide ((↑ad.length:Int)>(131072:Int))=true],val:=SV.bool true true}:=by rcases he with rfl | rfl <;> kernel_rfl
theorem bFp (e:Nat) (he:e=1\/e=2) (rm:List Int->List Int) (sb:iF) (ob:iC) (x N i b:Int) (key ad p:List Int) :
 aF (Jv rm sb ob 0 e) Tryz.f5 true [false,true] 400 (Nn x N i b key ad.length p.length) (jS ad p) 100 100 =
 some {bK:=[decide ((↑p.length:Int)>(131072:Int))=true,decide ((↑ad.length:Int)>(131072:Int))=false],val:=SV.bool true true}:=by rcases he with rfl | rfl <;> kernel_rfl
theorem bFy (e:Nat) (he:e=1\/e=2) (rm:List Int->List Int) (sb:iF) (ob:iC) (q:Nat) (x N i b l:Int) (key ad p X:List Int) :
 (cW 100 Tryz.f5.ntmps (aY 100 (jS ad p)) [] (aSx x N i b ad.length p.length l) (aSy key X) 102 [] [] (VQ rm sb ob q e ad p 19 (.go (codeOf Tryz.f5)) [] ((zL (Nn x N i b key ad.length p.length) 100).hint [false,false]))) =
 some (.go (bR 5 (codeOf Tryz.f5)),[],[(0:Int)<(16:Int)/\((↑(List.take 0 []++p).length:Int)+(16:Int))*(1:Int)<=(140737488355328:Int),(0+p.length)*1<=140737488355328,decide ((↑p.length:Int)>(131072:Int))=false,decide ((↑ad.length:Int)>(131072:Int))=false,x=x,N=N,ad.length=ad.length,p.length=p.length,i=i,b=b,(↑p.length:Int)=l,key=key/\23=23,List.take 0 []++p++List.replicate 16 (0:Int)=X]):=by rcases he with rfl | rfl <;> kernel_rfl
theorem bFx (e:Nat) (he:e=1\/e=2) (rm:List Int->List Int) (sb:iF) (ob:iC) (q:Nat) (x N i b l k:Int) (key ad p X Y zs:List Int) (lp c:Nat) :
 (cW 100 Tryz.f5.ntmps (aY 100 (jS ad p)) [] (No x N i b l k ad.length lp X.length c) (Np key Y) 102 [] [] (VQ rm sb ob q e ad p 3 (.go (bR 5 (codeOf Tryz.f5))) [] ((auS ad p key X zs x N i b l ad.length lp c).hint []))) =
 sh (X++zs) fun z0=>
 some (.go (bR 6 (codeOf Tryz.f5)),[],[Ns sb key N ad z0 l.toNat,cV e,key.length=32,bI ad,bI (List.take l.toNat z0),ad.length<=500000000,l.toNat+16<=X.length,X.length<=c,X.length<=z0.length,X.length<=500000000,key=key,N=N,ad.length=ad.length,ad.length=ad.length,0=0,X.length=X.length,c=c,l=(↑l.toNat:Int),X++zs=X++zs/\5=5,ad=ad,key.length=32,(e=1\/e=2),(x.tmod (2:Int) != (0:Int))=mkF e,x=x,x=x,N=N,ad.length=ad.length,lp=lp,i=i,b=b,l=l,0=0,X.length=X.length,c=c,(↑(l.toNat+16):Int)=k,key=key/\23=23,sb key N ad z0 l.toNat=Y/\5=5]):=by rcases he with rfl | rfl <;> kernel_rfl
theorem bFw (e:Nat) (he:e=1\/e=2) (rm:List Int->List Int) (sb:iF) (ob:iC) (q:Nat) (x N i b l k:Int) (key ad p Y:List Int) (lp lb c:Nat) :
 (cW 100 Tryz.f5.ntmps (aY 100 (jS ad p)) [] (No x N i b l k ad.length lp lb c) (Np key Y) 102 [] [] (VQ rm sb ob q e ad p 7 (.go (bR 6 (codeOf Tryz.f5))) [] ((bM (No x N i b l k ad.length lp lb c) (Np key Y) 102 [] []).hint [false]))) =
 some (.go (bR 7 (codeOf Tryz.f5)),[],[(k != IntKind.i64.wrap (l+(16:Int)))=false,x=x,N=N,ad.length=ad.length,lp=lp,i=i,b=b,l=l,0=0,lb=lb,c=c,k=k,key=key/\23=23,Y=Y/\5=5]):=by rcases he with rfl | rfl <;> kernel_rfl
theorem bFv (e:Nat) (he:e=1\/e=2) (rm:List Int->List Int) (sb:iF) (ob:iC) (q:Nat) (x N i b l k j:Int) (key ad p Y:List Int) (lp lb c:Nat) :
 (cW 100 Tryz.f5.ntmps (aY 100 (jS ad p)) [] (No x N j b l k ad.length lp lb c) (Np key Y) 102 [] [] (VQ rm sb ob q e ad p 3 (.go (bR 7 (codeOf Tryz.f5))) [] ((bM (No x N i b l k ad.length lp lb c) (Np key Y) 102 [] []).hint []))) =
 some (.go (bR 8 (codeOf Tryz.f5)),[],[x=x,N=N,ad.length=ad.length,lp=lp,IntKind.i64.wrap (l+(IntKind.i64.wrap (i.tmod (16:Int)+(16:Int))).tmod (16:Int))=j,b=b,l=l,0=0,lb=lb,c=c,k=k,key=key/\23=23,Y=Y/\5=5]):=by rcases he with rfl | rfl <;> kernel_rfl
theorem bFu (e:Nat) (he:e=1\/e=2) (rm:List Int->List Int) (sb:iF) (ob:iC) (q:Nat) (x N i b l k:Int) (key ad p Y Y':List Int) (lp lb c:Nat) :
 (cW 100 Tryz.f5.ntmps (aY 100 (jS ad p)) [] (No x N i b l k ad.length lp lb c) (Np key Y') 102 [] [] (VQ rm sb ob q e ad p 3 (.go (bR 8 (codeOf Tryz.f5))) [] ((bM (No x N i b l k ad.length lp lb c) (Np key Y) 102 [] []).hint []))) =
 some (.go (bR 9 (codeOf Tryz.f5)),[],[0+i.toNat*1<Y.length,(0:Int)<=i/\i<(↑lb:Int),0+i.toNat*1+1<=Y.length,(0:Int)<=i/\i<(↑lb:Int),x=x,N=N,ad.length=ad.length,lp=lp,i=i,b=b,l=l,0=0,lb=lb,c=c,k=k,key=key/\23=23,Y.set (0+i.toNat*1) (eZ IntKind.u8 (Y.getD (0+i.toNat*1+0) (0:Int)) b)=Y'/\5=5]):=by rcases he with rfl | rfl <;> kernel_rfl
theorem bFt (e:Nat) (he:e=1\/e=2) (rm:List Int->List Int) (sb:iF) (ob:iC) (q:Nat) (x N i b l k:Int) (key ad p Y Z:List Int) (lp lb c m:Nat) :
 (cW 100 Tryz.f5.ntmps (aY 100 (jS ad p)) [] (aKa x N i b l k ad.length lp lb c m) (aKb key Y Z) 103 [] [] (VQ rm sb ob q e ad p 3 (.go (bR 9 (codeOf Tryz.f5))) [] ((bM (No x N i b l k ad.length lp lb c) (Np key Y) 102 [] []).hint []))) =
 sh (List.drop 0 Y) fun z1=>
 sh (List.take lb z1) fun z0=>
 some (.go (bR 10 (codeOf Tryz.f5)),[],[Nu rm z0,z0.length<=1073741824,0+lb<=Y.length/\lb<=c,0=0,lb=lb,c=c,0+lb<=Y.length/\lb<=c,z0.length=z0.length,List.take lb z1=List.take lb z1,0+lb<=Y.length/\lb<=c,x=x,N=N,ad.length=ad.length,lp=lp,b=b,l=l,0=0,lb=lb,c=c,k=k,0=0,z0.length+70=m,z0.length+70=m,key=key/\23=23,Y=Y/\5=5,rm z0=Z/\5=5]):=by rcases he with rfl | rfl <;> kernel_rfl
theorem aYb (e:Nat) (he:e=1\/e=2) (rm:List Int->List Int) (sb:iF) (ob:iC) (x N i b l k t:Int) (key ad p Y Z Z':List Int) (lp lb c m:Nat) :
 (cW 100 Tryz.f5.ntmps (aY 100 (jS ad p)) [] (HG b l t lp lb c m 0) (Ax Y Z') 102 [] [] (VQ rm sb ob 0 e ad p 3 (.go (bR 10 (codeOf Tryz.f5))) [] ((bM (aKa x N i b l k ad.length lp lb c m) (aKb key Y Z) 103 [] []).hint []))) =
 sh (↑m:Int) fun z0=>
 sh (k.toNat-16) fun z1=>
 sh (0:Int) fun z2=>
 some (.go (bR 11 (codeOf Tryz.f5)),[],[yK ob true key N Z z1,cV e,key.length=32,bI ad,bI (List.take (k.toNat-16+16) Z),ad.length<=500000000,k.toNat-16+16<=k.toNat-0,k.toNat-0<=z0.toNat-0,k.toNat-0<=Z.length,k.toNat-0<=500000000,iN true key N ad Z z1,key=key,N=N,ad.length=ad.length,ad.length=ad.length,0=0,k.toNat-0=k.toNat-0,z0.toNat-0=z0.toNat-0,k=(↑(k.toNat-16+16):Int),Z=Z/\5=5,ad=ad,z2<=z0/\z0<=z0/\z2<=k/\k<=z0/\z2<=z2/\z2<=k,key.length=32,(e=1\/e=2),(x.tmod (2:Int) != z2)=mkF e,x=x,lp=lp,b=b,l=l,0=0,lb=lb,c=c,0=0,m=m,m=m,(↑z1:Int)=t,Y=Y/\5=5,ob true key N Z z1=Z'/\5=5]):=by rcases he with rfl | rfl <;> kernel_rfl
theorem aYc (e:Nat) (he:e=1\/e=2) (rm:List Int->List Int) (sb:iF) (ob:iC) (x N i b l k t:Int) (key ad p Y Z Z':List Int) (lp lb c m:Nat) :
 (cW 100 Tryz.f5.ntmps (aY 100 (jS ad p)) [] (HG b l t lp lb c m 4) (Ax Y Z') 102 [] [] (VQ rm sb ob 4 e ad p 3 (.go (bR 10 (codeOf Tryz.f5))) [] ((bM (aKa x N i b l k ad.length lp lb c m) (aKb key Y Z) 103 [] []).hint []))) =
 sh (↑m:Int) fun z0=>
 sh (0:Int) fun z1=>
 sh (k.toNat-16) fun z2=>
 some (.go (bR 11 (codeOf Tryz.f5)),[],[yK ob false key N Z z2,cV e,key.length=32,bI ad,bI (List.take (k.toNat-16+16) Z),ad.length<=500000000,k.toNat-16+16<=k.toNat-0,k.toNat-0<=z0.toNat-0,k.toNat-0<=Z.length,k.toNat-0<=500000000,iN false key N ad Z z2,key=key,N=N,ad.length=ad.length,ad.length=ad.length,0=0,k.toNat-0=k.toNat-0,z0.toNat-0=z0.toNat-0,k=(↑(k.toNat-16+16):Int),Z=Z/\5=5,ad=ad,z1<=z0/\z0<=z0/\z1<=k/\k<=z0/\z1<=z1/\z1<=k,key.length=32,(e=1\/e=2),(x.tmod (2:Int) != z1)=mkF e,x=x,lp=lp,b=b,l=l,0=0,lb=lb,c=c,0=0,m=m,m=m,Y=Y/\5=5,ob false key N Z z2=Z'/\5=5]):=by rcases he with rfl | rfl <;> kernel_rfl
theorem aXz (e:Nat) (he:e=1\/e=2) (rm:List Int->List Int) (sb:iF) (ob:iC) (b l t:Int) (ad p Y Z:List Int) (lp lb c m:Nat) :
 pY (Jv rm sb ob 0 e) (jS ad p) 100 100 Tryz.f5 [] (VQ rm sb ob 0 e ad p 400 (.go (bR 11 (codeOf Tryz.f5))) [] ((bM (HG b l t lp lb c m 0) (Ax Y Z) 102 [] []).hint [true,true])) =
 sh (l.toNat-0) fun z0=>
 sh (↑m:Int) fun z1=>
 sh (List.drop 0 Z) fun z2=>
 sh (0:Int) fun z3=>
 sh (List.take z0 z2) fun z4=>
 some {bK:=[List.take z0 z2=p,z4.length<=1073741824,0+z0<=Z.length/\l.toNat-0<=z1.toNat-0,0=0,l.toNat-0=l.toNat-0,z1.toNat-0=z1.toNat-0,0+z0<=Z.length/\l.toNat-0<=z1.toNat-0,z4.length=z4.length,lp=lp,p.length=p.length,List.take z0 z2=List.take z0 z2,0+z0<=Z.length/\l.toNat-0<=z1.toNat-0,p=p,z3<=z1/\z1<=z1/\z3<=l/\l<=z1/\z3<=z3/\z3<=l,(t==l)=true,(b==z3)=true],val:=SV.bool true true}:=by rcases he with rfl | rfl <;> kernel_rfl
theorem aYa (e:Nat) (he:e=1\/e=2) (rm:List Int->List Int) (sb:iF) (ob:iC) (b l t i:Int) (ad p Y Z:List Int) (lp lb c m:Nat) :
 (cW 100 Tryz.f5.ntmps (aY 100 (jS ad p)) [] (Ss l i lb c m) (Ax Y Z) 102 [] [] (auL rm sb ob 4 e ad p (.go (bR 11 (codeOf Tryz.f5))) [] ((bM (HG b l t lp lb c m 4) (Ax Y Z) 102 [] []).hint [false]))) =
 some (.go (.loop aJz),auK,[(b==(0:Int))=false,l=l,0=0,lb=lb,c=c,0=0,m=m,m=m,(0:Int)=i,Y=Y/\5=5,Z=Z/\5=5]):=by rcases he with rfl | rfl <;> kernel_rfl
theorem bFs (e:Nat) (he:e=1\/e=2) (rm:List Int->List Int) (sb:iF) (ob:iC) (l i i':Int) (ad p Y Y' Z:List Int) (lb c m:Nat) :
 (cW 100 Tryz.f5.ntmps (aY 100 (jS ad p)) [] (Ss l i' lb c m) (Ax Y' Z) 102 [] [] (auL rm sb ob 4 e ad p (.go aJz) [] ((bM (Ss l i lb c m) (Ax Y Z) 102 [] []).hint [true]))) =
 some (.at .normal,[],[0+i.toNat*1<Y.length,(0:Int)<=i/\i<(↑lb:Int),decide (i<l)=true,l=l,0=0,lb=lb,c=c,0=0,m=m,m=m,IntKind.i64.wrap (i+(1:Int))=i',Y.set (0+i.toNat*1) (0:Int)=Y'/\5=5,Z=Z/\5=5]):=by rcases he with rfl | rfl <;> kernel_rfl
theorem bFr (e:Nat) (he:e=1\/e=2) (rm:List Int->List Int) (sb:iF) (ob:iC) (l i i':Int) (ad p Y Y' Z:List Int) (lb c m:Nat) :
 (cW 100 Tryz.f5.ntmps (aY 100 (jS ad p)) [] (Ss l i' lb c m) (Ax Y' Z) 102 [] [] (auL rm sb ob 4 e ad p (.go aJz) [] ((bM (Ss l i lb c m) (Ax Y Z) 102 [] []).hint [false]))) =
 some (.at (.exit 0),[],[decide (i<l)=false,l=l,0=0,lb=lb,c=c,0=0,m=m,m=m,i=i',Y=Y'/\5=5,Z=Z/\5=5]):=by rcases he with rfl | rfl <;> kernel_rfl
theorem aYd (e:Nat) (he:e=1\/e=2) (rm:List Int->List Int) (sb:iF) (ob:iC) (l i:Int) (ad p Y Z:List Int) (lb c m:Nat) :
 pY (Jv rm sb ob 4 e) (jS ad p) 100 100 Tryz.f5 [] (auL rm sb ob 4 e ad p (.at (.exit 0)) auK ((bM (Ss l i lb c m) (Ax Y Z) 102 [] []).hint [])) =
 sh (List.drop 0 Y) fun z2=>
 sh (List.take lb z2) fun z0=>
 sh (List.drop 0 Z) fun z1=>
 some {bK:=[Nu rm z0,List.take m z1=rm z0,z0.length<=1073741824,0+m<=Z.length/\m<=m,0+lb<=Y.length/\lb<=c,0=0,m=m,m=m,0+m<=Z.length/\m<=m,(List.take m z1).length=(List.take m z1).length,0=0,lb=lb,c=c,0+lb<=Y.length/\lb<=c,z0.length=z0.length,List.take m z1=List.take m z1,0+m<=Z.length/\m<=m,List.take lb z2=List.take lb z2,0+lb<=Y.length/\lb<=c],val:=SV.bool true true}:=by rcases he with rfl | rfl <;> kernel_rfl
namespace Q
theorem NF {bs:List Int} {i:Nat} (h:i<bs.length):(gH bs i).set i 0=gH bs (i+1):=by
 unfold gH
 rw [List.set_append_right _ _ (by rw [List.length_replicate];omega),List.length_replicate,Nat.sub_self,List.drop_eq_getElem_cons h,List.set_cons_zero,List.replicate_succ',List.append_assoc]
 rfl
theorem aKm (bs:List Int):gH bs 0=bs:=by simp [gH]
theorem xor_eq {x b:Int} (hx:Bt x) (hb:Bt b) (h:eZ .u8 x b=x):b=0:=by
 have h2:eZ .u8 b x=x:=by
  obtain ⟨a,rfl,ha⟩:=hx.nat
  obtain ⟨c,rfl,hc⟩:=hb.nat
  rw [(P.Sb ha hc).1] at h
  rw [(P.Sb hc ha).1,Nat.xor_comm,h]
 have h3:=Yd hb hx
 rw [h2] at h3
 obtain ⟨a,rfl,ha⟩:=hx.nat
 rw [(P.Sb ha ha).1,Nat.xor_self] at h3
 exact h3.symm
theorem HJ {x:Int} (hx:Bt x):eZ .u8 x 0=x:=by
 obtain ⟨a,rfl,ha⟩:=hx.nat
 have:=(P.Sb ha (show 0<256 by omega)).1
 rw [Nat.xor_zero] at this
 exact this
end Q
theorem bI.at {xs:List Int} (h:bI xs) (i:Nat):Bt (xs.getD i 0):=h.get i
theorem Ya (rm:List Int->List Int) (sb:iF) (ob:iC) (q e:Nat):cC Tryz.prog (Jv rm sb ob q e):=Bj _ _ _ _ _ _
theorem Yb (rm:List Int->List Int) (sb:iF) (ob:iC) (q e:Nat):cK Tryz.prog (Jv rm sb ob q e):=Bk _ _ _ _ _ _
noncomputable abbrev ΓU (q e:Nat):Env:=Jv Q.gG Q.bU Q.jA q e
theorem YN (i:Int) {l:Nat} (hl:l<=131072):∃ r:Nat,r<16/\IntKind.i64.wrap ((l:Int)+(IntKind.i64.wrap (i.tmod 16+16)).tmod 16)=((l+r:Nat):Int):=by
 have h1:i.tmod 16<16:=Int.tmod_lt_of_pos i (by decide)
 have h2 : -16<i.tmod 16:=Int.lt_tmod_of_pos i (by decide)
 have hv:IntKind.i64.wrap (i.tmod 16+16)=i.tmod 16+16:=IntWalk.i64_in _ ⟨by omega,by omega⟩
 rw [hv]
 have h3:0<=(i.tmod 16+16).tmod 16:=Int.tmod_nonneg _ (by omega)
 have h4:(i.tmod 16+16).tmod 16<16:=Int.tmod_lt_of_pos _ (by decide)
 refine ⟨((i.tmod 16+16).tmod 16).toNat,by omega,?_⟩
 rw [IntWalk.i64_in _ ⟨by omega,by omega⟩]
 omega
theorem aQs {x N i b:Int} {key ad p:List Int} (h:ad.length>131072\/p.length>131072):aE Tryz.prog (ΓU 0 1) 5 (Nn x N i b key ad.length p.length) (jS ad p) 100 100 { val:=.bool true true }:=by
 have hI:∀ hs,aI Tryz.prog (ΓU 0 1) 5 (aF (ΓU 0 1) Tryz.f5 true hs 400):=fun hs=>aM (Ya _ _ _ _ _) (Yb _ _ _ _ _) mix Tryz.func5 (by kernel_rfl) true hs 400
 by_cases h1:ad.length>131072
 .exact ((hI _).call (bFq 1 (.inl rfl) _ _ _ x N i b key ad p) (aA ⟨decide_eq_true (by omega),trivial⟩)).words rfl (fun _=>rfl) (fun _ _ h=>h) (fun _=>rfl) rfl rfl
 .exact ((hI _).call (bFp 1 (.inl rfl) _ _ _ x N i b key ad p) (aA ⟨decide_eq_true (by omega),zzF (by omega),trivial⟩)).words rfl (fun _=>rfl) (fun _ _ h=>h) (fun _=>rfl) rfl rfl
set_option maxHeartbeats 4000000 in
theorem aGb {x N i b:Int} {key ad p:List Int} (hk:key.length=32) (ha:bI ad) (hp:bI p) (hb:Bt b) (la:ad.length<=131072) (lp:p.length<=131072) :
 aE Tryz.prog (ΓU (if b=0 then 0 else 4) (Gy x)) 5 (Nn x N i b key ad.length p.length) (jS ad p) 100 100 { val:=.bool true true }:=by
 have he:=Lo x
 have hE:=Ey he
 have hm:=Ln x
 generalize Gy x=e at *
 generalize hq:(if b=0 then 0 else 4)=q
 have aR:=Ya Q.gG Q.bU Q.jA q e
 have aU:=Yb Q.gG Q.bU Q.jA q e
 refine gI aR aU Tryz.func5 (by kernel_rfl) rfl (zzL (by kernel_rfl)) rfl [] ?_
 intro w0 Mx V0 Qx cA H
 have hXl:(p++List.replicate 16 (0:Int)).length=p.length+16:=by simp only [List.length_append,List.length_replicate]
 have d2:decide ((p.length:Int)>131072)=false:=zzF (by omega)
 have d3:decide ((ad.length:Int)>131072)=false:=zzF (by omega)
 refine G.cW aR aU mix cA [false,false] (bFy e he Q.gG Q.bU Q.jA q x N i b (p.length:Int) key ad p (p++List.replicate 16 0)) (aA ?_) ?_
 .simp only [bJ,List.take_zero,zzv]
  repeat' apply And.intro
  all_goals first | rfl | assumption | omega | trivial
 refine G.grown (t:=16) (l:=101) (k:=.u8) (xs:=p++List.replicate 16 0) (el:=5) (by kernel_rfl) (by kernel_rfl) (by omega) ?_
 intro c zs hc _
 have Oj:Q.bU key N ad (p++List.replicate 16 0++zs) p.length=Q.cx key N p++(Q.tg key N ad (Q.cx key N p)++zs):=by rw [List.append_assoc];exact Q.uW key N ad p _ _ (by simp)
 have hBx:bI ((p++List.replicate 16 0++zs).take p.length):=by rw [List.append_assoc,List.take_left];exact hp
 have UN:=Q.iJ key N p
 have hCB:=Q.Ei key N hp
 have hTl:=Q.kY key N ad (Q.cx key N p)
 have UM:=Q.Tb key N ad (Q.cx key N p)
 have Aj:=Q.KL key N hp
 generalize hC:Q.cx key N p=C at *
 generalize hT:Q.tg key N ad C=T at *
 refine G.cW aR aU mix cA [] (bFx e he Q.gG Q.bU Q.jA q x N i b (p.length:Int) ((p.length+16:Nat):Int) key ad p (p++List.replicate 16 0) (C++(T++zs)) zs p.length c) (aA ?_) ?_
 .simp only [bJ,zzt]
  repeat' apply And.intro
  all_goals first | rfl | assumption | omega | trivial | exact ⟨rfl⟩ | (rw [List.length_append (bs:=zs)];omega)
 rw [hXl]
 have g8:(((p.length+16:Nat):Int) != IntKind.i64.wrap ((p.length:Int)+16))=false:=by
  have:((p.length+16:Nat):Int)=IntKind.i64.wrap ((p.length:Int)+16):=by rw [IntWalk.i64_in _ ⟨by omega,by omega⟩];omega
  rw [<- this];simp
 refine G.cW aR aU mix cA [false] (bFw e he Q.gG Q.bU Q.jA q x N i b (p.length:Int) ((p.length+16:Nat):Int) key ad p (C++(T++zs)) p.length (p.length+16) c) (aA ?_) ?_
 .simp only [bJ]
  repeat' apply And.intro
  all_goals first | rfl | assumption | omega | trivial
 obtain ⟨r,hr,hj⟩:=YN i lp
 refine G.cW aR aU mix cA [] (bFv e he Q.gG Q.bU Q.jA q x N i b (p.length:Int) ((p.length+16:Nat):Int) ((p.length+r:Nat):Int) key ad p (C++(T++zs)) p.length (p.length+16) c) (aA ?_) ?_
 .simp only [bJ]
  repeat' apply And.intro
  all_goals first | rfl | assumption | omega | trivial
 have hyl:∀ U:List Int,U.length=16->(C++(U++zs)).length=p.length+16+zs.length:=fun U hU=>by simp only [List.length_append];omega
 have rA:(C++(T++zs)).getD (p.length+r) 0=T.getD r 0:=by
  rw [zzG,List.getElem?_append_right (by omega),UN,Nat.add_sub_cancel_left,List.getElem?_append_left (by omega),zzG]
 have oO:∀ v,(C++(T++zs)).set (p.length+r) v=C++(T.set r v++zs):=fun v=>by
  rw [List.set_append_right _ _ (by omega),UN,Nat.add_sub_cancel_left,List.set_append_left _ _ (by omega)]
 have ei:0+(((p.length+r:Nat):Int).toNat)*1=p.length+r:=by omega
 have aJg:(T.set r (eZ .u8 (T.getD r 0) b)).length=16:=by rw [List.length_set,hTl]
 refine G.cW aR aU mix cA [] (bFu e he Q.gG Q.bU Q.jA q x N ((p.length+r:Nat):Int) b (p.length:Int) ((p.length+16:Nat):Int) key ad p (C++(T++zs)) (C++(T.set r (eZ .u8 (T.getD r 0) b)++zs)) p.length (p.length+16) c) (aA ?_) ?_
 .simp only [bJ,ei,Nat.add_zero,rA,oO,hyl T hTl]
  repeat' apply And.intro
  all_goals first | rfl | assumption | omega | trivial
 have htg:b=0->T.set r (eZ .u8 (T.getD r 0) b)=T:=fun h=>by
  rw [h,Q.HJ (UM.at r),zzG,List.getElem?_eq_getElem (by omega),Option.getD_some,List.set_getElem_self]
 have htn:b≠0->T≠T.set r (eZ .u8 (T.getD r 0) b):=fun h h2=>by
  have h3:(T.set r (eZ .u8 (T.getD r 0) b)).getD r 0=eZ .u8 (T.getD r 0) b:=by
   rw [zzG,List.getElem?_set_self (by omega),Option.getD_some]
  rw [<- h2] at h3
  exact h (Q.xor_eq (UM.at r) hb h3.symm)
 have bDu:bI (T.set r (eZ .u8 (T.getD r 0) b)):=fun y hy=>(List.mem_or_eq_of_mem_set hy).elim (UM y) (fun h=>by rw [h];exact Up _ _)
 generalize T.set r (eZ .u8 (T.getD r 0) b)=T' at *
 have hUl:(C++T').length=p.length+16:=by rw [List.length_append];omega
 have htU:List.take (p.length+16) (C++(T'++zs))=C++T':=by rw [<- List.append_assoc,<- hUl,List.take_left]
 have hUB:bI (C++T'):=Q.iI hCB bDu
 have bHk:=Q.Fu (p.length+16)
 have hmB:=Q.Lg (p.length+16)
 have hrm:Q.gG (C++T')=C++T'++Q.TV (p.length+16):=by rw [Q.Km,hUl]
 have bCp:=hyl T' aJg
 refine G.cW aR aU mix cA [] (bFt e he Q.gG Q.bU Q.jA q x N ((p.length+r:Nat):Int) b (p.length:Int) ((p.length+16:Nat):Int) key ad p (C++(T'++zs)) (C++T'++Q.TV (p.length+16)) p.length (p.length+16) c (p.length+16+70)) (aA ?_) ?_
 .simp only [bJ,List.drop_zero,htU,bCp,hUl,hrm]
  repeat' apply And.intro
  all_goals first | rfl | assumption | omega | trivial | exact ⟨rfl⟩
 generalize hM:Q.TV (p.length+16)=M at *
 have hZl:(C++T'++M).length=p.length+16+70:=by rw [List.length_append];omega
 have hZB:∀ n,bI ((C++T'++M).take n):=fun n=>Q.lN _ (Q.iI hUB hmB)
 have tU:(C++T').take p.length=C:=by rw [<- UN,List.take_left]
 have dU:(C++T').drop p.length=T':=by rw [<- UN,List.drop_left]
 have XC:Mw key N ad (C++T') p.length=decide (T=T'):=by
  unfold Mw;rw [tU,dU,hT,List.take_of_length_le (Nat.le_of_eq aJg)]
 by_cases uC:b=0
 .rw [if_pos uC] at hq
  subst hq
  have hTT:=htg uC
  have t1:iN true key N ad (C++T'++M) p.length:=oE (by omega) (by rw [XC];exact decide_eq_true hTT.symm)
  have o1:Q.jA true key N (C++T'++M) p.length=p++T'++M:=by
   have h1:=Q.sA key N (W:=C++T') (zs:=M) (m:=p.length) (by omega)
   have h2:Q.eL key N (C++T') p.length=p++T':=by unfold Q.eL;rw [tU,dU,Aj]
   rw [h2] at h1;exact h1
  have Sm:(p++T'++M).length=p.length+16+70:=by simp only [List.length_append];omega
  refine G.cW aR aU mix cA [] (aYb e he Q.gG Q.bU Q.jA x N ((p.length+r:Nat):Int) b (p.length:Int) ((p.length+16:Nat):Int) (p.length:Int) key ad p (C++(T'++zs)) (C++T'++M) (p++T'++M) p.length (p.length+16) c (p.length+16+70)) (aA ?_) ?_
  .simp only [bJ,zzt,Nat.add_sub_cancel,Nat.sub_zero,hZl]
   repeat' apply And.intro
   all_goals first | rfl | assumption | omega | trivial | exact ⟨rfl⟩ | exact hZB _
  have k3:List.take p.length (p++T'++M)=p:=by rw [List.append_assoc,List.take_left]
  refine G.oQ (cl:=[]) aR aU mix [true,true] H (aXz e he Q.gG Q.bU Q.jA b (p.length:Int) (p.length:Int) ad p (C++(T'++zs)) (p++T'++M) p.length (p.length+16) c (p.length+16+70)) (aA ?_) rfl rfl rfl
  simp only [bJ,zzt,Nat.sub_zero,List.drop_zero,k3,Sm,uC,beq_self_eq_true]
  repeat' apply And.intro
  all_goals first | rfl | assumption | omega | trivial
 .rw [if_neg uC] at hq
  subst hq
  have hTT:=htn uC
  have t1:iN false key N ad (C++T'++M) p.length:=oE (by omega) (by rw [XC];exact zzF hTT)
  have o1:Q.jA false key N (C++T'++M) p.length=List.replicate p.length 0++T'++M:=by
   have h1:=Q.El (W:=C++T') (zs:=M) (m:=p.length) (by omega)
   have h2:Q.gH (C++T') p.length=List.replicate p.length 0++T':=by unfold Q.gH;rw [dU]
   rw [h2] at h1;exact h1
  have Sm:(List.replicate p.length (0:Int)++T'++M).length=p.length+16+70:=by simp only [List.length_append,List.length_replicate];omega
  refine G.cW aR aU mix cA [] (aYc e he Q.gG Q.bU Q.jA x N ((p.length+r:Nat):Int) b (p.length:Int) ((p.length+16:Nat):Int) 0 key ad p (C++(T'++zs)) (C++T'++M) (List.replicate p.length 0++T'++M) p.length (p.length+16) c (p.length+16+70)) (aA ?_) ?_
  .simp only [bJ,zzt,Nat.add_sub_cancel,Nat.sub_zero,hZl]
   repeat' apply And.intro
   all_goals first | rfl | assumption | omega | trivial | exact ⟨rfl⟩ | exact hZB _
  have hbf:(b==(0:Int))=false:=by simp [uC]
  refine G.cW aR aU mix cA [false] (aYa e he Q.gG Q.bU Q.jA b (p.length:Int) 0 0 ad p (C++(T'++zs)) (List.replicate p.length 0++T'++M) p.length (p.length+16) c (p.length+16+70)) (aA ?_) ?_
  .simp only [bJ]
   repeat' apply And.intro
   all_goals first | rfl | assumption | omega | trivial
  refine G.loop (fun r s=>∃ i:Nat,i<=p.length/\r=p.length-i/\s=bM (Ss (p.length:Int) i (p.length+16) c (p.length+16+70)) (Ax (Q.gH (C++(T'++zs)) i) (List.replicate p.length 0++T'++M)) 102 [] []) (r0:=p.length) ⟨0,by omega,rfl,by rw [Q.aKm];rfl⟩ ?_
  rintro r s ⟨i,hi,rfl,rfl⟩
  have w1:IntKind.i64.wrap ((i:Int)+1)=((i+1:Nat):Int):=by rw [IntWalk.i64_in _ (by omega)];omega
  have hzl:=Q.Aa (C++(T'++zs)) (n:=i) (by omega)
  have e1:0+(i:Int).toNat*1=i:=by omega
  by_cases h:i<p.length
  .refine G.kW aR aU mix cA [true] (bFs e he Q.gG Q.bU Q.jA (p.length:Int) i ((i+1:Nat):Int) ad p _ (Q.gH (C++(T'++zs)) (i+1)) (List.replicate p.length 0++T'++M) (p.length+16) c (p.length+16+70)) (aA ?_) (p.length-(i+1)) (by omega) ⟨i+1,by omega,rfl,rfl⟩
   simp only [bJ,e1,w1,Q.NF (show i<(C++(T'++zs)).length by omega),hzl]
   repeat' apply And.intro
   all_goals first | rfl | assumption | omega | trivial | exact decide_eq_true (by omega)
  .have e:i=p.length:=by omega
   subst e
   have FL:Q.gH (C++(T'++zs)) p.length=List.replicate p.length 0++T'++zs:=by
    unfold Q.gH;rw [<- UN,List.drop_left,List.append_assoc]
   rw [FL]
   refine G.cW aR aU mix cA [false] (bFr _ he Q.gG Q.bU Q.jA (p.length:Int) (p.length:Int) (p.length:Int) ad p _ (List.replicate p.length 0++T'++zs) (List.replicate p.length 0++T'++M) (p.length+16) c (p.length+16+70)) (aA ?_) (G.leave (by simp) ?_)
   .simp only [bJ]
    repeat' apply And.intro
    all_goals first | rfl | assumption | omega | trivial | exact zzF (by omega)
   have hRl:(List.replicate p.length (0:Int)++T').length=p.length+16:=by rw [List.length_append,List.length_replicate,aJg]
   have v1:List.take (p.length+16) (List.replicate p.length 0++T'++zs)=List.replicate p.length 0++T':=by rw [<- hRl,List.take_left]
   have v2:List.take (p.length+16+70) (List.replicate p.length 0++T'++M)=List.replicate p.length 0++T'++M:=List.take_of_length_le (by omega)
   have v3:Q.gG (List.replicate p.length 0++T')=List.replicate p.length 0++T'++M:=by rw [Q.Km,hRl,hM]
   have v4:(List.replicate p.length (0:Int)++T'++zs).length=p.length+16+zs.length:=by rw [List.length_append,hRl]
   refine G.oQ (cl:=[]) aR aU mix [] H (aYd _ he Q.gG Q.bU Q.jA (p.length:Int) (p.length:Int) ad p _ (List.replicate p.length 0++T'++M) (p.length+16) c (p.length+16+70)) (aA ?_) rfl rfl rfl
   simp only [bJ,List.drop_zero,v1,v2,v3,v4,Sm,hRl]
   repeat' apply And.intro
   all_goals first | rfl | assumption | omega | trivial | exact ⟨rfl⟩
theorem aGc {x N i b:Int} {key ad p:List Int} (hk:key.length=32) (ha:bI ad) (hp:bI p) (hb:Bt b):∃ q e,aE Tryz.prog (ΓU q e) 5 (Nn x N i b key ad.length p.length) (jS ad p) 100 100 { val:=.bool true true }:=by
 by_cases hs:ad.length<=131072/\p.length<=131072
 .exact ⟨_,_,aGb hk ha hp hb hs.1 hs.2⟩
 .exact ⟨0,1,aQs (by omega)⟩
end Go.Proofs.YticicdfijghigaaGreatDoor.Sx
section
open Go Go.Proofs.YticicdfijghigaaGreatDoor
set_option maxRecDepth 100000
namespace Go.Proofs.YticicdfijghigaaGreatDoor.AeadTurned
open Go.ChangeShapes Go.WideShapes Go.ChangeAt Go.RowKit Go.Proofs.YticicdfijghigaaGreatDoor.Sx Go.Proofs.YticicdfijghigaaGreatDoor.Aea
theorem walk {W:World} (h:laidMet Tryz.prog listed W) {x N i b:Int} {v3 v4:Value} {key ad p:List Int} (_:(Lit.int .i64 x).wf=true) (hk:key.length=32) (_:bI key) (_:(Lit.int .u64 N).wf=true) (r3:nI W .u8 v3 ad) (b3:bI ad) (r4:nI W .u8 v4 p) (b4:bI p) (_:(Lit.int .i64 i).wf=true) (hb:(Lit.int .u8 b).wf=true) :
 Calls Tryz.prog 5 #[.int .i64 x,.agg (key.map (Value.int .u8)).toArray,.int .u64 N,v3,v4,.int .i64 i,.int .u8 b] W fun e w'=>e = .returned (.bool true)/\Below W.heap.size W w':=by
 obtain ⟨V,k1,k2,k3,k4⟩:=Bu h [(60,.gL .u8 ad),(61,.gL .u8 p)] [(60,v3),(61,v4)] rfl fun V hV x hx=>by
  simp only [List.mem_cons,List.not_mem_nil,or_false] at hx
  rcases hx with rfl | rfl
  .exact ⟨⟨_,rfl,v3,by rw [hV];rfl,r3⟩,rfl,trivial⟩
  .exact ⟨⟨_,rfl,v4,by rw [hV];rfl,r4⟩,rfl,trivial⟩
 have k5:V.σ 60=some v3:=(k4 60).trans rfl
 have k6:V.σ 61=some v4:=(k4 61).trans rfl
 have Gt:aG V (Nn x N i b key ad.length p.length)=some [.int .i64 x,.agg (key.map (Value.int .u8)).toArray,.int .u64 N,v3,v4,.int .i64 i,.int .u8 b]:=by
  simp only [Nn,aG,den,k5,k6,zza,qE r3,qE r4,zzm]
 have fin:∀ (V':aZ) (x:Value) (w':World),V.ext 100 V'->den V' (.bool true true)=some x->aC W (fun _=>False) V' (eG (jS ad p) 100 { val:=.bool true true }) w'->Ending.returned x = .returned (.bool true)/\Below W.heap.size W w':=fun V' x w' _ hx hT=>by
  simp only [den,zzI] at hx
  subst hx
  exact ⟨rfl,hT.frame.os,hT.frame.tape,hT.frame.output,hT.frame.size,fun k hk=>hT.frame.block k hk (fun h=>h)⟩
 obtain ⟨q,e,hc⟩:=Sx.aGc (x:=x) (N:=N) (i:=i) hk b3 b4 (wf_u8 hb)
 exact calls hc Tryz.func5 (by kernel_rfl) (c:=codeOf Tryz.f5) rfl k1 (fun n l hn=>k2 n l hn) (fun l Rd _=>k3 l Rd) k3 Gt fin
end Go.Proofs.YticicdfijghigaaGreatDoor.AeadTurned
end
