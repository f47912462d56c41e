/- AeadTwins: runs. -/
import Derived.Test.YticicdfijghigaaGreatDoorQN
open Go
set_option maxRecDepth 100000
namespace Go.Proofs.YticicdfijghigaaGreatDoor.Sx
def Hd (N n m:Int) (key:List Int) (la lb:Nat):List SV:=[.ai .u8 key,.int false .u64 N,.eH 60 la,.eH 61 lb,.int false .i64 n,.int false .i64 m]
noncomputable def Hq (sb:iF) (ob:iC) (o q:Nat) (ad p:List Int) (k:Nat) (cf:Cf) (K:List Fr) (s:St):Option oY:=gV (Rz Q.gG sb ob (Rg o) (Rg q)) (aY 100 (jS ad p)) 100 Tryz.f4.ntmps [] 400 k cf K s
def aTa (N n m:Int) (la:Nat):List (Nat × SV):=[(1,.int false .u64 N),(2,.eH 60 la),(4,.int false .i64 n),(5,.int false .i64 m),(6,.ptr 100 true 0),(13,.buf 101),(14,.buf 102)]
def aTb (key X:List Int):List (Nat × SB):=[(100,.ints .u8 key 23),(101,.cS .u8 X 5),(102,.cS .u8 X 5)]
noncomputable def atS (ad p key X zs ys:List Int) (N n m:Int) (la c d:Nat):St:=yR 100 Tryz.f4.ntmps (aY 100 (jS ad p)) 14 d ys (yR 100 Tryz.f4.ntmps (aY 100 (jS ad p)) 13 c zs (bM (aTa N n m la) (aTb key X) 103 [] []))
def atG (N n m:Int) (la lb c d:Nat):List (Nat × SV):=[(1,.int false .u64 N),(2,.eH 60 la),(4,.int false .i64 n),(5,.int false .i64 m),(6,.ptr 100 true 0),(13,.aJ 101 false 0 lb c),(14,.aJ 102 false 0 lb d)]
def sQ (key Y Z:List Int):List (Nat × SB):=[(100,.ints .u8 key 23),(101,.ints .u8 Y 5),(102,.ints .u8 Z 5)]
def He (N n m:Int) (la lb c d q:Nat) (k:Int):List (Nat × SV):=atG N n m la lb c d++[(15,nV k q),(16,erE q)]
def rQ (N n m:Int) (la lb c d q:Nat) (k:Int):List (Nat × SV):=atG N n m la lb c d++[(15,nV k q),(16,erE q),(17,nV k q),(18,erE q)]
def aSz (N n m:Int) (la lb c d:Nat) (j k:Int):List (Nat × SV):=atG N n m la lb c d++[(15,nV j 0),(16,erE 0),(17,nV k 0)]
noncomputable abbrev x1Z (ad p:List Int) (g:List (Nat × SV)) (b:List (Nat × SB)):=cW 100 Tryz.f4.ntmps (aY 100 (jS ad p)) [] g b 103 [] []
noncomputable abbrev x0Z (j:Nat):Cf:=.go (bR j (codeOf Tryz.f4))
noncomputable abbrev x2Z (g:List (Nat × SV)) (b:List (Nat × SB)):St:=bM g b 103 [] []
theorem bGb (o w:Nat) (ho:o=1\/o=2) (hw:w=1\/w=3) (sb:iF) (ob:iC) (N n m:Int) (key ad p:List Int) :
 aF (Rz Q.gG sb ob (Rg o) (Rg w)) Tryz.f4 true [false,false] 400 (Hd N n m key ad.length p.length) (jS ad p) 100 100 =
 sh (List.take 0 []++p) fun z0=>
 some {bK:=[List.take 0 []++p=List.take 0 []++p,z0.length<=1073741824,z0.length=z0.length,z0.length=z0.length,List.take 0 []++p=List.take 0 []++p,List.take 0 []++p=List.take 0 []++p,2=0\/2=1\/2=2,z0.length<=500000000,gJ z0.length n o,key=key,N=N,ad.length=ad.length,ad.length=ad.length,z0.length=z0.length,n=n,List.take 0 []++p=List.take 0 []++p,ad=ad,key.length=32,1=0\/1=1\/1=2,z0.length<=500000000,gJ z0.length n o,key=key,N=N,ad.length=ad.length,ad.length=ad.length,z0.length=z0.length,n=n,List.take 0 []++p=List.take 0 []++p,ad=ad,key.length=32,List.take 0 []++p=List.take 0 []++p,z0.length<=1073741824,z0.length=z0.length,z0.length=z0.length,List.take 0 []++p=List.take 0 []++p,List.take 0 []++p=List.take 0 []++p,2=0\/2=1\/2=2,gJ z0.length m w,key=key,N=N,ad.length=ad.length,ad.length=ad.length,z0.length=z0.length,m=m,List.take 0 []++p=List.take 0 []++p,ad=ad,key.length=32,1=0\/1=1\/1=2,gJ z0.length m w,key=key,N=N,ad.length=ad.length,ad.length=ad.length,z0.length=z0.length,m=m,List.take 0 []++p=List.take 0 []++p,ad=ad,key.length=32,(0+p.length)*1<=140737488355328,(0+p.length)*1<=140737488355328,decide ((↑p.length:Int)>(131072:Int))=false,decide ((↑ad.length:Int)>(131072:Int))=false],val:=SV.bool true true}:=by rcases ho with rfl | rfl <;> rcases hw with rfl | rfl <;> kernel_rfl
theorem bGa (sb:iF) (ob:iC) (N n m:Int) (key ad p:List Int) :
 aF (Rz Q.gG sb ob (Rg 1) (Rg 1)) Tryz.f4 true [true] 400 (Hd N n m key ad.length p.length) (jS ad p) 100 100 =
 some {bK:=[decide ((↑ad.length:Int)>(131072:Int))=true],val:=SV.bool true true}:=by kernel_rfl
theorem bFz (sb:iF) (ob:iC) (N n m:Int) (key ad p:List Int) :
 aF (Rz Q.gG sb ob (Rg 1) (Rg 1)) Tryz.f4 true [false,true] 400 (Hd N n m key ad.length p.length) (jS ad p) 100 100 =
 some {bK:=[decide ((↑p.length:Int)>(131072:Int))=true,decide ((↑ad.length:Int)>(131072:Int))=false],val:=SV.bool true true}:=by kernel_rfl
theorem bGe (sb:iF) (ob:iC) (o q:Nat) (N n m:Int) (key ad p X:List Int) :
 (x1Z ad p (aTa N n m ad.length) (aTb key X) (Hq sb ob o q ad p 16 (.go (codeOf Tryz.f4)) [] ((zL (Hd N n m key ad.length p.length) 100).hint [false,false]))) =
 some (x0Z 4,[],[(0+p.length)*1<=140737488355328,(0+p.length)*1<=140737488355328,decide ((↑p.length:Int)>(131072:Int))=false,decide ((↑ad.length:Int)>(131072:Int))=false,N=N,ad.length=ad.length,n=n,m=m,key=key/\23=23,List.take 0 []++p=X,List.take 0 []++p=X]):=by kernel_rfl
theorem aYq (sb:iF) (ob:iC) (o:Nat) (N n m k:Int) (key ad p X Y zs ys:List Int) (c d:Nat) :
 (x1Z ad p (He N n m ad.length X.length c d 0 k) (sQ key Y (X++ys)) (Hq sb ob o 0 ad p 3 (x0Z 4) [] ((atS ad p key X zs ys N n m ad.length c d).hint []))) =
 sh (m.toNat-16) fun z0=>
 sh (X++zs) fun z1=>
 some (x0Z 5,[],[yK ob true key N z1 z0,1=0\/1=1\/1=2,key.length=32,bI ad,bI (List.take (m.toNat-16+16) z1),ad.length<=500000000,m.toNat-16+16<=X.length,X.length<=c,X.length<=z1.length,X.length<=500000000,iN true key N ad z1 z0,key=key,N=N,ad.length=ad.length,ad.length=ad.length,0=0,X.length=X.length,c=c,m=(↑(m.toNat-16+16):Int),X++zs=X++zs/\5=5,ad=ad,key.length=32,N=N,ad.length=ad.length,n=n,m=m,0=0,X.length=X.length,c=c,0=0,X.length=X.length,d=d,(↑z0:Int)=k,key=key/\23=23,ob true key N z1 z0=Y/\5=5,X++ys=X++ys/\5=5]):=by kernel_rfl
theorem aYn (sb:iF) (ob:iC) (o:Nat) (N n m k:Int) (key ad p Y Z Z':List Int) (lb c d:Nat) :
 (x1Z ad p (rQ N n m ad.length lb c d 0 k) (sQ key Y Z') (Hq sb ob o 0 ad p 3 (x0Z 5) [] ((x2Z (He N n m ad.length lb c d 0 k) (sQ key Y Z)).hint []))) =
 sh (m.toNat-16) fun z0=>
 some (x0Z 6,[],[yK ob true key N Z z0,2=0\/2=1\/2=2,key.length=32,bI ad,bI (List.take (m.toNat-16+16) Z),ad.length<=500000000,m.toNat-16+16<=lb,lb<=d,lb<=Z.length,lb<=500000000,iN true key N ad Z z0,key=key,N=N,ad.length=ad.length,ad.length=ad.length,0=0,lb=lb,d=d,m=(↑(m.toNat-16+16):Int),Z=Z/\5=5,ad=ad,key.length=32,N=N,ad.length=ad.length,n=n,m=m,0=0,lb=lb,c=c,0=0,lb=lb,d=d,k=k,(↑z0:Int)=k,key=key/\23=23,Y=Y/\5=5,ob true key N Z z0=Z'/\5=5]):=by kernel_rfl
theorem aYs (sb:iF) (ob:iC) (o:Nat) (N n m k:Int) (key ad p X Y zs ys:List Int) (c d:Nat) :
 (x1Z ad p (He N n m ad.length X.length c d 4 k) (sQ key Y (X++ys)) (Hq sb ob o 4 ad p 3 (x0Z 4) [] ((atS ad p key X zs ys N n m ad.length c d).hint []))) =
 sh (X++zs) fun z0=>
 sh (m.toNat-16) fun z1=>
 some (x0Z 5,[],[yK ob false key N z0 z1,1=0\/1=1\/1=2,key.length=32,bI ad,bI (List.take (m.toNat-16+16) z0),ad.length<=500000000,m.toNat-16+16<=X.length,X.length<=c,X.length<=z0.length,X.length<=500000000,iN false key N ad z0 z1,key=key,N=N,ad.length=ad.length,ad.length=ad.length,0=0,X.length=X.length,c=c,m=(↑(m.toNat-16+16):Int),X++zs=X++zs/\5=5,ad=ad,key.length=32,N=N,ad.length=ad.length,n=n,m=m,0=0,X.length=X.length,c=c,0=0,X.length=X.length,d=d,key=key/\23=23,ob false key N z0 z1=Y/\5=5,X++ys=X++ys/\5=5]):=by kernel_rfl
theorem aYp (sb:iF) (ob:iC) (o:Nat) (N n m k:Int) (key ad p Y Z Z':List Int) (lb c d:Nat) :
 (x1Z ad p (rQ N n m ad.length lb c d 4 k) (sQ key Y Z') (Hq sb ob o 4 ad p 3 (x0Z 5) [] ((x2Z (He N n m ad.length lb c d 4 k) (sQ key Y Z)).hint []))) =
 sh (m.toNat-16) fun z0=>
 some (x0Z 6,[],[yK ob false key N Z z0,2=0\/2=1\/2=2,key.length=32,bI ad,bI (List.take (m.toNat-16+16) Z),ad.length<=500000000,m.toNat-16+16<=lb,lb<=d,lb<=Z.length,lb<=500000000,iN false key N ad Z z0,key=key,N=N,ad.length=ad.length,ad.length=ad.length,0=0,lb=lb,d=d,m=(↑(m.toNat-16+16):Int),Z=Z/\5=5,ad=ad,key.length=32,N=N,ad.length=ad.length,n=n,m=m,0=0,lb=lb,c=c,0=0,lb=lb,d=d,key=key/\23=23,Y=Y/\5=5,ob false key N Z z0=Z'/\5=5]):=by kernel_rfl
theorem aYr (w:Nat) (hw:w=1\/w=3) (sb:iF) (ob:iC) (o:Nat) (N n m k:Int) (key ad p X Y zs ys:List Int) (c d:Nat) :
 (x1Z ad p (He N n m ad.length X.length c d w k) (sQ key Y (X++ys)) (Hq sb ob o w ad p 3 (x0Z 4) [] ((atS ad p key X zs ys N n m ad.length c d).hint []))) =
 sh (X++zs) fun z2=>
 sh (List.drop 0 z2) fun z1=>
 sh (List.take X.length z1) fun z0=>
 some (x0Z 5,[],[1=0\/1=1\/1=2,gJ z0.length m w,0+X.length<=z2.length/\X.length<=c,key=key,N=N,ad.length=ad.length,ad.length=ad.length,0=0,X.length=X.length,c=c,0+X.length<=z2.length/\X.length<=c,z0.length=z0.length,m=m,List.take X.length z1=List.take X.length z1,0+X.length<=z2.length/\X.length<=c,ad=ad,key.length=32,N=N,ad.length=ad.length,n=n,m=m,0=0,X.length=X.length,c=c,0=0,X.length=X.length,d=d,key=key/\23=23,X++zs=Y/\5=5,X++ys=X++ys/\5=5]):=by rcases hw with rfl | rfl <;> kernel_rfl
theorem aYo (w:Nat) (hw:w=1\/w=3) (sb:iF) (ob:iC) (o:Nat) (N n m k:Int) (key ad p Y Z Z':List Int) (lb c d:Nat) :
 (x1Z ad p (rQ N n m ad.length lb c d w k) (sQ key Y Z') (Hq sb ob o w ad p 3 (x0Z 5) [] ((x2Z (He N n m ad.length lb c d w k) (sQ key Y Z)).hint []))) =
 sh (List.drop 0 Z) fun z1=>
 sh (List.take lb z1) fun z0=>
 some (x0Z 6,[],[2=0\/2=1\/2=2,gJ z0.length m w,0+lb<=Z.length/\lb<=d,key=key,N=N,ad.length=ad.length,ad.length=ad.length,0=0,lb=lb,d=d,0+lb<=Z.length/\lb<=d,z0.length=z0.length,m=m,List.take lb z1=List.take lb z1,0+lb<=Z.length/\lb<=d,ad=ad,key.length=32,N=N,ad.length=ad.length,n=n,m=m,0=0,lb=lb,c=c,0=0,lb=lb,d=d,key=key/\23=23,Y=Y/\5=5,Z=Z'/\5=5]):=by rcases hw with rfl | rfl <;> kernel_rfl
theorem aYm (sb:iF) (ob:iC) (o:Nat) (N n m k:Int) (key ad p Y Z:List Int) (lb c d:Nat) :
 (x1Z ad p (atG N n m ad.length lb c d) (sQ key Y Z) (Hq sb ob o 0 ad p 7 (x0Z 6) [] ((x2Z (rQ N n m ad.length lb c d 0 k) (sQ key Y Z)).hint [false,false]))) =
 sh (List.drop 0 Y) fun z0=>
 sh (List.drop 0 Z) fun z1=>
 sh (List.take lb z0) fun z2=>
 some (x0Z 7,[],[List.take lb z0=List.take lb z1,z2.length<=1073741824,0+lb<=Y.length/\lb<=c,0+lb<=Z.length/\lb<=d,0=0,lb=lb,c=c,0+lb<=Y.length/\lb<=c,z2.length=z2.length,0=0,lb=lb,d=d,0+lb<=Z.length/\lb<=d,(List.take lb z1).length=(List.take lb z1).length,List.take lb z0=List.take lb z0,0+lb<=Y.length/\lb<=c,List.take lb z1=List.take lb z1,0+lb<=Z.length/\lb<=d,(k != k)=false,N=N,ad.length=ad.length,n=n,m=m,0=0,lb=lb,c=c,0=0,lb=lb,d=d,key=key/\23=23,Y=Y/\5=5,Z=Z/\5=5]):=by kernel_rfl
theorem aIa (w:Nat) (hw:w=1\/w=3\/w=4) (sb:iF) (ob:iC) (o:Nat) (N n m k:Int) (key ad p Y Z:List Int) (lb c d:Nat) :
 (x1Z ad p (atG N n m ad.length lb c d) (sQ key Y Z) (Hq sb ob o w ad p 7 (x0Z 6) [] ((x2Z (rQ N n m ad.length lb c d w k) (sQ key Y Z)).hint [false,false]))) =
 sh (List.drop 0 Y) fun z0=>
 sh (List.drop 0 Z) fun z1=>
 sh (List.take lb z0) fun z2=>
 some (x0Z 7,[],[List.take lb z0=List.take lb z1,z2.length<=1073741824,0+lb<=Y.length/\lb<=c,0+lb<=Z.length/\lb<=d,0=0,lb=lb,c=c,0+lb<=Y.length/\lb<=c,z2.length=z2.length,0=0,lb=lb,d=d,0+lb<=Z.length/\lb<=d,(List.take lb z1).length=(List.take lb z1).length,List.take lb z0=List.take lb z0,0+lb<=Y.length/\lb<=c,List.take lb z1=List.take lb z1,0+lb<=Z.length/\lb<=d,N=N,ad.length=ad.length,n=n,m=m,0=0,lb=lb,c=c,0=0,lb=lb,d=d,key=key/\23=23,Y=Y/\5=5,Z=Z/\5=5]):=by rcases hw with rfl | rfl | rfl <;> kernel_rfl
theorem aYk (sb:iF) (ob:iC) (q:Nat) (N n m k:Int) (key ad p Y Y' Z:List Int) (lb c d:Nat) :
 (x1Z ad p (He N n m ad.length lb c d 0 k) (sQ key Y' Z) (Hq sb ob 0 q ad p 3 (x0Z 7) [] ((x2Z (atG N n m ad.length lb c d) (sQ key Y Z)).hint []))) =
 some (x0Z 8,[],[Ns sb key N ad Y n.toNat,1=0\/1=1\/1=2,key.length=32,bI ad,bI (List.take n.toNat Y),ad.length<=500000000,n.toNat+16<=lb,lb<=c,lb<=Y.length,lb<=500000000,key=key,N=N,ad.length=ad.length,ad.length=ad.length,0=0,lb=lb,c=c,n=(↑n.toNat:Int),Y=Y/\5=5,ad=ad,key.length=32,N=N,ad.length=ad.length,n=n,m=m,0=0,lb=lb,c=c,0=0,lb=lb,d=d,(↑(n.toNat+16):Int)=k,key=key/\23=23,sb key N ad Y n.toNat=Y'/\5=5,Z=Z/\5=5]):=by kernel_rfl
theorem aYi (sb:iF) (ob:iC) (q:Nat) (N n m k:Int) (key ad p Y Z Z':List Int) (lb c d:Nat) :
 (x1Z ad p (rQ N n m ad.length lb c d 0 k) (sQ key Y Z') (Hq sb ob 0 q ad p 3 (x0Z 8) [] ((x2Z (He N n m ad.length lb c d 0 k) (sQ key Y Z)).hint []))) =
 some (x0Z 9,[],[Ns sb key N ad Z n.toNat,2=0\/2=1\/2=2,key.length=32,bI ad,bI (List.take n.toNat Z),ad.length<=500000000,n.toNat+16<=lb,lb<=d,lb<=Z.length,lb<=500000000,key=key,N=N,ad.length=ad.length,ad.length=ad.length,0=0,lb=lb,d=d,n=(↑n.toNat:Int),Z=Z/\5=5,ad=ad,key.length=32,N=N,ad.length=ad.length,n=n,m=m,0=0,lb=lb,c=c,0=0,lb=lb,d=d,k=k,(↑(n.toNat+16):Int)=k,key=key/\23=23,Y=Y/\5=5,sb key N ad Z n.toNat=Z'/\5=5]):=by kernel_rfl
theorem aYg (sb:iF) (ob:iC) (q:Nat) (N n m k:Int) (key ad p Y Z:List Int) (lb c d:Nat) :
 (x1Z ad p (rQ N n m ad.length lb c d 0 k) (sQ key Y Z) (Hq sb ob 0 q ad p 7 (x0Z 9) [] ((x2Z (rQ N n m ad.length lb c d 0 k) (sQ key Y Z)).hint [false,false]))) =
 sh (List.drop 0 Y) fun z0=>
 sh (List.drop 0 Z) fun z1=>
 sh (List.take lb z0) fun z2=>
 some (x0Z 10,[],[List.take lb z0=List.take lb z1,z2.length<=1073741824,0+lb<=Y.length/\lb<=c,0+lb<=Z.length/\lb<=d,0=0,lb=lb,c=c,0+lb<=Y.length/\lb<=c,z2.length=z2.length,0=0,lb=lb,d=d,0+lb<=Z.length/\lb<=d,(List.take lb z1).length=(List.take lb z1).length,List.take lb z0=List.take lb z0,0+lb<=Y.length/\lb<=c,List.take lb z1=List.take lb z1,0+lb<=Z.length/\lb<=d,(k != k)=false,N=N,ad.length=ad.length,n=n,m=m,0=0,lb=lb,c=c,0=0,lb=lb,d=d,k=k,k=k,key=key/\23=23,Y=Y/\5=5,Z=Z/\5=5]):=by kernel_rfl
theorem aYl (o:Nat) (ho:o=1\/o=2) (sb:iF) (ob:iC) (q:Nat) (N n m k:Int) (key ad p Y Y' Z:List Int) (lb c d:Nat) :
 (x1Z ad p (He N n m ad.length lb c d o k) (sQ key Y' Z) (Hq sb ob o q ad p 3 (x0Z 7) [] ((x2Z (atG N n m ad.length lb c d) (sQ key Y Z)).hint []))) =
 sh (List.drop 0 Y) fun z1=>
 sh (List.take lb z1) fun z0=>
 some (x0Z 8,[],[1=0\/1=1\/1=2,z0.length<=500000000,gJ z0.length n o,0+lb<=Y.length/\lb<=c,key=key,N=N,ad.length=ad.length,ad.length=ad.length,0=0,lb=lb,c=c,0+lb<=Y.length/\lb<=c,z0.length=z0.length,n=n,List.take lb z1=List.take lb z1,0+lb<=Y.length/\lb<=c,ad=ad,key.length=32,N=N,ad.length=ad.length,n=n,m=m,0=0,lb=lb,c=c,0=0,lb=lb,d=d,key=key/\23=23,Y=Y'/\5=5,Z=Z/\5=5]):=by rcases ho with rfl | rfl <;> kernel_rfl
theorem aYj (o:Nat) (ho:o=1\/o=2) (sb:iF) (ob:iC) (q:Nat) (N n m k:Int) (key ad p Y Z Z':List Int) (lb c d:Nat) :
 (x1Z ad p (rQ N n m ad.length lb c d o k) (sQ key Y Z') (Hq sb ob o q ad p 3 (x0Z 8) [] ((x2Z (He N n m ad.length lb c d o k) (sQ key Y Z)).hint []))) =
 sh (List.drop 0 Z) fun z1=>
 sh (List.take lb z1) fun z0=>
 some (x0Z 9,[],[2=0\/2=1\/2=2,z0.length<=500000000,gJ z0.length n o,0+lb<=Z.length/\lb<=d,key=key,N=N,ad.length=ad.length,ad.length=ad.length,0=0,lb=lb,d=d,0+lb<=Z.length/\lb<=d,z0.length=z0.length,n=n,List.take lb z1=List.take lb z1,0+lb<=Z.length/\lb<=d,ad=ad,key.length=32,N=N,ad.length=ad.length,n=n,m=m,0=0,lb=lb,c=c,0=0,lb=lb,d=d,key=key/\23=23,Y=Y/\5=5,Z=Z'/\5=5]):=by rcases ho with rfl | rfl <;> kernel_rfl
theorem aYh (o:Nat) (ho:o=1\/o=2) (sb:iF) (ob:iC) (q:Nat) (N n m k:Int) (key ad p Y Z:List Int) (lb c d:Nat) :
 (x1Z ad p (rQ N n m ad.length lb c d o k) (sQ key Y Z) (Hq sb ob o q ad p 7 (x0Z 9) [] ((x2Z (rQ N n m ad.length lb c d o k) (sQ key Y Z)).hint [false,false]))) =
 sh (List.drop 0 Y) fun z0=>
 sh (List.drop 0 Z) fun z1=>
 sh (List.take lb z0) fun z2=>
 some (x0Z 10,[],[List.take lb z0=List.take lb z1,z2.length<=1073741824,0+lb<=Y.length/\lb<=c,0+lb<=Z.length/\lb<=d,0=0,lb=lb,c=c,0+lb<=Y.length/\lb<=c,z2.length=z2.length,0=0,lb=lb,d=d,0+lb<=Z.length/\lb<=d,(List.take lb z1).length=(List.take lb z1).length,List.take lb z0=List.take lb z0,0+lb<=Y.length/\lb<=c,List.take lb z1=List.take lb z1,0+lb<=Z.length/\lb<=d,N=N,ad.length=ad.length,n=n,m=m,0=0,lb=lb,c=c,0=0,lb=lb,d=d,key=key/\23=23,Y=Y/\5=5,Z=Z/\5=5]):=by rcases ho with rfl | rfl <;> kernel_rfl
theorem aYf (o:Nat) (ho:o=1\/o=2) (sb:iF) (ob:iC) (q:Nat) (N n m k:Int) (key ad p Y Z:List Int) (lb c d:Nat) :
 pY (Rz Q.gG sb ob (Rg o) (Rg q)) (jS ad p) 100 100 Tryz.f4 [] (Hq sb ob o q ad p 400 (x0Z 10) [] ((x2Z (rQ N n m ad.length lb c d o k) (sQ key Y Z)).hint [])) =
 some {val:=SV.bool true true}:=by rcases ho with rfl | rfl <;> kernel_rfl
theorem aYe (sb:iF) (ob:iC) (q:Nat) (N n m k:Int) (key ad p Y Z:List Int) (lb c d:Nat) :
 (x1Z ad p (rQ N n m ad.length lb c d 0 k) (sQ key Y Z) (Hq sb ob 0 q ad p 7 (x0Z 10) [] ((x2Z (rQ N n m ad.length lb c d 0 k) (sQ key Y Z)).hint []))) =
 some (x0Z 11,[],[N=N,ad.length=ad.length,n=n,m=m,0=0,lb=lb,c=c,0=0,lb=lb,d=d,k=k,k=k,key=key/\23=23,Y=Y/\5=5,Z=Z/\5=5]):=by kernel_rfl
theorem bGd (sb:iF) (ob:iC) (N n m j k:Int) (key ad p Y Y' Z:List Int) (lb c d:Nat) :
 (x1Z ad p (aSz N n m ad.length lb c d j k) (sQ key Y' Z) (Hq sb ob 0 0 ad p 3 (x0Z 11) [] ((x2Z (rQ N n m ad.length lb c d 0 k) (sQ key Y Z)).hint []))) =
 sh (k.toNat-16) fun z0=>
 some (x0Z 12,[],[yK ob true key N Y z0,2=0\/2=1\/2=2,key.length=32,bI ad,bI (List.take (k.toNat-16+16) Y),ad.length<=500000000,k.toNat-16+16<=lb,lb<=c,lb<=Y.length,lb<=500000000,iN true key N ad Y z0,key=key,N=N,ad.length=ad.length,ad.length=ad.length,0=0,lb=lb,c=c,k=(↑(k.toNat-16+16):Int),Y=Y/\5=5,ad=ad,key.length=32,N=N,ad.length=ad.length,n=n,m=m,0=0,lb=lb,c=c,0=0,lb=lb,d=d,(↑z0:Int)=j,k=k,key=key/\23=23,ob true key N Y z0=Y'/\5=5,Z=Z/\5=5]):=by kernel_rfl
theorem bGc (sb:iF) (ob:iC) (N n m j k:Int) (key ad p Y Z Z':List Int) (lb c d:Nat) :
 (x1Z ad p (rQ N n m ad.length lb c d 0 j) (sQ key Y Z') (Hq sb ob 0 0 ad p 3 (x0Z 12) [] ((x2Z (aSz N n m ad.length lb c d j k) (sQ key Y Z)).hint []))) =
 sh (k.toNat-16) fun z0=>
 some (x0Z 13,[],[yK ob true key N Z z0,1=0\/1=1\/1=2,key.length=32,bI ad,bI (List.take (k.toNat-16+16) Z),ad.length<=500000000,k.toNat-16+16<=lb,lb<=d,lb<=Z.length,lb<=500000000,iN true key N ad Z z0,key=key,N=N,ad.length=ad.length,ad.length=ad.length,0=0,lb=lb,d=d,k=(↑(k.toNat-16+16):Int),Z=Z/\5=5,ad=ad,key.length=32,N=N,ad.length=ad.length,n=n,m=m,0=0,lb=lb,c=c,0=0,lb=lb,d=d,j=j,(↑z0:Int)=j,key=key/\23=23,Y=Y/\5=5,ob true key N Z z0=Z'/\5=5]):=by kernel_rfl
theorem aYt (sb:iF) (ob:iC) (q:Nat) (N n m k:Int) (key ad p Y Z:List Int) (lb c d:Nat) :
 pY (Rz Q.gG sb ob (Rg 0) (Rg q)) (jS ad p) 100 100 Tryz.f4 [] (Hq sb ob 0 q ad p 400 (x0Z 13) [] ((x2Z (rQ N n m ad.length lb c d 0 k) (sQ key Y Z)).hint [true,true])) =
 sh (List.drop 0 Y) fun z0=>
 sh (List.drop 0 Z) fun z1=>
 sh (List.take lb z0) fun z2=>
 some {bK:=[List.take lb z0=List.take lb z1,z2.length<=1073741824,0+lb<=Y.length/\lb<=c,0+lb<=Z.length/\lb<=d,0=0,lb=lb,c=c,0+lb<=Y.length/\lb<=c,z2.length=z2.length,0=0,lb=lb,d=d,0+lb<=Z.length/\lb<=d,(List.take lb z1).length=(List.take lb z1).length,List.take lb z0=List.take lb z0,0+lb<=Y.length/\lb<=c,List.take lb z1=List.take lb z1,0+lb<=Z.length/\lb<=d,(k==n)=true,(k==n)=true],val:=SV.bool true true}:=by kernel_rfl
noncomputable abbrev qY (o q:Nat):Env:=Rz Q.gG Q.bU Q.jA (Rg o) (Rg q)
theorem sR (o q:Nat):cC Tryz.prog (qY o q):=bP _ 22
theorem sS (o q:Nat):cK Tryz.prog (qY o q):=bV _ (Zp _ _ _ _ _) 22
theorem Su (o q o' q':Nat):(qY o q).aT=(qY o' q').aT:=by kernel_rfl
inductive OpC (key:List Int) (N:Int) (ad X:List Int) (m:Int):Nat->Prop
 | ok (j:Nat) (h:m=((j+16:Nat):Int)) (hl:j+16<=X.length) (ht:Mw key N ad X j=true):OpC key N ad X m 0
 | no (j:Nat) (h:m=((j+16:Nat):Int)) (hl:j+16<=X.length) (ht:Mw key N ad X j=false):OpC key N ad X m 4
 | er (w:Nat) (hw:w=1\/w=3) (h:gJ X.length m w):OpC key N ad X m w
inductive SeC (l:Nat) (n:Int):Nat->Prop
 | ok (j:Nat) (h:n=(j:Int)) (hl:j+16<=l):SeC l n 0
 | er (o:Nat) (ho:o=1\/o=2) (h:gJ l n o):SeC l n o
theorem opC (key:List Int) (N:Int) (ad X:List Int) (m:Int):∃ q,OpC key N ad X m q:=by
 by_cases h1:m<0\/m>(X.length:Int)
 .exact ⟨1,.er 1 (.inl rfl) h1⟩
 .by_cases h2:m<16
  .exact ⟨3,.er 3 (.inr rfl) ⟨fun h=>h1 (.inl h),fun h=>h1 (.inr h),h2⟩⟩
  .have e:m=((m.toNat-16+16:Nat):Int):=by omega
   have hl:m.toNat-16+16<=X.length:=by omega
   cases ht:Mw key N ad X (m.toNat-16)
   .exact ⟨4,.no _ e hl ht⟩
   .exact ⟨0,.ok _ e hl ht⟩
theorem seC (l:Nat) (n:Int):∃ o,SeC l n o:=by
 by_cases h1:n<0\/n>(l:Int)
 .exact ⟨1,.er 1 (.inl rfl) h1⟩
 .by_cases h2:(l:Int)-n<16
  .exact ⟨2,.er 2 (.inr rfl) ⟨fun h=>h1 (.inl h),fun h=>h1 (.inr h),h2⟩⟩
  .exact ⟨0,.ok n.toNat (by omega) (by omega)⟩
section
variable {w0:World} {Mx:Nat->Prop} {V0:aZ} {Qx:Exit->Act->World->Prop}
theorem Fi {o q:Nat} {key ad p W zs ys:List Int} {N n m:Int} {l c d:Nat} (cA:pZ (qY o q) (aY 100 (jS ad p)) 100 V0)
 (H:∀ x s e',Gz (qY o q) (jS ad p) 100 100 Tryz.f4 x s=some e'->(∀ q∈e'.bK,q)->e'.val = .bool true true->e'.new=[]->e'.wr=[]->G Tryz.prog (qY o q) w0 Mx (aY 100 (jS ad p)) Tryz.f4.ntmps 100 V0 (.at x) [] s Qx)
 (hk:key.length=32) (ha:bI ad) (hW:bI W) (la:ad.length<=131072) (hl:W.length=l) (UH:l<=131072) (hc:l+zs.length=c) (hd:l+ys.length=d) (hs:SeC l n o) :
 G Tryz.prog (qY o q) w0 Mx (aY 100 (jS ad p)) Tryz.f4.ntmps 100 V0 (.go (bR 7 (codeOf Tryz.f4))) [] (bM (atG N n m ad.length l c d) (sQ key (W++zs) (W++ys)) 103 [] []) Qx:=by
 have Rn:∀ t:List Int,List.take l (W++t)=W:=fun t=>by rw [<- hl,List.take_left]
 have aR:=sR o q
 have aU:=sS o q
 cases hs with
 | er _ ho h=>
   refine G.cW aR aU mix cA [] (aYl o ho Q.bU Q.jA q N n m 0 key ad p (W++zs) (W++zs) (W++ys) l c d) (aA ?_) ?_
   .simp only [bJ,List.drop_zero,Rn,hl,List.length_append]
    and_intros
    all_goals first | trivial | omega | decide
   refine G.cW aR aU mix cA [] (aYj o ho Q.bU Q.jA q N n m 0 key ad p (W++zs) (W++ys) (W++ys) l c d) (aA ?_) ?_
   .simp only [bJ,List.drop_zero,Rn,hl,List.length_append]
    and_intros
    all_goals first | trivial | omega | decide
   refine G.cW aR aU mix cA [false,false] (aYh o ho Q.bU Q.jA q N n m 0 key ad p (W++zs) (W++ys) l c d) (aA ?_) ?_
   .simp only [bJ,List.drop_zero,Rn,hl,List.length_append]
    and_intros
    all_goals first | trivial | omega | decide
   exact G.oQ (cl:=[]) aR aU mix [] H (aYf o ho Q.bU Q.jA q N n m 0 key ad p (W++zs) (W++ys) l c d) (by simp) rfl rfl rfl
 | ok j h hj=>
   subst h
   have sl:=Q.Qq key N ad W (n:=j) (by omega)
   have e1:=Q.Pg key N ad (W:=W) (zs:=zs) (n:=j) (by omega)
   have e2:=Q.Pg key N ad (W:=W) (zs:=ys) (n:=j) (by omega)
   have sB:=Q.Ph key N ad j hW
   have tS:=Ux key N ad (W:=W) (n:=j) (by omega)
   have bt:∀ (U t:List Int) (i:Nat),bI U->i<=U.length->bI ((U++t).take i):=fun U t i hU hi=>by rw [Q.lJ hi];exact Q.lN _ hU
   refine G.cW aR aU mix cA [] (aYk Q.bU Q.jA q N j m ((j+16:Nat):Int) key ad p (W++zs) (Q.bU key N ad W j++zs) (W++ys) l c d) (aA ?_) ?_
   .simp only [bJ,zzt,List.length_append]
    and_intros
    all_goals first | trivial | omega | exact ⟨rfl⟩ | exact bt _ _ _ hW (by omega)
   refine G.cW aR aU mix cA [] (aYi Q.bU Q.jA q N j m ((j+16:Nat):Int) key ad p (Q.bU key N ad W j++zs) (W++ys) (Q.bU key N ad W j++ys) l c d) (aA ?_) ?_
   .simp only [bJ,zzt,List.length_append]
    and_intros
    all_goals first | trivial | omega | exact ⟨rfl⟩ | exact bt _ _ _ hW (by omega)
   generalize Q.bU key N ad W j=S at *
   have hS:S.length=l:=by omega
   have htS:∀ t:List Int,List.take l (S++t)=S:=fun t=>by rw [<- hS,List.take_left]
   refine G.cW aR aU mix cA [false,false] (aYg Q.bU Q.jA q N j m ((j+16:Nat):Int) key ad p (S++zs) (S++ys) l c d) (aA ?_) ?_
   .simp only [bJ,List.drop_zero,htS,List.length_append,bne_self_eq_false]
    and_intros
    all_goals first | trivial | omega
   refine G.cW aR aU mix cA [] (aYe Q.bU Q.jA q N j m ((j+16:Nat):Int) key ad p (S++zs) (S++ys) l c d) (aA ?_) ?_
   .simp only [bJ]
    and_intros
    all_goals first | trivial | omega
   have o1:Q.jA true key N (S++zs) j=Q.eL key N S j++zs:=Q.sA key N (by omega)
   have o2:Q.jA true key N (S++ys) j=Q.eL key N S j++ys:=Q.sA key N (by omega)
   have t1:iN true key N ad (S++zs) j:=oE (by omega) tS
   have t2:iN true key N ad (S++ys) j:=oE (by omega) tS
   have hO:=Q.Ae key N S (n:=j) (by omega)
   refine G.Hm (Su 0 0 0 q) ?_
   have uC:=cA.Hm (Su 0 0 0 q)
   refine G.cW (sR 0 0) (sS 0 0) mix uC [] (bGd Q.bU Q.jA N j m (j:Int) ((j+16:Nat):Int) key ad p (S++zs) (Q.eL key N S j++zs) (S++ys) l c d) (aA ?_) ?_
   .simp only [bJ,zzt,Nat.add_sub_cancel,List.length_append]
    and_intros
    all_goals first | trivial | omega | exact ⟨rfl⟩ | exact bt _ _ _ sB (by omega) | decide
   refine G.cW (sR 0 0) (sS 0 0) mix uC [] (bGc Q.bU Q.jA N j m (j:Int) ((j+16:Nat):Int) key ad p (Q.eL key N S j++zs) (S++ys) (Q.eL key N S j++ys) l c d) (aA ?_) ?_
   .simp only [bJ,zzt,Nat.add_sub_cancel,List.length_append]
    and_intros
    all_goals first | trivial | omega | exact ⟨rfl⟩ | exact bt _ _ _ sB (by omega) | decide
   refine G.Hm (Su 0 q 0 0) ?_
   generalize Q.eL key N S j=R at *
   have hR:R.length=l:=by omega
   have htR:∀ t:List Int,List.take l (R++t)=R:=fun t=>by rw [<- hR,List.take_left]
   refine G.oQ (cl:=[]) aR aU mix [true,true] H (aYt Q.bU Q.jA q N j m (j:Int) key ad p (R++zs) (R++ys) l c d) (aA ?_) rfl rfl rfl
   simp only [bJ,List.drop_zero,htR,List.length_append,beq_self_eq_true]
   and_intros
   all_goals first | trivial | omega
end
theorem aGe {o q:Nat} {key ad p:List Int} {N n m:Int} (hk:key.length=32) (ha:bI ad) (hp:bI p) (la:ad.length<=131072) (lp:p.length<=131072) (uD:0<p.length) (hq:OpC key N ad p m q) (hs:SeC p.length n o) :
 aE Tryz.prog (qY o q) 4 (Hd N n m key ad.length p.length) (jS ad p) 100 100 { val:=.bool true true }:=by
 have aR:=sR o q
 have aU:=sS o q
 refine gI aR aU Tryz.func4 (by kernel_rfl) rfl (zzL (by kernel_rfl)) rfl [] ?_
 intro w0 Mx V0 Qx cA H
 have d1:decide ((p.length:Int)>131072)=false:=zzF (by omega)
 have d2:decide ((ad.length:Int)>131072)=false:=zzF (by omega)
 refine G.cW aR aU mix cA [false,false] (bGe Q.bU Q.jA o q N n m key ad p p) (aA ?_) ?_
 .simp only [bJ,List.take_zero,zzv]
  and_intros
  all_goals first | trivial | omega
 refine G.grown (t:=13) (l:=101) (k:=.u8) (xs:=p) (el:=5) (by kernel_rfl) (by kernel_rfl) uD ?_
 intro c zs hc _
 refine G.grown (t:=14) (l:=102) (k:=.u8) (xs:=p) (el:=5) (by kernel_rfl) (by kernel_rfl) uD ?_
 intro d ys hd _
 have bt:∀ (U t:List Int) (i:Nat),bI U->i<=U.length->bI ((U++t).take i):=fun U t i hU hi=>by rw [Q.lJ hi];exact Q.lN _ hU
 cases hq with
 | er _ hw h=>
   have Rn:∀ t:List Int,List.take p.length (p++t)=p:=fun t=>List.take_left
   refine G.cW aR aU mix cA [] (aYr q hw Q.bU Q.jA o N n m 0 key ad p p (p++zs) zs ys c d) (aA ?_) ?_
   .simp only [bJ,List.drop_zero,Rn,List.length_append]
    and_intros
    all_goals first | trivial | omega | decide
   refine G.cW aR aU mix cA [] (aYo q hw Q.bU Q.jA o N n m 0 key ad p (p++zs) (p++ys) (p++ys) p.length c d) (aA ?_) ?_
   .simp only [bJ,List.drop_zero,Rn,List.length_append]
    and_intros
    all_goals first | trivial | omega | decide
   refine G.cW aR aU mix cA [false,false] (aIa q (by omega) Q.bU Q.jA o N n m 0 key ad p (p++zs) (p++ys) p.length c d) (aA ?_) ?_
   .simp only [bJ,List.drop_zero,Rn,List.length_append]
    and_intros
    all_goals first | trivial | omega | decide
   exact Fi cA H hk ha hp la rfl lp hc hd hs
 | ok j h hj ht=>
   subst h
   have o1:Q.jA true key N (p++zs) j=Q.eL key N p j++zs:=Q.sA key N (by omega)
   have o2:Q.jA true key N (p++ys) j=Q.eL key N p j++ys:=Q.sA key N (by omega)
   have t1:iN true key N ad (p++zs) j:=oE (by omega) ht
   have t2:iN true key N ad (p++ys) j:=oE (by omega) ht
   have hO:=Q.Ae key N p (n:=j) (by omega)
   have hB:=Q.NY key N j hp
   refine G.cW aR aU mix cA [] (aYq Q.bU Q.jA o N n ((j+16:Nat):Int) (j:Int) key ad p p (Q.eL key N p j++zs) zs ys c d) (aA ?_) ?_
   .simp only [bJ,zzt,Nat.add_sub_cancel,List.length_append]
    and_intros
    all_goals first | trivial | omega | exact ⟨rfl⟩ | exact bt _ _ _ hp (by omega) | decide
   refine G.cW aR aU mix cA [] (aYn Q.bU Q.jA o N n ((j+16:Nat):Int) (j:Int) key ad p (Q.eL key N p j++zs) (p++ys) (Q.eL key N p j++ys) p.length c d) (aA ?_) ?_
   .simp only [bJ,zzt,Nat.add_sub_cancel,List.length_append]
    and_intros
    all_goals first | trivial | omega | exact ⟨rfl⟩ | exact bt _ _ _ hp (by omega) | decide
   generalize Q.eL key N p j=W at *
   have Rn:∀ t:List Int,List.take p.length (W++t)=W:=fun t=>by rw [<- hO,List.take_left]
   refine G.cW aR aU mix cA [false,false] (aYm Q.bU Q.jA o N n ((j+16:Nat):Int) (j:Int) key ad p (W++zs) (W++ys) p.length c d) (aA ?_) ?_
   .simp only [bJ,List.drop_zero,Rn,List.length_append,bne_self_eq_false]
    and_intros
    all_goals first | trivial | omega
   exact Fi cA H hk ha hB la hO lp hc hd hs
 | no j h hj ht=>
   subst h
   have o1:Q.jA false key N (p++zs) j=Q.gH p j++zs:=Q.El (by omega)
   have o2:Q.jA false key N (p++ys) j=Q.gH p j++ys:=Q.El (by omega)
   have t1:iN false key N ad (p++zs) j:=oE (by omega) ht
   have t2:iN false key N ad (p++ys) j:=oE (by omega) ht
   have hO:=Q.Aa p (n:=j) (by omega)
   have hB:=Q.NG j hp
   refine G.cW aR aU mix cA [] (aYs Q.bU Q.jA o N n ((j+16:Nat):Int) (j:Int) key ad p p (Q.gH p j++zs) zs ys c d) (aA ?_) ?_
   .simp only [bJ,zzt,Nat.add_sub_cancel,List.length_append]
    and_intros
    all_goals first | trivial | omega | exact ⟨rfl⟩ | exact bt _ _ _ hp (by omega) | decide
   refine G.cW aR aU mix cA [] (aYp Q.bU Q.jA o N n ((j+16:Nat):Int) (j:Int) key ad p (Q.gH p j++zs) (p++ys) (Q.gH p j++ys) p.length c d) (aA ?_) ?_
   .simp only [bJ,zzt,Nat.add_sub_cancel,List.length_append]
    and_intros
    all_goals first | trivial | omega | exact ⟨rfl⟩ | exact bt _ _ _ hp (by omega) | decide
   generalize Q.gH p j=W at *
   have Rn:∀ t:List Int,List.take p.length (W++t)=W:=fun t=>by rw [<- hO,List.take_left]
   refine G.cW aR aU mix cA [false,false] (aIa 4 (by omega) Q.bU Q.jA o N n ((j+16:Nat):Int) (j:Int) key ad p (W++zs) (W++ys) p.length c d) (aA ?_) ?_
   .simp only [bJ,List.drop_zero,Rn,List.length_append]
    and_intros
    all_goals first | trivial | omega
   exact Fi cA H hk ha hB la hO lp hc hd hs
theorem aGd {o q:Nat} (ho:o=1\/o=2) (hq:q=1\/q=3) {key ad p:List Int} {N n m:Int} (hk:key.length=32) (la:ad.length<=131072) (lp:p.length<=131072) (h1:gJ p.length m q) (h2:gJ p.length n o) :
 aE Tryz.prog (qY o q) 4 (Hd N n m key ad.length p.length) (jS ad p) 100 100 { val:=.bool true true }:=by
 have hI:∀ hs,aI Tryz.prog (qY o q) 4 (aF (qY o q) Tryz.f4 true hs 400):=fun hs=>aM (sR _ _) (sS _ _) mix Tryz.func4 (by kernel_rfl) true hs 400
 have d1:decide ((p.length:Int)>131072)=false:=zzF (by omega)
 have d2:decide ((ad.length:Int)>131072)=false:=zzF (by omega)
 refine ((hI _).call (bGb o q ho hq Q.bU Q.jA N n m key ad p) (aA ?_)).words rfl (fun _=>rfl) (fun _ _ h=>h) (fun _=>rfl) rfl rfl
 simp only [bJ,List.take_zero,zzv]
 and_intros
 all_goals first | trivial | omega | decide
theorem aQt {key ad p:List Int} {N n m:Int} (h:ad.length>131072\/p.length>131072):aE Tryz.prog (qY 1 1) 4 (Hd N n m key ad.length p.length) (jS ad p) 100 100 { val:=.bool true true }:=by
 have hI:∀ hs,aI Tryz.prog (qY 1 1) 4 (aF (qY 1 1) Tryz.f4 true hs 400):=fun hs=>aM (sR _ _) (sS _ _) mix Tryz.func4 (by kernel_rfl) true hs 400
 by_cases h1:ad.length>131072
 .exact ((hI _).call (bGa Q.bU Q.jA N n m key ad p) (aA ⟨decide_eq_true (by omega),trivial⟩)).words rfl (fun _=>rfl) (fun _ _ h=>h) (fun _=>rfl) rfl rfl
 .exact ((hI _).call (bFz Q.bU Q.jA N n m key ad p) (aA ⟨decide_eq_true (by omega),zzF (by omega),trivial⟩)).words rfl (fun _=>rfl) (fun _ _ h=>h) (fun _=>rfl) rfl rfl
theorem aGf {key ad p:List Int} (N n m:Int) (hk:key.length=32) (ha:bI ad) (hp:bI p):∃ o q,aE Tryz.prog (qY o q) 4 (Hd N n m key ad.length p.length) (jS ad p) 100 100 { val:=.bool true true }:=by
 by_cases hs:ad.length<=131072/\p.length<=131072
 .obtain ⟨q,hq⟩:=opC key N ad p m
  obtain ⟨o,ho⟩:=seC p.length n
  refine ⟨o,q,?_⟩
  by_cases uD:0<p.length
  .exact aGe hk ha hp hs.1 hs.2 uD hq ho
  .cases hq with
   | ok j h hj ht=>omega
   | no j h hj ht=>omega
   | er _ hw h=>cases ho with
     | ok i h2 hi=>omega
     | er _ ho h2=>exact aGd ho hw hk hs.1 hs.2 h h2
 .exact ⟨1,1,aQt (by omega)⟩
end Go.Proofs.YticicdfijghigaaGreatDoor.Sx
section
open Go Go.Proofs.YticicdfijghigaaGreatDoor
set_option maxRecDepth 100000
namespace Go.Proofs.YticicdfijghigaaGreatDoor.AeadTwins
open Go.ChangeShapes Go.WideShapes Go.ChangeAt Go.RowKit Go.Proofs.YticicdfijghigaaGreatDoor.Sx Go.Proofs.YticicdfijghigaaGreatDoor.Aea
theorem walk {W:World} (h:laidMet Tryz.prog listed W) {N n m:Int} {v2 v3:Value} {key ad p:List Int} (hk:key.length=32) (_:bI key) (_:(Lit.int .u64 N).wf=true) (r2:nI W .u8 v2 ad) (b2:bI ad) (r3:nI W .u8 v3 p) (b3:bI p) (_:(Lit.int .i64 n).wf=true) (_:(Lit.int .i64 m).wf=true) :
 Calls Tryz.prog 4 #[.agg (key.map (Value.int .u8)).toArray,.int .u64 N,v2,v3,.int .i64 n,.int .i64 m] W fun e w'=>e = .returned (.bool true)/\Below W.heap.size W w':=by
 obtain ⟨V,k1,k2,k3,k4⟩:=Bu h [(60,.gL .u8 ad),(61,.gL .u8 p)] [(60,v2),(61,v3)] rfl fun V hV x hx=>by
  simp only [List.mem_cons,List.not_mem_nil,or_false] at hx
  rcases hx with rfl | rfl
  .exact ⟨⟨_,rfl,v2,by rw [hV];rfl,r2⟩,rfl,trivial⟩
  .exact ⟨⟨_,rfl,v3,by rw [hV];rfl,r3⟩,rfl,trivial⟩
 have k5:V.σ 60=some v2:=(k4 60).trans rfl
 have k6:V.σ 61=some v3:=(k4 61).trans rfl
 have Gt:aG V (Hd N n m key ad.length p.length)=some [.agg (key.map (Value.int .u8)).toArray,.int .u64 N,v2,v3,.int .i64 n,.int .i64 m]:=by
  simp only [Hd,aG,den,k5,k6,zza,qE r2,qE r3,zzm]
 have fin:∀ (V':aZ) (x:Value) (w':World),V.ext 100 V'->den V' (.bool true true)=some x->aC W (fun _=>False) V' (eG (jS ad p) 100 { val:=.bool true true }) w'->Ending.returned x = .returned (.bool true)/\Below W.heap.size W w':=fun V' x w' _ hx hT=>by
  simp only [den,zzI] at hx
  subst hx
  exact ⟨rfl,hT.frame.os,hT.frame.tape,hT.frame.output,hT.frame.size,fun k hk=>hT.frame.block k hk (fun h=>h)⟩
 obtain ⟨o,q,hc⟩:=Sx.aGf N n m hk b2 b3
 exact calls hc Tryz.func4 (by kernel_rfl) (c:=codeOf Tryz.f4) rfl k1 (fun n l hn=>k2 n l hn) (fun l Rd _=>k3 l Rd) k3 Gt fin
end Go.Proofs.YticicdfijghigaaGreatDoor.AeadTwins
end
