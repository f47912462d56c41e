/- slow.Tag: its frames, its states, its runs. -/
import Derived.Test.YtnodfocobmghiaaGreatDoorQJ
open Go
set_option maxRecDepth 100000
namespace Go.Proofs.YtnodfocobmghiaaGreatDoor.Sx
noncomputable def ΓT (gW fK mJ:Nat):Env:=env (exG gW fK mJ) 22
def AD (key:List Int):List SV:=[.agg (cK .u8 32 key),.aH 62 true 0 5 5]
def sgB (d:Nat->List Int):List (Nat × SB):=[(62,.fO [.gY 71 (d 1).length,.gY 72 (d 2).length,.gY 73 (d 3).length,.gY 74 (d 4).length,.gY 75 (d 5).length]),(71,.iV .u8 (d 1)),(72,.iV .u8 (d 2)),(73,.iV .u8 (d 3)),(74,.iV .u8 (d 4)),(75,.iV .u8 (d 5)),(17,.fO [.int true .i64 40]),(18,.fO [.int true .i64 40])]
def xI (d:Nat->List Int):bB:=fun l=>look l (sgB d)
def sgX (c:Nat) (R:Int):SV:=match c with
 | 0=>.raw (.slice none 0 0)
 | c+1=>.aH 113 false 0 (M.ln R) (c+1)
def sgW (c:Nat) (R:Int):List (Nat × SB):=match c with
 | 0=>[]
 | c+1=>[(113,.own (wN R (c+1)) 142)]
def sgN (c:Nat):Nat:=match c with
 | 0=>113
 | _=>114
def aJo (ks:List Int) (y0 y1:Int) (m c:Nat) (R:Int) (held xs:List Int):List (Nat × SB):=
 [(100,.ints .u8 ks 23),(101,.own mL 77),(102,.own [.ptr 103 true 0] 93),(103,.own [.bool true false,.aH 104 true 0 3 8] 102),(104,.own Cg 142),(105,.own [.ptr 106 true 0] 89),(106,.own [.bool true false,.aH 107 false 0 m 6] 102),(107,.own (wc [y0,y1,0,0,0,0]) 142),(108,.own [.ptr 109 true 0] 89),(109,.own [.bool true false,sgX c R] 102),(110,.own [.buf 111] 25),(111,.dC .u8 held 5),(112,.iV .u8 xs)]++sgW c R
def aJp (j:SV) (n:Nat) (i:Int):List (Nat × SV):=[(2,.ptr 100 true 0),(4,.ptr 101 true 0),(5,.ptr 102 true 0),(7,.ptr 105 true 0),(8,.ptr 108 true 0),(9,.ptr 110 true 0),(10,.fn (.func 69) [] [.ptr 102 true 0,.ptr 108 true 0,.ptr 110 true 0,.ptr 105 true 0]),(48,.aH 62 true 0 5 5),(49,.int true .i64 5),(50,j),(54,.gY 112 n),(55,.int false .i64 n),(56,.int false .i64 i)]
noncomputable def zF (j:SV) (n:Nat) (i:Int) (ks:List Int) (y0 y1:Int) (m c:Nat) (R:Int) (held xs:List Int):St:=cE (aJp j n i) (aJo ks y0 y1 m c R held xs) (sgN c) [] []
noncomputable def Zj (gW fK mJ:Nat) (d:Nat->List Int) (cf:Cf) (K:List Fr) (s:St):Option qL:=hH (ΓT gW fK mJ) (bI 100 (xI d)) 100 Tryz.f38.ntmps [17] 100 2000 cf K s
noncomputable def sgC (d:Nat->List Int) (cl:List Cl) (j:SV) (n:Nat) (i:Int) (ks:List Int) (y0 y1:Int) (m c:Nat) (R:Int) (held xs:List Int) (r:Option qL):Option (Cf × List Fr × List Prop):=gX 100 Tryz.f38.ntmps (bI 100 (xI d)) cl (aJp j n i) (aJo ks y0 y1 m c R held xs) (sgN c) [] [] r
noncomputable def ZW:Option qL:=Zj 7 0 0 (fun _=>[]) (.go (codeOf Tryz.f38)) [] (Df (AD []) 100)
noncomputable def oI:Code:=match ZW with
 | some ⟨.go (.loop L),_,_⟩=>L
 | _=>.skip
def aKu:Option qL->List Fr
 | some ⟨_,K,_⟩=>K
 | _=>[]
noncomputable def vR:Nat->List Fr
 | 0=>aKu ZW
 | j+1=>aKu (Zj 7 0 0 (fun _=>[]) (.at (.exit 5)) (vR j) (zF (.int true .i64 j) 0 0 [] 0 0 0 0 0 [] []))
theorem aQx (key ks:List Int) (d:Nat->List Int) (y0 y1:Int) (m:Nat) :
 (sgC d [.nil 9 0 .u8 5,.ZM 54] (.int false .i64 0) (d 1).length 0 ks y0 y1 m 0 0 [] (d 1) (Zj 7 0 0 d (.go (codeOf Tryz.f38)) [] ((Df (AD key) 100).hint []))) =
 sh (0:Int) fun z0=>
 sh (15:Int) fun z1=>
 sh (252:Int) fun z2=>
 sh (key.getD 11 z0) fun z3=>
 sh (key.getD 12 z0) fun z4=>
 sh (key.getD 15 z0) fun z5=>
 sh (key.getD 3 z0) fun z6=>
 sh (key.getD 4 z0) fun z7=>
 sh (key.getD 7 z0) fun z8=>
 sh (key.getD 8 z0) fun z9=>
 sh (1:Nat) fun jT=>
 sh (↑(d jT).length:Int) fun kZ=>
 some (.go (.loop oI),vR 0,[bW [key.getD 0 z0,key.getD 1 z0,key.getD 2 z0,bS IntKind.u8 z6 z1,bS IntKind.u8 z7 z2,key.getD 5 z0,key.getD 6 z0,bS IntKind.u8 z8 z1,bS IntKind.u8 z9 z2,key.getD 9 z0,key.getD 10 z0,bS IntKind.u8 z3 z1,bS IntKind.u8 z4 z2,key.getD 13 z0,key.getD 14 z0,bS IntKind.u8 z5 z1,key.getD 16 z0,key.getD 17 z0,key.getD 18 z0,key.getD 19 z0,key.getD 20 z0,key.getD 21 z0,key.getD 22 z0,key.getD 23 z0,key.getD 24 z0,key.getD 25 z0,key.getD 26 z0,key.getD 27 z0,key.getD 28 z0,key.getD 29 z0,key.getD 30 z0,key.getD 31 z0],[key.getD 0 z0,key.getD 1 z0,key.getD 2 z0,bS IntKind.u8 z6 z1,bS IntKind.u8 z7 z2,key.getD 5 z0,key.getD 6 z0,bS IntKind.u8 z8 z1,bS IntKind.u8 z9 z2,key.getD 9 z0,key.getD 10 z0,bS IntKind.u8 z3 z1,bS IntKind.u8 z4 z2,key.getD 13 z0,key.getD 14 z0,bS IntKind.u8 z5 z1,key.getD 16 z0,key.getD 17 z0,key.getD 18 z0,key.getD 19 z0,key.getD 20 z0,key.getD 21 z0,key.getD 22 z0,key.getD 23 z0,key.getD 24 z0,key.getD 25 z0,key.getD 26 z0,key.getD 27 z0,key.getD 28 z0,key.getD 29 z0,key.getD 30 z0,key.getD 31 z0]=[key.getD 0 z0,key.getD 1 z0,key.getD 2 z0,bS IntKind.u8 z6 z1,bS IntKind.u8 z7 z2,key.getD 5 z0,key.getD 6 z0,bS IntKind.u8 z8 z1,bS IntKind.u8 z9 z2,key.getD 9 z0,key.getD 10 z0,bS IntKind.u8 z3 z1,bS IntKind.u8 z4 z2,key.getD 13 z0,key.getD 14 z0,bS IntKind.u8 z5 z1,key.getD 16 z0,key.getD 17 z0,key.getD 18 z0,key.getD 19 z0,key.getD 20 z0,key.getD 21 z0,key.getD 22 z0,key.getD 23 z0,key.getD 24 z0,key.getD 25 z0,key.getD 26 z0,key.getD 27 z0,key.getD 28 z0,key.getD 29 z0,key.getD 30 z0,key.getD 31 z0],z0=z0,(d jT).length=(d jT).length,kZ=kZ,z0=z0,[key.getD 0 z0,key.getD 1 z0,key.getD 2 z0,bS IntKind.u8 z6 z1,bS IntKind.u8 z7 z2,key.getD 5 z0,key.getD 6 z0,bS IntKind.u8 z8 z1,bS IntKind.u8 z9 z2,key.getD 9 z0,key.getD 10 z0,bS IntKind.u8 z3 z1,bS IntKind.u8 z4 z2,key.getD 13 z0,key.getD 14 z0,bS IntKind.u8 z5 z1,key.getD 16 z0,key.getD 17 z0,key.getD 18 z0,key.getD 19 z0,key.getD 20 z0,key.getD 21 z0,key.getD 22 z0,key.getD 23 z0,key.getD 24 z0,key.getD 25 z0,key.getD 26 z0,key.getD 27 z0,key.getD 28 z0,key.getD 29 z0,key.getD 30 z0,key.getD 31 z0]=ks/\(23:Nat)=(23:TypeId),(0:Nat)=(0:Nat),M.nl [M.V [key.getD 0 z0,key.getD 1 z0,key.getD 2 z0,bS IntKind.u8 z6 z1,bS IntKind.u8 z7 z2,key.getD 5 z0,key.getD 6 z0,bS IntKind.u8 z8 z1],M.V [bS IntKind.u8 z9 z2,key.getD 9 z0,key.getD 10 z0,bS IntKind.u8 z3 z1,bS IntKind.u8 z4 z2,key.getD 13 z0,key.getD 14 z0,bS IntKind.u8 z5 z1]]=m,(6:Nat)=(6:Nat),[M.V [key.getD 0 z0,key.getD 1 z0,key.getD 2 z0,bS IntKind.u8 z6 z1,bS IntKind.u8 z7 z2,key.getD 5 z0,key.getD 6 z0,bS IntKind.u8 z8 z1],M.V [bS IntKind.u8 z9 z2,key.getD 9 z0,key.getD 10 z0,bS IntKind.u8 z3 z1,bS IntKind.u8 z4 z2,key.getD 13 z0,key.getD 14 z0,bS IntKind.u8 z5 z1],z0,z0,z0,z0]=[y0,y1,z0,z0,z0,z0],([]:List Int)=[],d jT=d jT]):=by kernel_rfl
def BR (c m n:Nat) (ks held pA xs:List Int) (y0 y1 R j i i':Int):List Prop:=
 [(((held++[xs.getD i.toNat 0]).length:Int)==16)=false,(held.length+[xs.getD i.toNat 0].length)*1<=140737488355328,i.toNat<xs.length,0<=i/\i<(n:Int),decide (i<(n:Int))=true,j=j,n=n,(n:Int)=(n:Int),IntKind.i64.wrap (i+1)=i',ks=ks/\(23:TypeId)=23,0=0,m=m,6=6,[y0,y1,0,0,0,0]=[y0,y1,0,0,0,0]] ++
 ((match c with
   | 0=>[]
   | c+1=>[0=0,M.ln R=M.ln R,c+1=c+1])++([held++[xs.getD i.toNat 0]=pA,xs=xs]++(match c with
   | 0=>[]
   | c+1=>[M.w0 R::M.w1 R::M.w2 R::List.replicate (c+1-3) 0=M.w0 R::M.w1 R::M.w2 R::List.replicate (c+1-3) 0])))
def SgA (c:Nat):Prop:=∀ (ks:List Int) (d:Nat->List Int) (y0 y1:Int) (m:Nat) (R:Int) (held pA xs:List Int) (j:Int) (n:Nat) (i i':Int),sgC d [] (.int false .i64 j) n i' ks y0 y1 m c R pA xs (Zj 7 0 0 d (.go oI) [] ((zF (.int false .i64 j) n i ks y0 y1 m c R held xs).hint [true,false]))=some (.at .normal,[],BR c m n ks held pA xs y0 y1 R j i i')
def BO (c m n:Nat) (ks held xs:List Int) (y0 y1 R j i J:Int):List Prop:=
 [decide (i<(n:Int))=false,j=J,n=n,(n:Int)=(n:Int),i=i,ks=ks/\(23:TypeId)=23,0=0,m=m,6=6,[y0,y1,0,0,0,0]=[y0,y1,0,0,0,0]] ++
 ((match c with
   | 0=>[]
   | c+1=>[0=0,M.ln R=M.ln R,c+1=c+1])++([held=held,xs=xs]++(match c with
   | 0=>[]
   | c+1=>[M.w0 R::M.w1 R::M.w2 R::List.replicate (c+1-3) 0=M.w0 R::M.w1 R::M.w2 R::List.replicate (c+1-3) 0])))
def SgX (c:Nat):Prop:=∀ (ks:List Int) (d:Nat->List Int) (y0 y1:Int) (m:Nat) (R:Int) (held xs:List Int) (j:Int) (n:Nat) (i:Int) (J:Int),sgC d [] (.int true .i64 J) n i ks y0 y1 m c R held xs (Zj 7 0 0 d (.go oI) [] ((zF (.int false .i64 j) n i ks y0 y1 m c R held xs).hint [false]))=some (.at (.exit 5),[],BO c m n ks held xs y0 y1 R j i J)
def BQ (c m n:Nat) (ks held xs:List Int) (y0 y1 R j:Int):List Prop:=
 [j=j,n=n,(n:Int)=(n:Int),(0:Int)=0,ks=ks/\(23:TypeId)=23,0=0,m=m,6=6,[y0,y1,0,0,0,0]=[y0,y1,0,0,0,0]] ++
 ((match c with
   | 0=>[]
   | c+1=>[0=0,M.ln R=M.ln R,c+1=c+1])++([held=held,xs=xs]++(match c with
   | 0=>[]
   | c+1=>[M.w0 R::M.w1 R::M.w2 R::List.replicate (c+1-3) 0=M.w0 R::M.w1 R::M.w2 R::List.replicate (c+1-3) 0])))
def Co (c J:Nat):Prop:=∀ (ks:List Int) (d:Nat->List Int) (y0 y1:Int) (m:Nat) (R:Int) (held xs:List Int) (n:Nat) (i:Int),sgC d [.ZM 54] (.int false .i64 (J+1:Nat)) (d (J+2)).length 0 ks y0 y1 m c R held (d (J+2)) (Zj 7 0 0 d (.at (.exit 5)) (vR J) ((zF (.int true .i64 J) n i ks y0 y1 m c R held xs).hint []))=some (.go (.loop oI),vR (J+1),BQ c m (d (J+2)).length ks held (d (J+2)) y0 y1 R (J+1:Nat))
def BN (c:Nat) (R Y:Int):Int:=match c with
 | 0=>(0+Y)%M.aX
 | _=>(M.n3 (M.w0 R) (M.w1 R) (M.w2 R)+Y)%M.aX
def Us (S y0 y1:Int):Int:=(M.n3 (M.w0 S) (M.w1 S) (M.w2 S)*(y0+18446744073709551616*y1))%M.aX
open M in
def BP (c gW fK m n:Nat) (ks xs:List Int) (y0 y1 R R' b0 b1 b2 b3 b4 b5 b6 b7 b8 b9 cV cU cT cY cX x j i i' S:Int):List Prop:=
 [ln S=nl [w0 S,w1 S,w2 S],m=nl [y0,y1],fK=(if ln S=0\/m=0 then 0 else ln S+m+4),U (w0 S),U (w1 S),U (w2 S),n3 (w0 S) (w1 S) (w2 S)<aX,U y0,U y1,y0+18446744073709551616*y1<21267647932558653966460912964485513216,0=0,ln S=ln S,gW=gW,0=0,m=m,6=6,w0 S::w1 S::w2 S::List.replicate (gW-3) 0=w0 S::w1 S::w2 S::List.replicate (gW-3) 0,[y0,y1,0,0,0,0]=[y0,y1,0,0,0,0]] ++
 ((match c with
   | 0=>[]
   | _=>(ln R=nl [w0 R,w1 R,w2 R])::(match gW with
     | 7=>[ln R=0]
     | _=>[ln R≠0,U (w0 R),U (w1 R),U (w2 R),n3 (w0 R) (w1 R) (w2 R)<aX])) ++
 ([U (V [b0,b1,b2,b3,b4,b5,b6,b7]),U (V [b8,b9,cV,cU,cT,cY,cX,x]),(1:Int)=1] ++
 ((match c with
   | 0=>[]
   | c+1=>[0=0,ln R=ln R,c+1=c+1,w0 R::w1 R::w2 R::List.replicate (c+1-3) 0=w0 R::w1 R::w2 R::List.replicate (c+1-3) 0]) ++
 ([[V [b0,b1,b2,b3,b4,b5,b6,b7],V [b8,b9,cV,cU,cT,cY,cX,x],1,0,0,0,0]=[V [b0,b1,b2,b3,b4,b5,b6,b7],V [b8,b9,cV,cU,cT,cY,cX,x],1,0,0,0,0],bW [b0,b1,b2,b3,b4,b5,b6,b7,b8,b9,cV,cU,cT,cY,cX,x,1],(1:Int)=1,[b0,b1,b2,b3,b4,b5,b6,b7,b8,b9,cV,cU,cT,cY,cX].length+1+1=17,[b0,b1,b2,b3,b4,b5,b6,b7,b8,b9,cV,cU,cT,cY,cX,x,1]=[b0,b1,b2,b3,b4,b5,b6,b7,b8,b9,cV,cU,cT,cY,cX,x,1],i.toNat<xs.length,0<=i/\i<(n:Int),decide (i<(n:Int))=true,j=j,n=n,(n:Int)=(n:Int),IntKind.i64.wrap (i+1)=i',ks=ks/\(23:TypeId)=23,0=0,m=m,6=6,[y0,y1,0,0,0,0]=[y0,y1,0,0,0,0]] ++
 (match fK with
  | 0=>[([]:List Int)=[],xs=xs]
  | fK+1=>[0=0,ln (Us S y0 y1)=ln R',fK+1=fK+1,([]:List Int)=[],xs=xs,w0 (Us S y0 y1)::w1 (Us S y0 y1)::w2 (Us S y0 y1)::List.replicate (fK+1-3) 0=w0 R'::w1 R'::w2 R'::List.replicate (fK+1-3) 0])))))
def mK (c gW fK:Nat):Prop:=∀ (ks:List Int) (d:Nat->List Int) (y0 y1:Int) (m:Nat) (R R' b0 b1 b2 b3 b4 b5 b6 b7 b8 b9 cV cU cT cY cX:Int) (xs:List Int) (j:Int) (n:Nat) (i i':Int),sgC d [.nil 9 0 .u8 5] (.int false .i64 j) n i' ks y0 y1 m fK R' [] xs (Zj gW fK 0 d (.go oI) [] ((opS 100 Tryz.f38.ntmps (bI 100 (xI d)) 9 0 (zF (.int false .i64 j) n i ks y0 y1 m c R [b0,b1,b2,b3,b4,b5,b6,b7,b8,b9,cV,cU,cT,cY,cX] xs)).hint [true])) =
 some (.at .normal,[],BP c gW fK m n ks xs y0 y1 R R' b0 b1 b2 b3 b4 b5 b6 b7 b8 b9 cV cU cT cY cX (xs.getD i.toNat 0) j i i' (BN c R (M.n3 (M.V [b0,b1,b2,b3,b4,b5,b6,b7]) (M.V [b8,b9,cV,cU,cT,cY,cX,xs.getD i.toNat 0]) 1)))
theorem aMw:SgA 0:=fun ks d y0 y1 m R held pA xs j n i i'=>by kernel_rfl
theorem aMq:SgX 0:=fun ks d y0 y1 m R held xs j n i J=>by kernel_rfl
theorem aEp:Co 0 0:=fun ks d y0 y1 m R held xs n i=>by kernel_rfl
theorem aEo:Co 0 1:=fun ks d y0 y1 m R held xs n i=>by kernel_rfl
theorem aEn:Co 0 2:=fun ks d y0 y1 m R held xs n i=>by kernel_rfl
theorem aEm:Co 0 3:=fun ks d y0 y1 m R held xs n i=>by kernel_rfl
theorem aMv:SgA 6:=fun ks d y0 y1 m R held pA xs j n i i'=>by kernel_rfl
theorem aMp:SgX 6:=fun ks d y0 y1 m R held xs j n i J=>by kernel_rfl
theorem aEl:Co 6 0:=fun ks d y0 y1 m R held xs n i=>by kernel_rfl
theorem aEk:Co 6 1:=fun ks d y0 y1 m R held xs n i=>by kernel_rfl
theorem aEj:Co 6 2:=fun ks d y0 y1 m R held xs n i=>by kernel_rfl
theorem aEi:Co 6 3:=fun ks d y0 y1 m R held xs n i=>by kernel_rfl
theorem aMu:SgA 7:=fun ks d y0 y1 m R held pA xs j n i i'=>by kernel_rfl
theorem aMo:SgX 7:=fun ks d y0 y1 m R held xs j n i J=>by kernel_rfl
theorem aEh:Co 7 0:=fun ks d y0 y1 m R held xs n i=>by kernel_rfl
theorem aEg:Co 7 1:=fun ks d y0 y1 m R held xs n i=>by kernel_rfl
theorem aEf:Co 7 2:=fun ks d y0 y1 m R held xs n i=>by kernel_rfl
theorem aEe:Co 7 3:=fun ks d y0 y1 m R held xs n i=>by kernel_rfl
theorem aMt:SgA 8:=fun ks d y0 y1 m R held pA xs j n i i'=>by kernel_rfl
theorem aMn:SgX 8:=fun ks d y0 y1 m R held xs j n i J=>by kernel_rfl
theorem aEd:Co 8 0:=fun ks d y0 y1 m R held xs n i=>by kernel_rfl
theorem aEc:Co 8 1:=fun ks d y0 y1 m R held xs n i=>by kernel_rfl
theorem aEb:Co 8 2:=fun ks d y0 y1 m R held xs n i=>by kernel_rfl
theorem aEa:Co 8 3:=fun ks d y0 y1 m R held xs n i=>by kernel_rfl
theorem aMs:SgA 9:=fun ks d y0 y1 m R held pA xs j n i i'=>by kernel_rfl
theorem aMm:SgX 9:=fun ks d y0 y1 m R held xs j n i J=>by kernel_rfl
theorem aDz:Co 9 0:=fun ks d y0 y1 m R held xs n i=>by kernel_rfl
theorem aDy:Co 9 1:=fun ks d y0 y1 m R held xs n i=>by kernel_rfl
theorem aDx:Co 9 2:=fun ks d y0 y1 m R held xs n i=>by kernel_rfl
theorem aDw:Co 9 3:=fun ks d y0 y1 m R held xs n i=>by kernel_rfl
theorem TG:mK 0 7 0:=fun ks d y0 y1 m R R' b0 b1 b2 b3 b4 b5 b6 b7 b8 b9 cV cU cT cY cX xs j n i i'=>by kernel_rfl
theorem TF:mK 0 7 6:=fun ks d y0 y1 m R R' b0 b1 b2 b3 b4 b5 b6 b7 b8 b9 cV cU cT cY cX xs j n i i'=>by kernel_rfl
theorem TE:mK 0 7 7:=fun ks d y0 y1 m R R' b0 b1 b2 b3 b4 b5 b6 b7 b8 b9 cV cU cT cY cX xs j n i i'=>by kernel_rfl
theorem TD:mK 0 7 8:=fun ks d y0 y1 m R R' b0 b1 b2 b3 b4 b5 b6 b7 b8 b9 cV cU cT cY cX xs j n i i'=>by kernel_rfl
theorem TB:mK 0 7 9:=fun ks d y0 y1 m R R' b0 b1 b2 b3 b4 b5 b6 b7 b8 b9 cV cU cT cY cX xs j n i i'=>by kernel_rfl
theorem SZ:mK 6 7 0:=fun ks d y0 y1 m R R' b0 b1 b2 b3 b4 b5 b6 b7 b8 b9 cV cU cT cY cX xs j n i i'=>by kernel_rfl
theorem SY:mK 6 7 6:=fun ks d y0 y1 m R R' b0 b1 b2 b3 b4 b5 b6 b7 b8 b9 cV cU cT cY cX xs j n i i'=>by kernel_rfl
theorem SX:mK 6 7 7:=fun ks d y0 y1 m R R' b0 b1 b2 b3 b4 b5 b6 b7 b8 b9 cV cU cT cY cX xs j n i i'=>by kernel_rfl
theorem SW:mK 6 7 8:=fun ks d y0 y1 m R R' b0 b1 b2 b3 b4 b5 b6 b7 b8 b9 cV cU cT cY cX xs j n i i'=>by kernel_rfl
theorem SU:mK 6 7 9:=fun ks d y0 y1 m R R' b0 b1 b2 b3 b4 b5 b6 b7 b8 b9 cV cU cT cY cX xs j n i i'=>by kernel_rfl
theorem SS:mK 6 8 0:=fun ks d y0 y1 m R R' b0 b1 b2 b3 b4 b5 b6 b7 b8 b9 cV cU cT cY cX xs j n i i'=>by kernel_rfl
theorem SR:mK 6 8 6:=fun ks d y0 y1 m R R' b0 b1 b2 b3 b4 b5 b6 b7 b8 b9 cV cU cT cY cX xs j n i i'=>by kernel_rfl
theorem SQ:mK 6 8 7:=fun ks d y0 y1 m R R' b0 b1 b2 b3 b4 b5 b6 b7 b8 b9 cV cU cT cY cX xs j n i i'=>by kernel_rfl
theorem SP:mK 6 8 8:=fun ks d y0 y1 m R R' b0 b1 b2 b3 b4 b5 b6 b7 b8 b9 cV cU cT cY cX xs j n i i'=>by kernel_rfl
theorem SO:mK 6 8 9:=fun ks d y0 y1 m R R' b0 b1 b2 b3 b4 b5 b6 b7 b8 b9 cV cU cT cY cX xs j n i i'=>by kernel_rfl
theorem SN:mK 7 7 0:=fun ks d y0 y1 m R R' b0 b1 b2 b3 b4 b5 b6 b7 b8 b9 cV cU cT cY cX xs j n i i'=>by kernel_rfl
theorem SM:mK 7 7 6:=fun ks d y0 y1 m R R' b0 b1 b2 b3 b4 b5 b6 b7 b8 b9 cV cU cT cY cX xs j n i i'=>by kernel_rfl
theorem SL:mK 7 7 7:=fun ks d y0 y1 m R R' b0 b1 b2 b3 b4 b5 b6 b7 b8 b9 cV cU cT cY cX xs j n i i'=>by kernel_rfl
theorem SK:mK 7 7 8:=fun ks d y0 y1 m R R' b0 b1 b2 b3 b4 b5 b6 b7 b8 b9 cV cU cT cY cX xs j n i i'=>by kernel_rfl
theorem SJ:mK 7 7 9:=fun ks d y0 y1 m R R' b0 b1 b2 b3 b4 b5 b6 b7 b8 b9 cV cU cT cY cX xs j n i i'=>by kernel_rfl
theorem SI:mK 7 8 0:=fun ks d y0 y1 m R R' b0 b1 b2 b3 b4 b5 b6 b7 b8 b9 cV cU cT cY cX xs j n i i'=>by kernel_rfl
theorem SH:mK 7 8 6:=fun ks d y0 y1 m R R' b0 b1 b2 b3 b4 b5 b6 b7 b8 b9 cV cU cT cY cX xs j n i i'=>by kernel_rfl
theorem SG:mK 7 8 7:=fun ks d y0 y1 m R R' b0 b1 b2 b3 b4 b5 b6 b7 b8 b9 cV cU cT cY cX xs j n i i'=>by kernel_rfl
theorem SF:mK 7 8 8:=fun ks d y0 y1 m R R' b0 b1 b2 b3 b4 b5 b6 b7 b8 b9 cV cU cT cY cX xs j n i i'=>by kernel_rfl
theorem SE:mK 7 8 9:=fun ks d y0 y1 m R R' b0 b1 b2 b3 b4 b5 b6 b7 b8 b9 cV cU cT cY cX xs j n i i'=>by kernel_rfl
theorem SD:mK 8 7 0:=fun ks d y0 y1 m R R' b0 b1 b2 b3 b4 b5 b6 b7 b8 b9 cV cU cT cY cX xs j n i i'=>by kernel_rfl
theorem SC:mK 8 7 6:=fun ks d y0 y1 m R R' b0 b1 b2 b3 b4 b5 b6 b7 b8 b9 cV cU cT cY cX xs j n i i'=>by kernel_rfl
theorem SA:mK 8 7 7:=fun ks d y0 y1 m R R' b0 b1 b2 b3 b4 b5 b6 b7 b8 b9 cV cU cT cY cX xs j n i i'=>by kernel_rfl
theorem RZ:mK 8 7 8:=fun ks d y0 y1 m R R' b0 b1 b2 b3 b4 b5 b6 b7 b8 b9 cV cU cT cY cX xs j n i i'=>by kernel_rfl
theorem RY:mK 8 7 9:=fun ks d y0 y1 m R R' b0 b1 b2 b3 b4 b5 b6 b7 b8 b9 cV cU cT cY cX xs j n i i'=>by kernel_rfl
theorem RX:mK 8 8 0:=fun ks d y0 y1 m R R' b0 b1 b2 b3 b4 b5 b6 b7 b8 b9 cV cU cT cY cX xs j n i i'=>by kernel_rfl
theorem RW:mK 8 8 6:=fun ks d y0 y1 m R R' b0 b1 b2 b3 b4 b5 b6 b7 b8 b9 cV cU cT cY cX xs j n i i'=>by kernel_rfl
theorem RV:mK 8 8 7:=fun ks d y0 y1 m R R' b0 b1 b2 b3 b4 b5 b6 b7 b8 b9 cV cU cT cY cX xs j n i i'=>by kernel_rfl
theorem RU:mK 8 8 8:=fun ks d y0 y1 m R R' b0 b1 b2 b3 b4 b5 b6 b7 b8 b9 cV cU cT cY cX xs j n i i'=>by kernel_rfl
theorem RT:mK 8 8 9:=fun ks d y0 y1 m R R' b0 b1 b2 b3 b4 b5 b6 b7 b8 b9 cV cU cT cY cX xs j n i i'=>by kernel_rfl
theorem RS:mK 9 7 0:=fun ks d y0 y1 m R R' b0 b1 b2 b3 b4 b5 b6 b7 b8 b9 cV cU cT cY cX xs j n i i'=>by kernel_rfl
theorem RR:mK 9 7 6:=fun ks d y0 y1 m R R' b0 b1 b2 b3 b4 b5 b6 b7 b8 b9 cV cU cT cY cX xs j n i i'=>by kernel_rfl
theorem RQ:mK 9 7 7:=fun ks d y0 y1 m R R' b0 b1 b2 b3 b4 b5 b6 b7 b8 b9 cV cU cT cY cX xs j n i i'=>by kernel_rfl
theorem RP:mK 9 7 8:=fun ks d y0 y1 m R R' b0 b1 b2 b3 b4 b5 b6 b7 b8 b9 cV cU cT cY cX xs j n i i'=>by kernel_rfl
theorem RO:mK 9 7 9:=fun ks d y0 y1 m R R' b0 b1 b2 b3 b4 b5 b6 b7 b8 b9 cV cU cT cY cX xs j n i i'=>by kernel_rfl
theorem RM:mK 9 8 0:=fun ks d y0 y1 m R R' b0 b1 b2 b3 b4 b5 b6 b7 b8 b9 cV cU cT cY cX xs j n i i'=>by kernel_rfl
theorem RL:mK 9 8 6:=fun ks d y0 y1 m R R' b0 b1 b2 b3 b4 b5 b6 b7 b8 b9 cV cU cT cY cX xs j n i i'=>by kernel_rfl
theorem RK:mK 9 8 7:=fun ks d y0 y1 m R R' b0 b1 b2 b3 b4 b5 b6 b7 b8 b9 cV cU cT cY cX xs j n i i'=>by kernel_rfl
theorem RJ:mK 9 8 8:=fun ks d y0 y1 m R R' b0 b1 b2 b3 b4 b5 b6 b7 b8 b9 cV cU cT cY cX xs j n i i'=>by kernel_rfl
theorem RI:mK 9 8 9:=fun ks d y0 y1 m R R' b0 b1 b2 b3 b4 b5 b6 b7 b8 b9 cV cU cT cY cX xs j n i i'=>by kernel_rfl
end Go.Proofs.YtnodfocobmghiaaGreatDoor.Sx
