/- slow.Tag: its frames, its states, its runs. -/
import Derived.Test.YtnodfocobmghiaaGreatDoorQJ
open Go
set_option maxRecDepth 100000
namespace Go.Proofs.YtnodfocobmghiaaGreatDoor.Sx
noncomputable def ΓT (gR fJ mG:Nat):Env:=env (exG gR fJ mG) 22
def Zw (key:List Int):List SV:=[.agg (cK .u8 32 key),.aG 62 true 0 5 5]
def sgB (d:Nat->List Int):List (Nat × SB):=[(62,.fL [.iA 71 (d 1).length,.iA 72 (d 2).length,.iA 73 (d 3).length,.iA 74 (d 4).length,.iA 75 (d 5).length]),(71,.iT .u8 (d 1)),(72,.iT .u8 (d 2)),(73,.iT .u8 (d 3)),(74,.iT .u8 (d 4)),(75,.iT .u8 (d 5)),(17,.fL [.int true .i64 40]),(18,.fL [.int true .i64 40])]
def xE (d:Nat->List Int):bB:=fun l=>look l (sgB d)
def sgX (c:Nat) (R:Int):SV:=match c with
 | 0=>.raw (.slice none 0 0)
 | c+1=>.aG 113 false 0 (M.ln R) (c+1)
def sgW (c:Nat) (R:Int):List (Nat × SB):=match c with
 | 0=>[]
 | c+1=>[(113,.own (wN R (c+1)) 142)]
def sgN (c:Nat):Nat:=match c with
 | 0=>113
 | _=>114
def aJk (ks:List Int) (y0 y1:Int) (m c:Nat) (R:Int) (held xs:List Int):List (Nat × SB):=
 [(100,.ints .u8 ks 23),(101,.own mI 77),(102,.own [.ptr 103 true 0] 93),(103,.own [.bool true false,.aG 104 true 0 3 8] 102),(104,.own Cg 142),(105,.own [.ptr 106 true 0] 89),(106,.own [.bool true false,.aG 107 false 0 m 6] 102),(107,.own (wc [y0,y1,0,0,0,0]) 142),(108,.own [.ptr 109 true 0] 89),(109,.own [.bool true false,sgX c R] 102),(110,.own [.buf 111] 25),(111,.dL .u8 held 5),(112,.iT .u8 xs)]++sgW c R
def aJl (j:SV) (n:Nat) (i:Int):List (Nat × SV):=[(2,.ptr 100 true 0),(4,.ptr 101 true 0),(5,.ptr 102 true 0),(7,.ptr 105 true 0),(8,.ptr 108 true 0),(9,.ptr 110 true 0),(10,.fn (.func 69) [] [.ptr 102 true 0,.ptr 108 true 0,.ptr 110 true 0,.ptr 105 true 0]),(48,.aG 62 true 0 5 5),(49,.int true .i64 5),(50,j),(54,.iA 112 n),(55,.int false .i64 n),(56,.int false .i64 i)]
noncomputable def zE (j:SV) (n:Nat) (i:Int) (ks:List Int) (y0 y1:Int) (m c:Nat) (R:Int) (held xs:List Int):St:=cG (aJl j n i) (aJk ks y0 y1 m c R held xs) (sgN c) [] []
noncomputable def Zb (gR fJ mG:Nat) (d:Nat->List Int) (cf:Cf) (K:List Fr) (s:St):Option qH:=gV (ΓT gR fJ mG) (bI 100 (xE d)) 100 Tryz.f38.ntmps [17] 100 2000 cf K s
noncomputable def sgC (d:Nat->List Int) (cl:List Cl) (j:SV) (n:Nat) (i:Int) (ks:List Int) (y0 y1:Int) (m c:Nat) (R:Int) (held xs:List Int) (r:Option qH):Option (Cf × List Fr × List Prop):=hZ 100 Tryz.f38.ntmps (bI 100 (xE d)) cl (aJl j n i) (aJk ks y0 y1 m c R held xs) (sgN c) [] [] r
noncomputable def ZQ:Option qH:=Zb 7 0 0 (fun _=>[]) (.go (codeOf Tryz.f38)) [] (Dg (Zw []) 100)
noncomputable def oC:Code:=match ZQ with
 | some ⟨.go (.loop L),_,_⟩=>L
 | _=>.skip
def aKn:Option qH->List Fr
 | some ⟨_,K,_⟩=>K
 | _=>[]
noncomputable def vN:Nat->List Fr
 | 0=>aKn ZQ
 | j+1=>aKn (Zb 7 0 0 (fun _=>[]) (.at (.exit 5)) (vN j) (zE (.int true .i64 j) 0 0 [] 0 0 0 0 0 [] []))
theorem aQs (key ks:List Int) (d:Nat->List Int) (y0 y1:Int) (m:Nat) :
 (sgC d [.nil 9 0 .u8 5,.ZF 54] (.int false .i64 0) (d 1).length 0 ks y0 y1 m 0 0 [] (d 1) (Zb 7 0 0 d (.go (codeOf Tryz.f38)) [] ((Dg (Zw key) 100).hint []))) =
 sh (0:Int) fun z0=>
 sh (15:Int) fun z1=>
 sh (252:Int) fun z2=>
 sh (key.getD 11 z0) fun z3=>
 sh (key.getD 12 z0) fun z4=>
 sh (key.getD 15 z0) fun z5=>
 sh (key.getD 3 z0) fun z6=>
 sh (key.getD 4 z0) fun z7=>
 sh (key.getD 7 z0) fun z8=>
 sh (key.getD 8 z0) fun z9=>
 sh (1:Nat) fun jP=>
 sh (↑(d jP).length:Int) fun kV=>
 some (.go (.loop oC),vN 0,[bX [key.getD 0 z0,key.getD 1 z0,key.getD 2 z0,bR IntKind.u8 z6 z1,bR IntKind.u8 z7 z2,key.getD 5 z0,key.getD 6 z0,bR IntKind.u8 z8 z1,bR IntKind.u8 z9 z2,key.getD 9 z0,key.getD 10 z0,bR IntKind.u8 z3 z1,bR IntKind.u8 z4 z2,key.getD 13 z0,key.getD 14 z0,bR IntKind.u8 z5 z1,key.getD 16 z0,key.getD 17 z0,key.getD 18 z0,key.getD 19 z0,key.getD 20 z0,key.getD 21 z0,key.getD 22 z0,key.getD 23 z0,key.getD 24 z0,key.getD 25 z0,key.getD 26 z0,key.getD 27 z0,key.getD 28 z0,key.getD 29 z0,key.getD 30 z0,key.getD 31 z0],[key.getD 0 z0,key.getD 1 z0,key.getD 2 z0,bR IntKind.u8 z6 z1,bR IntKind.u8 z7 z2,key.getD 5 z0,key.getD 6 z0,bR IntKind.u8 z8 z1,bR IntKind.u8 z9 z2,key.getD 9 z0,key.getD 10 z0,bR IntKind.u8 z3 z1,bR IntKind.u8 z4 z2,key.getD 13 z0,key.getD 14 z0,bR IntKind.u8 z5 z1,key.getD 16 z0,key.getD 17 z0,key.getD 18 z0,key.getD 19 z0,key.getD 20 z0,key.getD 21 z0,key.getD 22 z0,key.getD 23 z0,key.getD 24 z0,key.getD 25 z0,key.getD 26 z0,key.getD 27 z0,key.getD 28 z0,key.getD 29 z0,key.getD 30 z0,key.getD 31 z0]=[key.getD 0 z0,key.getD 1 z0,key.getD 2 z0,bR IntKind.u8 z6 z1,bR IntKind.u8 z7 z2,key.getD 5 z0,key.getD 6 z0,bR IntKind.u8 z8 z1,bR IntKind.u8 z9 z2,key.getD 9 z0,key.getD 10 z0,bR IntKind.u8 z3 z1,bR IntKind.u8 z4 z2,key.getD 13 z0,key.getD 14 z0,bR IntKind.u8 z5 z1,key.getD 16 z0,key.getD 17 z0,key.getD 18 z0,key.getD 19 z0,key.getD 20 z0,key.getD 21 z0,key.getD 22 z0,key.getD 23 z0,key.getD 24 z0,key.getD 25 z0,key.getD 26 z0,key.getD 27 z0,key.getD 28 z0,key.getD 29 z0,key.getD 30 z0,key.getD 31 z0],z0=z0,(d jP).length=(d jP).length,kV=kV,z0=z0,[key.getD 0 z0,key.getD 1 z0,key.getD 2 z0,bR IntKind.u8 z6 z1,bR IntKind.u8 z7 z2,key.getD 5 z0,key.getD 6 z0,bR IntKind.u8 z8 z1,bR IntKind.u8 z9 z2,key.getD 9 z0,key.getD 10 z0,bR IntKind.u8 z3 z1,bR IntKind.u8 z4 z2,key.getD 13 z0,key.getD 14 z0,bR IntKind.u8 z5 z1,key.getD 16 z0,key.getD 17 z0,key.getD 18 z0,key.getD 19 z0,key.getD 20 z0,key.getD 21 z0,key.getD 22 z0,key.getD 23 z0,key.getD 24 z0,key.getD 25 z0,key.getD 26 z0,key.getD 27 z0,key.getD 28 z0,key.getD 29 z0,key.getD 30 z0,key.getD 31 z0]=ks/\(23:Nat)=(23:TypeId),(0:Nat)=(0:Nat),M.nl [M.V [key.getD 0 z0,key.getD 1 z0,key.getD 2 z0,bR IntKind.u8 z6 z1,bR IntKind.u8 z7 z2,key.getD 5 z0,key.getD 6 z0,bR IntKind.u8 z8 z1],M.V [bR IntKind.u8 z9 z2,key.getD 9 z0,key.getD 10 z0,bR IntKind.u8 z3 z1,bR IntKind.u8 z4 z2,key.getD 13 z0,key.getD 14 z0,bR IntKind.u8 z5 z1]]=m,(6:Nat)=(6:Nat),[M.V [key.getD 0 z0,key.getD 1 z0,key.getD 2 z0,bR IntKind.u8 z6 z1,bR IntKind.u8 z7 z2,key.getD 5 z0,key.getD 6 z0,bR IntKind.u8 z8 z1],M.V [bR IntKind.u8 z9 z2,key.getD 9 z0,key.getD 10 z0,bR IntKind.u8 z3 z1,bR IntKind.u8 z4 z2,key.getD 13 z0,key.getD 14 z0,bR IntKind.u8 z5 z1],z0,z0,z0,z0]=[y0,y1,z0,z0,z0,z0],([]:List Int)=[],d jP=d jP]):=by kernel_rfl
def BM (c m n:Nat) (ks held oU xs:List Int) (y0 y1 R j i i':Int):List Prop:=
 [(((held++[xs.getD i.toNat 0]).length:Int)==16)=false,(held.length+[xs.getD i.toNat 0].length)*1<=140737488355328,i.toNat<xs.length,0<=i/\i<(n:Int),decide (i<(n:Int))=true,j=j,n=n,(n:Int)=(n:Int),IntKind.i64.wrap (i+1)=i',ks=ks/\(23:TypeId)=23,0=0,m=m,6=6,[y0,y1,0,0,0,0]=[y0,y1,0,0,0,0]] ++
 ((match c with
   | 0=>[]
   | c+1=>[0=0,M.ln R=M.ln R,c+1=c+1])++([held++[xs.getD i.toNat 0]=oU,xs=xs]++(match c with
   | 0=>[]
   | c+1=>[M.w0 R::M.w1 R::M.w2 R::List.replicate (c+1-3) 0=M.w0 R::M.w1 R::M.w2 R::List.replicate (c+1-3) 0])))
def SgA (c:Nat):Prop:=∀ (ks:List Int) (d:Nat->List Int) (y0 y1:Int) (m:Nat) (R:Int) (held oU xs:List Int) (j:Int) (n:Nat) (i i':Int),sgC d [] (.int false .i64 j) n i' ks y0 y1 m c R oU xs (Zb 7 0 0 d (.go oC) [] ((zE (.int false .i64 j) n i ks y0 y1 m c R held xs).hint [true,false]))=some (.at .normal,[],BM c m n ks held oU xs y0 y1 R j i i')
def BJ (c m n:Nat) (ks held xs:List Int) (y0 y1 R j i J:Int):List Prop:=
 [decide (i<(n:Int))=false,j=J,n=n,(n:Int)=(n:Int),i=i,ks=ks/\(23:TypeId)=23,0=0,m=m,6=6,[y0,y1,0,0,0,0]=[y0,y1,0,0,0,0]] ++
 ((match c with
   | 0=>[]
   | c+1=>[0=0,M.ln R=M.ln R,c+1=c+1])++([held=held,xs=xs]++(match c with
   | 0=>[]
   | c+1=>[M.w0 R::M.w1 R::M.w2 R::List.replicate (c+1-3) 0=M.w0 R::M.w1 R::M.w2 R::List.replicate (c+1-3) 0])))
def SgX (c:Nat):Prop:=∀ (ks:List Int) (d:Nat->List Int) (y0 y1:Int) (m:Nat) (R:Int) (held xs:List Int) (j:Int) (n:Nat) (i:Int) (J:Int),sgC d [] (.int true .i64 J) n i ks y0 y1 m c R held xs (Zb 7 0 0 d (.go oC) [] ((zE (.int false .i64 j) n i ks y0 y1 m c R held xs).hint [false]))=some (.at (.exit 5),[],BJ c m n ks held xs y0 y1 R j i J)
def BL (c m n:Nat) (ks held xs:List Int) (y0 y1 R j:Int):List Prop:=
 [j=j,n=n,(n:Int)=(n:Int),(0:Int)=0,ks=ks/\(23:TypeId)=23,0=0,m=m,6=6,[y0,y1,0,0,0,0]=[y0,y1,0,0,0,0]] ++
 ((match c with
   | 0=>[]
   | c+1=>[0=0,M.ln R=M.ln R,c+1=c+1])++([held=held,xs=xs]++(match c with
   | 0=>[]
   | c+1=>[M.w0 R::M.w1 R::M.w2 R::List.replicate (c+1-3) 0=M.w0 R::M.w1 R::M.w2 R::List.replicate (c+1-3) 0])))
def Co (c J:Nat):Prop:=∀ (ks:List Int) (d:Nat->List Int) (y0 y1:Int) (m:Nat) (R:Int) (held xs:List Int) (n:Nat) (i:Int),sgC d [.ZF 54] (.int false .i64 (J+1:Nat)) (d (J+2)).length 0 ks y0 y1 m c R held (d (J+2)) (Zb 7 0 0 d (.at (.exit 5)) (vN J) ((zE (.int true .i64 J) n i ks y0 y1 m c R held xs).hint []))=some (.go (.loop oC),vN (J+1),BL c m (d (J+2)).length ks held (d (J+2)) y0 y1 R (J+1:Nat))
def BI (c:Nat) (R Y:Int):Int:=match c with
 | 0=>(0+Y)%M.aX
 | _=>(M.n3 (M.w0 R) (M.w1 R) (M.w2 R)+Y)%M.aX
def Uh (S y0 y1:Int):Int:=(M.n3 (M.w0 S) (M.w1 S) (M.w2 S)*(y0+18446744073709551616*y1))%M.aX
open M in
def BK (c gR fJ m n:Nat) (ks xs:List Int) (y0 y1 R R' b0 b1 b2 b3 b4 b5 b6 b7 b8 b9 cV cU cT cY cX x j i i' S:Int):List Prop:=
 [ln S=nl [w0 S,w1 S,w2 S],m=nl [y0,y1],fJ=(if ln S=0\/m=0 then 0 else ln S+m+4),U (w0 S),U (w1 S),U (w2 S),n3 (w0 S) (w1 S) (w2 S)<aX,U y0,U y1,y0+18446744073709551616*y1<21267647932558653966460912964485513216,0=0,ln S=ln S,gR=gR,0=0,m=m,6=6,w0 S::w1 S::w2 S::List.replicate (gR-3) 0=w0 S::w1 S::w2 S::List.replicate (gR-3) 0,[y0,y1,0,0,0,0]=[y0,y1,0,0,0,0]] ++
 ((match c with
   | 0=>[]
   | _=>(ln R=nl [w0 R,w1 R,w2 R])::(match gR with
     | 7=>[ln R=0]
     | _=>[ln R≠0,U (w0 R),U (w1 R),U (w2 R),n3 (w0 R) (w1 R) (w2 R)<aX])) ++
 ([U (V [b0,b1,b2,b3,b4,b5,b6,b7]),U (V [b8,b9,cV,cU,cT,cY,cX,x]),(1:Int)=1] ++
 ((match c with
   | 0=>[]
   | c+1=>[0=0,ln R=ln R,c+1=c+1,w0 R::w1 R::w2 R::List.replicate (c+1-3) 0=w0 R::w1 R::w2 R::List.replicate (c+1-3) 0]) ++
 ([[V [b0,b1,b2,b3,b4,b5,b6,b7],V [b8,b9,cV,cU,cT,cY,cX,x],1,0,0,0,0]=[V [b0,b1,b2,b3,b4,b5,b6,b7],V [b8,b9,cV,cU,cT,cY,cX,x],1,0,0,0,0],bX [b0,b1,b2,b3,b4,b5,b6,b7,b8,b9,cV,cU,cT,cY,cX,x,1],(1:Int)=1,[b0,b1,b2,b3,b4,b5,b6,b7,b8,b9,cV,cU,cT,cY,cX].length+1+1=17,[b0,b1,b2,b3,b4,b5,b6,b7,b8,b9,cV,cU,cT,cY,cX,x,1]=[b0,b1,b2,b3,b4,b5,b6,b7,b8,b9,cV,cU,cT,cY,cX,x,1],i.toNat<xs.length,0<=i/\i<(n:Int),decide (i<(n:Int))=true,j=j,n=n,(n:Int)=(n:Int),IntKind.i64.wrap (i+1)=i',ks=ks/\(23:TypeId)=23,0=0,m=m,6=6,[y0,y1,0,0,0,0]=[y0,y1,0,0,0,0]] ++
 (match fJ with
  | 0=>[([]:List Int)=[],xs=xs]
  | fJ+1=>[0=0,ln (Uh S y0 y1)=ln R',fJ+1=fJ+1,([]:List Int)=[],xs=xs,w0 (Uh S y0 y1)::w1 (Uh S y0 y1)::w2 (Uh S y0 y1)::List.replicate (fJ+1-3) 0=w0 R'::w1 R'::w2 R'::List.replicate (fJ+1-3) 0])))))
def mH (c gR fJ:Nat):Prop:=∀ (ks:List Int) (d:Nat->List Int) (y0 y1:Int) (m:Nat) (R R' b0 b1 b2 b3 b4 b5 b6 b7 b8 b9 cV cU cT cY cX:Int) (xs:List Int) (j:Int) (n:Nat) (i i':Int),sgC d [.nil 9 0 .u8 5] (.int false .i64 j) n i' ks y0 y1 m fJ R' [] xs (Zb gR fJ 0 d (.go oC) [] ((opS 100 Tryz.f38.ntmps (bI 100 (xE d)) 9 0 (zE (.int false .i64 j) n i ks y0 y1 m c R [b0,b1,b2,b3,b4,b5,b6,b7,b8,b9,cV,cU,cT,cY,cX] xs)).hint [true])) =
 some (.at .normal,[],BK c gR fJ m n ks xs y0 y1 R R' b0 b1 b2 b3 b4 b5 b6 b7 b8 b9 cV cU cT cY cX (xs.getD i.toNat 0) j i i' (BI c R (M.n3 (M.V [b0,b1,b2,b3,b4,b5,b6,b7]) (M.V [b8,b9,cV,cU,cT,cY,cX,xs.getD i.toNat 0]) 1)))
theorem aMs:SgA 0:=fun ks d y0 y1 m R held oU xs j n i i'=>by kernel_rfl
theorem aMm:SgX 0:=fun ks d y0 y1 m R held xs j n i J=>by kernel_rfl
theorem aEj:Co 0 0:=fun ks d y0 y1 m R held xs n i=>by kernel_rfl
theorem aEi:Co 0 1:=fun ks d y0 y1 m R held xs n i=>by kernel_rfl
theorem aEh:Co 0 2:=fun ks d y0 y1 m R held xs n i=>by kernel_rfl
theorem aEg:Co 0 3:=fun ks d y0 y1 m R held xs n i=>by kernel_rfl
theorem aMr:SgA 6:=fun ks d y0 y1 m R held oU xs j n i i'=>by kernel_rfl
theorem aMl:SgX 6:=fun ks d y0 y1 m R held xs j n i J=>by kernel_rfl
theorem aEf:Co 6 0:=fun ks d y0 y1 m R held xs n i=>by kernel_rfl
theorem aEe:Co 6 1:=fun ks d y0 y1 m R held xs n i=>by kernel_rfl
theorem aEd:Co 6 2:=fun ks d y0 y1 m R held xs n i=>by kernel_rfl
theorem aEc:Co 6 3:=fun ks d y0 y1 m R held xs n i=>by kernel_rfl
theorem aMq:SgA 7:=fun ks d y0 y1 m R held oU xs j n i i'=>by kernel_rfl
theorem aMk:SgX 7:=fun ks d y0 y1 m R held xs j n i J=>by kernel_rfl
theorem aEb:Co 7 0:=fun ks d y0 y1 m R held xs n i=>by kernel_rfl
theorem aEa:Co 7 1:=fun ks d y0 y1 m R held xs n i=>by kernel_rfl
theorem aDz:Co 7 2:=fun ks d y0 y1 m R held xs n i=>by kernel_rfl
theorem aDy:Co 7 3:=fun ks d y0 y1 m R held xs n i=>by kernel_rfl
theorem aMp:SgA 8:=fun ks d y0 y1 m R held oU xs j n i i'=>by kernel_rfl
theorem aMj:SgX 8:=fun ks d y0 y1 m R held xs j n i J=>by kernel_rfl
theorem aDx:Co 8 0:=fun ks d y0 y1 m R held xs n i=>by kernel_rfl
theorem aDw:Co 8 1:=fun ks d y0 y1 m R held xs n i=>by kernel_rfl
theorem aDv:Co 8 2:=fun ks d y0 y1 m R held xs n i=>by kernel_rfl
theorem aDu:Co 8 3:=fun ks d y0 y1 m R held xs n i=>by kernel_rfl
theorem aMo:SgA 9:=fun ks d y0 y1 m R held oU xs j n i i'=>by kernel_rfl
theorem aMi:SgX 9:=fun ks d y0 y1 m R held xs j n i J=>by kernel_rfl
theorem aDt:Co 9 0:=fun ks d y0 y1 m R held xs n i=>by kernel_rfl
theorem aDs:Co 9 1:=fun ks d y0 y1 m R held xs n i=>by kernel_rfl
theorem aDr:Co 9 2:=fun ks d y0 y1 m R held xs n i=>by kernel_rfl
theorem aDq:Co 9 3:=fun ks d y0 y1 m R held xs n i=>by kernel_rfl
theorem SZ:mH 0 7 0:=fun ks d y0 y1 m R R' b0 b1 b2 b3 b4 b5 b6 b7 b8 b9 cV cU cT cY cX xs j n i i'=>by kernel_rfl
theorem SY:mH 0 7 6:=fun ks d y0 y1 m R R' b0 b1 b2 b3 b4 b5 b6 b7 b8 b9 cV cU cT cY cX xs j n i i'=>by kernel_rfl
theorem SX:mH 0 7 7:=fun ks d y0 y1 m R R' b0 b1 b2 b3 b4 b5 b6 b7 b8 b9 cV cU cT cY cX xs j n i i'=>by kernel_rfl
theorem SW:mH 0 7 8:=fun ks d y0 y1 m R R' b0 b1 b2 b3 b4 b5 b6 b7 b8 b9 cV cU cT cY cX xs j n i i'=>by kernel_rfl
theorem SU:mH 0 7 9:=fun ks d y0 y1 m R R' b0 b1 b2 b3 b4 b5 b6 b7 b8 b9 cV cU cT cY cX xs j n i i'=>by kernel_rfl
theorem SS:mH 6 7 0:=fun ks d y0 y1 m R R' b0 b1 b2 b3 b4 b5 b6 b7 b8 b9 cV cU cT cY cX xs j n i i'=>by kernel_rfl
theorem SR:mH 6 7 6:=fun ks d y0 y1 m R R' b0 b1 b2 b3 b4 b5 b6 b7 b8 b9 cV cU cT cY cX xs j n i i'=>by kernel_rfl
theorem SQ:mH 6 7 7:=fun ks d y0 y1 m R R' b0 b1 b2 b3 b4 b5 b6 b7 b8 b9 cV cU cT cY cX xs j n i i'=>by kernel_rfl
theorem SP:mH 6 7 8:=fun ks d y0 y1 m R R' b0 b1 b2 b3 b4 b5 b6 b7 b8 b9 cV cU cT cY cX xs j n i i'=>by kernel_rfl
theorem SO:mH 6 7 9:=fun ks d y0 y1 m R R' b0 b1 b2 b3 b4 b5 b6 b7 b8 b9 cV cU cT cY cX xs j n i i'=>by kernel_rfl
theorem SN:mH 6 8 0:=fun ks d y0 y1 m R R' b0 b1 b2 b3 b4 b5 b6 b7 b8 b9 cV cU cT cY cX xs j n i i'=>by kernel_rfl
theorem SM:mH 6 8 6:=fun ks d y0 y1 m R R' b0 b1 b2 b3 b4 b5 b6 b7 b8 b9 cV cU cT cY cX xs j n i i'=>by kernel_rfl
theorem SL:mH 6 8 7:=fun ks d y0 y1 m R R' b0 b1 b2 b3 b4 b5 b6 b7 b8 b9 cV cU cT cY cX xs j n i i'=>by kernel_rfl
theorem SK:mH 6 8 8:=fun ks d y0 y1 m R R' b0 b1 b2 b3 b4 b5 b6 b7 b8 b9 cV cU cT cY cX xs j n i i'=>by kernel_rfl
theorem SJ:mH 6 8 9:=fun ks d y0 y1 m R R' b0 b1 b2 b3 b4 b5 b6 b7 b8 b9 cV cU cT cY cX xs j n i i'=>by kernel_rfl
theorem SI:mH 7 7 0:=fun ks d y0 y1 m R R' b0 b1 b2 b3 b4 b5 b6 b7 b8 b9 cV cU cT cY cX xs j n i i'=>by kernel_rfl
theorem SH:mH 7 7 6:=fun ks d y0 y1 m R R' b0 b1 b2 b3 b4 b5 b6 b7 b8 b9 cV cU cT cY cX xs j n i i'=>by kernel_rfl
theorem SG:mH 7 7 7:=fun ks d y0 y1 m R R' b0 b1 b2 b3 b4 b5 b6 b7 b8 b9 cV cU cT cY cX xs j n i i'=>by kernel_rfl
theorem SF:mH 7 7 8:=fun ks d y0 y1 m R R' b0 b1 b2 b3 b4 b5 b6 b7 b8 b9 cV cU cT cY cX xs j n i i'=>by kernel_rfl
theorem SE:mH 7 7 9:=fun ks d y0 y1 m R R' b0 b1 b2 b3 b4 b5 b6 b7 b8 b9 cV cU cT cY cX xs j n i i'=>by kernel_rfl
theorem SD:mH 7 8 0:=fun ks d y0 y1 m R R' b0 b1 b2 b3 b4 b5 b6 b7 b8 b9 cV cU cT cY cX xs j n i i'=>by kernel_rfl
theorem SC:mH 7 8 6:=fun ks d y0 y1 m R R' b0 b1 b2 b3 b4 b5 b6 b7 b8 b9 cV cU cT cY cX xs j n i i'=>by kernel_rfl
theorem SA:mH 7 8 7:=fun ks d y0 y1 m R R' b0 b1 b2 b3 b4 b5 b6 b7 b8 b9 cV cU cT cY cX xs j n i i'=>by kernel_rfl
theorem RZ:mH 7 8 8:=fun ks d y0 y1 m R R' b0 b1 b2 b3 b4 b5 b6 b7 b8 b9 cV cU cT cY cX xs j n i i'=>by kernel_rfl
theorem RY:mH 7 8 9:=fun ks d y0 y1 m R R' b0 b1 b2 b3 b4 b5 b6 b7 b8 b9 cV cU cT cY cX xs j n i i'=>by kernel_rfl
theorem RX:mH 8 7 0:=fun ks d y0 y1 m R R' b0 b1 b2 b3 b4 b5 b6 b7 b8 b9 cV cU cT cY cX xs j n i i'=>by kernel_rfl
theorem RW:mH 8 7 6:=fun ks d y0 y1 m R R' b0 b1 b2 b3 b4 b5 b6 b7 b8 b9 cV cU cT cY cX xs j n i i'=>by kernel_rfl
theorem RV:mH 8 7 7:=fun ks d y0 y1 m R R' b0 b1 b2 b3 b4 b5 b6 b7 b8 b9 cV cU cT cY cX xs j n i i'=>by kernel_rfl
theorem RU:mH 8 7 8:=fun ks d y0 y1 m R R' b0 b1 b2 b3 b4 b5 b6 b7 b8 b9 cV cU cT cY cX xs j n i i'=>by kernel_rfl
theorem RT:mH 8 7 9:=fun ks d y0 y1 m R R' b0 b1 b2 b3 b4 b5 b6 b7 b8 b9 cV cU cT cY cX xs j n i i'=>by kernel_rfl
theorem RS:mH 8 8 0:=fun ks d y0 y1 m R R' b0 b1 b2 b3 b4 b5 b6 b7 b8 b9 cV cU cT cY cX xs j n i i'=>by kernel_rfl
theorem RR:mH 8 8 6:=fun ks d y0 y1 m R R' b0 b1 b2 b3 b4 b5 b6 b7 b8 b9 cV cU cT cY cX xs j n i i'=>by kernel_rfl
theorem RQ:mH 8 8 7:=fun ks d y0 y1 m R R' b0 b1 b2 b3 b4 b5 b6 b7 b8 b9 cV cU cT cY cX xs j n i i'=>by kernel_rfl
theorem RP:mH 8 8 8:=fun ks d y0 y1 m R R' b0 b1 b2 b3 b4 b5 b6 b7 b8 b9 cV cU cT cY cX xs j n i i'=>by kernel_rfl
theorem RO:mH 8 8 9:=fun ks d y0 y1 m R R' b0 b1 b2 b3 b4 b5 b6 b7 b8 b9 cV cU cT cY cX xs j n i i'=>by kernel_rfl
theorem RM:mH 9 7 0:=fun ks d y0 y1 m R R' b0 b1 b2 b3 b4 b5 b6 b7 b8 b9 cV cU cT cY cX xs j n i i'=>by kernel_rfl
theorem RL:mH 9 7 6:=fun ks d y0 y1 m R R' b0 b1 b2 b3 b4 b5 b6 b7 b8 b9 cV cU cT cY cX xs j n i i'=>by kernel_rfl
theorem RK:mH 9 7 7:=fun ks d y0 y1 m R R' b0 b1 b2 b3 b4 b5 b6 b7 b8 b9 cV cU cT cY cX xs j n i i'=>by kernel_rfl
theorem RJ:mH 9 7 8:=fun ks d y0 y1 m R R' b0 b1 b2 b3 b4 b5 b6 b7 b8 b9 cV cU cT cY cX xs j n i i'=>by kernel_rfl
theorem RI:mH 9 7 9:=fun ks d y0 y1 m R R' b0 b1 b2 b3 b4 b5 b6 b7 b8 b9 cV cU cT cY cX xs j n i i'=>by kernel_rfl
theorem RH:mH 9 8 0:=fun ks d y0 y1 m R R' b0 b1 b2 b3 b4 b5 b6 b7 b8 b9 cV cU cT cY cX xs j n i i'=>by kernel_rfl
theorem RG:mH 9 8 6:=fun ks d y0 y1 m R R' b0 b1 b2 b3 b4 b5 b6 b7 b8 b9 cV cU cT cY cX xs j n i i'=>by kernel_rfl
theorem RF:mH 9 8 7:=fun ks d y0 y1 m R R' b0 b1 b2 b3 b4 b5 b6 b7 b8 b9 cV cU cT cY cX xs j n i i'=>by kernel_rfl
theorem RE:mH 9 8 8:=fun ks d y0 y1 m R R' b0 b1 b2 b3 b4 b5 b6 b7 b8 b9 cV cU cT cY cX xs j n i i'=>by kernel_rfl
theorem RD:mH 9 8 9:=fun ks d y0 y1 m R R' b0 b1 b2 b3 b4 b5 b6 b7 b8 b9 cV cU cT cY cX xs j n i i'=>by kernel_rfl
end Go.Proofs.YtnodfocobmghiaaGreatDoor.Sx
