/- slow.Tag: its frames, its states, its runs. -/
import Derived.Test.YtnodfocobmghiaaGreatDoorQJ
open Go
set_option maxRecDepth 100000
namespace Go.Proofs.YtnodfocobmghiaaGreatDoor.Sx
noncomputable def ΓT (hZ fN mV:Nat):Env:=env (exG hZ fN mV) 22
def CN (key:List Int):List SV:=[.agg (cN .u8 32 key),.aH 62 true 0 5 5]
def sgB (d:Nat->List Int):List (Nat × SB):=[(62,.eQ [.iH 71 (d 1).length,.iH 72 (d 2).length,.iH 73 (d 3).length,.iH 74 (d 4).length,.iH 75 (d 5).length]),(71,.gC .u8 (d 1)),(72,.gC .u8 (d 2)),(73,.gC .u8 (d 3)),(74,.gC .u8 (d 4)),(75,.gC .u8 (d 5)),(17,.eQ [.int true .i64 40]),(18,.eQ [.int true .i64 40])]
def yN (d:Nat->List Int):aX:=fun l=>look l (sgB d)
def sgX (c:Nat) (R:Int):SV:=match c with
 | 0=>.raw (.slice none 0 0)
 | c+1=>.aH 113 false 0 (M.ln R) (c+1)
def sgW (c:Nat) (R:Int):List (Nat × SB):=match c with
 | 0=>[]
 | c+1=>[(113,.own (wN R (c+1)) 142)]
def sgN (c:Nat):Nat:=match c with
 | 0=>113
 | _=>114
def aMm (ks:List Int) (y0 y1:Int) (m c:Nat) (R:Int) (held xs:List Int):List (Nat × SB):=
 [(100,.ints .u8 ks 23),(101,.own nA 77),(102,.own [.ptr 103 true 0] 93),(103,.own [.bool true false,.aH 104 true 0 3 8] 102),(104,.own Ea 142),(105,.own [.ptr 106 true 0] 89),(106,.own [.bool true false,.aH 107 false 0 m 6] 102),(107,.own (wc [y0,y1,0,0,0,0]) 142),(108,.own [.ptr 109 true 0] 89),(109,.own [.bool true false,sgX c R] 102),(110,.own [.buf 111] 25),(111,.dF .u8 held 5),(112,.gC .u8 xs)]++sgW c R
def aMn (j:SV) (n:Nat) (i:Int):List (Nat × SV):=[(2,.ptr 100 true 0),(4,.ptr 101 true 0),(5,.ptr 102 true 0),(7,.ptr 105 true 0),(8,.ptr 108 true 0),(9,.ptr 110 true 0),(10,.fn (.func 69) [] [.ptr 102 true 0,.ptr 108 true 0,.ptr 110 true 0,.ptr 105 true 0]),(48,.aH 62 true 0 5 5),(49,.int true .i64 5),(50,j),(54,.iH 112 n),(55,.int false .i64 n),(56,.int false .i64 i)]
noncomputable def Ap (j:SV) (n:Nat) (i:Int) (ks:List Int) (y0 y1:Int) (m c:Nat) (R:Int) (held xs:List Int):St:=bQ (aMn j n i) (aMm ks y0 y1 m c R held xs) (sgN c) [] []
noncomputable def BR (hZ fN mV:Nat) (d:Nat->List Int) (cf:Cf) (K:List Fr) (s:St):Option nM:=fX (ΓT hZ fN mV) (aZ 100 (yN d)) 100 Tryz.f38.ntmps [17] 100 2000 cf K s
noncomputable def sgC (d:Nat->List Int) (cl:List Cl) (j:SV) (n:Nat) (i:Int) (ks:List Int) (y0 y1:Int) (m c:Nat) (R:Int) (held xs:List Int) (r:Option nM):Option (Cf × List Fr × List Prop):=eJ 100 Tryz.f38.ntmps (aZ 100 (yN d)) cl (aMn j n i) (aMm ks y0 y1 m c R held xs) (sgN c) [] [] r
noncomputable def aCm:Option nM:=BR 7 0 0 (fun _=>[]) (.go (codeOf Tryz.f38)) [] (yM (CN []) 100)
noncomputable def oW:Code:=match aCm with
 | some ⟨.go (.loop L),_,_⟩=>L
 | _=>.skip
def aNs:Option nM->List Fr
 | some ⟨_,K,_⟩=>K
 | _=>[]
noncomputable def wV:Nat->List Fr
 | 0=>aNs aCm
 | j+1=>aNs (BR 7 0 0 (fun _=>[]) (.at (.exit 5)) (wV j) (Ap (.int true .i64 j) 0 0 [] 0 0 0 0 0 [] []))
theorem aUg (key ks:List Int) (d:Nat->List Int) (y0 y1:Int) (m:Nat) :
 (sgC d [.nil 9 0 .u8 5,.ali 54] (.int false .i64 0) (d 1).length 0 ks y0 y1 m 0 0 [] (d 1) (BR 7 0 0 d (.go (codeOf Tryz.f38)) [] ((yM (CN key) 100).hint []))) =
 sh (0:Int) fun z0=>
 sh (15:Int) fun z1=>
 sh (252:Int) fun z2=>
 sh (key.getD 11 z0) fun z3=>
 sh (key.getD 12 z0) fun z4=>
 sh (key.getD 15 z0) fun z5=>
 sh (key.getD 3 z0) fun z6=>
 sh (key.getD 4 z0) fun z7=>
 sh (key.getD 7 z0) fun z8=>
 sh (key.getD 8 z0) fun z9=>
 sh (1:Nat) fun jY=>
 sh (↑(d jY).length:Int) fun lJ=>
 some (.go (.loop oW),wV 0,[bX [key.getD 0 z0,key.getD 1 z0,key.getD 2 z0,bW IntKind.u8 z6 z1,bW IntKind.u8 z7 z2,key.getD 5 z0,key.getD 6 z0,bW IntKind.u8 z8 z1,bW IntKind.u8 z9 z2,key.getD 9 z0,key.getD 10 z0,bW IntKind.u8 z3 z1,bW IntKind.u8 z4 z2,key.getD 13 z0,key.getD 14 z0,bW IntKind.u8 z5 z1,key.getD 16 z0,key.getD 17 z0,key.getD 18 z0,key.getD 19 z0,key.getD 20 z0,key.getD 21 z0,key.getD 22 z0,key.getD 23 z0,key.getD 24 z0,key.getD 25 z0,key.getD 26 z0,key.getD 27 z0,key.getD 28 z0,key.getD 29 z0,key.getD 30 z0,key.getD 31 z0],[key.getD 0 z0,key.getD 1 z0,key.getD 2 z0,bW IntKind.u8 z6 z1,bW IntKind.u8 z7 z2,key.getD 5 z0,key.getD 6 z0,bW IntKind.u8 z8 z1,bW IntKind.u8 z9 z2,key.getD 9 z0,key.getD 10 z0,bW IntKind.u8 z3 z1,bW IntKind.u8 z4 z2,key.getD 13 z0,key.getD 14 z0,bW IntKind.u8 z5 z1,key.getD 16 z0,key.getD 17 z0,key.getD 18 z0,key.getD 19 z0,key.getD 20 z0,key.getD 21 z0,key.getD 22 z0,key.getD 23 z0,key.getD 24 z0,key.getD 25 z0,key.getD 26 z0,key.getD 27 z0,key.getD 28 z0,key.getD 29 z0,key.getD 30 z0,key.getD 31 z0]=[key.getD 0 z0,key.getD 1 z0,key.getD 2 z0,bW IntKind.u8 z6 z1,bW IntKind.u8 z7 z2,key.getD 5 z0,key.getD 6 z0,bW IntKind.u8 z8 z1,bW IntKind.u8 z9 z2,key.getD 9 z0,key.getD 10 z0,bW IntKind.u8 z3 z1,bW IntKind.u8 z4 z2,key.getD 13 z0,key.getD 14 z0,bW IntKind.u8 z5 z1,key.getD 16 z0,key.getD 17 z0,key.getD 18 z0,key.getD 19 z0,key.getD 20 z0,key.getD 21 z0,key.getD 22 z0,key.getD 23 z0,key.getD 24 z0,key.getD 25 z0,key.getD 26 z0,key.getD 27 z0,key.getD 28 z0,key.getD 29 z0,key.getD 30 z0,key.getD 31 z0],z0=z0,(d jY).length=(d jY).length,lJ=lJ,z0=z0,[key.getD 0 z0,key.getD 1 z0,key.getD 2 z0,bW IntKind.u8 z6 z1,bW IntKind.u8 z7 z2,key.getD 5 z0,key.getD 6 z0,bW IntKind.u8 z8 z1,bW IntKind.u8 z9 z2,key.getD 9 z0,key.getD 10 z0,bW IntKind.u8 z3 z1,bW IntKind.u8 z4 z2,key.getD 13 z0,key.getD 14 z0,bW IntKind.u8 z5 z1,key.getD 16 z0,key.getD 17 z0,key.getD 18 z0,key.getD 19 z0,key.getD 20 z0,key.getD 21 z0,key.getD 22 z0,key.getD 23 z0,key.getD 24 z0,key.getD 25 z0,key.getD 26 z0,key.getD 27 z0,key.getD 28 z0,key.getD 29 z0,key.getD 30 z0,key.getD 31 z0]=ks/\(23:Nat)=(23:TypeId),(0:Nat)=(0:Nat),M.nl [M.V [key.getD 0 z0,key.getD 1 z0,key.getD 2 z0,bW IntKind.u8 z6 z1,bW IntKind.u8 z7 z2,key.getD 5 z0,key.getD 6 z0,bW IntKind.u8 z8 z1],M.V [bW IntKind.u8 z9 z2,key.getD 9 z0,key.getD 10 z0,bW IntKind.u8 z3 z1,bW IntKind.u8 z4 z2,key.getD 13 z0,key.getD 14 z0,bW IntKind.u8 z5 z1]]=m,(6:Nat)=(6:Nat),[M.V [key.getD 0 z0,key.getD 1 z0,key.getD 2 z0,bW IntKind.u8 z6 z1,bW IntKind.u8 z7 z2,key.getD 5 z0,key.getD 6 z0,bW IntKind.u8 z8 z1],M.V [bW IntKind.u8 z9 z2,key.getD 9 z0,key.getD 10 z0,bW IntKind.u8 z3 z1,bW IntKind.u8 z4 z2,key.getD 13 z0,key.getD 14 z0,bW IntKind.u8 z5 z1],z0,z0,z0,z0]=[y0,y1,z0,z0,z0,z0],([]:List Int)=[],d jY=d jY]):=by kernel_rfl
def EI (c m n:Nat) (ks held pN xs:List Int) (y0 y1 R j i i':Int):List Prop:=
 [(((held++[xs.getD i.toNat 0]).length:Int)==16)=false,(held.length+[xs.getD i.toNat 0].length)*1<=140737488355328,i.toNat<xs.length,0<=i/\i<(n:Int),decide (i<(n:Int))=true,j=j,n=n,(n:Int)=(n:Int),IntKind.i64.wrap (i+1)=i',ks=ks/\(23:TypeId)=23,0=0,m=m,6=6,[y0,y1,0,0,0,0]=[y0,y1,0,0,0,0]] ++
 ((match c with
   | 0=>[]
   | c+1=>[0=0,M.ln R=M.ln R,c+1=c+1])++([held++[xs.getD i.toNat 0]=pN,xs=xs]++(match c with
   | 0=>[]
   | c+1=>[M.w0 R::M.w1 R::M.w2 R::List.replicate (c+1-3) 0=M.w0 R::M.w1 R::M.w2 R::List.replicate (c+1-3) 0])))
def SgA (c:Nat):Prop:=∀ (ks:List Int) (d:Nat->List Int) (y0 y1:Int) (m:Nat) (R:Int) (held pN xs:List Int) (j:Int) (n:Nat) (i i':Int),sgC d [] (.int false .i64 j) n i' ks y0 y1 m c R pN xs (BR 7 0 0 d (.go oW) [] ((Ap (.int false .i64 j) n i ks y0 y1 m c R held xs).hint [true,false]))=some (.at .normal,[],EI c m n ks held pN xs y0 y1 R j i i')
def EF (c m n:Nat) (ks held xs:List Int) (y0 y1 R j i J:Int):List Prop:=
 [decide (i<(n:Int))=false,j=J,n=n,(n:Int)=(n:Int),i=i,ks=ks/\(23:TypeId)=23,0=0,m=m,6=6,[y0,y1,0,0,0,0]=[y0,y1,0,0,0,0]] ++
 ((match c with
   | 0=>[]
   | c+1=>[0=0,M.ln R=M.ln R,c+1=c+1])++([held=held,xs=xs]++(match c with
   | 0=>[]
   | c+1=>[M.w0 R::M.w1 R::M.w2 R::List.replicate (c+1-3) 0=M.w0 R::M.w1 R::M.w2 R::List.replicate (c+1-3) 0])))
def SgX (c:Nat):Prop:=∀ (ks:List Int) (d:Nat->List Int) (y0 y1:Int) (m:Nat) (R:Int) (held xs:List Int) (j:Int) (n:Nat) (i:Int) (J:Int),sgC d [] (.int true .i64 J) n i ks y0 y1 m c R held xs (BR 7 0 0 d (.go oW) [] ((Ap (.int false .i64 j) n i ks y0 y1 m c R held xs).hint [false]))=some (.at (.exit 5),[],EF c m n ks held xs y0 y1 R j i J)
def EH (c m n:Nat) (ks held xs:List Int) (y0 y1 R j:Int):List Prop:=
 [j=j,n=n,(n:Int)=(n:Int),(0:Int)=0,ks=ks/\(23:TypeId)=23,0=0,m=m,6=6,[y0,y1,0,0,0,0]=[y0,y1,0,0,0,0]] ++
 ((match c with
   | 0=>[]
   | c+1=>[0=0,M.ln R=M.ln R,c+1=c+1])++([held=held,xs=xs]++(match c with
   | 0=>[]
   | c+1=>[M.w0 R::M.w1 R::M.w2 R::List.replicate (c+1-3) 0=M.w0 R::M.w1 R::M.w2 R::List.replicate (c+1-3) 0])))
def Ei (c J:Nat):Prop:=∀ (ks:List Int) (d:Nat->List Int) (y0 y1:Int) (m:Nat) (R:Int) (held xs:List Int) (n:Nat) (i:Int),sgC d [.ali 54] (.int false .i64 (J+1:Nat)) (d (J+2)).length 0 ks y0 y1 m c R held (d (J+2)) (BR 7 0 0 d (.at (.exit 5)) (wV J) ((Ap (.int true .i64 J) n i ks y0 y1 m c R held xs).hint []))=some (.go (.loop oW),wV (J+1),EH c m (d (J+2)).length ks held (d (J+2)) y0 y1 R (J+1:Nat))
def EE (c:Nat) (R Y:Int):Int:=match c with
 | 0=>(0+Y)%M.bB
 | _=>(M.n3 (M.w0 R) (M.w1 R) (M.w2 R)+Y)%M.bB
def Wx (S y0 y1:Int):Int:=(M.n3 (M.w0 S) (M.w1 S) (M.w2 S)*(y0+18446744073709551616*y1))%M.bB
open M in
def EG (c hZ fN m n:Nat) (ks xs:List Int) (y0 y1 R R' b0 b1 b2 b3 b4 b5 b6 b7 b8 b9 cY cX cW dB dA x j i i' S:Int):List Prop:=
 [ln S=nl [w0 S,w1 S,w2 S],m=nl [y0,y1],fN=(if ln S=0\/m=0 then 0 else ln S+m+4),U (w0 S),U (w1 S),U (w2 S),n3 (w0 S) (w1 S) (w2 S)<bB,U y0,U y1,y0+18446744073709551616*y1<21267647932558653966460912964485513216,0=0,ln S=ln S,hZ=hZ,0=0,m=m,6=6,w0 S::w1 S::w2 S::List.replicate (hZ-3) 0=w0 S::w1 S::w2 S::List.replicate (hZ-3) 0,[y0,y1,0,0,0,0]=[y0,y1,0,0,0,0]] ++
 ((match c with
   | 0=>[]
   | _=>(ln R=nl [w0 R,w1 R,w2 R])::(match hZ with
     | 7=>[ln R=0]
     | _=>[ln R≠0,U (w0 R),U (w1 R),U (w2 R),n3 (w0 R) (w1 R) (w2 R)<bB])) ++
 ([U (V [b0,b1,b2,b3,b4,b5,b6,b7]),U (V [b8,b9,cY,cX,cW,dB,dA,x]),(1:Int)=1] ++
 ((match c with
   | 0=>[]
   | c+1=>[0=0,ln R=ln R,c+1=c+1,w0 R::w1 R::w2 R::List.replicate (c+1-3) 0=w0 R::w1 R::w2 R::List.replicate (c+1-3) 0]) ++
 ([[V [b0,b1,b2,b3,b4,b5,b6,b7],V [b8,b9,cY,cX,cW,dB,dA,x],1,0,0,0,0]=[V [b0,b1,b2,b3,b4,b5,b6,b7],V [b8,b9,cY,cX,cW,dB,dA,x],1,0,0,0,0],bX [b0,b1,b2,b3,b4,b5,b6,b7,b8,b9,cY,cX,cW,dB,dA,x,1],(1:Int)=1,[b0,b1,b2,b3,b4,b5,b6,b7,b8,b9,cY,cX,cW,dB,dA].length+1+1=17,[b0,b1,b2,b3,b4,b5,b6,b7,b8,b9,cY,cX,cW,dB,dA,x,1]=[b0,b1,b2,b3,b4,b5,b6,b7,b8,b9,cY,cX,cW,dB,dA,x,1],i.toNat<xs.length,0<=i/\i<(n:Int),decide (i<(n:Int))=true,j=j,n=n,(n:Int)=(n:Int),IntKind.i64.wrap (i+1)=i',ks=ks/\(23:TypeId)=23,0=0,m=m,6=6,[y0,y1,0,0,0,0]=[y0,y1,0,0,0,0]] ++
 (match fN with
  | 0=>[([]:List Int)=[],xs=xs]
  | fN+1=>[0=0,ln (Wx S y0 y1)=ln R',fN+1=fN+1,([]:List Int)=[],xs=xs,w0 (Wx S y0 y1)::w1 (Wx S y0 y1)::w2 (Wx S y0 y1)::List.replicate (fN+1-3) 0=w0 R'::w1 R'::w2 R'::List.replicate (fN+1-3) 0])))))
def mY (c hZ fN:Nat):Prop:=∀ (ks:List Int) (d:Nat->List Int) (y0 y1:Int) (m:Nat) (R R' b0 b1 b2 b3 b4 b5 b6 b7 b8 b9 cY cX cW dB dA:Int) (xs:List Int) (j:Int) (n:Nat) (i i':Int),sgC d [.nil 9 0 .u8 5] (.int false .i64 j) n i' ks y0 y1 m fN R' [] xs (BR hZ fN 0 d (.go oW) [] ((opS 100 Tryz.f38.ntmps (aZ 100 (yN d)) 9 0 (Ap (.int false .i64 j) n i ks y0 y1 m c R [b0,b1,b2,b3,b4,b5,b6,b7,b8,b9,cY,cX,cW,dB,dA] xs)).hint [true])) =
 some (.at .normal,[],EG c hZ fN m n ks xs y0 y1 R R' b0 b1 b2 b3 b4 b5 b6 b7 b8 b9 cY cX cW dB dA (xs.getD i.toNat 0) j i i' (EE c R (M.n3 (M.V [b0,b1,b2,b3,b4,b5,b6,b7]) (M.V [b8,b9,cY,cX,cW,dB,dA,xs.getD i.toNat 0]) 1)))
theorem aPx:SgA 0:=fun ks d y0 y1 m R held pN xs j n i i'=>by kernel_rfl
theorem aPr:SgX 0:=fun ks d y0 y1 m R held xs j n i J=>by kernel_rfl
theorem aHi:Ei 0 0:=fun ks d y0 y1 m R held xs n i=>by kernel_rfl
theorem aHh:Ei 0 1:=fun ks d y0 y1 m R held xs n i=>by kernel_rfl
theorem aHg:Ei 0 2:=fun ks d y0 y1 m R held xs n i=>by kernel_rfl
theorem aHf:Ei 0 3:=fun ks d y0 y1 m R held xs n i=>by kernel_rfl
theorem aPw:SgA 6:=fun ks d y0 y1 m R held pN xs j n i i'=>by kernel_rfl
theorem aPq:SgX 6:=fun ks d y0 y1 m R held xs j n i J=>by kernel_rfl
theorem aHe:Ei 6 0:=fun ks d y0 y1 m R held xs n i=>by kernel_rfl
theorem aHd:Ei 6 1:=fun ks d y0 y1 m R held xs n i=>by kernel_rfl
theorem aHc:Ei 6 2:=fun ks d y0 y1 m R held xs n i=>by kernel_rfl
theorem aHb:Ei 6 3:=fun ks d y0 y1 m R held xs n i=>by kernel_rfl
theorem aPv:SgA 7:=fun ks d y0 y1 m R held pN xs j n i i'=>by kernel_rfl
theorem aPp:SgX 7:=fun ks d y0 y1 m R held xs j n i J=>by kernel_rfl
theorem aHa:Ei 7 0:=fun ks d y0 y1 m R held xs n i=>by kernel_rfl
theorem aGz:Ei 7 1:=fun ks d y0 y1 m R held xs n i=>by kernel_rfl
theorem aGy:Ei 7 2:=fun ks d y0 y1 m R held xs n i=>by kernel_rfl
theorem aGx:Ei 7 3:=fun ks d y0 y1 m R held xs n i=>by kernel_rfl
theorem aPu:SgA 8:=fun ks d y0 y1 m R held pN xs j n i i'=>by kernel_rfl
theorem aPo:SgX 8:=fun ks d y0 y1 m R held xs j n i J=>by kernel_rfl
theorem aGw:Ei 8 0:=fun ks d y0 y1 m R held xs n i=>by kernel_rfl
theorem aGv:Ei 8 1:=fun ks d y0 y1 m R held xs n i=>by kernel_rfl
theorem aGu:Ei 8 2:=fun ks d y0 y1 m R held xs n i=>by kernel_rfl
theorem aGt:Ei 8 3:=fun ks d y0 y1 m R held xs n i=>by kernel_rfl
theorem aPt:SgA 9:=fun ks d y0 y1 m R held pN xs j n i i'=>by kernel_rfl
theorem aPn:SgX 9:=fun ks d y0 y1 m R held xs j n i J=>by kernel_rfl
theorem aGs:Ei 9 0:=fun ks d y0 y1 m R held xs n i=>by kernel_rfl
theorem aGr:Ei 9 1:=fun ks d y0 y1 m R held xs n i=>by kernel_rfl
theorem aGq:Ei 9 2:=fun ks d y0 y1 m R held xs n i=>by kernel_rfl
theorem aGp:Ei 9 3:=fun ks d y0 y1 m R held xs n i=>by kernel_rfl
theorem WW:mY 0 7 0:=fun ks d y0 y1 m R R' b0 b1 b2 b3 b4 b5 b6 b7 b8 b9 cY cX cW dB dA xs j n i i'=>by kernel_rfl
theorem WV:mY 0 7 6:=fun ks d y0 y1 m R R' b0 b1 b2 b3 b4 b5 b6 b7 b8 b9 cY cX cW dB dA xs j n i i'=>by kernel_rfl
theorem WU:mY 0 7 7:=fun ks d y0 y1 m R R' b0 b1 b2 b3 b4 b5 b6 b7 b8 b9 cY cX cW dB dA xs j n i i'=>by kernel_rfl
theorem WT:mY 0 7 8:=fun ks d y0 y1 m R R' b0 b1 b2 b3 b4 b5 b6 b7 b8 b9 cY cX cW dB dA xs j n i i'=>by kernel_rfl
theorem WS:mY 0 7 9:=fun ks d y0 y1 m R R' b0 b1 b2 b3 b4 b5 b6 b7 b8 b9 cY cX cW dB dA xs j n i i'=>by kernel_rfl
theorem WR:mY 6 7 0:=fun ks d y0 y1 m R R' b0 b1 b2 b3 b4 b5 b6 b7 b8 b9 cY cX cW dB dA xs j n i i'=>by kernel_rfl
theorem WQ:mY 6 7 6:=fun ks d y0 y1 m R R' b0 b1 b2 b3 b4 b5 b6 b7 b8 b9 cY cX cW dB dA xs j n i i'=>by kernel_rfl
theorem WO:mY 6 7 7:=fun ks d y0 y1 m R R' b0 b1 b2 b3 b4 b5 b6 b7 b8 b9 cY cX cW dB dA xs j n i i'=>by kernel_rfl
theorem WN:mY 6 7 8:=fun ks d y0 y1 m R R' b0 b1 b2 b3 b4 b5 b6 b7 b8 b9 cY cX cW dB dA xs j n i i'=>by kernel_rfl
theorem WM:mY 6 7 9:=fun ks d y0 y1 m R R' b0 b1 b2 b3 b4 b5 b6 b7 b8 b9 cY cX cW dB dA xs j n i i'=>by kernel_rfl
theorem WL:mY 6 8 0:=fun ks d y0 y1 m R R' b0 b1 b2 b3 b4 b5 b6 b7 b8 b9 cY cX cW dB dA xs j n i i'=>by kernel_rfl
theorem WK:mY 6 8 6:=fun ks d y0 y1 m R R' b0 b1 b2 b3 b4 b5 b6 b7 b8 b9 cY cX cW dB dA xs j n i i'=>by kernel_rfl
theorem WJ:mY 6 8 7:=fun ks d y0 y1 m R R' b0 b1 b2 b3 b4 b5 b6 b7 b8 b9 cY cX cW dB dA xs j n i i'=>by kernel_rfl
theorem WI:mY 6 8 8:=fun ks d y0 y1 m R R' b0 b1 b2 b3 b4 b5 b6 b7 b8 b9 cY cX cW dB dA xs j n i i'=>by kernel_rfl
theorem WH:mY 6 8 9:=fun ks d y0 y1 m R R' b0 b1 b2 b3 b4 b5 b6 b7 b8 b9 cY cX cW dB dA xs j n i i'=>by kernel_rfl
theorem WG:mY 7 7 0:=fun ks d y0 y1 m R R' b0 b1 b2 b3 b4 b5 b6 b7 b8 b9 cY cX cW dB dA xs j n i i'=>by kernel_rfl
theorem WE:mY 7 7 6:=fun ks d y0 y1 m R R' b0 b1 b2 b3 b4 b5 b6 b7 b8 b9 cY cX cW dB dA xs j n i i'=>by kernel_rfl
theorem WD:mY 7 7 7:=fun ks d y0 y1 m R R' b0 b1 b2 b3 b4 b5 b6 b7 b8 b9 cY cX cW dB dA xs j n i i'=>by kernel_rfl
theorem WC:mY 7 7 8:=fun ks d y0 y1 m R R' b0 b1 b2 b3 b4 b5 b6 b7 b8 b9 cY cX cW dB dA xs j n i i'=>by kernel_rfl
theorem WB:mY 7 7 9:=fun ks d y0 y1 m R R' b0 b1 b2 b3 b4 b5 b6 b7 b8 b9 cY cX cW dB dA xs j n i i'=>by kernel_rfl
theorem WA:mY 7 8 0:=fun ks d y0 y1 m R R' b0 b1 b2 b3 b4 b5 b6 b7 b8 b9 cY cX cW dB dA xs j n i i'=>by kernel_rfl
theorem VZ:mY 7 8 6:=fun ks d y0 y1 m R R' b0 b1 b2 b3 b4 b5 b6 b7 b8 b9 cY cX cW dB dA xs j n i i'=>by kernel_rfl
theorem VY:mY 7 8 7:=fun ks d y0 y1 m R R' b0 b1 b2 b3 b4 b5 b6 b7 b8 b9 cY cX cW dB dA xs j n i i'=>by kernel_rfl
theorem VX:mY 7 8 8:=fun ks d y0 y1 m R R' b0 b1 b2 b3 b4 b5 b6 b7 b8 b9 cY cX cW dB dA xs j n i i'=>by kernel_rfl
theorem VW:mY 7 8 9:=fun ks d y0 y1 m R R' b0 b1 b2 b3 b4 b5 b6 b7 b8 b9 cY cX cW dB dA xs j n i i'=>by kernel_rfl
theorem VV:mY 8 7 0:=fun ks d y0 y1 m R R' b0 b1 b2 b3 b4 b5 b6 b7 b8 b9 cY cX cW dB dA xs j n i i'=>by kernel_rfl
theorem VU:mY 8 7 6:=fun ks d y0 y1 m R R' b0 b1 b2 b3 b4 b5 b6 b7 b8 b9 cY cX cW dB dA xs j n i i'=>by kernel_rfl
theorem VT:mY 8 7 7:=fun ks d y0 y1 m R R' b0 b1 b2 b3 b4 b5 b6 b7 b8 b9 cY cX cW dB dA xs j n i i'=>by kernel_rfl
theorem VS:mY 8 7 8:=fun ks d y0 y1 m R R' b0 b1 b2 b3 b4 b5 b6 b7 b8 b9 cY cX cW dB dA xs j n i i'=>by kernel_rfl
theorem VR:mY 8 7 9:=fun ks d y0 y1 m R R' b0 b1 b2 b3 b4 b5 b6 b7 b8 b9 cY cX cW dB dA xs j n i i'=>by kernel_rfl
theorem VQ:mY 8 8 0:=fun ks d y0 y1 m R R' b0 b1 b2 b3 b4 b5 b6 b7 b8 b9 cY cX cW dB dA xs j n i i'=>by kernel_rfl
theorem VP:mY 8 8 6:=fun ks d y0 y1 m R R' b0 b1 b2 b3 b4 b5 b6 b7 b8 b9 cY cX cW dB dA xs j n i i'=>by kernel_rfl
theorem VO:mY 8 8 7:=fun ks d y0 y1 m R R' b0 b1 b2 b3 b4 b5 b6 b7 b8 b9 cY cX cW dB dA xs j n i i'=>by kernel_rfl
theorem VN:mY 8 8 8:=fun ks d y0 y1 m R R' b0 b1 b2 b3 b4 b5 b6 b7 b8 b9 cY cX cW dB dA xs j n i i'=>by kernel_rfl
theorem VM:mY 8 8 9:=fun ks d y0 y1 m R R' b0 b1 b2 b3 b4 b5 b6 b7 b8 b9 cY cX cW dB dA xs j n i i'=>by kernel_rfl
theorem VL:mY 9 7 0:=fun ks d y0 y1 m R R' b0 b1 b2 b3 b4 b5 b6 b7 b8 b9 cY cX cW dB dA xs j n i i'=>by kernel_rfl
theorem VK:mY 9 7 6:=fun ks d y0 y1 m R R' b0 b1 b2 b3 b4 b5 b6 b7 b8 b9 cY cX cW dB dA xs j n i i'=>by kernel_rfl
theorem VJ:mY 9 7 7:=fun ks d y0 y1 m R R' b0 b1 b2 b3 b4 b5 b6 b7 b8 b9 cY cX cW dB dA xs j n i i'=>by kernel_rfl
theorem VI:mY 9 7 8:=fun ks d y0 y1 m R R' b0 b1 b2 b3 b4 b5 b6 b7 b8 b9 cY cX cW dB dA xs j n i i'=>by kernel_rfl
theorem VH:mY 9 7 9:=fun ks d y0 y1 m R R' b0 b1 b2 b3 b4 b5 b6 b7 b8 b9 cY cX cW dB dA xs j n i i'=>by kernel_rfl
theorem VG:mY 9 8 0:=fun ks d y0 y1 m R R' b0 b1 b2 b3 b4 b5 b6 b7 b8 b9 cY cX cW dB dA xs j n i i'=>by kernel_rfl
theorem VF:mY 9 8 6:=fun ks d y0 y1 m R R' b0 b1 b2 b3 b4 b5 b6 b7 b8 b9 cY cX cW dB dA xs j n i i'=>by kernel_rfl
theorem VE:mY 9 8 7:=fun ks d y0 y1 m R R' b0 b1 b2 b3 b4 b5 b6 b7 b8 b9 cY cX cW dB dA xs j n i i'=>by kernel_rfl
theorem VD:mY 9 8 8:=fun ks d y0 y1 m R R' b0 b1 b2 b3 b4 b5 b6 b7 b8 b9 cY cX cW dB dA xs j n i i'=>by kernel_rfl
theorem VC:mY 9 8 9:=fun ks d y0 y1 m R R' b0 b1 b2 b3 b4 b5 b6 b7 b8 b9 cY cX cW dB dA xs j n i i'=>by kernel_rfl
end Go.Proofs.YtnodfocobmghiaaGreatDoor.Sx
