/- slow.Tag: its frames, its states, its runs. -/
import Derived.Test.YticicdfijghigaaGreatDoorQK
open Go
set_option maxRecDepth 100000
namespace Go.Proofs.YticicdfijghigaaGreatDoor.Sx
noncomputable def ΓT (iK gA nI:Nat):Env:=env (exG iK gA nI) 22
def DN (key:List Int):List SV:=[.agg (cO .u8 32 key),.aG 62 true 0 5 5]
def sgB (d:Nat->List Int):List (Nat × SB):=[(62,.fP [.eV 71 (d 1).length,.eV 72 (d 2).length,.eV 73 (d 3).length,.eV 74 (d 4).length,.eV 75 (d 5).length]),(71,.gQ .u8 (d 1)),(72,.gQ .u8 (d 2)),(73,.gQ .u8 (d 3)),(74,.gQ .u8 (d 4)),(75,.gQ .u8 (d 5)),(17,.fP [.int true .i64 40]),(18,.fP [.int true .i64 40])]
def yU (d:Nat->List Int):aZ:=fun l=>look l (sgB d)
def sgX (c:Nat) (R:Int):SV:=match c with
 | 0=>.raw (.slice none 0 0)
 | c+1=>.aG 113 false 0 (M.ln R) (c+1)
def sgW (c:Nat) (R:Int):List (Nat × SB):=match c with
 | 0=>[]
 | c+1=>[(113,.own (wN R (c+1)) 196)]
def sgN (c:Nat):Nat:=match c with
 | 0=>113
 | _=>114
def aOc (ks:List Int) (y0 y1:Int) (m c:Nat) (R:Int) (held xs:List Int):List (Nat × SB):=
 [(100,.ints .u8 ks 23),(101,.own nL 59),(102,.own [.ptr 103 true 0] 137),(103,.own [.bool true false,.aG 104 true 0 3 8] 146),(104,.own Ed 196),(105,.own [.ptr 106 true 0] 133),(106,.own [.bool true false,.aG 107 false 0 m 6] 146),(107,.own (wc [y0,y1,0,0,0,0]) 196),(108,.own [.ptr 109 true 0] 133),(109,.own [.bool true false,sgX c R] 146),(110,.own [.buf 111] 25),(111,.cT .u8 held 5),(112,.gQ .u8 xs)]++sgW c R
def aOd (j:SV) (n:Nat) (i:Int):List (Nat × SV):=[(2,.ptr 100 true 0),(4,.ptr 101 true 0),(5,.ptr 102 true 0),(7,.ptr 105 true 0),(8,.ptr 108 true 0),(9,.ptr 110 true 0),(10,.fn (.func 101) [] [.ptr 102 true 0,.ptr 108 true 0,.ptr 110 true 0,.ptr 105 true 0]),(48,.aG 62 true 0 5 5),(49,.int true .i64 5),(50,j),(54,.eV 112 n),(55,.int false .i64 n),(56,.int false .i64 i)]
noncomputable def Ay (j:SV) (n:Nat) (i:Int) (ks:List Int) (y0 y1:Int) (m c:Nat) (R:Int) (held xs:List Int):St:=cB (aOd j n i) (aOc ks y0 y1 m c R held xs) (sgN c) [] []
noncomputable def CO (iK gA nI:Nat) (d:Nat->List Int) (cf:Cf) (K:List Fr) (s:St):Option pU:=gZ (ΓT iK gA nI) (bH 100 (yU d)) 100 Tryz.f56.ntmps [17] 100 2000 cf K s
noncomputable def sgC (d:Nat->List Int) (cl:List Cl) (j:SV) (n:Nat) (i:Int) (ks:List Int) (y0 y1:Int) (m c:Nat) (R:Int) (held xs:List Int) (r:Option pU):Option (Cf × List Fr × List Prop):=fM 100 Tryz.f56.ntmps (bH 100 (yU d)) cl (aOd j n i) (aOc ks y0 y1 m c R held xs) (sgN c) [] [] r
noncomputable def aDu:Option pU:=CO 7 0 0 (fun _=>[]) (.go (codeOf Tryz.f56)) [] (zM (DN []) 100)
noncomputable def pF:Code:=match aDu with
 | some ⟨.go (.loop L),_,_⟩=>L
 | _=>.skip
def aPh:Option pU->List Fr
 | some ⟨_,K,_⟩=>K
 | _=>[]
noncomputable def xC:Nat->List Fr
 | 0=>aPh aDu
 | j+1=>aPh (CO 7 0 0 (fun _=>[]) (.at (.exit 5)) (xC j) (Ay (.int true .i64 j) 0 0 [] 0 0 0 0 0 [] []))
theorem aVs (key ks:List Int) (d:Nat->List Int) (y0 y1:Int) (m:Nat) :
 (sgC d [.nil 9 0 .u8 5,.ali 54] (.int false .i64 0) (d 1).length 0 ks y0 y1 m 0 0 [] (d 1) (CO 7 0 0 d (.go (codeOf Tryz.f56)) [] ((zM (DN key) 100).hint []))) =
 sh (0:Int) fun z0=>
 sh (15:Int) fun z1=>
 sh (252:Int) fun z2=>
 sh (key.getD 11 z0) fun z3=>
 sh (key.getD 12 z0) fun z4=>
 sh (key.getD 15 z0) fun z5=>
 sh (key.getD 3 z0) fun z6=>
 sh (key.getD 4 z0) fun z7=>
 sh (key.getD 7 z0) fun z8=>
 sh (key.getD 8 z0) fun z9=>
 sh (1:Nat) fun iJ=>
 sh (↑(d iJ).length:Int) fun iQ=>
 some (.go (.loop pF),xC 0,[bR [key.getD 0 z0,key.getD 1 z0,key.getD 2 z0,bU IntKind.u8 z6 z1,bU IntKind.u8 z7 z2,key.getD 5 z0,key.getD 6 z0,bU IntKind.u8 z8 z1,bU IntKind.u8 z9 z2,key.getD 9 z0,key.getD 10 z0,bU IntKind.u8 z3 z1,bU IntKind.u8 z4 z2,key.getD 13 z0,key.getD 14 z0,bU IntKind.u8 z5 z1,key.getD 16 z0,key.getD 17 z0,key.getD 18 z0,key.getD 19 z0,key.getD 20 z0,key.getD 21 z0,key.getD 22 z0,key.getD 23 z0,key.getD 24 z0,key.getD 25 z0,key.getD 26 z0,key.getD 27 z0,key.getD 28 z0,key.getD 29 z0,key.getD 30 z0,key.getD 31 z0],[key.getD 0 z0,key.getD 1 z0,key.getD 2 z0,bU IntKind.u8 z6 z1,bU IntKind.u8 z7 z2,key.getD 5 z0,key.getD 6 z0,bU IntKind.u8 z8 z1,bU IntKind.u8 z9 z2,key.getD 9 z0,key.getD 10 z0,bU IntKind.u8 z3 z1,bU IntKind.u8 z4 z2,key.getD 13 z0,key.getD 14 z0,bU IntKind.u8 z5 z1,key.getD 16 z0,key.getD 17 z0,key.getD 18 z0,key.getD 19 z0,key.getD 20 z0,key.getD 21 z0,key.getD 22 z0,key.getD 23 z0,key.getD 24 z0,key.getD 25 z0,key.getD 26 z0,key.getD 27 z0,key.getD 28 z0,key.getD 29 z0,key.getD 30 z0,key.getD 31 z0]=[key.getD 0 z0,key.getD 1 z0,key.getD 2 z0,bU IntKind.u8 z6 z1,bU IntKind.u8 z7 z2,key.getD 5 z0,key.getD 6 z0,bU IntKind.u8 z8 z1,bU IntKind.u8 z9 z2,key.getD 9 z0,key.getD 10 z0,bU IntKind.u8 z3 z1,bU IntKind.u8 z4 z2,key.getD 13 z0,key.getD 14 z0,bU IntKind.u8 z5 z1,key.getD 16 z0,key.getD 17 z0,key.getD 18 z0,key.getD 19 z0,key.getD 20 z0,key.getD 21 z0,key.getD 22 z0,key.getD 23 z0,key.getD 24 z0,key.getD 25 z0,key.getD 26 z0,key.getD 27 z0,key.getD 28 z0,key.getD 29 z0,key.getD 30 z0,key.getD 31 z0],z0=z0,(d iJ).length=(d iJ).length,iQ=iQ,z0=z0,[key.getD 0 z0,key.getD 1 z0,key.getD 2 z0,bU IntKind.u8 z6 z1,bU IntKind.u8 z7 z2,key.getD 5 z0,key.getD 6 z0,bU IntKind.u8 z8 z1,bU IntKind.u8 z9 z2,key.getD 9 z0,key.getD 10 z0,bU IntKind.u8 z3 z1,bU IntKind.u8 z4 z2,key.getD 13 z0,key.getD 14 z0,bU IntKind.u8 z5 z1,key.getD 16 z0,key.getD 17 z0,key.getD 18 z0,key.getD 19 z0,key.getD 20 z0,key.getD 21 z0,key.getD 22 z0,key.getD 23 z0,key.getD 24 z0,key.getD 25 z0,key.getD 26 z0,key.getD 27 z0,key.getD 28 z0,key.getD 29 z0,key.getD 30 z0,key.getD 31 z0]=ks/\(23:Nat)=(23:TypeId),(0:Nat)=(0:Nat),M.nl [M.V [key.getD 0 z0,key.getD 1 z0,key.getD 2 z0,bU IntKind.u8 z6 z1,bU IntKind.u8 z7 z2,key.getD 5 z0,key.getD 6 z0,bU IntKind.u8 z8 z1],M.V [bU IntKind.u8 z9 z2,key.getD 9 z0,key.getD 10 z0,bU IntKind.u8 z3 z1,bU IntKind.u8 z4 z2,key.getD 13 z0,key.getD 14 z0,bU IntKind.u8 z5 z1]]=m,(6:Nat)=(6:Nat),[M.V [key.getD 0 z0,key.getD 1 z0,key.getD 2 z0,bU IntKind.u8 z6 z1,bU IntKind.u8 z7 z2,key.getD 5 z0,key.getD 6 z0,bU IntKind.u8 z8 z1],M.V [bU IntKind.u8 z9 z2,key.getD 9 z0,key.getD 10 z0,bU IntKind.u8 z3 z1,bU IntKind.u8 z4 z2,key.getD 13 z0,key.getD 14 z0,bU IntKind.u8 z5 z1],z0,z0,z0,z0]=[y0,y1,z0,z0,z0,z0],([]:List Int)=[],d iJ=d iJ]):=by kernel_rfl
def FE (c m n:Nat) (ks held pX xs:List Int) (y0 y1 R j i i':Int):List Prop:=
 [(((held++[xs.getD i.toNat 0]).length:Int)==16)=false,(held.length+[xs.getD i.toNat 0].length)*1<=140737488355328,i.toNat<xs.length,0<=i/\i<(n:Int),decide (i<(n:Int))=true,j=j,n=n,(n:Int)=(n:Int),IntKind.i64.wrap (i+1)=i',ks=ks/\(23:TypeId)=23,0=0,m=m,6=6,[y0,y1,0,0,0,0]=[y0,y1,0,0,0,0]] ++
 ((match c with
   | 0=>[]
   | c+1=>[0=0,M.ln R=M.ln R,c+1=c+1])++([held++[xs.getD i.toNat 0]=pX,xs=xs]++(match c with
   | 0=>[]
   | c+1=>[M.w0 R::M.w1 R::M.w2 R::List.replicate (c+1-3) 0=M.w0 R::M.w1 R::M.w2 R::List.replicate (c+1-3) 0])))
def SgA (c:Nat):Prop:=∀ (ks:List Int) (d:Nat->List Int) (y0 y1:Int) (m:Nat) (R:Int) (held pX xs:List Int) (j:Int) (n:Nat) (i i':Int),sgC d [] (.int false .i64 j) n i' ks y0 y1 m c R pX xs (CO 7 0 0 d (.go pF) [] ((Ay (.int false .i64 j) n i ks y0 y1 m c R held xs).hint [true,false]))=some (.at .normal,[],FE c m n ks held pX xs y0 y1 R j i i')
def FB (c m n:Nat) (ks held xs:List Int) (y0 y1 R j i J:Int):List Prop:=
 [decide (i<(n:Int))=false,j=J,n=n,(n:Int)=(n:Int),i=i,ks=ks/\(23:TypeId)=23,0=0,m=m,6=6,[y0,y1,0,0,0,0]=[y0,y1,0,0,0,0]] ++
 ((match c with
   | 0=>[]
   | c+1=>[0=0,M.ln R=M.ln R,c+1=c+1])++([held=held,xs=xs]++(match c with
   | 0=>[]
   | c+1=>[M.w0 R::M.w1 R::M.w2 R::List.replicate (c+1-3) 0=M.w0 R::M.w1 R::M.w2 R::List.replicate (c+1-3) 0])))
def SgX (c:Nat):Prop:=∀ (ks:List Int) (d:Nat->List Int) (y0 y1:Int) (m:Nat) (R:Int) (held xs:List Int) (j:Int) (n:Nat) (i:Int) (J:Int),sgC d [] (.int true .i64 J) n i ks y0 y1 m c R held xs (CO 7 0 0 d (.go pF) [] ((Ay (.int false .i64 j) n i ks y0 y1 m c R held xs).hint [false]))=some (.at (.exit 5),[],FB c m n ks held xs y0 y1 R j i J)
def FD (c m n:Nat) (ks held xs:List Int) (y0 y1 R j:Int):List Prop:=
 [j=j,n=n,(n:Int)=(n:Int),(0:Int)=0,ks=ks/\(23:TypeId)=23,0=0,m=m,6=6,[y0,y1,0,0,0,0]=[y0,y1,0,0,0,0]] ++
 ((match c with
   | 0=>[]
   | c+1=>[0=0,M.ln R=M.ln R,c+1=c+1])++([held=held,xs=xs]++(match c with
   | 0=>[]
   | c+1=>[M.w0 R::M.w1 R::M.w2 R::List.replicate (c+1-3) 0=M.w0 R::M.w1 R::M.w2 R::List.replicate (c+1-3) 0])))
def Ek (c J:Nat):Prop:=∀ (ks:List Int) (d:Nat->List Int) (y0 y1:Int) (m:Nat) (R:Int) (held xs:List Int) (n:Nat) (i:Int),sgC d [.ali 54] (.int false .i64 (J+1:Nat)) (d (J+2)).length 0 ks y0 y1 m c R held (d (J+2)) (CO 7 0 0 d (.at (.exit 5)) (xC J) ((Ay (.int true .i64 J) n i ks y0 y1 m c R held xs).hint []))=some (.go (.loop pF),xC (J+1),FD c m (d (J+2)).length ks held (d (J+2)) y0 y1 R (J+1:Nat))
def FA (c:Nat) (R Y:Int):Int:=match c with
 | 0=>(0+Y)%M.bA
 | _=>(M.n3 (M.w0 R) (M.w1 R) (M.w2 R)+Y)%M.bA
def Xt (S y0 y1:Int):Int:=(M.n3 (M.w0 S) (M.w1 S) (M.w2 S)*(y0+18446744073709551616*y1))%M.bA
open M in
def FC (c iK gA m n:Nat) (ks xs:List Int) (y0 y1 R R' b0 b1 b2 b3 b4 b5 b6 b7 b8 b9 dC dB dA dH dG x j i i' S:Int):List Prop:=
 [ln S=nl [w0 S,w1 S,w2 S],m=nl [y0,y1],gA=(if ln S=0\/m=0 then 0 else ln S+m+4),U (w0 S),U (w1 S),U (w2 S),n3 (w0 S) (w1 S) (w2 S)<bA,U y0,U y1,y0+18446744073709551616*y1<21267647932558653966460912964485513216,0=0,ln S=ln S,iK=iK,0=0,m=m,6=6,w0 S::w1 S::w2 S::List.replicate (iK-3) 0=w0 S::w1 S::w2 S::List.replicate (iK-3) 0,[y0,y1,0,0,0,0]=[y0,y1,0,0,0,0]] ++
 ((match c with
   | 0=>[]
   | _=>(ln R=nl [w0 R,w1 R,w2 R])::(match iK with
     | 7=>[ln R=0]
     | _=>[ln R≠0,U (w0 R),U (w1 R),U (w2 R),n3 (w0 R) (w1 R) (w2 R)<bA])) ++
 ([U (V [b0,b1,b2,b3,b4,b5,b6,b7]),U (V [b8,b9,dC,dB,dA,dH,dG,x]),(1:Int)=1] ++
 ((match c with
   | 0=>[]
   | c+1=>[0=0,ln R=ln R,c+1=c+1,w0 R::w1 R::w2 R::List.replicate (c+1-3) 0=w0 R::w1 R::w2 R::List.replicate (c+1-3) 0]) ++
 ([[V [b0,b1,b2,b3,b4,b5,b6,b7],V [b8,b9,dC,dB,dA,dH,dG,x],1,0,0,0,0]=[V [b0,b1,b2,b3,b4,b5,b6,b7],V [b8,b9,dC,dB,dA,dH,dG,x],1,0,0,0,0],bR [b0,b1,b2,b3,b4,b5,b6,b7,b8,b9,dC,dB,dA,dH,dG,x,1],(1:Int)=1,[b0,b1,b2,b3,b4,b5,b6,b7,b8,b9,dC,dB,dA,dH,dG].length+1+1=17,[b0,b1,b2,b3,b4,b5,b6,b7,b8,b9,dC,dB,dA,dH,dG,x,1]=[b0,b1,b2,b3,b4,b5,b6,b7,b8,b9,dC,dB,dA,dH,dG,x,1],i.toNat<xs.length,0<=i/\i<(n:Int),decide (i<(n:Int))=true,j=j,n=n,(n:Int)=(n:Int),IntKind.i64.wrap (i+1)=i',ks=ks/\(23:TypeId)=23,0=0,m=m,6=6,[y0,y1,0,0,0,0]=[y0,y1,0,0,0,0]] ++
 (match gA with
  | 0=>[([]:List Int)=[],xs=xs]
  | gA+1=>[0=0,ln (Xt S y0 y1)=ln R',gA+1=gA+1,([]:List Int)=[],xs=xs,w0 (Xt S y0 y1)::w1 (Xt S y0 y1)::w2 (Xt S y0 y1)::List.replicate (gA+1-3) 0=w0 R'::w1 R'::w2 R'::List.replicate (gA+1-3) 0])))))
def nK (c iK gA:Nat):Prop:=∀ (ks:List Int) (d:Nat->List Int) (y0 y1:Int) (m:Nat) (R R' b0 b1 b2 b3 b4 b5 b6 b7 b8 b9 dC dB dA dH dG:Int) (xs:List Int) (j:Int) (n:Nat) (i i':Int),sgC d [.nil 9 0 .u8 5] (.int false .i64 j) n i' ks y0 y1 m gA R' [] xs (CO iK gA 0 d (.go pF) [] ((opS 100 Tryz.f56.ntmps (bH 100 (yU d)) 9 0 (Ay (.int false .i64 j) n i ks y0 y1 m c R [b0,b1,b2,b3,b4,b5,b6,b7,b8,b9,dC,dB,dA,dH,dG] xs)).hint [true])) =
 some (.at .normal,[],FC c iK gA m n ks xs y0 y1 R R' b0 b1 b2 b3 b4 b5 b6 b7 b8 b9 dC dB dA dH dG (xs.getD i.toNat 0) j i i' (FA c R (M.n3 (M.V [b0,b1,b2,b3,b4,b5,b6,b7]) (M.V [b8,b9,dC,dB,dA,dH,dG,xs.getD i.toNat 0]) 1)))
theorem aRr:SgA 0:=fun ks d y0 y1 m R held pX xs j n i i'=>by kernel_rfl
theorem aRl:SgX 0:=fun ks d y0 y1 m R held xs j n i J=>by kernel_rfl
theorem aIu:Ek 0 0:=fun ks d y0 y1 m R held xs n i=>by kernel_rfl
theorem aIt:Ek 0 1:=fun ks d y0 y1 m R held xs n i=>by kernel_rfl
theorem aIs:Ek 0 2:=fun ks d y0 y1 m R held xs n i=>by kernel_rfl
theorem aIr:Ek 0 3:=fun ks d y0 y1 m R held xs n i=>by kernel_rfl
theorem aRq:SgA 6:=fun ks d y0 y1 m R held pX xs j n i i'=>by kernel_rfl
theorem aRk:SgX 6:=fun ks d y0 y1 m R held xs j n i J=>by kernel_rfl
theorem aIq:Ek 6 0:=fun ks d y0 y1 m R held xs n i=>by kernel_rfl
theorem aIp:Ek 6 1:=fun ks d y0 y1 m R held xs n i=>by kernel_rfl
theorem aIo:Ek 6 2:=fun ks d y0 y1 m R held xs n i=>by kernel_rfl
theorem aIn:Ek 6 3:=fun ks d y0 y1 m R held xs n i=>by kernel_rfl
theorem aRp:SgA 7:=fun ks d y0 y1 m R held pX xs j n i i'=>by kernel_rfl
theorem aRj:SgX 7:=fun ks d y0 y1 m R held xs j n i J=>by kernel_rfl
theorem aIm:Ek 7 0:=fun ks d y0 y1 m R held xs n i=>by kernel_rfl
theorem aIl:Ek 7 1:=fun ks d y0 y1 m R held xs n i=>by kernel_rfl
theorem aIk:Ek 7 2:=fun ks d y0 y1 m R held xs n i=>by kernel_rfl
theorem aIj:Ek 7 3:=fun ks d y0 y1 m R held xs n i=>by kernel_rfl
theorem aRo:SgA 8:=fun ks d y0 y1 m R held pX xs j n i i'=>by kernel_rfl
theorem aRi:SgX 8:=fun ks d y0 y1 m R held xs j n i J=>by kernel_rfl
theorem aIi:Ek 8 0:=fun ks d y0 y1 m R held xs n i=>by kernel_rfl
theorem aIh:Ek 8 1:=fun ks d y0 y1 m R held xs n i=>by kernel_rfl
theorem aIg:Ek 8 2:=fun ks d y0 y1 m R held xs n i=>by kernel_rfl
theorem aIf:Ek 8 3:=fun ks d y0 y1 m R held xs n i=>by kernel_rfl
theorem aRn:SgA 9:=fun ks d y0 y1 m R held pX xs j n i i'=>by kernel_rfl
theorem aRh:SgX 9:=fun ks d y0 y1 m R held xs j n i J=>by kernel_rfl
theorem aIe:Ek 9 0:=fun ks d y0 y1 m R held xs n i=>by kernel_rfl
theorem aId:Ek 9 1:=fun ks d y0 y1 m R held xs n i=>by kernel_rfl
theorem aIc:Ek 9 2:=fun ks d y0 y1 m R held xs n i=>by kernel_rfl
theorem aIb:Ek 9 3:=fun ks d y0 y1 m R held xs n i=>by kernel_rfl
theorem XX:nK 0 7 0:=fun ks d y0 y1 m R R' b0 b1 b2 b3 b4 b5 b6 b7 b8 b9 dC dB dA dH dG xs j n i i'=>by kernel_rfl
theorem XW:nK 0 7 6:=fun ks d y0 y1 m R R' b0 b1 b2 b3 b4 b5 b6 b7 b8 b9 dC dB dA dH dG xs j n i i'=>by kernel_rfl
theorem XV:nK 0 7 7:=fun ks d y0 y1 m R R' b0 b1 b2 b3 b4 b5 b6 b7 b8 b9 dC dB dA dH dG xs j n i i'=>by kernel_rfl
theorem XU:nK 0 7 8:=fun ks d y0 y1 m R R' b0 b1 b2 b3 b4 b5 b6 b7 b8 b9 dC dB dA dH dG xs j n i i'=>by kernel_rfl
theorem XT:nK 0 7 9:=fun ks d y0 y1 m R R' b0 b1 b2 b3 b4 b5 b6 b7 b8 b9 dC dB dA dH dG xs j n i i'=>by kernel_rfl
theorem XS:nK 6 7 0:=fun ks d y0 y1 m R R' b0 b1 b2 b3 b4 b5 b6 b7 b8 b9 dC dB dA dH dG xs j n i i'=>by kernel_rfl
theorem XR:nK 6 7 6:=fun ks d y0 y1 m R R' b0 b1 b2 b3 b4 b5 b6 b7 b8 b9 dC dB dA dH dG xs j n i i'=>by kernel_rfl
theorem XQ:nK 6 7 7:=fun ks d y0 y1 m R R' b0 b1 b2 b3 b4 b5 b6 b7 b8 b9 dC dB dA dH dG xs j n i i'=>by kernel_rfl
theorem XP:nK 6 7 8:=fun ks d y0 y1 m R R' b0 b1 b2 b3 b4 b5 b6 b7 b8 b9 dC dB dA dH dG xs j n i i'=>by kernel_rfl
theorem XO:nK 6 7 9:=fun ks d y0 y1 m R R' b0 b1 b2 b3 b4 b5 b6 b7 b8 b9 dC dB dA dH dG xs j n i i'=>by kernel_rfl
theorem XN:nK 6 8 0:=fun ks d y0 y1 m R R' b0 b1 b2 b3 b4 b5 b6 b7 b8 b9 dC dB dA dH dG xs j n i i'=>by kernel_rfl
theorem XM:nK 6 8 6:=fun ks d y0 y1 m R R' b0 b1 b2 b3 b4 b5 b6 b7 b8 b9 dC dB dA dH dG xs j n i i'=>by kernel_rfl
theorem XL:nK 6 8 7:=fun ks d y0 y1 m R R' b0 b1 b2 b3 b4 b5 b6 b7 b8 b9 dC dB dA dH dG xs j n i i'=>by kernel_rfl
theorem XK:nK 6 8 8:=fun ks d y0 y1 m R R' b0 b1 b2 b3 b4 b5 b6 b7 b8 b9 dC dB dA dH dG xs j n i i'=>by kernel_rfl
theorem XJ:nK 6 8 9:=fun ks d y0 y1 m R R' b0 b1 b2 b3 b4 b5 b6 b7 b8 b9 dC dB dA dH dG xs j n i i'=>by kernel_rfl
theorem XI:nK 7 7 0:=fun ks d y0 y1 m R R' b0 b1 b2 b3 b4 b5 b6 b7 b8 b9 dC dB dA dH dG xs j n i i'=>by kernel_rfl
theorem XH:nK 7 7 6:=fun ks d y0 y1 m R R' b0 b1 b2 b3 b4 b5 b6 b7 b8 b9 dC dB dA dH dG xs j n i i'=>by kernel_rfl
theorem XG:nK 7 7 7:=fun ks d y0 y1 m R R' b0 b1 b2 b3 b4 b5 b6 b7 b8 b9 dC dB dA dH dG xs j n i i'=>by kernel_rfl
theorem XF:nK 7 7 8:=fun ks d y0 y1 m R R' b0 b1 b2 b3 b4 b5 b6 b7 b8 b9 dC dB dA dH dG xs j n i i'=>by kernel_rfl
theorem XE:nK 7 7 9:=fun ks d y0 y1 m R R' b0 b1 b2 b3 b4 b5 b6 b7 b8 b9 dC dB dA dH dG xs j n i i'=>by kernel_rfl
theorem XD:nK 7 8 0:=fun ks d y0 y1 m R R' b0 b1 b2 b3 b4 b5 b6 b7 b8 b9 dC dB dA dH dG xs j n i i'=>by kernel_rfl
theorem XC:nK 7 8 6:=fun ks d y0 y1 m R R' b0 b1 b2 b3 b4 b5 b6 b7 b8 b9 dC dB dA dH dG xs j n i i'=>by kernel_rfl
theorem XB:nK 7 8 7:=fun ks d y0 y1 m R R' b0 b1 b2 b3 b4 b5 b6 b7 b8 b9 dC dB dA dH dG xs j n i i'=>by kernel_rfl
theorem XA:nK 7 8 8:=fun ks d y0 y1 m R R' b0 b1 b2 b3 b4 b5 b6 b7 b8 b9 dC dB dA dH dG xs j n i i'=>by kernel_rfl
theorem WZ:nK 7 8 9:=fun ks d y0 y1 m R R' b0 b1 b2 b3 b4 b5 b6 b7 b8 b9 dC dB dA dH dG xs j n i i'=>by kernel_rfl
theorem WY:nK 8 7 0:=fun ks d y0 y1 m R R' b0 b1 b2 b3 b4 b5 b6 b7 b8 b9 dC dB dA dH dG xs j n i i'=>by kernel_rfl
theorem WX:nK 8 7 6:=fun ks d y0 y1 m R R' b0 b1 b2 b3 b4 b5 b6 b7 b8 b9 dC dB dA dH dG xs j n i i'=>by kernel_rfl
theorem WW:nK 8 7 7:=fun ks d y0 y1 m R R' b0 b1 b2 b3 b4 b5 b6 b7 b8 b9 dC dB dA dH dG xs j n i i'=>by kernel_rfl
theorem WV:nK 8 7 8:=fun ks d y0 y1 m R R' b0 b1 b2 b3 b4 b5 b6 b7 b8 b9 dC dB dA dH dG xs j n i i'=>by kernel_rfl
theorem WU:nK 8 7 9:=fun ks d y0 y1 m R R' b0 b1 b2 b3 b4 b5 b6 b7 b8 b9 dC dB dA dH dG xs j n i i'=>by kernel_rfl
theorem WT:nK 8 8 0:=fun ks d y0 y1 m R R' b0 b1 b2 b3 b4 b5 b6 b7 b8 b9 dC dB dA dH dG xs j n i i'=>by kernel_rfl
theorem WS:nK 8 8 6:=fun ks d y0 y1 m R R' b0 b1 b2 b3 b4 b5 b6 b7 b8 b9 dC dB dA dH dG xs j n i i'=>by kernel_rfl
theorem WR:nK 8 8 7:=fun ks d y0 y1 m R R' b0 b1 b2 b3 b4 b5 b6 b7 b8 b9 dC dB dA dH dG xs j n i i'=>by kernel_rfl
theorem WQ:nK 8 8 8:=fun ks d y0 y1 m R R' b0 b1 b2 b3 b4 b5 b6 b7 b8 b9 dC dB dA dH dG xs j n i i'=>by kernel_rfl
theorem WO:nK 8 8 9:=fun ks d y0 y1 m R R' b0 b1 b2 b3 b4 b5 b6 b7 b8 b9 dC dB dA dH dG xs j n i i'=>by kernel_rfl
theorem WN:nK 9 7 0:=fun ks d y0 y1 m R R' b0 b1 b2 b3 b4 b5 b6 b7 b8 b9 dC dB dA dH dG xs j n i i'=>by kernel_rfl
theorem WM:nK 9 7 6:=fun ks d y0 y1 m R R' b0 b1 b2 b3 b4 b5 b6 b7 b8 b9 dC dB dA dH dG xs j n i i'=>by kernel_rfl
theorem WL:nK 9 7 7:=fun ks d y0 y1 m R R' b0 b1 b2 b3 b4 b5 b6 b7 b8 b9 dC dB dA dH dG xs j n i i'=>by kernel_rfl
theorem WK:nK 9 7 8:=fun ks d y0 y1 m R R' b0 b1 b2 b3 b4 b5 b6 b7 b8 b9 dC dB dA dH dG xs j n i i'=>by kernel_rfl
theorem WJ:nK 9 7 9:=fun ks d y0 y1 m R R' b0 b1 b2 b3 b4 b5 b6 b7 b8 b9 dC dB dA dH dG xs j n i i'=>by kernel_rfl
theorem WI:nK 9 8 0:=fun ks d y0 y1 m R R' b0 b1 b2 b3 b4 b5 b6 b7 b8 b9 dC dB dA dH dG xs j n i i'=>by kernel_rfl
theorem WH:nK 9 8 6:=fun ks d y0 y1 m R R' b0 b1 b2 b3 b4 b5 b6 b7 b8 b9 dC dB dA dH dG xs j n i i'=>by kernel_rfl
theorem WG:nK 9 8 7:=fun ks d y0 y1 m R R' b0 b1 b2 b3 b4 b5 b6 b7 b8 b9 dC dB dA dH dG xs j n i i'=>by kernel_rfl
theorem WE:nK 9 8 8:=fun ks d y0 y1 m R R' b0 b1 b2 b3 b4 b5 b6 b7 b8 b9 dC dB dA dH dG xs j n i i'=>by kernel_rfl
theorem WD:nK 9 8 9:=fun ks d y0 y1 m R R' b0 b1 b2 b3 b4 b5 b6 b7 b8 b9 dC dB dA dH dG xs j n i i'=>by kernel_rfl
end Go.Proofs.YticicdfijghigaaGreatDoor.Sx
