/- slow.Tag: its frames, its states, its runs. -/
import Derived.Test.YticicdfijghigaaGreatDoorQK
open Go
set_option maxRecDepth 100000
namespace Go.Proofs.YticicdfijghigaaGreatDoor.Sx
noncomputable def ΓT (iT gE nW:Nat):Env:=env (exG iT gE nW) 22
def GH (key:List Int):List SV:=[.agg (cI .u8 32 key),.aJ 62 true 0 5 5]
def sgB (d:Nat->List Int):List (Nat × SB):=[(62,.fS [.eH 71 (d 1).length,.eH 72 (d 2).length,.eH 73 (d 3).length,.eH 74 (d 4).length,.eH 75 (d 5).length]),(71,.gL .u8 (d 1)),(72,.gL .u8 (d 2)),(73,.gL .u8 (d 3)),(74,.gL .u8 (d 4)),(75,.gL .u8 (d 5)),(17,.fS [.int true .i64 40]),(18,.fS [.int true .i64 40])]
def Ai (d:Nat->List Int):bA:=fun l=>look l (sgB d)
def sgX (c:Nat) (R:Int):SV:=match c with
 | 0=>.raw (.slice none 0 0)
 | c+1=>.aJ 113 false 0 (M.ln R) (c+1)
def sgW (c:Nat) (R:Int):List (Nat × SB):=match c with
 | 0=>[]
 | c+1=>[(113,.own (wN R (c+1)) 196)]
def sgN (c:Nat):Nat:=match c with
 | 0=>113
 | _=>114
def aRi (ks:List Int) (y0 y1:Int) (m c:Nat) (R:Int) (held xs:List Int):List (Nat × SB):=
 [(100,.ints .u8 ks 23),(101,.own oX 59),(102,.own [.ptr 103 true 0] 137),(103,.own [.bool true false,.aJ 104 true 0 3 8] 146),(104,.own Gg 196),(105,.own [.ptr 106 true 0] 133),(106,.own [.bool true false,.aJ 107 false 0 m 6] 146),(107,.own (wc [y0,y1,0,0,0,0]) 196),(108,.own [.ptr 109 true 0] 133),(109,.own [.bool true false,sgX c R] 146),(110,.own [.buf 111] 25),(111,.cS .u8 held 5),(112,.gL .u8 xs)]++sgW c R
def aRj (j:SV) (n:Nat) (i:Int):List (Nat × SV):=[(2,.ptr 100 true 0),(4,.ptr 101 true 0),(5,.ptr 102 true 0),(7,.ptr 105 true 0),(8,.ptr 108 true 0),(9,.ptr 110 true 0),(10,.fn (.func 101) [] [.ptr 102 true 0,.ptr 108 true 0,.ptr 110 true 0,.ptr 105 true 0]),(48,.aJ 62 true 0 5 5),(49,.int true .i64 5),(50,j),(54,.eH 112 n),(55,.int false .i64 n),(56,.int false .i64 i)]
noncomputable def Ct (j:SV) (n:Nat) (i:Int) (ks:List Int) (y0 y1:Int) (m c:Nat) (R:Int) (held xs:List Int):St:=bM (aRj j n i) (aRi ks y0 y1 m c R held xs) (sgN c) [] []
noncomputable def FE (iT gE nW:Nat) (d:Nat->List Int) (cf:Cf) (K:List Fr) (s:St):Option oY:=gV (ΓT iT gE nW) (aY 100 (Ai d)) 100 Tryz.f56.ntmps [17] 100 2000 cf K s
noncomputable def sgC (d:Nat->List Int) (cl:List Cl) (j:SV) (n:Nat) (i:Int) (ks:List Int) (y0 y1:Int) (m c:Nat) (R:Int) (held xs:List Int) (r:Option oY):Option (Cf × List Fr × List Prop):=cW 100 Tryz.f56.ntmps (aY 100 (Ai d)) cl (aRj j n i) (aRi ks y0 y1 m c R held xs) (sgN c) [] [] r
noncomputable def aGt:Option oY:=FE 7 0 0 (fun _=>[]) (.go (codeOf Tryz.f56)) [] (zL (GH []) 100)
noncomputable def qA:Code:=match aGt with
 | some ⟨.go (.loop L),_,_⟩=>L
 | _=>.skip
def aSm:Option oY->List Fr
 | some ⟨_,K,_⟩=>K
 | _=>[]
noncomputable def yI:Nat->List Fr
 | 0=>aSm aGt
 | j+1=>aSm (FE 7 0 0 (fun _=>[]) (.at (.exit 5)) (yI j) (Ct (.int true .i64 j) 0 0 [] 0 0 0 0 0 [] []))
theorem aZy (key ks:List Int) (d:Nat->List Int) (y0 y1:Int) (m:Nat) :
 (sgC d [.nil 9 0 .u8 5,.ali 54] (.int false .i64 0) (d 1).length 0 ks y0 y1 m 0 0 [] (d 1) (FE 7 0 0 d (.go (codeOf Tryz.f56)) [] ((zL (GH key) 100).hint []))) =
 sh (0:Int) fun z0=>
 sh (15:Int) fun z1=>
 sh (252:Int) fun z2=>
 sh (key.getD 11 z0) fun z3=>
 sh (key.getD 12 z0) fun z4=>
 sh (key.getD 15 z0) fun z5=>
 sh (key.getD 3 z0) fun z6=>
 sh (key.getD 4 z0) fun z7=>
 sh (key.getD 7 z0) fun z8=>
 sh (key.getD 8 z0) fun z9=>
 sh (1:Nat) fun z10=>
 sh (↑(d z10).length:Int) fun z11=>
 some (.go (.loop qA),yI 0,[bI [key.getD 0 z0,key.getD 1 z0,key.getD 2 z0,bW IntKind.u8 z6 z1,bW IntKind.u8 z7 z2,key.getD 5 z0,key.getD 6 z0,bW IntKind.u8 z8 z1,bW IntKind.u8 z9 z2,key.getD 9 z0,key.getD 10 z0,bW IntKind.u8 z3 z1,bW IntKind.u8 z4 z2,key.getD 13 z0,key.getD 14 z0,bW IntKind.u8 z5 z1,key.getD 16 z0,key.getD 17 z0,key.getD 18 z0,key.getD 19 z0,key.getD 20 z0,key.getD 21 z0,key.getD 22 z0,key.getD 23 z0,key.getD 24 z0,key.getD 25 z0,key.getD 26 z0,key.getD 27 z0,key.getD 28 z0,key.getD 29 z0,key.getD 30 z0,key.getD 31 z0],[key.getD 0 z0,key.getD 1 z0,key.getD 2 z0,bW IntKind.u8 z6 z1,bW IntKind.u8 z7 z2,key.getD 5 z0,key.getD 6 z0,bW IntKind.u8 z8 z1,bW IntKind.u8 z9 z2,key.getD 9 z0,key.getD 10 z0,bW IntKind.u8 z3 z1,bW IntKind.u8 z4 z2,key.getD 13 z0,key.getD 14 z0,bW IntKind.u8 z5 z1,key.getD 16 z0,key.getD 17 z0,key.getD 18 z0,key.getD 19 z0,key.getD 20 z0,key.getD 21 z0,key.getD 22 z0,key.getD 23 z0,key.getD 24 z0,key.getD 25 z0,key.getD 26 z0,key.getD 27 z0,key.getD 28 z0,key.getD 29 z0,key.getD 30 z0,key.getD 31 z0]=[key.getD 0 z0,key.getD 1 z0,key.getD 2 z0,bW IntKind.u8 z6 z1,bW IntKind.u8 z7 z2,key.getD 5 z0,key.getD 6 z0,bW IntKind.u8 z8 z1,bW IntKind.u8 z9 z2,key.getD 9 z0,key.getD 10 z0,bW IntKind.u8 z3 z1,bW IntKind.u8 z4 z2,key.getD 13 z0,key.getD 14 z0,bW IntKind.u8 z5 z1,key.getD 16 z0,key.getD 17 z0,key.getD 18 z0,key.getD 19 z0,key.getD 20 z0,key.getD 21 z0,key.getD 22 z0,key.getD 23 z0,key.getD 24 z0,key.getD 25 z0,key.getD 26 z0,key.getD 27 z0,key.getD 28 z0,key.getD 29 z0,key.getD 30 z0,key.getD 31 z0],z0=z0,(d z10).length=(d z10).length,z11=z11,z0=z0,[key.getD 0 z0,key.getD 1 z0,key.getD 2 z0,bW IntKind.u8 z6 z1,bW IntKind.u8 z7 z2,key.getD 5 z0,key.getD 6 z0,bW IntKind.u8 z8 z1,bW IntKind.u8 z9 z2,key.getD 9 z0,key.getD 10 z0,bW IntKind.u8 z3 z1,bW IntKind.u8 z4 z2,key.getD 13 z0,key.getD 14 z0,bW IntKind.u8 z5 z1,key.getD 16 z0,key.getD 17 z0,key.getD 18 z0,key.getD 19 z0,key.getD 20 z0,key.getD 21 z0,key.getD 22 z0,key.getD 23 z0,key.getD 24 z0,key.getD 25 z0,key.getD 26 z0,key.getD 27 z0,key.getD 28 z0,key.getD 29 z0,key.getD 30 z0,key.getD 31 z0]=ks/\(23:Nat)=(23:TypeId),(0:Nat)=(0:Nat),M.nl [M.V [key.getD 0 z0,key.getD 1 z0,key.getD 2 z0,bW IntKind.u8 z6 z1,bW IntKind.u8 z7 z2,key.getD 5 z0,key.getD 6 z0,bW IntKind.u8 z8 z1],M.V [bW IntKind.u8 z9 z2,key.getD 9 z0,key.getD 10 z0,bW IntKind.u8 z3 z1,bW IntKind.u8 z4 z2,key.getD 13 z0,key.getD 14 z0,bW IntKind.u8 z5 z1]]=m,(6:Nat)=(6:Nat),[M.V [key.getD 0 z0,key.getD 1 z0,key.getD 2 z0,bW IntKind.u8 z6 z1,bW IntKind.u8 z7 z2,key.getD 5 z0,key.getD 6 z0,bW IntKind.u8 z8 z1],M.V [bW IntKind.u8 z9 z2,key.getD 9 z0,key.getD 10 z0,bW IntKind.u8 z3 z1,bW IntKind.u8 z4 z2,key.getD 13 z0,key.getD 14 z0,bW IntKind.u8 z5 z1],z0,z0,z0,z0]=[y0,y1,z0,z0,z0,z0],([]:List Int)=[],d z10=d z10]):=by kernel_rfl
def HY (c m n:Nat) (ks held qU xs:List Int) (y0 y1 R j i i':Int):List Prop:=
 [(((held++[xs.getD i.toNat 0]).length:Int)==16)=false,(held.length+[xs.getD i.toNat 0].length)*1<=140737488355328,i.toNat<xs.length,0<=i/\i<(n:Int),decide (i<(n:Int))=true,j=j,n=n,(n:Int)=(n:Int),IntKind.i64.wrap (i+1)=i',ks=ks/\(23:TypeId)=23,0=0,m=m,6=6,[y0,y1,0,0,0,0]=[y0,y1,0,0,0,0]] ++
 ((match c with
   | 0=>[]
   | c+1=>[0=0,M.ln R=M.ln R,c+1=c+1])++([held++[xs.getD i.toNat 0]=qU,xs=xs]++(match c with
   | 0=>[]
   | c+1=>[M.w0 R::M.w1 R::M.w2 R::List.replicate (c+1-3) 0=M.w0 R::M.w1 R::M.w2 R::List.replicate (c+1-3) 0])))
def SgA (c:Nat):Prop:=∀ (ks:List Int) (d:Nat->List Int) (y0 y1:Int) (m:Nat) (R:Int) (held qU xs:List Int) (j:Int) (n:Nat) (i i':Int),sgC d [] (.int false .i64 j) n i' ks y0 y1 m c R qU xs (FE 7 0 0 d (.go qA) [] ((Ct (.int false .i64 j) n i ks y0 y1 m c R held xs).hint [true,false]))=some (.at .normal,[],HY c m n ks held qU xs y0 y1 R j i i')
def HV (c m n:Nat) (ks held xs:List Int) (y0 y1 R j i J:Int):List Prop:=
 [decide (i<(n:Int))=false,j=J,n=n,(n:Int)=(n:Int),i=i,ks=ks/\(23:TypeId)=23,0=0,m=m,6=6,[y0,y1,0,0,0,0]=[y0,y1,0,0,0,0]] ++
 ((match c with
   | 0=>[]
   | c+1=>[0=0,M.ln R=M.ln R,c+1=c+1])++([held=held,xs=xs]++(match c with
   | 0=>[]
   | c+1=>[M.w0 R::M.w1 R::M.w2 R::List.replicate (c+1-3) 0=M.w0 R::M.w1 R::M.w2 R::List.replicate (c+1-3) 0])))
def SgX (c:Nat):Prop:=∀ (ks:List Int) (d:Nat->List Int) (y0 y1:Int) (m:Nat) (R:Int) (held xs:List Int) (j:Int) (n:Nat) (i:Int) (J:Int),sgC d [] (.int true .i64 J) n i ks y0 y1 m c R held xs (FE 7 0 0 d (.go qA) [] ((Ct (.int false .i64 j) n i ks y0 y1 m c R held xs).hint [false]))=some (.at (.exit 5),[],HV c m n ks held xs y0 y1 R j i J)
def HX (c m n:Nat) (ks held xs:List Int) (y0 y1 R j:Int):List Prop:=
 [j=j,n=n,(n:Int)=(n:Int),(0:Int)=0,ks=ks/\(23:TypeId)=23,0=0,m=m,6=6,[y0,y1,0,0,0,0]=[y0,y1,0,0,0,0]] ++
 ((match c with
   | 0=>[]
   | c+1=>[0=0,M.ln R=M.ln R,c+1=c+1])++([held=held,xs=xs]++(match c with
   | 0=>[]
   | c+1=>[M.w0 R::M.w1 R::M.w2 R::List.replicate (c+1-3) 0=M.w0 R::M.w1 R::M.w2 R::List.replicate (c+1-3) 0])))
def Gm (c J:Nat):Prop:=∀ (ks:List Int) (d:Nat->List Int) (y0 y1:Int) (m:Nat) (R:Int) (held xs:List Int) (n:Nat) (i:Int),sgC d [.ali 54] (.int false .i64 (J+1:Nat)) (d (J+2)).length 0 ks y0 y1 m c R held (d (J+2)) (FE 7 0 0 d (.at (.exit 5)) (yI J) ((Ct (.int true .i64 J) n i ks y0 y1 m c R held xs).hint []))=some (.go (.loop qA),yI (J+1),HX c m (d (J+2)).length ks held (d (J+2)) y0 y1 R (J+1:Nat))
def HU (c:Nat) (R Y:Int):Int:=match c with
 | 0=>(0+Y)%M.aO
 | _=>(M.n3 (M.w0 R) (M.w1 R) (M.w2 R)+Y)%M.aO
def AE (S y0 y1:Int):Int:=(M.n3 (M.w0 S) (M.w1 S) (M.w2 S)*(y0+18446744073709551616*y1))%M.aO
open M in
def HW (c iT gE m n:Nat) (ks xs:List Int) (y0 y1 R R' b0 b1 b2 b3 b4 b5 b6 b7 b8 b9 dF dE dD dJ dI x j i i' S:Int):List Prop:=
 [ln S=nl [w0 S,w1 S,w2 S],m=nl [y0,y1],gE=(if ln S=0\/m=0 then 0 else ln S+m+4),U (w0 S),U (w1 S),U (w2 S),n3 (w0 S) (w1 S) (w2 S)<aO,U y0,U y1,y0+18446744073709551616*y1<21267647932558653966460912964485513216,0=0,ln S=ln S,iT=iT,0=0,m=m,6=6,w0 S::w1 S::w2 S::List.replicate (iT-3) 0=w0 S::w1 S::w2 S::List.replicate (iT-3) 0,[y0,y1,0,0,0,0]=[y0,y1,0,0,0,0]] ++
 ((match c with
   | 0=>[]
   | _=>(ln R=nl [w0 R,w1 R,w2 R])::(match iT with
     | 7=>[ln R=0]
     | _=>[ln R≠0,U (w0 R),U (w1 R),U (w2 R),n3 (w0 R) (w1 R) (w2 R)<aO])) ++
 ([U (V [b0,b1,b2,b3,b4,b5,b6,b7]),U (V [b8,b9,dF,dE,dD,dJ,dI,x]),(1:Int)=1] ++
 ((match c with
   | 0=>[]
   | c+1=>[0=0,ln R=ln R,c+1=c+1,w0 R::w1 R::w2 R::List.replicate (c+1-3) 0=w0 R::w1 R::w2 R::List.replicate (c+1-3) 0]) ++
 ([[V [b0,b1,b2,b3,b4,b5,b6,b7],V [b8,b9,dF,dE,dD,dJ,dI,x],1,0,0,0,0]=[V [b0,b1,b2,b3,b4,b5,b6,b7],V [b8,b9,dF,dE,dD,dJ,dI,x],1,0,0,0,0],bI [b0,b1,b2,b3,b4,b5,b6,b7,b8,b9,dF,dE,dD,dJ,dI,x,1],(1:Int)=1,[b0,b1,b2,b3,b4,b5,b6,b7,b8,b9,dF,dE,dD,dJ,dI].length+1+1=17,[b0,b1,b2,b3,b4,b5,b6,b7,b8,b9,dF,dE,dD,dJ,dI,x,1]=[b0,b1,b2,b3,b4,b5,b6,b7,b8,b9,dF,dE,dD,dJ,dI,x,1],i.toNat<xs.length,0<=i/\i<(n:Int),decide (i<(n:Int))=true,j=j,n=n,(n:Int)=(n:Int),IntKind.i64.wrap (i+1)=i',ks=ks/\(23:TypeId)=23,0=0,m=m,6=6,[y0,y1,0,0,0,0]=[y0,y1,0,0,0,0]] ++
 (match gE with
  | 0=>[([]:List Int)=[],xs=xs]
  | gE+1=>[0=0,ln (AE S y0 y1)=ln R',gE+1=gE+1,([]:List Int)=[],xs=xs,w0 (AE S y0 y1)::w1 (AE S y0 y1)::w2 (AE S y0 y1)::List.replicate (gE+1-3) 0=w0 R'::w1 R'::w2 R'::List.replicate (gE+1-3) 0])))))
def nY (c iT gE:Nat):Prop:=∀ (ks:List Int) (d:Nat->List Int) (y0 y1:Int) (m:Nat) (R R' b0 b1 b2 b3 b4 b5 b6 b7 b8 b9 dF dE dD dJ dI:Int) (xs:List Int) (j:Int) (n:Nat) (i i':Int),sgC d [.nil 9 0 .u8 5] (.int false .i64 j) n i' ks y0 y1 m gE R' [] xs (FE iT gE 0 d (.go qA) [] ((opS 100 Tryz.f56.ntmps (aY 100 (Ai d)) 9 0 (Ct (.int false .i64 j) n i ks y0 y1 m c R [b0,b1,b2,b3,b4,b5,b6,b7,b8,b9,dF,dE,dD,dJ,dI] xs)).hint [true])) =
 some (.at .normal,[],HW c iT gE m n ks xs y0 y1 R R' b0 b1 b2 b3 b4 b5 b6 b7 b8 b9 dF dE dD dJ dI (xs.getD i.toNat 0) j i i' (HU c R (M.n3 (M.V [b0,b1,b2,b3,b4,b5,b6,b7]) (M.V [b8,b9,dF,dE,dD,dJ,dI,xs.getD i.toNat 0]) 1)))
theorem aVa:SgA 0:=fun ks d y0 y1 m R held qU xs j n i i'=>by kernel_rfl
theorem aUu:SgX 0:=fun ks d y0 y1 m R held xs j n i J=>by kernel_rfl
theorem aLx:Gm 0 0:=fun ks d y0 y1 m R held xs n i=>by kernel_rfl
theorem aLw:Gm 0 1:=fun ks d y0 y1 m R held xs n i=>by kernel_rfl
theorem aLv:Gm 0 2:=fun ks d y0 y1 m R held xs n i=>by kernel_rfl
theorem aLu:Gm 0 3:=fun ks d y0 y1 m R held xs n i=>by kernel_rfl
theorem aUz:SgA 6:=fun ks d y0 y1 m R held qU xs j n i i'=>by kernel_rfl
theorem aUt:SgX 6:=fun ks d y0 y1 m R held xs j n i J=>by kernel_rfl
theorem aLt:Gm 6 0:=fun ks d y0 y1 m R held xs n i=>by kernel_rfl
theorem aLs:Gm 6 1:=fun ks d y0 y1 m R held xs n i=>by kernel_rfl
theorem aLr:Gm 6 2:=fun ks d y0 y1 m R held xs n i=>by kernel_rfl
theorem aLq:Gm 6 3:=fun ks d y0 y1 m R held xs n i=>by kernel_rfl
theorem aUy:SgA 7:=fun ks d y0 y1 m R held qU xs j n i i'=>by kernel_rfl
theorem aUs:SgX 7:=fun ks d y0 y1 m R held xs j n i J=>by kernel_rfl
theorem aLp:Gm 7 0:=fun ks d y0 y1 m R held xs n i=>by kernel_rfl
theorem aLo:Gm 7 1:=fun ks d y0 y1 m R held xs n i=>by kernel_rfl
theorem aLn:Gm 7 2:=fun ks d y0 y1 m R held xs n i=>by kernel_rfl
theorem aLm:Gm 7 3:=fun ks d y0 y1 m R held xs n i=>by kernel_rfl
theorem aUx:SgA 8:=fun ks d y0 y1 m R held qU xs j n i i'=>by kernel_rfl
theorem aUr:SgX 8:=fun ks d y0 y1 m R held xs j n i J=>by kernel_rfl
theorem aLl:Gm 8 0:=fun ks d y0 y1 m R held xs n i=>by kernel_rfl
theorem aLk:Gm 8 1:=fun ks d y0 y1 m R held xs n i=>by kernel_rfl
theorem aLj:Gm 8 2:=fun ks d y0 y1 m R held xs n i=>by kernel_rfl
theorem aLi:Gm 8 3:=fun ks d y0 y1 m R held xs n i=>by kernel_rfl
theorem aUw:SgA 9:=fun ks d y0 y1 m R held qU xs j n i i'=>by kernel_rfl
theorem aUq:SgX 9:=fun ks d y0 y1 m R held xs j n i J=>by kernel_rfl
theorem aLh:Gm 9 0:=fun ks d y0 y1 m R held xs n i=>by kernel_rfl
theorem aLg:Gm 9 1:=fun ks d y0 y1 m R held xs n i=>by kernel_rfl
theorem aLf:Gm 9 2:=fun ks d y0 y1 m R held xs n i=>by kernel_rfl
theorem aLe:Gm 9 3:=fun ks d y0 y1 m R held xs n i=>by kernel_rfl
theorem aAs:nY 0 7 0:=fun ks d y0 y1 m R R' b0 b1 b2 b3 b4 b5 b6 b7 b8 b9 dF dE dD dJ dI xs j n i i'=>by kernel_rfl
theorem aAr:nY 0 7 6:=fun ks d y0 y1 m R R' b0 b1 b2 b3 b4 b5 b6 b7 b8 b9 dF dE dD dJ dI xs j n i i'=>by kernel_rfl
theorem aAq:nY 0 7 7:=fun ks d y0 y1 m R R' b0 b1 b2 b3 b4 b5 b6 b7 b8 b9 dF dE dD dJ dI xs j n i i'=>by kernel_rfl
theorem aAp:nY 0 7 8:=fun ks d y0 y1 m R R' b0 b1 b2 b3 b4 b5 b6 b7 b8 b9 dF dE dD dJ dI xs j n i i'=>by kernel_rfl
theorem aAo:nY 0 7 9:=fun ks d y0 y1 m R R' b0 b1 b2 b3 b4 b5 b6 b7 b8 b9 dF dE dD dJ dI xs j n i i'=>by kernel_rfl
theorem aAn:nY 6 7 0:=fun ks d y0 y1 m R R' b0 b1 b2 b3 b4 b5 b6 b7 b8 b9 dF dE dD dJ dI xs j n i i'=>by kernel_rfl
theorem aAm:nY 6 7 6:=fun ks d y0 y1 m R R' b0 b1 b2 b3 b4 b5 b6 b7 b8 b9 dF dE dD dJ dI xs j n i i'=>by kernel_rfl
theorem aAl:nY 6 7 7:=fun ks d y0 y1 m R R' b0 b1 b2 b3 b4 b5 b6 b7 b8 b9 dF dE dD dJ dI xs j n i i'=>by kernel_rfl
theorem aAk:nY 6 7 8:=fun ks d y0 y1 m R R' b0 b1 b2 b3 b4 b5 b6 b7 b8 b9 dF dE dD dJ dI xs j n i i'=>by kernel_rfl
theorem aAj:nY 6 7 9:=fun ks d y0 y1 m R R' b0 b1 b2 b3 b4 b5 b6 b7 b8 b9 dF dE dD dJ dI xs j n i i'=>by kernel_rfl
theorem aAi:nY 6 8 0:=fun ks d y0 y1 m R R' b0 b1 b2 b3 b4 b5 b6 b7 b8 b9 dF dE dD dJ dI xs j n i i'=>by kernel_rfl
theorem aAh:nY 6 8 6:=fun ks d y0 y1 m R R' b0 b1 b2 b3 b4 b5 b6 b7 b8 b9 dF dE dD dJ dI xs j n i i'=>by kernel_rfl
theorem aAg:nY 6 8 7:=fun ks d y0 y1 m R R' b0 b1 b2 b3 b4 b5 b6 b7 b8 b9 dF dE dD dJ dI xs j n i i'=>by kernel_rfl
theorem aAf:nY 6 8 8:=fun ks d y0 y1 m R R' b0 b1 b2 b3 b4 b5 b6 b7 b8 b9 dF dE dD dJ dI xs j n i i'=>by kernel_rfl
theorem aAe:nY 6 8 9:=fun ks d y0 y1 m R R' b0 b1 b2 b3 b4 b5 b6 b7 b8 b9 dF dE dD dJ dI xs j n i i'=>by kernel_rfl
theorem aAd:nY 7 7 0:=fun ks d y0 y1 m R R' b0 b1 b2 b3 b4 b5 b6 b7 b8 b9 dF dE dD dJ dI xs j n i i'=>by kernel_rfl
theorem aAc:nY 7 7 6:=fun ks d y0 y1 m R R' b0 b1 b2 b3 b4 b5 b6 b7 b8 b9 dF dE dD dJ dI xs j n i i'=>by kernel_rfl
theorem aAb:nY 7 7 7:=fun ks d y0 y1 m R R' b0 b1 b2 b3 b4 b5 b6 b7 b8 b9 dF dE dD dJ dI xs j n i i'=>by kernel_rfl
theorem aAa:nY 7 7 8:=fun ks d y0 y1 m R R' b0 b1 b2 b3 b4 b5 b6 b7 b8 b9 dF dE dD dJ dI xs j n i i'=>by kernel_rfl
theorem ZZ:nY 7 7 9:=fun ks d y0 y1 m R R' b0 b1 b2 b3 b4 b5 b6 b7 b8 b9 dF dE dD dJ dI xs j n i i'=>by kernel_rfl
theorem ZY:nY 7 8 0:=fun ks d y0 y1 m R R' b0 b1 b2 b3 b4 b5 b6 b7 b8 b9 dF dE dD dJ dI xs j n i i'=>by kernel_rfl
theorem ZX:nY 7 8 6:=fun ks d y0 y1 m R R' b0 b1 b2 b3 b4 b5 b6 b7 b8 b9 dF dE dD dJ dI xs j n i i'=>by kernel_rfl
theorem ZW:nY 7 8 7:=fun ks d y0 y1 m R R' b0 b1 b2 b3 b4 b5 b6 b7 b8 b9 dF dE dD dJ dI xs j n i i'=>by kernel_rfl
theorem ZV:nY 7 8 8:=fun ks d y0 y1 m R R' b0 b1 b2 b3 b4 b5 b6 b7 b8 b9 dF dE dD dJ dI xs j n i i'=>by kernel_rfl
theorem ZU:nY 7 8 9:=fun ks d y0 y1 m R R' b0 b1 b2 b3 b4 b5 b6 b7 b8 b9 dF dE dD dJ dI xs j n i i'=>by kernel_rfl
theorem ZT:nY 8 7 0:=fun ks d y0 y1 m R R' b0 b1 b2 b3 b4 b5 b6 b7 b8 b9 dF dE dD dJ dI xs j n i i'=>by kernel_rfl
theorem ZS:nY 8 7 6:=fun ks d y0 y1 m R R' b0 b1 b2 b3 b4 b5 b6 b7 b8 b9 dF dE dD dJ dI xs j n i i'=>by kernel_rfl
theorem ZR:nY 8 7 7:=fun ks d y0 y1 m R R' b0 b1 b2 b3 b4 b5 b6 b7 b8 b9 dF dE dD dJ dI xs j n i i'=>by kernel_rfl
theorem ZQ:nY 8 7 8:=fun ks d y0 y1 m R R' b0 b1 b2 b3 b4 b5 b6 b7 b8 b9 dF dE dD dJ dI xs j n i i'=>by kernel_rfl
theorem ZP:nY 8 7 9:=fun ks d y0 y1 m R R' b0 b1 b2 b3 b4 b5 b6 b7 b8 b9 dF dE dD dJ dI xs j n i i'=>by kernel_rfl
theorem ZO:nY 8 8 0:=fun ks d y0 y1 m R R' b0 b1 b2 b3 b4 b5 b6 b7 b8 b9 dF dE dD dJ dI xs j n i i'=>by kernel_rfl
theorem ZN:nY 8 8 6:=fun ks d y0 y1 m R R' b0 b1 b2 b3 b4 b5 b6 b7 b8 b9 dF dE dD dJ dI xs j n i i'=>by kernel_rfl
theorem ZM:nY 8 8 7:=fun ks d y0 y1 m R R' b0 b1 b2 b3 b4 b5 b6 b7 b8 b9 dF dE dD dJ dI xs j n i i'=>by kernel_rfl
theorem ZL:nY 8 8 8:=fun ks d y0 y1 m R R' b0 b1 b2 b3 b4 b5 b6 b7 b8 b9 dF dE dD dJ dI xs j n i i'=>by kernel_rfl
theorem ZK:nY 8 8 9:=fun ks d y0 y1 m R R' b0 b1 b2 b3 b4 b5 b6 b7 b8 b9 dF dE dD dJ dI xs j n i i'=>by kernel_rfl
theorem ZJ:nY 9 7 0:=fun ks d y0 y1 m R R' b0 b1 b2 b3 b4 b5 b6 b7 b8 b9 dF dE dD dJ dI xs j n i i'=>by kernel_rfl
theorem ZI:nY 9 7 6:=fun ks d y0 y1 m R R' b0 b1 b2 b3 b4 b5 b6 b7 b8 b9 dF dE dD dJ dI xs j n i i'=>by kernel_rfl
theorem ZH:nY 9 7 7:=fun ks d y0 y1 m R R' b0 b1 b2 b3 b4 b5 b6 b7 b8 b9 dF dE dD dJ dI xs j n i i'=>by kernel_rfl
theorem ZG:nY 9 7 8:=fun ks d y0 y1 m R R' b0 b1 b2 b3 b4 b5 b6 b7 b8 b9 dF dE dD dJ dI xs j n i i'=>by kernel_rfl
theorem ZF:nY 9 7 9:=fun ks d y0 y1 m R R' b0 b1 b2 b3 b4 b5 b6 b7 b8 b9 dF dE dD dJ dI xs j n i i'=>by kernel_rfl
theorem ZE:nY 9 8 0:=fun ks d y0 y1 m R R' b0 b1 b2 b3 b4 b5 b6 b7 b8 b9 dF dE dD dJ dI xs j n i i'=>by kernel_rfl
theorem ZD:nY 9 8 6:=fun ks d y0 y1 m R R' b0 b1 b2 b3 b4 b5 b6 b7 b8 b9 dF dE dD dJ dI xs j n i i'=>by kernel_rfl
theorem ZC:nY 9 8 7:=fun ks d y0 y1 m R R' b0 b1 b2 b3 b4 b5 b6 b7 b8 b9 dF dE dD dJ dI xs j n i i'=>by kernel_rfl
theorem ZB:nY 9 8 8:=fun ks d y0 y1 m R R' b0 b1 b2 b3 b4 b5 b6 b7 b8 b9 dF dE dD dJ dI xs j n i i'=>by kernel_rfl
theorem ZA:nY 9 8 9:=fun ks d y0 y1 m R R' b0 b1 b2 b3 b4 b5 b6 b7 b8 b9 dF dE dD dJ dI xs j n i i'=>by kernel_rfl
end Go.Proofs.YticicdfijghigaaGreatDoor.Sx
