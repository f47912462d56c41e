/- A growing slice of integers as a block of integers. -/
import Derived.Test.YtnodfocobmghiaaGreatDoorCards
import Derived.Test.YtnodfocobmghiaaGreatDoorTie
import Derived.ProofKit
import Derived.OpenShut
import Derived.Below
import Derived.Carry
import Derived.LaidLaws
import Derived.Lay
import Derived.MakeChecks
import Derived.Deep.DeepHandedRow
import Derived.Deep.DeepWitnessRowRef
import Derived.Lib.LaidTab
import Derived.Stop.ErrReads
import Derived.Test.YtnodfocobmghiaaGreatDoorQM
open Go
set_option maxRecDepth 100000
namespace Go.Proofs.YtnodfocobmghiaaGreatDoor.Sx
section
variable {w0 w:World} {M:Nat->Prop} {V:bA} {T:bB} {lab:Nat}
end
section
variable {P:Program} {Γ:Env} {w0:World} {M:Nat->Prop} {B:bB} {N F0:Nat} {V0:bA}
end
def qO (xs ys:List Int) (r:List Prop):List Prop:=(List.range 32).foldr (fun i r=>(xs.getD i 0=ys.getD i 0)::r) r
namespace Q
def sp (n L:Int):Int:=if n.tmod L<0 then IntKind.i64.wrap (n.tmod L+L) else n.tmod L
end Q
structure QC (n L:Int) (m:Nat):Prop where
 h:Q.sp n L=m
theorem aQm (n L:Int):aJ (env fF 22) Tryz.f22 true [true] 400 [.int false .i64 n,.int false .i64 L] (fun _=>none) 100 100=some { bO:=[decide (n.tmod L<0)=true,L≠0],val:=.int false .i64 (IntKind.i64.wrap (n.tmod L+L)) }:=by kernel_rfl
theorem aQl (n L:Int):aJ (env fF 22) Tryz.f22 true [false] 400 [.int false .i64 n,.int false .i64 L] (fun _=>none) 100 100=some { bO:=[decide (n.tmod L<0)=false,L≠0],val:=.int false .i64 (n.tmod L) }:=by kernel_rfl
theorem QZ {n L:Int} (hL:L≠0) (Γ:Env) (hg:Γ.aR=aA):aE Tryz.prog Γ 22 [.int false .i64 n,.int false .i64 L] (fun _=>none) 100 100 { val:=.int false .i64 (Q.sp n L) }:=by
 have hI:∀ hs,aF Tryz.prog (env fF 22) 22 (aJ (env fF 22) Tryz.f22 true hs 400):=fun hs=>aM (bL fF 22) (bS fF fV 22) mix Tryz.func22 (by kernel_rfl) true hs 400
 unfold Q.sp
 split
 .rename_i h;exact ((hI _).call (aQm n L) (aB ⟨decide_eq_true h,hL,trivial⟩)).words (by rw [hg];rfl) (fun _=>rfl) (fun _ _ h=>h) (fun _=>rfl) rfl rfl
 .rename_i h;exact ((hI _).call (aQl n L) (aB ⟨nD h,hL,trivial⟩)).words (by rw [hg];rfl) (fun _=>rfl) (fun _ _ h=>h) (fun _=>rfl) rfl rfl
def BD (m:Nat) (vs:List SV) (_:bB):Option Canon:=match vs with
 | [.int _ .i64 n,.int _ .i64 L]=>some { eN:=[.int false .i64 n,.int false .i64 L],T0:=[],vl:=[],e0:={ val:=.int false .i64 (m:Int) },conds:=[QC n L m,L≠0] }
 | _=>none
theorem aDm (m:Nat) (Γ:Env) (hg:Γ.aR=aA):aF Tryz.prog Γ 22 (aL aA 100 (BD m)):=by
 refine aU hg fun vs T c hd hc=>?_
 unfold BD at hd
 split at hd
 case h_2=>cases hd
 rename_i n _ L
 cases hd
 have e:Q.sp n L=m:=QC.h (hc _ dB)
 rw [<- e]
 exact QZ (hc _ (eK _ dB)) Γ hg
def enH (s o:Bool):List (Nat × List Bool):=[(16,[false,!s]),(20,[false,!o]),(23,[true,true,true,true]),(32,[true])]
noncomputable def aUo (sb:Cp) (rx:List Int->List Int) (e m:Nat) (s o:Bool):Nat->Option Sum:=Rz (dI (aKw sb rx e) 22 (aL aA 100 (BD m))) (enH s o)
noncomputable def Cq (sb:Cp) (rx:List Int->List Int) (e m:Nat) (s o:Bool):Env:=env (aUo sb rx e m s o) 22
theorem Sf (sb:Cp) (rx:List Int->List Int) (e m:Nat) (s o:Bool):cA Tryz.prog (Cq sb rx e m s o):=bL _ 22
theorem Sg (sb:Cp) (rx:List Int->List Int) (e m:Nat) (s o:Bool):cH Tryz.prog (Cq sb rx e m s o):=bS _ (Bq (bD (XG sb rx e) 22 _ (aDm m)) (enH s o)) 22
def Jb (x n:Int) (key:List Int) (la lb:Nat):List SV:=[.int false .i64 x,.ai .u8 key,.iA 60 la,.iA 61 lb,.int false .i64 n]
def erL:List (Nat × SB):=[(4,.fL [.rC 407 (.ptr 44 true 0)]),(6,.fL [.rC 407 (.ptr 46 true 0)])]++(erO++ZG)
def enL (ad bs:List Int):List (Nat × SB):=[(60,.iT .u8 ad),(61,.iT .u8 bs)]++erL
def OB (ad bs:List Int):bB:=fun l=>look l (enL ad bs)
noncomputable def enM (sb:Cp) (rx:List Int->List Int) (e m:Nat) (s o:Bool) (ad bs:List Int) (k:Nat) (cf:Cf) (K:List Fr) (st:St):Option qH:=gV (Cq sb rx e m s o) (bI 100 (OB ad bs)) 100 Tryz.f7.ntmps [] 400 k cf K st
def enG (la lb m l1 c1 l2 c2:Nat):List (Nat × SV):=[(2,.iA 60 la),(3,.iA 61 lb),(4,.int false .i64 (m:Int)),(11,.ptr 100 true 0),(12,.aG 101 false 0 l1 c1),(13,.aG 101 false 0 l2 c2)]
def enB (e:Nat) (key W:List Int):List (Nat × SB):=[(100,.own (stC 102 e (.int true .u64 18446744073709551615) key) 67),(101,.ints .u8 W 5)]++aUp 102 e
def aLb (x n:Int) (key ad bs W:List Int) (e m l1 c1 l2 c2:Nat) (L W3:Int) (Z Y:List Int):List Prop:=
 QC n (IntKind.i64.wrap (L+1)) m::(IntKind.i64.wrap (L+1)≠0)::(n=n)::(IntKind.i64.wrap (L+1)=IntKind.i64.wrap (L+1))::(0<=(W3.toNat:Int)/\(W3.toNat:Int)<=(W3.toNat:Int)/\0<=L/\L<=(W3.toNat:Int)/\(0:Int)<=0/\0<=L) ::
 (W3.toNat=Y.length/\0+bs.length+3<=W3.toNat)::(W3.toNat=Z.length/\0+bs.length<=W3.toNat)::((0:Int)<=0/\0<=W3/\1*W3<=281474976710656/\W3<9223372036854775808)::(key.length=32)::(key.length=32)::(key.length=32)::QE e x::(x=x)::(decide ((bs.length:Int)>200000)=false)::(decide ((ad.length:Int)>200000)=false)::(ad.length=ad.length)::(bs.length=bs.length)::((m:Int)=(m:Int)) ::
 (0=0)::(bs.length=l1)::(W3.toNat=c1)::(0=0)::(0+bs.length+3=l2)::(W3.toNat=c2)::qO key key [Y.take (0+bs.length)++[171,171,171]++Y.drop (0+bs.length+3)=W/\5=5]
def enY (bs Z:List Int):List Int:=Z.take 0++bs++Z.drop (0+bs.length)
theorem aUx (e:Nat) (he:dW e) (sb:Cp) (rx:List Int->List Int) (m:Nat) (s o:Bool) (x n:Int) (key ad bs W:List Int) (l1 c1 l2 c2:Nat):hZ 100 Tryz.f7.ntmps (bI 100 (OB ad bs)) [] (enG ad.length bs.length m l1 c1 l2 c2) (enB e key W) (102+aKy e) [] [] (enM sb rx e m s o ad bs 25 (.go (codeOf Tryz.f7)) [] ((Dg (Jb x n key ad.length bs.length) 100).hint [false,false]))=some (.go (tA 7 (codeOf Tryz.f7)),[],
 aLb x n key ad bs W e m l1 c1 l2 c2 (bs.length:Int) (IntKind.i64.wrap ((bs.length:Int)+3)) (List.replicate (IntKind.i64.wrap ((bs.length:Int)+3)).toNat 0) (enY bs (List.replicate (IntKind.i64.wrap ((bs.length:Int)+3)).toNat 0))):=by
 rcases he with rfl | rfl | rfl <;> kernel_rfl
def aLa (C R key ad bs W V:List Int) (e m l1 l2 c2:Nat) (s o:Bool) (L d w1 w2:Int):List Prop:=
 (true=true)::Vr (fun _ _ _ _ _=>C) (M.Fg R) 18446744073709551614 ad Yx 0::dW e::((M.Fg R).length=32)::bX ad::bX (Yx.take 0)::(ad.length<=500000000)::(16<=16)::(16<=16)::(16<=16)::(16<=500000000)::(M.Fg R=M.Fg R)::((18446744073709551614:Int)=18446744073709551614)::(ad.length=ad.length)::(ad.length=ad.length)::(0=0)::(16=16)::(16=16)::((0:Int)=0)::(Yx=Yx/\5=5)::(ad=ad)::(false=false) ::
 QD (fun _=>R) (M.Fg key)::dW e::((M.Fg key).length=32)::(oT=oT)::qO key (M.Fg key) (((!decide ((m:Int)>=16)) = !o)::(decide ((m:Int)>=16)=o)::((!decide (d>=16)) = !s)::(decide (d>=16)=s) ::
 ((!(W.getD (0+w2.toNat*1+0) 0==171))=false)::(0+w2.toNat*1+1<=W.length)::(0<=w2/\w2<(l2:Int))::((W.getD (0+w1.toNat*1+0) 0==171)=true)::(0+w1.toNat*1+1<=W.length)::(0<=w1/\w1<(l2:Int))::((W.getD (0+L.toNat*1+0) 0==171)=true)::(0+L.toNat*1+1<=W.length)::(0<=L/\L<(l2:Int)) ::
 (V=bs)::(V.length<=1073741824)::(0+bs.length<=W.length/\bs.length<=c2)::(0=0)::(bs.length=bs.length)::(c2=c2)::(0+bs.length<=W.length/\bs.length<=c2)::(V.length=V.length)::(bs.length=bs.length)::(bs.length=bs.length)::(V=V)::(0+bs.length<=W.length/\bs.length<=c2)::(bs=bs)::(0<=(c2:Int)/\(c2:Int)<=(c2:Int)/\0<=L/\L<=(c2:Int)/\(0:Int)<=0/\0<=L)::(((l2:Int)==IntKind.i64.wrap (L+3))=true) ::
 (decide ((m:Int)<16) = !o)::((!decide ((m:Int)<=(l1:Int)))=false)::(decide ((m:Int)>=0)=true)::(decide (d<16) = !s)::((!decide ((m:Int)<=(l1:Int)))=false)::(decide ((m:Int)>=0)=true)::[])
theorem aUw (e:Nat) (he:dW e) (s o:Bool) (C R:List Int) (m:Nat) (key ad bs W:List Int) (l1 c1 l2 c2:Nat):xP (Cq (fun _ _ _ _ _=>C) (fun _=>R) e m s o) (OB ad bs) 100 100 Tryz.f7 [] (enM (fun _ _ _ _ _=>C) (fun _=>R) e m s o ad bs 400 (.go (tA 7 (codeOf Tryz.f7))) [] ((cG (enG ad.length bs.length m l1 c1 l2 c2) (enB e key W) (102+aKy e) [] []).hint [false,s,!s,o,!o,false,true])) =
 some { val:=.bool true true,bO:=aLa C R key ad bs W ((W.drop 0).take bs.length) e m l1 l2 c2 s o (bs.length:Int) (IntKind.i64.wrap ((l1:Int)-(m:Int))) (IntKind.i64.wrap ((bs.length:Int)+1)) (IntKind.i64.wrap ((bs.length:Int)+2)) }:=by
 rcases he with rfl | rfl | rfl <;> cases s <;> cases o <;> kernel_rfl
theorem aUv (sb:Cp) (rx:List Int->List Int) (m:Nat) (s o:Bool) (x n:Int) (key ad bs:List Int):aJ (Cq sb rx 0 m s o) Tryz.f7 true [true] 400 (Jb x n key ad.length bs.length) (OB ad bs) 100 100=some { bO:=[decide ((ad.length:Int)>200000)=true],val:=.bool true true }:=by kernel_rfl
theorem aUu (sb:Cp) (rx:List Int->List Int) (m:Nat) (s o:Bool) (x n:Int) (key ad bs:List Int):aJ (Cq sb rx 0 m s o) Tryz.f7 true [false,true] 400 (Jb x n key ad.length bs.length) (OB ad bs) 100 100=some { bO:=[decide ((bs.length:Int)>200000)=true,decide ((ad.length:Int)>200000)=false],val:=.bool true true }:=by kernel_rfl
end Go.Proofs.YtnodfocobmghiaaGreatDoor.Sx
section
open Go Go.Proofs.YtnodfocobmghiaaGreatDoor
set_option maxRecDepth 100000
namespace Go.Proofs.YtnodfocobmghiaaGreatDoor.Aea
open Go.ChangeShapes Go.WideShapes Go.ChangeAt Go.RowKit Go.Proofs.YtnodfocobmghiaaGreatDoor.Sx
abbrev yF:List (String × DataW Unit):=Rows.cipherEndsRow.laid
theorem HM {W:World} (h:laidMet Tryz.prog yF W) (xs:List (Nat × SB)) (sl:List (Nat × Value)) (Mc:sl.all (fun x=>Nat.blt x.1 100)=true)
 (hx:∀ V:bA,(∀ l,V.σ l=Sx.look l sl)->∀ x∈xs,okB V W x.1 x.2/\x.2.owned=false) :
 ∃ V:bA,aD W (fun _=>False) V (fun l=>Sx.look l (xs++erL)) W/\(∀ k l,Sx.look k aA=some l->V.β l=some (k,0))/\V.top 100/\∀ l,V.σ l=Sx.look l sl:=by
 have pick:∀ {x:String × DataW Unit} (i:Nat),yF[i]?=some x->x∈yF:=fun i hi=>List.mem_of_getElem? hi
 obtain ⟨b0,o0,e0,f0,g0⟩:=pW h "pintle/api.ErrArg" _ 3 (pick 2 rfl) (by kernel_rfl) (by kernel_rfl)
 obtain ⟨b2,o2,e2,f2,g2⟩:=pW h "pintle/api.ErrRoom" _ 1 (pick 3 rfl) (by kernel_rfl) (by kernel_rfl)
 obtain ⟨b4,o4,e4,f4,g4⟩:=pW h "pintle/api.ErrShort" _ 2 (pick 4 rfl) (by kernel_rfl) (by kernel_rfl)
 obtain ⟨b6,o6,e6,f6,g6⟩:=pW h "pintle/api.ErrNonce" _ 0 (pick 5 rfl) (by kernel_rfl) (by kernel_rfl)
 obtain ⟨b8,o8,e8,f8,g8⟩:=pW h "pintle/api.ErrAuth" _ 5 (pick 6 rfl) (by kernel_rfl) (by kernel_rfl)
 have i17:=Kw h "math/big.karatsubaThreshold" 40 14 (pick 10 rfl) (by kernel_rfl) (by kernel_rfl)
 have i18:=Kw h "math/big.divRecursiveThreshold" 40 15 (pick 9 rfl) (by kernel_rfl) (by kernel_rfl)
 have hbg:=Vy h "pintle/slow.begin" 7 147 72 4 .u32 [1634760805,857760878,2036477234,1797285236] (pick 13 rfl) (by kernel_rfl) (by kernel_rfl) Tryz.underlying147 Tryz.underlying72 (by kernel_rfl) (by kernel_rfl)
 have hr:=Pj h "pintle/slow.rows" 8 150 149 3 8 4 BR (pick 14 rfl) (by kernel_rfl) (by kernel_rfl) Tryz.underlying150 Tryz.underlying149 Tryz.underlying3 (by kernel_rfl) (by kernel_rfl)
 let bl:List (Nat × (Nat × Nat)):=[(0,(3,0)),(2,(1,0)),(4,(2,0)),(6,(0,0)),(8,(5,0)),(10,(7,0)),(11,(8,0)),(15,(12,0)),(16,(13,0)),(17,(14,0)),(18,(15,0)),(27,(24,0)),(40,(b0,o0)),(42,(b2,o2)),(44,(b4,o4)),(46,(b6,o6)),(48,(b8,o8))]
 let V:bA:=⟨fun l=>Sx.look l bl,fun l=>Sx.look l sl⟩
 have all:∀ l B,Sx.look l (xs++erL)=some B->okB V W l B/\B.owned=false:=by
  intro l B hl
  rcases List.mem_append.1 (fT hl) with hm | hm
  .exact hx V (fun _=>rfl) _ hm
  simp only [erL,erO,ZG,Fp,List.cons_append,oR,List.mem_cons,List.not_mem_nil,or_false,Prod.mk.injEq] at hm
  rcases hm with ⟨rfl,rfl⟩ | ⟨rfl,rfl⟩ | ⟨rfl,rfl⟩ | ⟨rfl,rfl⟩ | ⟨rfl,rfl⟩ | ⟨rfl,rfl⟩ | ⟨rfl,rfl⟩ | ⟨rfl,rfl⟩ | ⟨rfl,rfl⟩ | ⟨rfl,rfl⟩ | ⟨rfl,rfl⟩ | ⟨rfl,rfl⟩ | ⟨rfl,rfl⟩
  .exact ⟨yB rfl rfl e4,rfl⟩
  .exact ⟨yB rfl rfl e6,rfl⟩
  .exact ⟨pR rfl f0 g0,rfl⟩
  .exact ⟨pR rfl f2 g2,rfl⟩
  .exact ⟨pR rfl f4 g4,rfl⟩
  .exact ⟨pR rfl f6 g6,rfl⟩
  .exact ⟨pR rfl f8 g8,rfl⟩
  .exact ⟨yB rfl rfl e0,rfl⟩
  .exact ⟨yB rfl rfl e2,rfl⟩
  .exact ⟨Sp rfl i17,rfl⟩
  .exact ⟨Sp rfl i18,rfl⟩
  .exact ⟨Kp (zs:=[1634760805,857760878,2036477234,1797285236]) (by decide) rfl hbg,rfl⟩
  .exact ⟨Kp (zs:=CY) (by decide) rfl fun j z hj=>(by
    obtain ⟨i,k,zs,rfl,hk,h1,h2⟩:=Xh j z hj
    exact hr i k zs z h1 h2 hk),rfl⟩
 refine ⟨V,⟨fun l B hl=>(all l B hl).1,fun l B l' B' n _ hl _ ho=>?_,fun l B n hl ho=>?_,gG.refl _ _⟩,fun k l hk=>?_,fun l hl=>⟨?_,?_⟩,fun _=>rfl⟩
 .rw [(all l B hl).2] at ho;cases ho
 .rw [(all l B hl).2] at ho;cases ho
 .have hm:=fT hk
  simp only [aA,List.mem_cons,List.not_mem_nil,or_false,Prod.mk.injEq] at hm
  rcases hm with ⟨rfl,rfl⟩ | ⟨rfl,rfl⟩ | ⟨rfl,rfl⟩ | ⟨rfl,rfl⟩ | ⟨rfl,rfl⟩ | ⟨rfl,rfl⟩ | ⟨rfl,rfl⟩ | ⟨rfl,rfl⟩ | ⟨rfl,rfl⟩ | ⟨rfl,rfl⟩ | ⟨rfl,rfl⟩ | ⟨rfl,rfl⟩ <;> rfl
 .show Sx.look l bl=none
  cases hlk:Sx.look l bl with
  | none=>rfl
  | some p=>
    exfalso
    have hm:=fT hlk
    have kB:bl.all (fun x=>Nat.blt x.1 100)=true:=rfl
    have:=List.all_eq_true.1 kB _ hm
    simp only [Nat.blt_eq] at this
    omega
 .show Sx.look l sl=none
  cases hlk:Sx.look l sl with
  | none=>rfl
  | some p=>
    exfalso
    have hm:=fT hlk
    have:=List.all_eq_true.1 Mc _ hm
    simp only [Nat.blt_eq] at this
    omega
end Go.Proofs.YtnodfocobmghiaaGreatDoor.Aea
end
namespace Go.Proofs.YtnodfocobmghiaaGreatDoor.Sx
theorem ZZ {xs ys:List Int} {r:List Prop} (h:xs=ys) (hr:∀ q∈r,q):∀ q∈qO xs ys r,q:=by
 subst h
 unfold qO
 generalize List.range 32=l
 induction l with
 | nil=>exact hr
 | cons a l ih=>exact aN rfl ih
namespace Q
end Q
namespace Q
theorem aDn (n:Int) {l:Nat} (hl:l<=200000):∃ m:Nat,sp n (IntKind.i64.wrap ((l:Int)+1))=m/\m<=l:=by
 have hw:IntKind.i64.wrap ((l:Int)+1)=(l:Int)+1:=IntWalk.i64_in _ ⟨by omega,by omega⟩
 have h1:=Int.tmod_lt_of_pos n (show (0:Int)<(l:Int)+1 by omega)
 have h2:=Int.lt_tmod_of_pos n (show (0:Int)<(l:Int)+1 by omega)
 rw [hw]
 unfold sp
 split
 .rename_i h
  rw [IntWalk.i64_in _ ⟨by omega,by omega⟩]
  exact ⟨(n.tmod ((l:Int)+1)+((l:Int)+1)).toNat,by omega,by omega⟩
 .exact ⟨(n.tmod ((l:Int)+1)).toNat,by omega,by omega⟩
theorem aHt (bs:List Int):(enY bs (List.replicate (bs.length+3) 0))=bs++[0,0,0]:=by
 unfold enY
 rw [Nat.zero_add,List.drop_replicate,Nat.add_sub_cancel_left,List.take_zero,oR]
 rfl
theorem aHu (bs:List Int):(bs++[0,0,0]).take (0+bs.length)++[171,171,171]++(bs++[0,0,0]).drop (0+bs.length+3)=bs++[171,171,171]:=by
 rw [Nat.zero_add,List.take_left,List.drop_eq_nil_of_le (by simp),List.append_nil]
theorem Bj (bs t:List Int) {j:Nat}:(bs++t).getD (bs.length+j) 0=t.getD j 0:=by
 rw [gH,gH,List.getElem?_append_right (by omega),Nat.add_sub_cancel_left]
end Q
theorem aHr {x n:Int} {key ad bs:List Int} (h:ad.length>200000\/bs.length>200000):aE Tryz.prog (Cq Q.fQ Q.rx 0 0 true true) 7 (Jb x n key ad.length bs.length) (OB ad bs) 100 100 { val:=.bool true true }:=by
 have hI:∀ hs,aF Tryz.prog (Cq Q.fQ Q.rx 0 0 true true) 7 (aJ (Cq Q.fQ Q.rx 0 0 true true) Tryz.f7 true hs 400):=fun hs=>aM (Sf _ _ _ _ _ _) (Sg _ _ _ _ _ _) mix Tryz.func7 (by kernel_rfl) true hs 400
 by_cases h1:ad.length>200000
 .exact ((hI _).call (aUv _ _ _ _ _ x n key ad bs) (aB ⟨decide_eq_true (by omega),trivial⟩)).words rfl (fun _=>rfl) (fun _ _ h=>h) (fun _=>rfl) rfl rfl
 .exact ((hI _).call (aUu _ _ _ _ _ x n key ad bs) (aB ⟨decide_eq_true (by omega),nD (by omega),trivial⟩)).words rfl (fun _=>rfl) (fun _ _ h=>h) (fun _=>rfl) rfl rfl
set_option maxHeartbeats 1000000 in
theorem LF {x n:Int} {key ad bs:List Int} {m:Nat} {s o:Bool} (C R:List Int) (hC:C=Q.fQ (M.Fg R) 18446744073709551614 ad Yx 0) (hR:R=Q.rx key) (hm:Q.sp n (IntKind.i64.wrap ((bs.length:Int)+1))=m) (hml:m<=bs.length) (hs:decide ((bs.length:Int)-(m:Int)>=16)=s) (ho:decide ((m:Int)>=16)=o)
 (hk:key.length=32) (ha:bX ad) (la:ad.length<=200000) (lb:bs.length<=200000) :
 aE Tryz.prog (Cq (fun _ _ _ _ _=>C) (fun _=>R) (wU x) m s o) 7 (Jb x n key ad.length bs.length) (OB ad bs) 100 100 { val:=.bool true true }:=by
 have he:=LD x
 have hE:QE (wU x) x:=⟨rfl⟩
 generalize wU x=e at *
 have aW:=Sf (fun _ _ _ _ _=>C) (fun _=>R) e m s o
 have aY:=Sg (fun _ _ _ _ _=>C) (fun _=>R) e m s o
 refine iE aW aY Tryz.func7 (by kernel_rfl) rfl (kJ (by kernel_rfl)) rfl [] ?_
 intro w0 Mx V0 Qx fB H
 have hk3:=M.FG hk
 have w3:IntKind.i64.wrap ((bs.length:Int)+3)=((bs.length+3:Nat):Int):=by rw [IntWalk.i64_in _ ⟨by omega,by omega⟩];omega
 have w2:IntKind.i64.wrap ((bs.length:Int)+2)=((bs.length+2:Nat):Int):=by rw [IntWalk.i64_in _ ⟨by omega,by omega⟩];omega
 have w1:IntKind.i64.wrap ((bs.length:Int)+1)=((bs.length+1:Nat):Int):=by rw [IntWalk.i64_in _ ⟨by omega,by omega⟩];omega
 have wd:IntKind.i64.wrap ((bs.length:Int)-(m:Int))=(bs.length:Int)-(m:Int):=IntWalk.i64_in _ ⟨by omega,by omega⟩
 have hsp:QC n (IntKind.i64.wrap ((bs.length:Int)+1)) m:=⟨hm⟩
 have d1:decide ((bs.length:Int)>200000)=false:=nD (by omega)
 have d2:decide ((ad.length:Int)>200000)=false:=nD (by omega)
 refine G.hZ aW aY mix fB [false,false] (aUx e he (fun _ _ _ _ _=>C) (fun _=>R) m s o x n key ad bs (bs++[171,171,171]) bs.length (bs.length+3) (bs.length+3) (bs.length+3)) ?_ ?_
 .rw [w3,qZ,Q.aHt]
  unfold aLb
  refine aN hsp ?_
  rw [w1]
  repeat' first | exact gM | refine ZZ ?_ ?_ | refine aN ?_ ?_
  all_goals first | with_reducible rfl | with_reducible assumption | exact ⟨Q.aHu bs,rfl⟩ | omega | (simp only [qZ,List.length_append,List.length_replicate,List.length_cons,List.length_nil];omega) | exact ⟨by simp;omega,by first | (simp;done) | (simp;omega) | omega⟩
 have hRx:QD (fun _=>R) key:=⟨hR⟩
 have hSb:Vr (fun _ _ _ _ _=>C) (M.Fg R) 18446744073709551614 ad Yx 0:=⟨hC⟩
 have hRl:=M.Ps R
 have hz:bX (Yx.take 0):=fun _ h=>by cases h
 have hV:((bs++[171,171,171]).drop 0).take bs.length=bs:=by rw [List.drop_zero,List.take_left]
 have q0:((bs++[171,171,171]).getD (0+(bs.length:Int).toNat*1+0) 0==171)=true:=by
  have:0+(bs.length:Int).toNat*1+0=bs.length+0:=by omega
  rw [this,Q.Bj];rfl
 have q1:((bs++[171,171,171]).getD (0+((bs.length+1:Nat):Int).toNat*1+0) 0==171)=true:=by
  have:0+((bs.length+1:Nat):Int).toNat*1+0=bs.length+1:=by omega
  rw [this,Q.Bj];rfl
 have q2:(!((bs++[171,171,171]).getD (0+((bs.length+2:Nat):Int).toNat*1+0) 0==171))=false:=by
  have:0+((bs.length+2:Nat):Int).toNat*1+0=bs.length+2:=by omega
  rw [this,Q.Bj];rfl
 have o1:decide ((m:Int)<16) = !o:=by rw [<- ho];by_cases h:(m:Int)<16 <;> simp [h,Int.not_le.2] <;> omega
 have s1:decide ((bs.length:Int)-(m:Int)<16) = !s:=by rw [<- hs];by_cases h:(bs.length:Int)-(m:Int)<16 <;> simp [h] <;> omega
 have s2:(!decide ((bs.length:Int)-(m:Int)>=16)) = !s:=by rw [hs]
 have o2:(!decide ((m:Int)>=16)) = !o:=by rw [ho]
 have m1:(!decide ((m:Int)<=(bs.length:Int)))=false:=by rw [decide_eq_true (by omega)];rfl
 have m2:decide ((m:Int)>=0)=true:=decide_eq_true (by omega)
 have l3:(((bs.length+3:Nat):Int)==((bs.length+3:Nat):Int))=true:=by simp
 refine G.sX (cl:=[]) aW aY mix [false,s,!s,o,!o,false,true] H (aUw e he s o C R m key ad bs (bs++[171,171,171]) bs.length (bs.length+3) (bs.length+3) (bs.length+3)) ?_ rfl rfl rfl
 rw [hV,wd,w1,w2]
 unfold aLa
 rw [hk3,w3]
 repeat' first | exact gM | refine ZZ ?_ ?_ | refine aN ?_ ?_
 all_goals first | with_reducible rfl | with_reducible assumption | exact ⟨rfl,rfl⟩ | omega | (simp only [qZ,List.length_append,List.length_cons,List.length_nil];omega)
theorem aHs {x n:Int} {key ad bs:List Int} (hk:key.length=32) (ha:bX ad) (la:ad.length<=200000) (lb:bs.length<=200000) :
 ∃ Γ:Env,Γ.aR=aA/\aE Tryz.prog Γ 7 (Jb x n key ad.length bs.length) (OB ad bs) 100 100 { val:=.bool true true }:=by
 obtain ⟨m,hm,hml⟩:=Q.aDn n lb
 exact ⟨_,rfl,LF (Q.fQ (M.Fg (Q.rx key)) 18446744073709551614 ad Yx 0) (Q.rx key) rfl rfl hm hml rfl rfl hk ha la lb⟩
end Go.Proofs.YtnodfocobmghiaaGreatDoor.Sx
section
open Go Go.Proofs.YtnodfocobmghiaaGreatDoor
set_option maxRecDepth 100000
namespace Go.Proofs.YtnodfocobmghiaaGreatDoor.CipherEnds
open Go.ChangeShapes Go.WideShapes Go.ChangeAt Go.RowKit Go.Proofs.YtnodfocobmghiaaGreatDoor.Sx Go.Proofs.YtnodfocobmghiaaGreatDoor.Aea
theorem walk {W:World} (h:laidMet Tryz.prog yF W) {x n:Int} {v2 v3:Value} {key ad bs:List Int} (_:(Lit.int .i64 x).wf=true) (hk:key.length=32) (_:bX key) (r2:vP W .u8 v2 ad) (b2:bX ad) (r3:vP W .u8 v3 bs) (_:bX bs) (_:(Lit.int .i64 n).wf=true) :
 Calls Tryz.prog 7 #[.int .i64 x,.agg (key.map (Value.int .u8)).toArray,v2,v3,.int .i64 n] W fun e w'=>e = .returned (.bool true)/\Below W.heap.size W w':=by
 obtain ⟨V,k1,k2,k3,k4⟩:=HM h [(60,.iT .u8 ad),(61,.iT .u8 bs)] [(60,v2),(61,v3)] rfl fun V hV x hx=>by
  simp only [List.mem_cons,List.not_mem_nil,or_false] at hx
  rcases hx with rfl | rfl
  .exact ⟨⟨_,rfl,v2,by rw [hV];rfl,r2⟩,rfl⟩
  .exact ⟨⟨_,rfl,v3,by rw [hV];rfl,r3⟩,rfl⟩
 have k5:V.σ 60=some v2:=(k4 60).trans rfl
 have k6:V.σ 61=some v3:=(k4 61).trans rfl
 have Vi:aI V (Jb x n key ad.length bs.length)=some [.int .i64 x,.agg (key.map (Value.int .u8)).toArray,v2,v3,.int .i64 n]:=by
  simp only [Jb,aI,den,k5,k6,mZ,So r2,So r3,gQ]
 have fin:∀ (V':bA) (x:Value) (w':World),V.ext 100 V'->den V' (.bool true true)=some x->aD W (fun _=>False) V' (eQ (OB ad bs) 100 { val:=.bool true true }) w'->Ending.returned x = .returned (.bool true)/\Below W.heap.size W w':=by
  intro V' x w' _ hx hT
  simp only [den,aV] at hx
  subst hx
  exact ⟨rfl,hT.frame.os,hT.frame.tape,hT.frame.output,hT.frame.size,fun k hk=>hT.frame.block k hk (fun h=>h)⟩
 by_cases hs:ad.length<=200000/\bs.length<=200000
 .obtain ⟨Γ,hΓ,hC⟩:=Sx.aHs (x:=x) (n:=n) hk b2 hs.1 hs.2
  exact calls hC Tryz.func7 (by kernel_rfl) (c:=codeOf Tryz.f7) rfl k1 (fun n l hn=>k2 n l (by rw [hΓ] at hn;exact hn)) (fun l MW _=>k3 l MW) k3 Vi fin
 .exact calls (Sx.aHr (by omega)) Tryz.func7 (by kernel_rfl) (c:=codeOf Tryz.f7) rfl k1 (fun n l hn=>k2 n l hn) (fun l MW _=>k3 l MW) k3 Vi fin
end Go.Proofs.YtnodfocobmghiaaGreatDoor.CipherEnds
end
