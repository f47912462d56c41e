/- A part of the proof of CipherOfNothing: Ref4m to Ref4m. -/
import Derived.Test.YtaibhjpgbckbkaaGreatDoorPC
open Go
set_option maxRecDepth 100000
namespace Go.Proofs.YtaibhjpgbckbkaaGreatDoor.Sx
def aBc (vs:List SV) (T:bA):Option Canon:=match vs with
 | [d]=>match fG T .i64 d with
   | some (ob,xs)=>some { eR:=wL xs.length,T0:=[(61,.dK .i64 xs)],vl:=[(61,.arg 0)],e0:={ val:=.ai .i64 (M.num (M.V xs%M.p)) },conds:=(xs.length<=100)::Ds 1099511627776 xs::((M.carried xs).length<=33)::ob }
   | none=>none
 | _=>none
def leS:Sum:=aK aB 100 aBc
theorem aPo (Γ:Env) (hg:Γ.aU=aB):aH Tryz.prog Γ 173 leS:=by
 refine aT hg fun vs T c hd hc=>?_
 unfold aBc at hd
 split at hd
 case h_2=>cases hd
 split at hd
 case h_2=>cases hd
 cases hd
 exact (VA _ (hc _ (by simp)) (hc _ (by simp)) (hc _ (by simp))).words (by rw [hg];rfl) (fun _=>rfl) (fun _ _ h=>h) (fun V=>cF V (M.jX _)) rfl rfl
def CD (f:Nat):Option Sum:=match Nat.beq f 173 with
 | true=>some leS
 | false=>fF f
theorem XS (f:Nat) (S:Sum) (h:CD f=some S) (Γ:Env) (hg:Γ.aU=aB):aH Tryz.prog Γ f S:=by
 unfold CD at h
 split at h
 .rename_i hb;have:=Nat.eq_of_beq_eq_true hb;subst this;cases h;exact aPo Γ hg
 .exact lA f S h Γ
noncomputable def Γm:Env:=env CD 3
theorem Br:bX Tryz.prog Γm:=bJ CD XS 3
theorem Bq:cG Tryz.prog Γm:=bH CD 3
def noT:bA:=fun l=>look l []
def BM (n:Nat) (Y:List Int):List Prop:=
 [(M.num (M.V ((Y.drop 0).take n)%M.p)).length=17,(M.num (M.V ((Y.drop 0).take n)%M.p)).length=17,((Y.drop 0).take n).length<=100,Ds 1099511627776 ((Y.drop 0).take n),(M.carried ((Y.drop 0).take n)).length<=33,
   n<=Y.length/\n<=n,n<=Y.length/\n<=n,((Y.drop 0).take n).length=((Y.drop 0).take n).length,(Y.drop 0).take n=(Y.drop 0).take n,n<=Y.length/\n<=n]
namespace M
def QY (b:List Int):List Int:=(List.range 17).map fun j=>IntKind.i64.wrap (b.getD j 0)
def Ky (a b:List Int):List Int:=(List.range 17).map fun j=>IntKind.i64.wrap (a.getD j 0+b.getD j 0)
end M
theorem aHb (b:List Int) :
 aR Γm Tryz.f146 true [] 400 [.agg (cQ .u8 17 b)] noT 100 100 =
 some {bV:=BM 17 (M.QY b),val:=.ai .i64 (M.num (M.V (((M.QY b).drop 0).take 17)%M.p))}:=by kernel_rfl
theorem aHc (a b:List Int) :
 aR Γm Tryz.f145 true [] 400 [.agg (cQ .i64 17 a),.agg (cQ .i64 17 b)] noT 100 100 =
 some {bV:=BM 17 (M.Ky a b),val:=.ai .i64 (M.num (M.V (((M.Ky a b).drop 0).take 17)%M.p))}:=by kernel_rfl
namespace M
def tC (b:List Int) (i:Nat):Int:=match i%4 with
 | 3=>(IntKind.i64.wrap (b.getD i 0)).tmod 16
 | 0=>match i with
   | 0=>IntKind.i64.wrap (b.getD i 0)
   | _=>IntKind.i64.wrap (IntKind.i64.wrap (b.getD i 0)-(IntKind.i64.wrap (b.getD i 0)).tmod 4)
 | _=>IntKind.i64.wrap (b.getD i 0)
def lB (b:List Int):List Int:=(List.range 16).map (tC b)
def sc (a s:List Int):Nat->Int
 | 0=>0
 | i+1=>IntKind.i64.wrap ((IntKind.i64.wrap (IntKind.i64.wrap (sc a s i+a.getD i 0)+IntKind.i64.wrap (s.getD i 0))).tdiv 256)
def Dy (a s:List Int):List Int:=(List.range 16).map fun i=>IntKind.u8.wrap ((IntKind.i64.wrap (IntKind.i64.wrap (sc a s i+a.getD i 0)+IntKind.i64.wrap (s.getD i 0))).tmod 256)
end M
theorem aHa (b:List Int) :
 aR Γm Tryz.f143 true [] 400 [.agg (cQ .u8 16 b)] noT 100 100 =
 some {val:=.agg ((M.lB b).map (.int false .i64)++[.int true .i64 0])}:=by kernel_rfl
theorem aGs (a s:List Int) :
 aR Γm Tryz.f147 true [] 400 [.agg (cQ .i64 17 a),.agg (cQ .u8 16 s)] noT 100 100 =
 some {val:=.agg ((M.Dy a s).map (.int false .u8))}:=by kernel_rfl
namespace M
def eN (a b:List Int) (i:Nat):Nat->List Int->List Int
 | 0,d=>d
 | k+1,d=>(eN a b i k d).set (i+k) (IntKind.i64.wrap ((eN a b i k d).getD (i+k) 0+IntKind.i64.wrap (a.getD i 0*b.getD k 0)))
def mulL (a b:List Int):Nat->List Int
 | 0=>List.replicate 33 0
 | i+1=>eN a b i 17 (mulL a b i)
end M
theorem aGt (a b:List Int) :
 aR Γm Tryz.f144 true [] 400 [.agg (cQ .i64 17 a),.agg (cQ .i64 17 b)] noT 100 100 =
 some {bV:=BM 33 (M.mulL a b 17),val:=.ai .i64 (M.num (M.V (((M.mulL a b 17).drop 0).take 33)%M.p))}:=by kernel_rfl
end Go.Proofs.YtaibhjpgbckbkaaGreatDoor.Sx
