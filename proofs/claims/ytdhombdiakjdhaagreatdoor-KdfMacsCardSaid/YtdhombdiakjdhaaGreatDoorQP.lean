/- slow.Digest: summary. -/
import Derived.Test.YtdhombdiakjdhaaGreatDoorCards
import Derived.Test.YtdhombdiakjdhaaGreatDoorTie
import Derived.ProofKit
import Derived.OpenShut
import Derived.Below
import Derived.Carry
import Derived.LaidLaws
import Derived.Lay
import Derived.MakeChecks
import Derived.Deep.DeepHandedRow
import Derived.Deep.DeepWitnessRowRef
import Derived.Lib.LaidTab
import Derived.Stop.ErrReads
import Derived.Laws.LoneSync
import Derived.RangeFuncNested
import Derived.RangeFuncLeaves
import Derived.RangeFuncBox
import Derived.Shelf.Abstract
import Derived.WalkKit
import Derived.OwnWalkIn
import Derived.TacticsInMore
import Derived.LoopNIn
import Derived.LoopIn
import Derived.Maps.AppendAt
import Derived.Test.YtdhombdiakjdhaaGreatDoorQO
section
open Go
set_option maxRecDepth 100000
namespace Go.Proofs.YtdhombdiakjdhaaGreatDoor.Sx
theorem TabOK.goneL {w0 w : World} {M : Nat → Prop} {V : Val} {T : Tab} (h : TabOK w0 M V T w) (l0 : Nat) : TabOK w0 M V (fun l => if l = l0 then some .gone else T l) w where
 ok := fun l B hl => by
  by_cases e : l = l0
  ·rw [if_pos e] at hl; cases hl; exact ⟨[], rfl, trivial⟩
  ·rw [if_neg e] at hl; exact h.ok l B hl
 dist := fun l B l' B' n hne hl hl' ho hb => by
  by_cases e : l = l0
  ·rw [if_pos e] at hl; cases hl; cases ho
  ·rw [if_neg e] at hl
   by_cases e' : l' = l0
   ·rw [if_pos e'] at hl'; cases hl'; intro q; cases q
   ·rw [if_neg e'] at hl'; exact h.dist l B l' B' n hne hl hl' ho hb
 perm := fun l B n hl ho hb => by
  by_cases e : l = l0
  ·rw [if_pos e] at hl; cases hl; cases ho
  ·rw [if_neg e] at hl; exact h.perm l B n hl ho hb
 frame := h.frame
 fro := fun l B hl => by
  by_cases e : l = l0
  ·rw [if_pos e] at hl; cases hl; trivial
  ·rw [if_neg e] at hl; exact h.fro l B hl
theorem CallOK.gone {P : Program} {Γ : Env} {f : FuncId} {vs : List SV} {T : Tab} {lab F l0 : Nat} {e : Eff} (h : CallOK P Γ f vs T lab F e) (hn : look l0 (e.tab lab) = none) :
  CallOK P Γ f vs T lab F { e with wr := (l0, .gone) :: e.wr } := by
 intro w0 M V T2 w ys hsub hT1 hg hf hF hx op a K Q hK
 refine h w0 M V T2 w ys hsub hT1 hg hf hF hx op a K Q fun V' x w' h1 h2 h3 => hK V' x w' h1 h2 ?_
 have e1 : upd T2 lab { e with wr := (l0, .gone) :: e.wr } = fun l => if l = l0 then some .gone else upd T2 lab e l := by
  funext l
  simp only [upd, Eff.tab, List.cons_append] at hn ⊢
  by_cases q : l = l0
  ·subst q; rw [look_cons_eq, if_pos rfl]
  ·rw [look_cons_ne (fun r => q r.symm), if_neg q]
 rw [e1]
 exact h3.goneL l0
def vlP (l : Nat) : Nat → Nat → List (Nat × Src0)
 | 0, _ => []
 | n + 1, i => (63 + i, .cell l i) :: vlP l n (i + 1)
def pcs (T : Tab) : SV → Option (Bool × Nat × List SV)
 | .slc l true 0 _ _ => match T l with
   | some B => (pcC B).map fun cs => (false, l, cs)
   | none => none
 | .slcR l 0 _ 0 => match T l with
   | some (.row sz cs ty) => match Nat.beq sz 1 && Nat.beq ty 22 with
     | true => some (true, l, cs)
     | false => none
   | _ => none
 | _ => none
def sgE (f : Bool) (ps : List (List Int)) : Eff := match f with
 | true => { val := .tup [.slcR 100 0 32 0, .raw .nilIface], new := [.row 1 ((D.hash ps.flatten).map (.int false .u8)) 5], wr := [(62, .gone)] }
 | false => { val := .tup [.slcR 100 0 32 0, .raw .nilIface], new := [.row 1 ((D.hash ps.flatten).map (.int false .u8)) 5] }
def sgDec (vs : List SV) (T : Tab) : Option Canon := match vs with
 | [.int true .i64 n, .raw (.slice none 0 0), v] => match beqI n 32, pcs T v with
   | true, some (f, l, cs) => match rdP T cs with
     | some (ob, ps) => some { vs0 := sgVs f ps.length, T0 := sgL f ps, vl := (62, .lab l 0) :: vlP l ps.length 0, e0 := sgE f ps, conds := [ps.flatten.length ≤ 1000000000, 1 ≤ ps.length ∧ ps.length ≤ 4] ++ ob }
     | none => none
   | _, _ => none
 | _ => none
theorem sg_call (f : Bool) (ps : List (List Int)) (hl : ps.flatten.length ≤ 1000000000) (hn : 1 ≤ ps.length ∧ ps.length ≤ 4) (Γ : Env) (hg : Γ.glob = globs) : CallOK Tryz.prog Γ 92 (sgVs f ps.length) (sgT f ps) 100 100 (sgE f ps) := by
 have h : CallOK Tryz.prog Γ 92 (sgVs f ps.length) (sgT f ps) 100 100 (sgRes ps.flatten) := by
  match ps, hn with
  | [a], _ =>
    have h := sg1_call f a (by simpa using hl) Γ hg
    rw [show [a].flatten = a by simp]
    exact h
  | [a, b], _ =>
    have h := sg2_call f a b (by simpa using hl) Γ hg
    rw [show [a, b].flatten = a ++ b by simp]
    exact h
  | [a, b, c], _ =>
    have h := sg3_call f a b c (by simpa [Nat.add_assoc] using hl) Γ hg
    rw [show [a, b, c].flatten = a ++ b ++ c by simp]
    exact h
  | [a, b, c, d], _ =>
    have h := sg4_call f a b c d (by simpa [Nat.add_assoc] using hl) Γ hg
    rw [show [a, b, c, d].flatten = a ++ b ++ c ++ d by simp]
    exact h
  | [], hn => simp at hn
  | _ :: _ :: _ :: _ :: _ :: _, hn => simp at hn
 cases f with
 | false => exact h
 | true => exact h.gone (l0 := 62) rfl
theorem sg_ok (Γ : Env) (hg : Γ.glob = globs) : SumOK Tryz.prog Γ 92 (canonS globs 100 sgDec) := by
 refine canonS_ok hg fun vs T c hd hc => ?_
 unfold sgDec at hd
 split at hd
 case h_2 => cases hd
 split at hd
 case h_2 => cases hd
 split at hd
 case h_2 => cases hd
 cases hd
 exact sg_call _ _ (hc _ (by simp)) (hc _ (by simp)) Γ hg
noncomputable def exSg : Nat → Option Sum := addS exA 92 (canonS globs 100 sgDec)
theorem exSg_ok : ∀ f S, exSg f = some S → ∀ Γ : Env, Γ.glob = globs → SumOK Tryz.prog Γ f S := addS_ok (fun f S h Γ _ => exA_ok f S h Γ) 92 _ sg_ok
end Go.Proofs.YtdhombdiakjdhaaGreatDoor.Sx
end
section
open Go
set_option maxRecDepth 100000
namespace Go.Proofs.YtdhombdiakjdhaaGreatDoor.Sx
def lenO : List (List Int) → List Prop
 | [] => []
 | d :: r => (d.length = d.length) :: (d.length = d.length) :: lenO r
def sameO : List (List Int) → List Prop
 | [] => []
 | d :: r => (d = d) :: sameO r
theorem lenO_ok : ∀ ps, ∀ q ∈ lenO ps, q
 | [] => mem0
 | _ :: r => mem1 rfl (mem1 rfl (lenO_ok r))
theorem sameO_ok : ∀ ps, ∀ q ∈ sameO ps, q
 | [] => mem0
 | _ :: r => mem1 rfl (sameO_ok r)
def whO (f : Bool) (ps : List (List Int)) : List Prop := (ps.flatten.length ≤ 1000000000) :: (1 ≤ ps.length ∧ ps.length ≤ 4) :: pO f ps.length (lenO ps ++ sameO ps)
def goneW : Bool → List (Nat × SB)
 | true => [(62, .gone)]
 | false => []
def whR (f : Bool) (ps : List (List Int)) : Eff := { obl := whO f ps, val := .agg ((D.hash ps.flatten).map (.int false .u8)), wr := goneW f }
theorem wh1 (f : Bool) (a : List Int) : interp (env exSg 4) Tryz.f51 true [] 1500 [pv f 1] (sgT f [a]) 100 100 = some (whR f [a]) := by cases f <;> kernel_rfl
theorem wh2 (f : Bool) (a b : List Int) : interp (env exSg 4) Tryz.f51 true [] 1500 [pv f 2] (sgT f [a, b]) 100 100 = some (whR f [a, b]) := by cases f <;> kernel_rfl
theorem wh3 (f : Bool) (a b c : List Int) : interp (env exSg 4) Tryz.f51 true [] 1500 [pv f 3] (sgT f [a, b, c]) 100 100 = some (whR f [a, b, c]) := by cases f <;> kernel_rfl
theorem wh4 (f : Bool) (a b c d : List Int) : interp (env exSg 4) Tryz.f51 true [] 1500 [pv f 4] (sgT f [a, b, c, d]) 100 100 = some (whR f [a, b, c, d]) := by cases f <;> kernel_rfl
theorem wh_call (f : Bool) (ps : List (List Int)) (hl : ps.flatten.length ≤ 1000000000) (hn : 1 ≤ ps.length ∧ ps.length ≤ 4) (Γ : Env) (hg : Γ.glob = globs) :
  CallOK Tryz.prog Γ 51 [pv f ps.length] (sgT f ps) 100 100 { val := .ai .u8 (D.hash ps.flatten), wr := goneW f } := by
 have hs : SumOK Tryz.prog (env exSg 4) 51 (interp (env exSg 4) Tryz.f51 true [] 1500) :=
  interp_ok (env_ty exSg 4) (env_ok exSg exSg_ok 4) mix Tryz.func51 (by kernel_rfl) true [] 1500
 have hr : interp (env exSg 4) Tryz.f51 true [] 1500 [pv f ps.length] (sgT f ps) 100 100 = some (whR f ps) := by
  match ps, hn with
  | [a], _ => exact wh1 f a
  | [a, b], _ => exact wh2 f a b
  | [a, b, c], _ => exact wh3 f a b c
  | [a, b, c, d], _ => exact wh4 f a b c d
  | [], hn => simp at hn
  | _ :: _ :: _ :: _ :: _ :: _, hn => simp at hn
 have ho : ∀ q ∈ whO f ps, q := mem1 hl (mem1 hn (pO_ok (memA (lenO_ok ps) (sameO_ok ps))))
 refine (hs.call hr ho).words (by rw [hg]; rfl) (fun _ => rfl) (fun _ _ h => h) (fun V => ?_) rfl rfl
 show den V (.agg _) = den V (.ai _ _)
 simp only [den, denL_map_int]
 rfl
def whDec (vs : List SV) (T : Tab) : Option Canon := match vs with
 | [v] => match pcs T v with
   | some (f, l, cs) => match rdP T cs with
     | some (ob, ps) => some { vs0 := [pv f ps.length], T0 := sgL f ps, vl := (62, .lab l 0) :: vlP l ps.length 0, e0 := { val := .ai .u8 (D.hash ps.flatten), wr := goneW f }, conds := [ps.flatten.length ≤ 1000000000, 1 ≤ ps.length ∧ ps.length ≤ 4] ++ ob }
     | none => none
   | none => none
 | _ => none
theorem wh_ok (Γ : Env) (hg : Γ.glob = globs) : SumOK Tryz.prog Γ 51 (canonS globs 100 whDec) := by
 refine canonS_ok hg fun vs T c hd hc => ?_
 unfold whDec at hd
 split at hd
 case h_2 => cases hd
 split at hd
 case h_2 => cases hd
 split at hd
 case h_2 => cases hd
 cases hd
 exact wh_call _ _ (hc _ (by simp)) (hc _ (by simp)) Γ hg
noncomputable def exWh : Nat → Option Sum := addS exA 51 (canonS globs 100 whDec)
theorem exWh_ok : ∀ f S, exWh f = some S → ∀ Γ : Env, Γ.glob = globs → SumOK Tryz.prog Γ f S := addS_ok (fun f S h Γ _ => exA_ok f S h Γ) 51 _ wh_ok
end Go.Proofs.YtdhombdiakjdhaaGreatDoor.Sx
end
section
open Go
set_option maxRecDepth 100000
namespace Go.Proofs.YtdhombdiakjdhaaGreatDoor.Sx
def plainV : List SV := [.int true .i64 2, .fn (.func 46) [] [], .fn (.func 47) [] [], .fn (.func 48) [] [], .fn (.func 49) [] [], .fn (.func 50) [] [], .fn (.func 51) [] []]
noncomputable def ΓPl : Env := env exWh 7
theorem ΓPl_ty : TyOK Tryz.prog ΓPl := env_ty exWh 7
theorem ΓPl_ok : SumsOK Tryz.prog ΓPl := env_ok exWh exWh_ok 7
def pmL (key : List Int) (ps : List (List Int)) : List (Nat × SB) := (61, .rov .u8 key) :: (62, .roc (pcV ps 63)) :: (pcB ps 63 ++ glB)
def pmVs (k n : Nat) : List SV := [.agg plainV, .ros 61 k, .slc 62 true 0 n n]
def pmT (key : List Int) (ps : List (List Int)) : Tab := fun l => look l (pmL key ps)
noncomputable def pmM (key : List Int) (ps : List (List Int)) (cf : Cf) (K : List Fr) (s : St) : Option Cfg := mrun ΓPl (cutT 100 (pmT key ps)) 100 Tryz.f11.ntmps [8] 400 2000 cf K s
def pmTb (a b : List Int) : List (Nat × SB) := [(100, .own plainV 33), (101, .own (List.replicate 32 (.int true .u8 0)) 24), (102, .ints .u8 a 76), (103, .ints .u8 b 76)]
noncomputable def pmR : Option Cfg := pmM [] [] (.go (codeOf Tryz.f11)) [] ((st0 (pmVs 0 0) 100).hint [false])
noncomputable def pmLp : Code := cfgC pmR
noncomputable def pmK : List Fr := cfgF pmR
theorem pm_0 (key a b : List Int) (ps : List (List Int)) (k n : Nat) (i : Int) (hn : n = 1 ∨ n = 2 ∨ n = 3) : toC 100 Tryz.f11.ntmps (cutT 100 (pmT key ps)) [] (hmGs n i) (pmTb a b) 104 [] [] (pmM key ps (.go (codeOf Tryz.f11)) [] ((st0 (pmVs k n) 100).hint [false])) =
  some (.go (.loop pmLp), pmK, lO 64 4 (cp 64 key) ++ [kO 64 key, decide ((k : Int) > 64) = false, 0 = i, cp 64 key = a ∧ 76 = 76, cp 64 key = b ∧ 76 = 76]) := by rcases hn with rfl | rfl | rfl <;> kernel_rfl
theorem pm_2 (key a b a' b' : List Int) (ps : List (List Int)) (n : Nat) (i i' : Int) (hn : n = 1 ∨ n = 2 ∨ n = 3) : toC 100 Tryz.f11.ntmps (cutT 100 (pmT key ps)) [] (hmGs n i') (pmTb a' b') 104 [] [] (pmM key ps (.go pmLp) [] ((stOf (hmGs n i) (pmTb a b) 104 [] []).hint [true])) =
  some (.at .normal, [], [0 + i.toNat * 1 < b.length, 0 ≤ i ∧ i < 64, 0 + i.toNat * 1 + 1 ≤ b.length, 0 ≤ i ∧ i < 64, 0 + i.toNat * 1 < a.length, 0 ≤ i ∧ i < 64, 0 + i.toNat * 1 + 1 ≤ a.length, 0 ≤ i ∧ i < 64, decide (i < 64) = true, IntKind.i64.wrap (i + 1) = i',
   a.set (0 + i.toNat * 1) (bXor .u8 (a.getD (0 + i.toNat * 1 + 0) 0) 54) = a' ∧ 76 = 76, b.set (0 + i.toNat * 1) (bXor .u8 (b.getD (0 + i.toNat * 1 + 0) 0) 92) = b' ∧ 76 = 76]) := by rcases hn with rfl | rfl | rfl <;> kernel_rfl
theorem pm_3 (key a b : List Int) (ps : List (List Int)) (n : Nat) (i : Int) (hn : n = 1 ∨ n = 2 ∨ n = 3) : toC 100 Tryz.f11.ntmps (cutT 100 (pmT key ps)) [] (hmGs n i) (pmTb a b) 104 [] [] (pmM key ps (.go pmLp) [] ((stOf (hmGs n i) (pmTb a b) 104 [] []).hint [false])) =
  some (.at (.exit 0), [], [decide (i < 64) = false, i = i, a = a ∧ 76 = 76, b = b ∧ 76 = 76]) := by rcases hn with rfl | rfl | rfl <;> kernel_rfl
def pmI (a : List Int) (ds : List (List Int)) : List Int := D.hash (ar 64 a :: ds).flatten
def pmX (a b : List Int) (ds : List (List Int)) : List Int := D.hash [ar 64 b, ar 32 (pmI a ds)].flatten
def pmO (a b : List Int) (ds : List (List Int)) : List Prop :=
 ((pmX a b ds).length = 32) :: ((pmX a b ds).length = 32) :: ((pmX a b ds).length = 32) :: ((pmX a b ds).length = 32) ::
 ([ar 64 b, ar 32 (pmI a ds)].flatten.length ≤ 1000000000) :: (1 ≤ [ar 64 b, ar 32 (pmI a ds)].length ∧ [ar 64 b, ar 32 (pmI a ds)].length ≤ 4) ::
 (64 ≤ b.length ∧ 64 ≤ 64) :: (32 ≤ (pmI a ds).length ∧ 32 ≤ 32) :: (64 ≤ b.length ∧ 64 ≤ 64) :: ((ar 64 b).length = (ar 64 b).length) :: (32 ≤ (pmI a ds).length ∧ 32 ≤ 32) :: ((ar 32 (pmI a ds)).length = (ar 32 (pmI a ds)).length) ::
 (ar 64 b = ar 64 b) :: (64 ≤ b.length ∧ 64 ≤ 64) :: (ar 32 (pmI a ds) = ar 32 (pmI a ds)) :: (32 ≤ (pmI a ds).length ∧ 32 ≤ 32) ::
 ((pmI a ds).length = 32) :: ((pmI a ds).length = 32) :: ((pmI a ds).length = 32) ::
 ((ar 64 a :: ds).flatten.length ≤ 1000000000) :: (1 ≤ (ar 64 a :: ds).length ∧ (ar 64 a :: ds).length ≤ 4) :: (64 ≤ a.length ∧ 64 ≤ 64) :: (ds.length + 1 = (ar 64 a :: ds).length) :: (64 ≤ a.length ∧ 64 ≤ 64) :: ((ar 64 a).length = (ar 64 a).length) ::
 (lenO ds ++ ((ar 64 a = ar 64 a) :: (64 ≤ a.length ∧ 64 ≤ 64) :: sameO ds))
theorem pm_4 (key a b d : List Int) (i : Int) : endC ΓPl (pmT key [d]) 100 100 Tryz.f11 [] (pmM key [d] (.at (.exit 0)) pmK ((stOf (hmGs 1 i) (pmTb a b) 104 [] []).hint [])) = some { obl := pmO a b [d], val := .ai .u8 (pmX a b [d]) } := by kernel_rfl
theorem pm_5 (key a b d d2 : List Int) (i : Int) : endC ΓPl (pmT key [d, d2]) 100 100 Tryz.f11 [] (pmM key [d, d2] (.at (.exit 0)) pmK ((stOf (hmGs 2 i) (pmTb a b) 104 [] []).hint [])) = some { obl := pmO a b [d, d2], val := .ai .u8 (pmX a b [d, d2]) } := by kernel_rfl
theorem pm_6 (key a b d d2 d3 : List Int) (i : Int) : endC ΓPl (pmT key [d, d2, d3]) 100 100 Tryz.f11 [] (pmM key [d, d2, d3] (.at (.exit 0)) pmK ((stOf (hmGs 3 i) (pmTb a b) 104 [] []).hint [])) = some { obl := pmO a b [d, d2, d3], val := .ai .u8 (pmX a b [d, d2, d3]) } := by kernel_rfl
end Go.Proofs.YtdhombdiakjdhaaGreatDoor.Sx
end
section
open Go
set_option maxRecDepth 100000
namespace Go.Proofs.YtdhombdiakjdhaaGreatDoor.Sx
theorem pm_loop {key : List Int} {ps : List (List Int)} {n : Nat} (hn : n = 1 ∨ n = 2 ∨ n = 3) {k : List Int} (hk : k.length = 64)
  {w0 : World} {M : Nat → Prop} {V0 : Val} {Q : Exit → Act → World → Prop} (hb : Base ΓPl (cutT 100 (pmT key ps)) 100 V0)
  (h : G Tryz.prog ΓPl w0 M (cutT 100 (pmT key ps)) Tryz.f11.ntmps 100 V0 (.at (.exit 0)) pmK (stOf (hmGs n 64) (pmTb (padN k 54 64) (padN k 92 64)) 104 [] []) Q) :
  G Tryz.prog ΓPl w0 M (cutT 100 (pmT key ps)) Tryz.f11.ntmps 100 V0 (.go (.loop pmLp)) pmK (stOf (hmGs n 0) (pmTb k k) 104 [] []) Q := by
 have hty := ΓPl_ty
 have hsum := ΓPl_ok
 refine G.loop (fun r s => ∃ i : Nat, i ≤ 64 ∧ r = 64 - i ∧ s = stOf (hmGs n i) (pmTb (padN k 54 i) (padN k 92 i)) 104 [] []) (r0 := 64)
  ⟨0, by omega, rfl, by rw [padN_zero hk, padN_zero hk]; rfl⟩ ?_
 rintro r s ⟨i, hi, rfl, rfl⟩
 by_cases hlt : i < 64
 ·have e1 : 0 + (i : Int).toNat * 1 = i := by omega
  refine G.roundC hty hsum mix hb [true] (pm_2 key _ _ (padN k 54 (i + 1)) (padN k 92 (i + 1)) ps n i ((i + 1 : Nat) : Int) hn) ?_ (64 - (i + 1)) (by omega) ⟨i + 1, hlt, rfl, rfl⟩
  rw [e1, Nat.add_zero]
  have l1 := padN_length k 54 i
  have l2 := padN_length k 92 i
  refine mem1 (by omega) (mem1 (by omega) (mem1 (by omega) (mem1 (by omega) (mem1 (by omega) (mem1 (by omega) (mem1 (by omega) (mem1 (by omega) (mem1 (decide_eq_true (by omega)) (mem1 ?_ (mem1 ⟨padN_succ k 54 hlt, rfl⟩ (mem1 ⟨padN_succ k 92 hlt, rfl⟩ mem0)))))))))))
  rw [IntWalk.i64_in _ (by omega)]; omega
 ·have e : i = 64 := by omega
  subst e
  refine G.toC hty hsum mix hb [false] (pm_3 key _ _ ps n _ hn) (mem1 (by decide) (mem1 rfl (mem1 ⟨rfl, rfl⟩ (mem1 ⟨rfl, rfl⟩ mem0)))) (G.leave (by simp) h)
theorem pmI_eq {a : List Int} (ha : a.length = 64) (ds : List (List Int)) : pmI a ds = D.hash (a ++ ds.flatten) := by unfold pmI; rw [ar_same ha, List.flatten_cons]
theorem pmX_eq {a b : List Int} (ha : a.length = 64) (hb : b.length = 64) (ds : List (List Int)) : pmX a b ds = D.hash (b ++ D.hash (a ++ ds.flatten)) := by
 unfold pmX
 rw [pmI_eq ha, ar_same hb, ar_same (D.hash_length _)]
 simp only [List.flatten_cons, List.flatten_nil, List.append_nil]
theorem pmO_ok {a b : List Int} (ha : a.length = 64) (hb : b.length = 64) {ds : List (List Int)} (hn : 1 ≤ ds.length ∧ ds.length ≤ 3) (hl : ds.flatten.length ≤ 100000000) : ∀ q ∈ pmO a b ds, q := by
 have hX : (pmX a b ds).length = 32 := D.hash_length _
 have hI : (pmI a ds).length = 32 := D.hash_length _
 have e1 : [ar 64 b, ar 32 (pmI a ds)].flatten.length ≤ 1000000000 := by
  rw [ar_same hb, ar_same hI]
  simp only [List.flatten_cons, List.flatten_nil, List.append_nil, List.length_append, hb, hI]
  decide
 have e2 : (ar 64 a :: ds).flatten.length ≤ 1000000000 := by rw [ar_same ha, List.flatten_cons, List.length_append]; omega
 have e3 : 64 ≤ b.length ∧ 64 ≤ 64 := by omega
 have e4 : 64 ≤ a.length ∧ 64 ≤ 64 := by omega
 have e5 : 32 ≤ (pmI a ds).length ∧ 32 ≤ 32 := by omega
 have e6 : 1 ≤ (ar 64 a :: ds).length ∧ (ar 64 a :: ds).length ≤ 4 := by simp only [List.length_cons]; omega
 unfold pmO
 exact mem1 hX (mem1 hX (mem1 hX (mem1 hX (mem1 e1 (mem1 (by simp) (mem1 e3 (mem1 e5 (mem1 e3 (mem1 rfl (mem1 e5 (mem1 rfl (mem1 rfl (mem1 e3 (mem1 rfl (mem1 e5 (mem1 hI (mem1 hI (mem1 hI (mem1 e2 (mem1 e6 (mem1 e4 (mem1 rfl (mem1 e4 (mem1 rfl
  (memA (lenO_ok ds) (mem1 rfl (mem1 e4 (sameO_ok ds))))))))))))))))))))))))))))
theorem pm_call (key : List Int) (ds : List (List Int)) (hk : key.length ≤ 64) (hn : 1 ≤ ds.length ∧ ds.length ≤ 3) (hl : ds.flatten.length ≤ 100000000) (Γ : Env) (hg : Γ.glob = globs) :
  CallOK Tryz.prog Γ 11 (pmVs key.length ds.length) (pmT key ds) 100 100 { val := .ai .u8 (D.hmac key ds.flatten) } := by
 refine CallOK.words (Γ := ΓPl) ?_ (by rw [hg]; rfl) (fun _ => rfl) (fun _ _ h => h) (fun _ => rfl) rfl rfl
 refine call_G ΓPl_ty ΓPl_ok Tryz.func11 (by kernel_rfl) rfl (Nat.le_of_ble_eq_true (by kernel_rfl)) rfl [] ?_
 intro w0 M V0 Q hb H
 have hty := ΓPl_ty
 have hsum := ΓPl_ok
 have hn' : ds.length = 1 ∨ ds.length = 2 ∨ ds.length = 3 := by omega
 refine G.toC hty hsum mix hb [false] (pm_0 key (cp 64 key) (cp 64 key) ds key.length ds.length 0 hn') (memA (lO_ok (cp_length hk)) (mem1 (kO_ok hk) (mem1 (decide_eq_false (by omega)) (mem1 rfl (mem1 ⟨rfl, rfl⟩ (mem1 ⟨rfl, rfl⟩ mem0)))))) ?_
 refine pm_loop hn' (cp_length hk) hb ?_
 rw [padN_cp hk, padN_cp hk]
 have ha := D.pad_length key 54
 have hb2 := D.pad_length key 92
 have hr : endC ΓPl (pmT key ds) 100 100 Tryz.f11 [] (pmM key ds (.at (.exit 0)) pmK ((stOf (hmGs ds.length 64) (pmTb (D.pad key 54) (D.pad key 92)) 104 [] []).hint [])) = some { obl := pmO (D.pad key 54) (D.pad key 92) ds, val := .ai .u8 (pmX (D.pad key 54) (D.pad key 92) ds) } := by
  match ds, hn with
  | [d], _ => exact pm_4 key _ _ d 64
  | [d, e], _ => exact pm_5 key _ _ d e 64
  | [d, e, f], _ => exact pm_6 key _ _ d e f 64
  | [], hn => simp at hn
  | _ :: _ :: _ :: _ :: _, hn => simp at hn
 refine G.finC (cl := []) ΓPl_ty ΓPl_ok mix [] H hr (pmO_ok ha hb2 hn hl) ?_ rfl rfl
 show SV.ai .u8 (pmX _ _ _) = _
 rw [pmX_eq ha hb2]
 unfold D.hmac D.key
 rw [if_pos hk]
theorem denL_intsT (V : Val) (k : IntKind) : ∀ zs : List Int, denL V (zs.map (SV.int true k)) = some (zs.map (Value.int k))
 | [] => rfl
 | z :: r => by simp [denL, den, denL_intsT V k r]
def pmDec (vs : List SV) (T : Tab) : Option Canon := match vs with
 | [.agg (.int true .i64 e :: .fn (.func f) [] [] :: _), p, .slc l true 0 _ _] => match beqI e 2 && Nat.beq f 46, seqRo T .u8 p, T l with
   | true, some (ob, k), some B => match pcC B with
     | some cs => match rdP T cs with
       | some (ob2, ds) => match kv k ds.flatten with
         | some r => some { vs0 := pmVs k.length ds.length, T0 := pmL k ds, vl := (61, .arg 1) :: (62, .lab l 0) :: vlP l ds.length 0, e0 := { val := .agg (r.map (.int true .u8)) }, conds := [k.length ≤ 64, 1 ≤ ds.length ∧ ds.length ≤ 3, ds.flatten.length ≤ 100000000] ++ (ob ++ ob2) }
         | none => none
       | none => none
     | none => none
   | _, _, _ => none
 | _ => none
theorem pm_ok (Γ : Env) (hg : Γ.glob = globs) : SumOK Tryz.prog Γ 11 (canonS globs 100 pmDec) := by
 refine canonS_ok hg fun vs T c hd hc => ?_
 unfold pmDec at hd
 split at hd
 case h_2 => cases hd
 split at hd
 case h_2 => cases hd
 split at hd
 case h_2 => cases hd
 split at hd
 case h_2 => cases hd
 split at hd
 case h_2 => cases hd
 rename_i hr
 cases hd
 refine (pm_call _ _ (hc _ (by simp)) (hc _ (by simp)) (hc _ (by simp)) Γ hg).words rfl (fun _ => rfl) (fun _ _ h => h) (fun V => ?_) rfl rfl
 rw [kv_ok hr]
 simp only [den, denL_intsT]
 rfl
noncomputable def exPm : Nat → Option Sum := addS exA 11 (canonS globs 100 pmDec)
theorem exPm_ok : ∀ f S, exPm f = some S → ∀ Γ : Env, Γ.glob = globs → SumOK Tryz.prog Γ f S := addS_ok (fun f S h Γ _ => exA_ok f S h Γ) 11 _ pm_ok
def glT : Tab := fun l => look l glB
end Go.Proofs.YtdhombdiakjdhaaGreatDoor.Sx
end
section
open Go
set_option maxRecDepth 100000
namespace Go.Proofs.YtdhombdiakjdhaaGreatDoor.Sx
def D.rnd (v n : Int) : Int := if v.tmod n < 0 then v.tmod n + n else v.tmod n
theorem rnd_lt {v n : Int} (h : 0 < n) : 0 ≤ D.rnd v n ∧ D.rnd v n < n := by
 unfold D.rnd
 have h1 := Int.tmod_lt_of_pos v h
 have h2 : -n < v.tmod n := by
  have := Int.tmod_lt_of_pos (-v) h
  rw [Int.neg_tmod] at this
  omega
 split <;> omega
theorem rd_1 (v n : Int) : interp (env exA 3) Tryz.f13 true [true] 400 [.int false .i64 v, .int false .i64 n] (fun _ => none) 100 100 =
  some { obl := [decide (v.tmod n < 0) = true, n ≠ 0], val := .int false .i64 (IntKind.i64.wrap (v.tmod n + n)) } := by kernel_rfl
theorem rd_2 (v n : Int) : interp (env exA 3) Tryz.f13 true [false] 400 [.int false .i64 v, .int false .i64 n] (fun _ => none) 100 100 =
  some { obl := [decide (v.tmod n < 0) = false, n ≠ 0], val := .int false .i64 (v.tmod n) } := by kernel_rfl
theorem rd_call {v n : Int} (h0 : 0 < n) (h1 : n ≤ 1000000) (Γ : Env) (hg : Γ.glob = globs) : CallOK Tryz.prog Γ 13 [.int false .i64 v, .int false .i64 n] (fun _ => none) 100 100 { val := .int false .i64 (D.rnd v n) } := by
 have hs : ∀ hints, SumOK Tryz.prog (env exA 3) 13 (interp (env exA 3) Tryz.f13 true hints 400) := fun hints =>
  interp_ok (env_ty exA 3) (env_ok exA (fun f S h Γ _ => exA_ok f S h Γ) 3) mix Tryz.func13 (by kernel_rfl) true hints 400
 have h2 := rnd_lt (v := v) h0
 by_cases h : v.tmod n < 0
 ·refine ((hs [true]).call (rd_1 v n) (of_allP ⟨decide_eq_true h, by omega, trivial⟩)).words (by rw [hg]; rfl) (fun _ => rfl) (fun _ _ h => h) (fun V => ?_) rfl rfl
  have e : D.rnd v n = v.tmod n + n := by unfold D.rnd; rw [if_pos h]
  rw [e] at h2
  simp only [e, IntWalk.i64_in _ (by omega : -9223372036854775808 ≤ v.tmod n + n ∧ v.tmod n + n ≤ 9223372036854775807)]
 ·refine ((hs [false]).call (rd_2 v n) (of_allP ⟨decide_eq_false h, by omega, trivial⟩)).words (by rw [hg]; rfl) (fun _ => rfl) (fun _ _ h => h) (fun V => ?_) rfl rfl
  simp only [D.rnd, if_neg h]
def rdDec (vs : List SV) (_ : Tab) : Option Canon := match vs with
 | [.int _ .i64 v, .int _ .i64 n] => some { vs0 := [.int false .i64 v, .int false .i64 n], T0 := [], vl := [], e0 := { val := .int false .i64 (D.rnd v n) }, conds := [0 < n, n ≤ 1000000] }
 | _ => none
theorem rd_ok (Γ : Env) (hg : Γ.glob = globs) : SumOK Tryz.prog Γ 13 (canonS globs 100 rdDec) := by
 refine canonS_ok hg fun vs T c hd hc => ?_
 unfold rdDec at hd
 split at hd
 case h_2 => cases hd
 cases hd
 exact rd_call (hc _ (by simp)) (hc _ (by simp)) Γ hg
end Go.Proofs.YtdhombdiakjdhaaGreatDoor.Sx
end
section
open Go
set_option maxRecDepth 100000
namespace Go.Proofs.YtdhombdiakjdhaaGreatDoor.Sx
theorem t9_0 (c d : List Int) (n : Nat) :
 interp (env exHm 4) Tryz.f9 true [] 1500 [.agg (fastV 59), .ai .u8 c, .ros 61 n] (t9T d) 100 100 =
 some
 {
  obl :=
   [(D.hmac (List.take (32 : Nat) (List.drop (0 : Nat) (D.hmac (List.take (32 : Nat) (List.drop (0 : Nat) c)) d))) (List.take (1 : Nat) (List.drop (0 : Nat) [(1 : Int)]))).length = (32 : Nat),
    (D.hmac (List.take (32 : Nat) (List.drop (0 : Nat) (D.hmac (List.take (32 : Nat) (List.drop (0 : Nat) c)) d)))
       (List.take (32 : Nat)
         (List.drop (0 : Nat)
          (D.hmac (List.take (32 : Nat) (List.drop (0 : Nat) (D.hmac (List.take (32 : Nat) (List.drop (0 : Nat) c)) d))) (List.take (1 : Nat) (List.drop (0 : Nat) [(1 : Int)])))) ++
        List.take (1 : Nat) (List.drop (0 : Nat) [(2 : Int)]))).length =
     (32 : Nat),
    (D.hmac (List.take (32 : Nat) (List.drop (0 : Nat) (D.hmac (List.take (32 : Nat) (List.drop (0 : Nat) c)) d)))
       (List.take (32 : Nat)
         (List.drop (0 : Nat)
          (D.hmac (List.take (32 : Nat) (List.drop (0 : Nat) (D.hmac (List.take (32 : Nat) (List.drop (0 : Nat) c)) d))) (List.take (1 : Nat) (List.drop (0 : Nat) [(1 : Int)])))) ++
        List.take (1 : Nat) (List.drop (0 : Nat) [(2 : Int)]))).length =
     (32 : Nat),
    (D.hmac (List.take (32 : Nat) (List.drop (0 : Nat) (D.hmac (List.take (32 : Nat) (List.drop (0 : Nat) c)) d))) (List.take (1 : Nat) (List.drop (0 : Nat) [(1 : Int)]))).length = (32 : Nat),
    (D.hmac (List.take (32 : Nat) (List.drop (0 : Nat) (D.hmac (List.take (32 : Nat) (List.drop (0 : Nat) c)) d)))
       (List.take (32 : Nat)
         (List.drop (0 : Nat)
          (D.hmac (List.take (32 : Nat) (List.drop (0 : Nat) (D.hmac (List.take (32 : Nat) (List.drop (0 : Nat) c)) d))) (List.take (1 : Nat) (List.drop (0 : Nat) [(1 : Int)])))) ++
        List.take (1 : Nat) (List.drop (0 : Nat) [(2 : Int)]))).length =
     (32 : Nat),
    (D.hmac (List.take (32 : Nat) (List.drop (0 : Nat) (D.hmac (List.take (32 : Nat) (List.drop (0 : Nat) c)) d))) (List.take (1 : Nat) (List.drop (0 : Nat) [(1 : Int)]))).length = (32 : Nat),
    (D.hmac (List.take (32 : Nat) (List.drop (0 : Nat) (D.hmac (List.take (32 : Nat) (List.drop (0 : Nat) c)) d)))
       (List.take (32 : Nat)
         (List.drop (0 : Nat)
          (D.hmac (List.take (32 : Nat) (List.drop (0 : Nat) (D.hmac (List.take (32 : Nat) (List.drop (0 : Nat) c)) d))) (List.take (1 : Nat) (List.drop (0 : Nat) [(1 : Int)])))) ++
        List.take (1 : Nat) (List.drop (0 : Nat) [(2 : Int)]))).length =
     (32 : Nat),
    (D.hmac (List.take (32 : Nat) (List.drop (0 : Nat) (D.hmac (List.take (32 : Nat) (List.drop (0 : Nat) c)) d))) (List.take (1 : Nat) (List.drop (0 : Nat) [(1 : Int)]))).length = (32 : Nat),
    (D.hmac (List.take (32 : Nat) (List.drop (0 : Nat) c)) d).length = (32 : Nat), (D.hmac (List.take (32 : Nat) (List.drop (0 : Nat) c)) d).length = (32 : Nat),
    (D.hmac (List.take (32 : Nat) (List.drop (0 : Nat) (D.hmac (List.take (32 : Nat) (List.drop (0 : Nat) c)) d))) (List.take (1 : Nat) (List.drop (0 : Nat) [(1 : Int)]))).length = (32 : Nat),
    (D.hmac (List.take (32 : Nat) (List.drop (0 : Nat) (D.hmac (List.take (32 : Nat) (List.drop (0 : Nat) c)) d)))
       (List.take (32 : Nat)
         (List.drop (0 : Nat)
          (D.hmac (List.take (32 : Nat) (List.drop (0 : Nat) (D.hmac (List.take (32 : Nat) (List.drop (0 : Nat) c)) d))) (List.take (1 : Nat) (List.drop (0 : Nat) [(1 : Int)])))) ++
        List.take (1 : Nat) (List.drop (0 : Nat) [(2 : Int)]))).length =
     (32 : Nat),
    (D.hmac (List.take (32 : Nat) (List.drop (0 : Nat) (D.hmac (List.take (32 : Nat) (List.drop (0 : Nat) c)) d)))
       (List.take (32 : Nat)
         (List.drop (0 : Nat)
          (D.hmac (List.take (32 : Nat) (List.drop (0 : Nat) (D.hmac (List.take (32 : Nat) (List.drop (0 : Nat) c)) d))) (List.take (1 : Nat) (List.drop (0 : Nat) [(1 : Int)])))) ++
        List.take (1 : Nat) (List.drop (0 : Nat) [(2 : Int)]))).length =
     (32 : Nat),
    (D.hmac (List.take (32 : Nat) (List.drop (0 : Nat) (D.hmac (List.take (32 : Nat) (List.drop (0 : Nat) c)) d))) (List.take (1 : Nat) (List.drop (0 : Nat) [(1 : Int)]))).length = (32 : Nat) ∧
     (D.hmac (List.take (32 : Nat) (List.drop (0 : Nat) (D.hmac (List.take (32 : Nat) (List.drop (0 : Nat) c)) d))) (List.take (1 : Nat) (List.drop (0 : Nat) [(1 : Int)]))).length = (32 : Nat),
    (D.hmac (List.take (32 : Nat) (List.drop (0 : Nat) c)) d).length = (32 : Nat) ∧ (D.hmac (List.take (32 : Nat) (List.drop (0 : Nat) c)) d).length = (32 : Nat),
    (List.take (32 : Nat) (List.drop (0 : Nat) (D.hmac (List.take (32 : Nat) (List.drop (0 : Nat) c)) d))).length ≤ (1000000000 : Nat),
    (List.take (32 : Nat)
       (List.drop (0 : Nat)
        (D.hmac (List.take (32 : Nat) (List.drop (0 : Nat) (D.hmac (List.take (32 : Nat) (List.drop (0 : Nat) c)) d))) (List.take (1 : Nat) (List.drop (0 : Nat) [(1 : Int)]))))).length ≤
     (1000000000 : Nat),
    (1 : Nat) ≤ (1000000000 : Nat), (32 : Nat) ≤ (D.hmac (List.take (32 : Nat) (List.drop (0 : Nat) c)) d).length ∧ (32 : Nat) ≤ (32 : Nat),
    (32 : Nat) ≤ (D.hmac (List.take (32 : Nat) (List.drop (0 : Nat) (D.hmac (List.take (32 : Nat) (List.drop (0 : Nat) c)) d))) (List.take (1 : Nat) (List.drop (0 : Nat) [(1 : Int)]))).length ∧
     (32 : Nat) ≤ (32 : Nat),
    (1 : Nat) ≤ (1 : Nat) ∧ (1 : Nat) ≤ (1 : Nat), (32 : Nat) ≤ (D.hmac (List.take (32 : Nat) (List.drop (0 : Nat) c)) d).length ∧ (32 : Nat) ≤ (32 : Nat),
    (List.take (32 : Nat) (List.drop (0 : Nat) (D.hmac (List.take (32 : Nat) (List.drop (0 : Nat) c)) d))).length =
     (List.take (32 : Nat) (List.drop (0 : Nat) (D.hmac (List.take (32 : Nat) (List.drop (0 : Nat) c)) d))).length,
    List.take (32 : Nat) (List.drop (0 : Nat) (D.hmac (List.take (32 : Nat) (List.drop (0 : Nat) c)) d)) =
     List.take (32 : Nat) (List.drop (0 : Nat) (D.hmac (List.take (32 : Nat) (List.drop (0 : Nat) c)) d)),
    (32 : Nat) ≤ (D.hmac (List.take (32 : Nat) (List.drop (0 : Nat) c)) d).length ∧ (32 : Nat) ≤ (32 : Nat),
    (32 : Nat) ≤ (D.hmac (List.take (32 : Nat) (List.drop (0 : Nat) (D.hmac (List.take (32 : Nat) (List.drop (0 : Nat) c)) d))) (List.take (1 : Nat) (List.drop (0 : Nat) [(1 : Int)]))).length ∧
     (32 : Nat) ≤ (32 : Nat),
    (List.take (32 : Nat)
       (List.drop (0 : Nat)
        (D.hmac (List.take (32 : Nat) (List.drop (0 : Nat) (D.hmac (List.take (32 : Nat) (List.drop (0 : Nat) c)) d))) (List.take (1 : Nat) (List.drop (0 : Nat) [(1 : Int)]))))).length =
     (List.take (32 : Nat)
       (List.drop (0 : Nat)
        (D.hmac (List.take (32 : Nat) (List.drop (0 : Nat) (D.hmac (List.take (32 : Nat) (List.drop (0 : Nat) c)) d))) (List.take (1 : Nat) (List.drop (0 : Nat) [(1 : Int)]))))).length,
    (1 : Nat) ≤ (1 : Nat) ∧ (1 : Nat) ≤ (1 : Nat), (1 : Nat) = (1 : Nat),
    List.take (32 : Nat)
      (List.drop (0 : Nat)
       (D.hmac (List.take (32 : Nat) (List.drop (0 : Nat) (D.hmac (List.take (32 : Nat) (List.drop (0 : Nat) c)) d))) (List.take (1 : Nat) (List.drop (0 : Nat) [(1 : Int)])))) =
     List.take (32 : Nat)
      (List.drop (0 : Nat)
       (D.hmac (List.take (32 : Nat) (List.drop (0 : Nat) (D.hmac (List.take (32 : Nat) (List.drop (0 : Nat) c)) d))) (List.take (1 : Nat) (List.drop (0 : Nat) [(1 : Int)])))),
    (32 : Nat) ≤ (D.hmac (List.take (32 : Nat) (List.drop (0 : Nat) (D.hmac (List.take (32 : Nat) (List.drop (0 : Nat) c)) d))) (List.take (1 : Nat) (List.drop (0 : Nat) [(1 : Int)]))).length ∧
     (32 : Nat) ≤ (32 : Nat),
    List.take (1 : Nat) (List.drop (0 : Nat) [(2 : Int)]) = List.take (1 : Nat) (List.drop (0 : Nat) [(2 : Int)]), (1 : Nat) ≤ (1 : Nat) ∧ (1 : Nat) ≤ (1 : Nat),
    (D.hmac (List.take (32 : Nat) (List.drop (0 : Nat) (D.hmac (List.take (32 : Nat) (List.drop (0 : Nat) c)) d))) (List.take (1 : Nat) (List.drop (0 : Nat) [(1 : Int)]))).length = (32 : Nat),
    (D.hmac (List.take (32 : Nat) (List.drop (0 : Nat) c)) d).length = (32 : Nat),
    (D.hmac (List.take (32 : Nat) (List.drop (0 : Nat) (D.hmac (List.take (32 : Nat) (List.drop (0 : Nat) c)) d))) (List.take (1 : Nat) (List.drop (0 : Nat) [(1 : Int)]))).length = (32 : Nat),
    (List.take (32 : Nat) (List.drop (0 : Nat) (D.hmac (List.take (32 : Nat) (List.drop (0 : Nat) c)) d))).length ≤ (1000000000 : Nat), (1 : Nat) ≤ (1000000000 : Nat),
    (32 : Nat) ≤ (D.hmac (List.take (32 : Nat) (List.drop (0 : Nat) c)) d).length ∧ (32 : Nat) ≤ (32 : Nat), (1 : Nat) ≤ (1 : Nat) ∧ (1 : Nat) ≤ (1 : Nat),
    (32 : Nat) ≤ (D.hmac (List.take (32 : Nat) (List.drop (0 : Nat) c)) d).length ∧ (32 : Nat) ≤ (32 : Nat),
    (List.take (32 : Nat) (List.drop (0 : Nat) (D.hmac (List.take (32 : Nat) (List.drop (0 : Nat) c)) d))).length =
     (List.take (32 : Nat) (List.drop (0 : Nat) (D.hmac (List.take (32 : Nat) (List.drop (0 : Nat) c)) d))).length,
    List.take (32 : Nat) (List.drop (0 : Nat) (D.hmac (List.take (32 : Nat) (List.drop (0 : Nat) c)) d)) =
     List.take (32 : Nat) (List.drop (0 : Nat) (D.hmac (List.take (32 : Nat) (List.drop (0 : Nat) c)) d)),
    (32 : Nat) ≤ (D.hmac (List.take (32 : Nat) (List.drop (0 : Nat) c)) d).length ∧ (32 : Nat) ≤ (32 : Nat), (1 : Nat) ≤ (1 : Nat) ∧ (1 : Nat) ≤ (1 : Nat), (1 : Nat) = (1 : Nat),
    List.take (1 : Nat) (List.drop (0 : Nat) [(1 : Int)]) = List.take (1 : Nat) (List.drop (0 : Nat) [(1 : Int)]), (1 : Nat) ≤ (1 : Nat) ∧ (1 : Nat) ≤ (1 : Nat),
    (D.hmac (List.take (32 : Nat) (List.drop (0 : Nat) c)) d).length = (32 : Nat), (List.take (32 : Nat) (List.drop (0 : Nat) c)).length ≤ (1000000000 : Nat), d.length ≤ (1000000000 : Nat),
    (32 : Nat) ≤ c.length ∧ (32 : Nat) ≤ (32 : Nat), (32 : Nat) ≤ c.length ∧ (32 : Nat) ≤ (32 : Nat),
    (List.take (32 : Nat) (List.drop (0 : Nat) c)).length = (List.take (32 : Nat) (List.drop (0 : Nat) c)).length,
    List.take (32 : Nat) (List.drop (0 : Nat) c) = List.take (32 : Nat) (List.drop (0 : Nat) c), (32 : Nat) ≤ c.length ∧ (32 : Nat) ≤ (32 : Nat), n = n, d.length = d.length, d = d,
    c.length = (32 : Nat)],
  val :=
   SV.tup
    [SV.ai IntKind.u8 (D.hmac (List.take (32 : Nat) (List.drop (0 : Nat) (D.hmac (List.take (32 : Nat) (List.drop (0 : Nat) c)) d))) (List.take (1 : Nat) (List.drop (0 : Nat) [(1 : Int)]))),
     SV.ai IntKind.u8
      (D.hmac (List.take (32 : Nat) (List.drop (0 : Nat) (D.hmac (List.take (32 : Nat) (List.drop (0 : Nat) c)) d)))
       (List.take (32 : Nat)
         (List.drop (0 : Nat)
          (D.hmac (List.take (32 : Nat) (List.drop (0 : Nat) (D.hmac (List.take (32 : Nat) (List.drop (0 : Nat) c)) d))) (List.take (1 : Nat) (List.drop (0 : Nat) [(1 : Int)])))) ++
        List.take (1 : Nat) (List.drop (0 : Nat) [(2 : Int)])))] } := by kernel_rfl
end Go.Proofs.YtdhombdiakjdhaaGreatDoor.Sx
end
section
open Go
set_option maxRecDepth 100000
namespace Go.Proofs.YtdhombdiakjdhaaGreatDoor.Sx
theorem t9_call {c d : List Int} (hcl : c.length = 32) (hdl : d.length ≤ 1000000000) (Γ : Env) (hg : Γ.glob = globs) :
  CallOK Tryz.prog Γ 9 [.agg (fastV 59), .ai .u8 c, .ros 61 d.length] (t9T d) 100 100 { val := .tup [.ai .u8 (D.ka c d), .ai .u8 (D.kb c d)] } := by
 have hs : SumOK Tryz.prog (env exHm 4) 9 (interp (env exHm 4) Tryz.f9 true [] 1500) :=
  interp_ok (env_ty exHm 4) (env_ok exHm exHm_ok 4) mix Tryz.func9 (by kernel_rfl) true [] 1500
 have tc : List.take 32 (List.drop 0 c) = c := ar_same hcl
 refine (hs.call (t9_0 c d d.length) (of_allP ?_)).words (by rw [hg]; rfl) (fun _ => rfl) (fun _ _ h => h) (fun V => ?_) rfl rfl
 ·simp only [allP, tc, tkh, tk1, List.nil_append, D.hmac_length, List.length_append, List.length_cons, List.length_nil]
  repeat' (first | with_reducible exact trivial | with_reducible assumption | with_reducible apply And.intro | omega)
 ·simp only [tc, tkh, tk1, List.nil_append, ka_eq, kb_eq]
def t9Dec (vs : List SV) (T : Tab) : Option Canon := match vs with
 | [.agg (.int true .i64 e :: .fn (.func f) [] [.ptr L _ _] :: _), cv, p] => match beqI e 1 && Nat.beq f 29, intsOf cv, seqRo T .u8 p with
   | true, some (.u8, c), some (ob, d) => some { vs0 := [.agg (fastV 59), .ai .u8 c, .ros 61 d.length], T0 := [(59, .roc [.raw (.pointer none)]), (61, .rov .u8 d)], vl := [(59, .lab L 0), (61, .arg 2)], e0 := { val := .tup [.ai .u8 (D.ka c d), .ai .u8 (D.kb c d)] }, conds := [c.length = 32, d.length ≤ 1000000000] ++ ob }
   | _, _, _ => none
 | _ => none
theorem t9_ok (Γ : Env) (hg : Γ.glob = globs) : SumOK Tryz.prog Γ 9 (canonS globs 100 t9Dec) := by
 refine canonS_ok hg fun vs T c hd hc => ?_
 unfold t9Dec at hd
 split at hd
 case h_2 => cases hd
 split at hd
 case h_2 => cases hd
 cases hd
 exact t9_call (hc _ (by simp)) (hc _ (by simp)) Γ hg
end Go.Proofs.YtdhombdiakjdhaaGreatDoor.Sx
end
section
open Go
set_option maxRecDepth 100000
namespace Go.Proofs.YtdhombdiakjdhaaGreatDoor.Sx
def knO : List Prop := [(6 : Nat) ≤ (64 : Nat), (1 : Nat) ≤ (1 : Nat) ∧ (1 : Nat) ≤ (3 : Nat), (7 : Nat) ≤ (100000000 : Nat), (6 : Nat) ≤ (6 : Nat) ∧ (6 : Nat) ≤ (6 : Nat), (7 : Nat) ≤ (7 : Nat) ∧ (7 : Nat) ≤ (7 : Nat), (6 : Nat) ≤ (6 : Nat) ∧ (6 : Nat) ≤ (6 : Nat), (6 : Nat) = (6 : Nat), List.take (6 : Nat) (List.drop (0 : Nat) ([112, 105, 110, 116, 108, 101] : List Int)) = List.take (6 : Nat) (List.drop (0 : Nat) ([112, 105, 110, 116, 108, 101] : List Int)), (6 : Nat) ≤ (6 : Nat) ∧ (6 : Nat) ≤ (6 : Nat), (7 : Nat) ≤ (7 : Nat) ∧ (7 : Nat) ≤ (7 : Nat), (7 : Nat) = (7 : Nat), List.take (7 : Nat) (List.drop (0 : Nat) ([103, 117, 100, 103, 101, 111, 110] : List Int)) = List.take (7 : Nat) (List.drop (0 : Nat) ([103, 117, 100, 103, 101, 111, 110] : List Int)), (7 : Nat) ≤ (7 : Nat) ∧ (7 : Nat) ≤ (7 : Nat), (32 : Nat) ≤ (64 : Nat), (1 : Nat) ≤ (2 : Nat) ∧ (2 : Nat) ≤ (3 : Nat), (33 : Nat) ≤ (100000000 : Nat), (32 : Nat) ≤ (32 : Nat) ∧ (32 : Nat) ≤ (32 : Nat), (32 : Nat) ≤ (32 : Nat) ∧ (32 : Nat) ≤ (32 : Nat), (1 : Nat) ≤ (1 : Nat) ∧ (1 : Nat) ≤ (1 : Nat), (32 : Nat) ≤ (32 : Nat) ∧ (32 : Nat) ≤ (32 : Nat), (32 : Nat) = (32 : Nat), List.take (32 : Nat) (List.drop (0 : Nat) kT) = List.take (32 : Nat) (List.drop (0 : Nat) kT), (32 : Nat) ≤ (32 : Nat) ∧ (32 : Nat) ≤ (32 : Nat), (32 : Nat) ≤ (32 : Nat) ∧ (32 : Nat) ≤ (32 : Nat), (32 : Nat) = (32 : Nat), (1 : Nat) ≤ (1 : Nat) ∧ (1 : Nat) ≤ (1 : Nat), (1 : Nat) = (1 : Nat), List.take (32 : Nat) (List.drop (0 : Nat) kY) = List.take (32 : Nat) (List.drop (0 : Nat) kY), (32 : Nat) ≤ (32 : Nat) ∧ (32 : Nat) ≤ (32 : Nat), List.take (1 : Nat) (List.drop (0 : Nat) ([3] : List Int)) = List.take (1 : Nat) (List.drop (0 : Nat) ([3] : List Int)), (1 : Nat) ≤ (1 : Nat) ∧ (1 : Nat) ≤ (1 : Nat), (32 : Nat) ≤ (64 : Nat), (1 : Nat) ≤ (2 : Nat) ∧ (2 : Nat) ≤ (3 : Nat), (33 : Nat) ≤ (100000000 : Nat), (32 : Nat) ≤ (32 : Nat) ∧ (32 : Nat) ≤ (32 : Nat), (32 : Nat) ≤ (32 : Nat) ∧ (32 : Nat) ≤ (32 : Nat), (1 : Nat) ≤ (1 : Nat) ∧ (1 : Nat) ≤ (1 : Nat), (32 : Nat) ≤ (32 : Nat) ∧ (32 : Nat) ≤ (32 : Nat), (32 : Nat) = (32 : Nat), List.take (32 : Nat) (List.drop (0 : Nat) kT) = List.take (32 : Nat) (List.drop (0 : Nat) kT), (32 : Nat) ≤ (32 : Nat) ∧ (32 : Nat) ≤ (32 : Nat), (32 : Nat) ≤ (32 : Nat) ∧ (32 : Nat) ≤ (32 : Nat), (32 : Nat) = (32 : Nat), (1 : Nat) ≤ (1 : Nat) ∧ (1 : Nat) ≤ (1 : Nat), (1 : Nat) = (1 : Nat), List.take (32 : Nat) (List.drop (0 : Nat) kX) = List.take (32 : Nat) (List.drop (0 : Nat) kX), (32 : Nat) ≤ (32 : Nat) ∧ (32 : Nat) ≤ (32 : Nat), List.take (1 : Nat) (List.drop (0 : Nat) ([2] : List Int)) = List.take (1 : Nat) (List.drop (0 : Nat) ([2] : List Int)), (1 : Nat) ≤ (1 : Nat) ∧ (1 : Nat) ≤ (1 : Nat), (32 : Nat) ≤ (64 : Nat), (1 : Nat) ≤ (1 : Nat) ∧ (1 : Nat) ≤ (3 : Nat), (1 : Nat) ≤ (100000000 : Nat), (32 : Nat) ≤ (32 : Nat) ∧ (32 : Nat) ≤ (32 : Nat), (1 : Nat) ≤ (1 : Nat) ∧ (1 : Nat) ≤ (1 : Nat), (32 : Nat) ≤ (32 : Nat) ∧ (32 : Nat) ≤ (32 : Nat), (32 : Nat) = (32 : Nat), List.take (32 : Nat) (List.drop (0 : Nat) kT) = List.take (32 : Nat) (List.drop (0 : Nat) kT), (32 : Nat) ≤ (32 : Nat) ∧ (32 : Nat) ≤ (32 : Nat), (1 : Nat) ≤ (1 : Nat) ∧ (1 : Nat) ≤ (1 : Nat), (1 : Nat) = (1 : Nat), List.take (1 : Nat) (List.drop (0 : Nat) ([1] : List Int)) = List.take (1 : Nat) (List.drop (0 : Nat) ([1] : List Int)), (1 : Nat) ≤ (1 : Nat) ∧ (1 : Nat) ≤ (1 : Nat), (32 : Nat) ≤ (64 : Nat), (1 : Nat) ≤ (1 : Nat) ∧ (1 : Nat) ≤ (3 : Nat), (0 : Nat) ≤ (100000000 : Nat), (32 : Nat) ≤ (32 : Nat) ∧ (32 : Nat) ≤ (32 : Nat), (32 : Nat) ≤ (32 : Nat) ∧ (32 : Nat) ≤ (32 : Nat), (32 : Nat) = (32 : Nat), List.take (32 : Nat) (List.drop (0 : Nat) z32) = List.take (32 : Nat) (List.drop (0 : Nat) z32), (32 : Nat) ≤ (32 : Nat) ∧ (32 : Nat) ≤ (32 : Nat), (0 : Nat) = (0 : Nat), ([] : List Int) = [], (32 : Nat) ≤ (64 : Nat), (1 : Nat) ≤ (2 : Nat) ∧ (2 : Nat) ≤ (3 : Nat), (33 : Nat) ≤ (100000000 : Nat), (32 : Nat) ≤ (32 : Nat) ∧ (32 : Nat) ≤ (32 : Nat), (32 : Nat) ≤ (32 : Nat) ∧ (32 : Nat) ≤ (32 : Nat), (1 : Nat) ≤ (1 : Nat) ∧ (1 : Nat) ≤ (1 : Nat), (32 : Nat) ≤ (32 : Nat) ∧ (32 : Nat) ≤ (32 : Nat), (32 : Nat) = (32 : Nat), List.take (32 : Nat) (List.drop (0 : Nat) kT) = List.take (32 : Nat) (List.drop (0 : Nat) kT), (32 : Nat) ≤ (32 : Nat) ∧ (32 : Nat) ≤ (32 : Nat), (32 : Nat) ≤ (32 : Nat) ∧ (32 : Nat) ≤ (32 : Nat), (32 : Nat) = (32 : Nat), (1 : Nat) ≤ (1 : Nat) ∧ (1 : Nat) ≤ (1 : Nat), (1 : Nat) = (1 : Nat), List.take (32 : Nat) (List.drop (0 : Nat) kX) = List.take (32 : Nat) (List.drop (0 : Nat) kX), (32 : Nat) ≤ (32 : Nat) ∧ (32 : Nat) ≤ (32 : Nat), List.take (1 : Nat) (List.drop (0 : Nat) ([2] : List Int)) = List.take (1 : Nat) (List.drop (0 : Nat) ([2] : List Int)), (1 : Nat) ≤ (1 : Nat) ∧ (1 : Nat) ≤ (1 : Nat), (32 : Nat) ≤ (64 : Nat), (1 : Nat) ≤ (1 : Nat) ∧ (1 : Nat) ≤ (3 : Nat), (1 : Nat) ≤ (100000000 : Nat), (32 : Nat) ≤ (32 : Nat) ∧ (32 : Nat) ≤ (32 : Nat), (1 : Nat) ≤ (1 : Nat) ∧ (1 : Nat) ≤ (1 : Nat), (32 : Nat) ≤ (32 : Nat) ∧ (32 : Nat) ≤ (32 : Nat), (32 : Nat) = (32 : Nat), List.take (32 : Nat) (List.drop (0 : Nat) kT) = List.take (32 : Nat) (List.drop (0 : Nat) kT), (32 : Nat) ≤ (32 : Nat) ∧ (32 : Nat) ≤ (32 : Nat), (1 : Nat) ≤ (1 : Nat) ∧ (1 : Nat) ≤ (1 : Nat), (1 : Nat) = (1 : Nat), List.take (1 : Nat) (List.drop (0 : Nat) ([1] : List Int)) = List.take (1 : Nat) (List.drop (0 : Nat) ([1] : List Int)), (1 : Nat) ≤ (1 : Nat) ∧ (1 : Nat) ≤ (1 : Nat), (32 : Nat) ≤ (64 : Nat), (1 : Nat) ≤ (1 : Nat) ∧ (1 : Nat) ≤ (3 : Nat), (0 : Nat) ≤ (100000000 : Nat), (32 : Nat) ≤ (32 : Nat) ∧ (32 : Nat) ≤ (32 : Nat), (32 : Nat) ≤ (32 : Nat) ∧ (32 : Nat) ≤ (32 : Nat), (32 : Nat) = (32 : Nat), List.take (32 : Nat) (List.drop (0 : Nat) z32) = List.take (32 : Nat) (List.drop (0 : Nat) z32), (32 : Nat) ≤ (32 : Nat) ∧ (32 : Nat) ≤ (32 : Nat), (0 : Nat) = (0 : Nat), ([] : List Int) = [], (6 : Nat) ≤ (64 : Nat), (1 : Nat) ≤ (3 : Nat) ∧ (3 : Nat) ≤ (3 : Nat), (7 : Nat) ≤ (100000000 : Nat), (6 : Nat) ≤ (6 : Nat) ∧ (6 : Nat) ≤ (6 : Nat), (3 : Nat) ≤ (3 : Nat) ∧ (3 : Nat) ≤ (3 : Nat), (4 : Nat) ≤ (4 : Nat) ∧ (4 : Nat) ≤ (4 : Nat), (6 : Nat) ≤ (6 : Nat) ∧ (6 : Nat) ≤ (6 : Nat), (6 : Nat) = (6 : Nat), List.take (6 : Nat) (List.drop (0 : Nat) ([112, 105, 110, 116, 108, 101] : List Int)) = List.take (6 : Nat) (List.drop (0 : Nat) ([112, 105, 110, 116, 108, 101] : List Int)), (6 : Nat) ≤ (6 : Nat) ∧ (6 : Nat) ≤ (6 : Nat), (3 : Nat) ≤ (3 : Nat) ∧ (3 : Nat) ≤ (3 : Nat), (3 : Nat) = (3 : Nat), (0 : Nat) = (0 : Nat), (4 : Nat) ≤ (4 : Nat) ∧ (4 : Nat) ≤ (4 : Nat), (4 : Nat) = (4 : Nat), List.take (3 : Nat) (List.drop (0 : Nat) ([103, 117, 100] : List Int)) = List.take (3 : Nat) (List.drop (0 : Nat) ([103, 117, 100] : List Int)), (3 : Nat) ≤ (3 : Nat) ∧ (3 : Nat) ≤ (3 : Nat), ([] : List Int) = [], List.take (4 : Nat) (List.drop (0 : Nat) ([103, 101, 111, 110] : List Int)) = List.take (4 : Nat) (List.drop (0 : Nat) ([103, 101, 111, 110] : List Int)), (4 : Nat) ≤ (4 : Nat) ∧ (4 : Nat) ≤ (4 : Nat)]
theorem kn_0 : interp (env exPm 6) Tryz.f7 true [] 1500 [] glT 100 100 = some { obl := knO, val := .bool true true } := by kernel_rfl
theorem kn_O : ∀ q ∈ knO, q := by
 unfold knO
 refine of_allP ?_
 simp only [allP]
 repeat' (first | with_reducible exact trivial | with_reducible rfl | with_reducible apply And.intro | omega)
theorem kn_call (Γ : Env) (hg : Γ.glob = globs) : CallOK Tryz.prog Γ 7 [] glT 100 100 { val := .bool true true } := by
 have hs : SumOK Tryz.prog (env exPm 6) 7 (interp (env exPm 6) Tryz.f7 true [] 1500) :=
  interp_ok (env_ty exPm 6) (env_ok exPm exPm_ok 6) mix Tryz.func7 (by kernel_rfl) true [] 1500
 exact (hs.call kn_0 kn_O).words (by rw [hg]; rfl) (fun _ => rfl) (fun _ _ h => h) (fun _ => rfl) rfl rfl
def knDec (vs : List SV) (_ : Tab) : Option Canon := match vs with
 | [] => some { vs0 := [], T0 := glB, vl := [], e0 := { val := .bool true true } }
 | _ => none
theorem kn_ok (Γ : Env) (hg : Γ.glob = globs) : SumOK Tryz.prog Γ 7 (canonS globs 100 knDec) := by
 refine canonS_ok hg fun vs T c hd hc => ?_
 unfold knDec at hd
 split at hd
 case h_2 => cases hd
 cases hd
 exact kn_call Γ hg
noncomputable def exF1 : Nat → Option Sum := addS exA 7 (canonS globs 100 knDec)
noncomputable def exF2 : Nat → Option Sum := addS exF1 9 (canonS globs 100 t9Dec)
noncomputable def exF3 : Nat → Option Sum := addS exF2 10 (canonS globs 100 t12Dec)
noncomputable def exF4 : Nat → Option Sum := addS exF3 11 (canonS globs 100 hmDec)
noncomputable def exF5 : Nat → Option Sum := addS exF4 12 (canonS globs 100 h12Dec)
noncomputable def exF : Nat → Option Sum := addS exF5 13 (canonS globs 100 rdDec)
theorem exF_ok : ∀ f S, exF f = some S → ∀ Γ : Env, Γ.glob = globs → SumOK Tryz.prog Γ f S :=
 addS_ok (addS_ok (addS_ok (addS_ok (addS_ok (addS_ok (fun f S h Γ _ => exA_ok f S h Γ) 7 _ kn_ok) 9 _ t9_ok) 10 _ t12_ok) 11 _ hm_ok) 12 _ h12_ok) 13 _ rd_ok
noncomputable def ΓF : Env := env exF 4
def f3Vs (n m : Nat) (c : List Int) (at_ by_ : Int) : List SV := [.ros 61 n, .ros 62 m, .ai .u8 c, .int false .i64 at_, .int false .u8 by_]
def f3L (ka kb : List Int) : List (Nat × SB) := (61, .rov .u8 ka) :: (62, .rov .u8 kb) :: glB
def f3T (ka kb : List Int) : Tab := fun l => look l (f3L ka kb)
end Go.Proofs.YtdhombdiakjdhaaGreatDoor.Sx
end
section
open Go Go.Proofs.YtdhombdiakjdhaaGreatDoor
set_option maxRecDepth 100000
namespace Go.Proofs.YtdhombdiakjdhaaGreatDoor.Kdp
open Go.ChangeShapes Go.WideShapes Go.ChangeAt Go.RowKit Go.Proofs.YtdhombdiakjdhaaGreatDoor.Sx
theorem calls {P : Program} {Γ : Env} {f : FuncId} {fn : Func} {c : Code} {vs : List SV} {T : Tab} {lab F : Nat} {e : Eff} (h : CallOK P Γ f vs T lab F e) (hfn : P.funcs[f]? = some fn) (hne : (fn.name == "runtime.NumGoroutine") = false) (hc : fn.body = some c)
  {w0 : World} {M : Nat → Prop} {V : Val} {w : World} {xs : List Value} (hT : TabOK w0 M V T w) (hg : GlobOK Γ V) (hf : V.fresh lab) (hF : V.top F) (hx : denL V vs = some xs)
  {R : Ending → World → Prop} (hR : ∀ V' x w', V.ext lab V' → den V' e.val = some x → TabOK w0 M V' (upd T lab e) w' → R (.returned x) w') : Calls P f xs.toArray w R := by
 have h1 := h w0 M V T w xs (fun _ _ h => h) hT hg hf hF hx { dst := some 0, op := .ready 0, type := 0, pos := "", after := #[], guard := none } { tmps := #[Value.nilFunc], defers := [] } (fun a' w' => ∀ x, a'.tmps[0]? = some x → R (.returned x) w') (fun _ _ _ => False)
  (fun V' x w' h1 h2 h3 y hy => by
   simp [Act.put] at hy
   subst hy
   exact hR V' _ w' h1 h2 h3)
 rw [callFunc_enter hfn hc hne, Oper.upon_enter] at h1
 refine h1.mono fun e w' he => ?_
 cases e with
 | returned v => exact he v (by simp [Act.put])
 | panicked ch => exact he.elim
 | outgrown => obtain ⟨_, _, hh⟩ := he; exact hh.elim
theorem laid_var {P : Program} {W : World} : ∀ {laid : List (String × DataW Unit)} {ps : List MemPlace}, DataW.LaidVars P W laid ps → ∀ name d, (name, d) ∈ laid →
  ∃ g t cs fuel p, P.globalNamed name = some g ∧ (P.globals[g]?).map (·.type) = some t ∧ W.var? P name = some cs ∧ DataW.trod (fun _ => ()) P W 0 (fun _ => true) false fuel t cs.toList = some (d, p) ∧ ∀ x ∈ MemPlace.row ⟨g, 0, none⟩ cs.size ++ p, x ∈ ps
 | [], _, _, _, _, h => by cases h
 | (n, d0) :: r, ps, hl, name, d, h => by
   obtain ⟨g, t, cs, fuel, p, q, h1, h2, h3, h4, h5, rfl⟩ := hl
   rcases List.mem_cons.1 h with e | h
   ·cases e
    exact ⟨g, t, cs, fuel, p, h1, h2, h3, h4, fun x hx => List.mem_append_left _ hx⟩
   ·obtain ⟨g', t', cs', fuel', p', k1, k2, k3, k4, k5⟩ := laid_var h5 name d h
    exact ⟨g', t', cs', fuel', p', k1, k2, k3, k4, fun x hx => List.mem_append_right _ (k5 x hx)⟩
theorem cells_of_rows {P : Program} {W : World} {fuel : Nat} {t e c : TypeId} {n m : Nat} {k : IntKind} {cs : List Value} {zss : List (List Int)} {p : List MemPlace}
  (ht : P.underlying t = some (.array n e)) (he : P.underlying e = some (.array m c)) (hc : P.underlying c = some (.int k)) (hcc : P.cellsOf c = 1) (hce : P.cellsOf e = m)
  (h : DataW.trod (fun _ => ()) P W 0 (fun _ => true) false fuel t cs = some (.agg (zss.map fun zs => Lib.tabData k zs), p)) (i j : Nat) (zs : List Int) (z : Int) (hi : zss[i]? = some zs) (hj : zs[j]? = some z) (hjm : j < m) :
  cs[i * m + j]? = some (.int k z) := by
 obtain ⟨xs, f, _, hx, hlen, hn, hel⟩ := DataW.trod_array ht h
 simp only [Prod.mk.injEq, DataW.agg.injEq] at hx
 have hin : i < n := by
  have h1 := (List.getElem?_eq_some_iff.1 hi).1
  have h2 := congrArg List.length hx.1
  simp only [List.length_map] at h2
  omega
 have hrow := hel i hin
 have hxi : (xs.map (·.1))[i]? = some (Lib.tabData k zs) := by rw [← hx.1, List.getElem?_map, hi]; rfl
 rw [List.getElem?_map] at hxi
 obtain ⟨y, hy, hy2⟩ := Option.map_eq_some_iff.1 hxi
 rw [hy] at hrow
 obtain ⟨d, q⟩ := y
 simp only at hy2
 subst hy2
 rw [hce] at hrow
 have := Lib.cells_of_tab he hc hcc hce hrow
 have h3 := congrArg (·[j]?) this
 simp only [List.getElem?_take, List.getElem?_drop, List.getElem?_map, hj, Option.map_some, if_pos hjm] at h3
 exact h3
theorem cell_lt {w : World} {b o : Nat} {v : Value} (h : w.cell? ⟨b, o, none⟩ = some v) : b < w.heap.size := by
 unfold World.cell? at h
 simp only at h
 cases hb : w.heap[b]? with
 | none => rw [hb] at h; simp at h
 | some x => exact (Array.getElem?_eq_some_iff.1 hb).1
theorem tab_cells {W : World} {laid : List (String × DataW Unit)} (h : laidMet Tryz.prog laid W) (name : String) (g t e n : Nat) (k : IntKind) (zs : List Int) (hm : (name, Lib.tabData k zs) ∈ laid) (hg : Tryz.prog.globalNamed name = some g) (ht : (Tryz.prog.globals[g]?).map (·.type) = some t)
  (h1 : Tryz.prog.underlying t = some (.array n e)) (h2 : Tryz.prog.underlying e = some (.int k)) (h3 : Tryz.prog.cellsOf e = 1) (h4 : Tryz.prog.cellsOf t = n) (j : Nat) (z : Int) (hj : zs[j]? = some z) : W.cell? ⟨g, j, none⟩ = some (.int k z) := by
 obtain ⟨ps, hl, _, _⟩ := h
 obtain ⟨g', t', cs, fuel, p, k1, k2, k3, k4, _⟩ := laid_var hl _ _ hm
 obtain rfl := Option.some.inj (hg.symm.trans k1)
 obtain rfl := Option.some.inj (ht.symm.trans k2)
 have hcs := Lib.cells_of_tab h1 h2 h3 h4 k4
 have := World.var?_cell hg k3 j
 rw [this, ← Array.getElem?_toList, hcs, List.getElem?_map, hj]
 rfl
theorem rows_cells {W : World} {laid : List (String × DataW Unit)} (h : laidMet Tryz.prog laid W) (name : String) (g t e c n m : Nat) (zss : List (List Int)) (hm : (name, DataW.agg (zss.map fun zs => Lib.tabData .i64 zs)) ∈ laid) (hg : Tryz.prog.globalNamed name = some g) (ht : (Tryz.prog.globals[g]?).map (·.type) = some t)
  (h1 : Tryz.prog.underlying t = some (.array n e)) (h2 : Tryz.prog.underlying e = some (.array m c)) (h3 : Tryz.prog.underlying c = some (.int .i64)) (h4 : Tryz.prog.cellsOf c = 1) (h5 : Tryz.prog.cellsOf e = m) (i j : Nat) (zs : List Int) (z : Int)
  (hi : zss[i]? = some zs) (hj : zs[j]? = some z) (hjm : j < m) : W.cell? ⟨g, i * m + j, none⟩ = some (.int .i64 z) := by
 obtain ⟨ps, hl, _, _⟩ := h
 obtain ⟨g', t', cs, fuel, p, k1, k2, k3, k4, _⟩ := laid_var hl _ _ hm
 obtain rfl := Option.some.inj (hg.symm.trans k1)
 obtain rfl := Option.some.inj (ht.symm.trans k2)
 have hcs := cells_of_rows h1 h2 h3 h4 h5 k4 i j zs z hi hj hjm
 have := World.var?_cell hg k3 (i * m + j)
 rw [this, ← Array.getElem?_toList, hcs]
theorem denL_intsT (V : Val) (k : IntKind) : ∀ zs : List Int, denL V (zs.map (SV.int true k)) = some (zs.map (Value.int k))
 | [] => rfl
 | z :: r => by simp [denL, den, denL_intsT V k r]
theorem roc_ints {V : Val} {w : World} {l : Nat} {k : IntKind} {zs : List Int} (h0 : 0 < zs.length) (hl : V.β l = some (l, 0)) (hc : ∀ (j : Nat) (z : Int), zs[j]? = some z → w.cell? ⟨l, j, none⟩ = some (.int k z)) : okB V w l (.roc (zs.map (SV.int true k))) := by
 refine ⟨zs.map (Value.int k), denL_intsT V k zs, l, 0, hl, ⟨cell_lt (hc 0 zs[0] (List.getElem?_eq_getElem h0)), fun s hs => ?_⟩, fun j v hj => ?_⟩
 ·rw [List.getElem?_map] at hs
  obtain ⟨z, _, hz⟩ := Option.map_eq_some_iff.1 hs
  cases hz
 ·rw [List.getElem?_map] at hj
  obtain ⟨z, hz, rfl⟩ := Option.map_eq_some_iff.1 hj
  simpa using hc j z hz
def rowsZ : List (List Int) := [[0, 4, 8, 12], [1, 5, 9, 13], [2, 6, 10, 14], [3, 7, 11, 15], [0, 5, 10, 15], [1, 6, 11, 12], [2, 7, 8, 13], [3, 4, 9, 14]]
def ordZ : List (List Int) := D.orders.map fun r => r.map fun n : Nat => (n : Int)
theorem flat_rows (j : Nat) (z : Int) (h : rowsI[j]? = some z) : ∃ i k zs, j = i * 4 + k ∧ k < 4 ∧ rowsZ[i]? = some zs ∧ zs[k]? = some z := by
 have hj : j < 32 := (List.getElem?_eq_some_iff.1 h).1
 have key : ∀ j : Fin 32, (rowsZ[j.1 / 4]?).bind (·[j.1 % 4]?) = rowsI[j.1]? := by decide
 have := key ⟨j, hj⟩
 simp only [h, Option.bind_eq_some_iff] at this
 obtain ⟨zs, h1, h2⟩ := this
 exact ⟨j / 4, j % 4, zs, by omega, Nat.mod_lt _ (by omega), h1, h2⟩
theorem flat_ord (j : Nat) (z : Int) (h : ordI[j]? = some z) : ∃ i k zs, j = i * 16 + k ∧ k < 16 ∧ ordZ[i]? = some zs ∧ zs[k]? = some z := by
 have hj : j < 160 := (List.getElem?_eq_some_iff.1 h).1
 have key : ∀ j : Fin 160, (ordZ[j.1 / 16]?).bind (·[j.1 % 16]?) = ordI[j.1]? := by decide
 have := key ⟨j, hj⟩
 simp only [h, Option.bind_eq_some_iff] at this
 obtain ⟨zs, h1, h2⟩ := this
 exact ⟨j / 16, j % 16, zs, by omega, Nat.mod_lt _ (by omega), h1, h2⟩
theorem ros_den {w : World} {k : IntKind} {v : Value} {ys : List Int} (h : RdOK w k v ys) : rosV ys.length v = some v := by
 rcases h with ⟨⟨a, rfl⟩, rfl⟩ | ⟨b, o, c, rfl, _, hle, _⟩
 ·cases a <;> simp [rosV]
 ·simp [rosV, hle]
abbrev listed : List (String × DataW Unit) := Rows.kdfPiecesRow.laid
theorem laid_ok {W : World} (h : laidMet Tryz.prog listed W) (xs : List (Nat × SB)) (sl : List (Nat × Value)) (hsl : sl.all (fun x => Nat.blt x.1 100) = true)
  (hx : ∀ V : Val, (∀ l, V.σ l = Sx.look l sl) → ∀ x ∈ xs, okB V W x.1 x.2 ∧ x.2.owned = false ∧ froB W (fun _ => False) V x.1 x.2) :
  ∃ V : Val, TabOK W (fun _ => False) V (fun l => Sx.look l (xs ++ glB)) W ∧ (∀ k l, Sx.look k globs = some l → V.β l = some (k, 0)) ∧ V.top 100 ∧ ∀ l, V.σ l = Sx.look l sl := by
 have pick : ∀ {x : String × DataW Unit} (i : Nat), listed[i]? = some x → x ∈ listed := fun i hi => List.mem_of_getElem? hi
 have hr := rows_cells h "pintle/slow.rows" 3 204 203 3 8 4 rowsZ (pick 9 rfl) (by kernel_rfl) (by kernel_rfl) Tryz.underlying204 Tryz.underlying203 Tryz.underlying3 (by kernel_rfl) (by kernel_rfl)
 have ho := rows_cells h "pintle/slow.orders" 5 249 211 3 10 16 ordZ (pick 10 rfl) (by kernel_rfl) (by kernel_rfl) Tryz.underlying249 Tryz.underlying211 Tryz.underlying3 (by kernel_rfl) (by kernel_rfl)
 have hi := tab_cells h "pintle/slow.initial" 4 190 66 8 .u32 D.iv (pick 11 rfl) (by kernel_rfl) (by kernel_rfl) Tryz.underlying190 Tryz.underlying66 (by kernel_rfl) (by kernel_rfl)
 let bl : List (Nat × (Nat × Nat)) := [(3, (3, 0)), (4, (4, 0)), (5, (5, 0))]
 let V : Val := ⟨fun l => Sx.look l bl, fun l => Sx.look l sl⟩
 have all : ∀ l B, Sx.look l (xs ++ glB) = some B → okB V W l B ∧ B.owned = false ∧ froB W (fun _ => False) V l B := by
  intro l B hl
  rcases List.mem_append.1 (look_mem hl) with hm | hm
  ·exact hx V (fun _ => rfl) _ hm
  simp only [glB, List.mem_cons, List.not_mem_nil, or_false, Prod.mk.injEq] at hm
  rcases hm with ⟨rfl, rfl⟩ | ⟨rfl, rfl⟩ | ⟨rfl, rfl⟩
  ·exact ⟨roc_ints (zs := rowsI) (by decide) rfl fun j z hj => (by
    obtain ⟨i, k, zs, rfl, hk, h1, h2⟩ := flat_rows j z hj
    exact hr i k zs z h1 h2 hk), rfl, trivial⟩
  ·exact ⟨roc_ints (zs := D.iv) (by decide) rfl hi, rfl, trivial⟩
  ·exact ⟨roc_ints (zs := ordI) (by decide) rfl fun j z hj => (by
    obtain ⟨i, k, zs, rfl, hk, h1, h2⟩ := flat_ord j z hj
    exact ho i k zs z h1 h2 hk), rfl, trivial⟩
 refine ⟨V, ⟨fun l B hl => (all l B hl).1, fun l B l' B' n _ hl _ ho => ?_, fun l B n hl ho => ?_, FrameOK.refl _ _, fun l B hl => (all l B hl).2.2⟩, fun k l hk => ?_, fun l hl => ⟨?_, ?_⟩, fun _ => rfl⟩
 ·rw [(all l B hl).2.1] at ho; cases ho
 ·rw [(all l B hl).2.1] at ho; cases ho
 ·have hm := look_mem hk
  simp only [globs, List.mem_cons, List.not_mem_nil, or_false, Prod.mk.injEq] at hm
  rcases hm with ⟨rfl, rfl⟩ | ⟨rfl, rfl⟩ | ⟨rfl, rfl⟩ <;> rfl
 ·show Sx.look l bl = none
  cases hlk : Sx.look l bl with
  | none => rfl
  | some p =>
    exfalso
    have hm := look_mem hlk
    have hall : bl.all (fun x => Nat.blt x.1 100) = true := rfl
    have := List.all_eq_true.1 hall _ hm
    simp only [Nat.blt_eq] at this
    omega
 ·show Sx.look l sl = none
  cases hlk : Sx.look l sl with
  | none => rfl
  | some p =>
    exfalso
    have hm := look_mem hlk
    have := List.all_eq_true.1 hsl _ hm
    simp only [Nat.blt_eq] at this
    omega
end Go.Proofs.YtdhombdiakjdhaaGreatDoor.Kdp
end
section
open Go
set_option maxRecDepth 100000
namespace Go.Proofs.YtdhombdiakjdhaaGreatDoor.Sx
theorem find184 : Extern.find Tryz.f184 = some (Extern.Atomic.update (Op.intArith .add) .i64 true) := by rfl
theorem find101 : Extern.find Tryz.f101 = some (Extern.Atomic.loadT (.int .i64)) := by rfl
theorem next184 : Extern.findNext Tryz.f184 = none := by rfl
theorem next101 : Extern.findNext Tryz.f101 = none := by rfl
def atAdd : Sum := fun vs T _ _ => match vs with
 | [.ptr l true off, .int _ .i64 d] => match T l with
   | some (.own cs ty) => match cs[off]? with
     | some (.int _ .i64 c) => some { val := .int false .i64 (IntKind.i64.wrap (c + d)), wr := [(l, .own (cs.take off ++ [.int false .i64 (IntKind.i64.wrap (c + d))] ++ cs.drop (off + 1)) ty)] }
     | _ => none
   | _ => none
 | _ => none
theorem atAdd_ok (Γ : Env) : SumOK Tryz.prog Γ 184 atAdd := by
 intro vs T lab F e he ho w0 M V T2 w xs hsub hT hg hf hF hx o a K Q hK
 unfold atAdd at he
 split at he
 case h_2 => cases he
 rename_i l off s d
 split at he
 case h_2 => cases he
 rename_i cells ty hB
 split at he
 case h_2 => cases he
 rename_i s2 c hc
 cases he
 simp only [denL, den, Option.bind_some, Option.map_some, Option.some.injEq, Option.map_eq_some_iff, Option.bind_eq_some_iff] at hx
 obtain ⟨x, ⟨p, hβ, rfl⟩, ys, rfl, rfl⟩ := hx
 obtain ⟨b, o'⟩ := p
 obtain ⟨us, hu, b', hb', hh⟩ := hT.ok l _ (hsub l _ hB)
 rw [hβ] at hb'
 cases hb'
 have hu : denL V cells = some us := hu
 obtain ⟨v, hv1, hv2⟩ := denL_get hu off _ hc
 cases hv2
 have hlt : off < us.length := (List.getElem?_eq_some_iff.1 hv1).1
 have hcell : w.cell? ⟨b, 0 + off, none⟩ = some (.int .i64 c) := by rw [cell_of_row w b (0 + off) _ _ _ hh]; simpa using hv1
 have hfz : w.frozen? ⟨b, 0 + off, none⟩ = false := by simp [World.frozen?, hh]
 have hs : ∀ z : Int, (store (⟨b, 0 + off, none⟩ : Addr) (.int .i64 z)).run Tryz.prog w = .ok () (w.setCell ⟨b, 0 + off, none⟩ (.int .i64 z)) := fun z => by
  rw [run_store Tryz.prog w _ _ _ rfl, hcell]
  simpa using hfz
 have hrow : w.setCell ⟨b, 0 + off, none⟩ (.int .i64 (IntKind.i64.wrap (c + d))) = w.setRow b (us.take off ++ [Value.int .i64 (IntKind.i64.wrap (c + d))] ++ us.drop (off + 1)).toArray := by
  have h1 := run_storeCells_at Tryz.prog b (0 + off) ty [.int .i64 (IntKind.i64.wrap (c + d))] 0 us.toArray w hh (by simp; omega) (fun q hq => by simp only [List.mem_singleton] at hq; subst hq; rfl)
  have e0 : (⟨b, 0 + off, none⟩ : Addr).add 0 = ⟨b, 0 + off, none⟩ := by simp [Addr.add]
  simp only [storeCells, e0, Sem.run_bind, hs, Result.andThen_ok, Sem.run_pure, Result.ok.injEq, true_and] at h1
  simpa using h1
 have hr := run_call_add (P := Tryz.prog) Tryz.func184 rfl rfl next184 .i64 find184 (a := ⟨b, 0 + off, none⟩) (x := c) (y := d) (s := IntKind.i64.wrap (c + d)) hcell hfz rfl
 rw [hr, Oper.upon_value, hrow]
 refine hK V _ _ (V.ext_refl lab) rfl ?_
 have := hT.write (B0 := .own cells ty) (B := .own (cells.take off ++ [.int false .i64 (IntKind.i64.wrap (c + d))] ++ cells.drop (off + 1)) ty) (hsub l _ hB) hβ rfl (by simp [SB.blk, hβ]) hh
  (cs := us.take off ++ [Value.int .i64 (IntKind.i64.wrap (c + d))] ++ us.drop (off + 1)) (denL_append (denL_append (denL_take off hu) rfl) (denL_drop _ hu)) (.inl rfl) lab (.int false .i64 (IntKind.i64.wrap (c + d))) []
 exact this
def atLd : Sum := fun vs T _ _ => match vs with
 | [.ptr l true off] => match T l with
   | some (.own cs _) => match cs[off]? with
     | some (.int s .i64 c) => some { val := .int s .i64 c }
     | _ => none
   | _ => none
 | _ => none
theorem atLd_ok (Γ : Env) : SumOK Tryz.prog Γ 101 atLd := by
 intro vs T lab F e he ho w0 M V T2 w xs hsub hT hg hf hF hx o a K Q hK
 unfold atLd at he
 split at he
 case h_2 => cases he
 rename_i l off
 split at he
 case h_2 => cases he
 rename_i cells ty hB
 split at he
 case h_2 => cases he
 rename_i s2 c hc
 cases he
 simp only [denL, den, Option.map_some, Option.some.injEq, Option.map_eq_some_iff, Option.bind_eq_some_iff] at hx
 obtain ⟨x, ⟨p, hβ, rfl⟩, ys, rfl, rfl⟩ := hx
 obtain ⟨b, o'⟩ := p
 obtain ⟨us, hu, b', hb', hh⟩ := hT.ok l _ (hsub l _ hB)
 rw [hβ] at hb'
 cases hb'
 have hu : denL V cells = some us := hu
 obtain ⟨v, hv1, hv2⟩ := denL_get hu off _ hc
 cases hv2
 have hcell : w.cell? ⟨b, 0 + off, none⟩ = some (.int .i64 c) := by rw [cell_of_row w b (0 + off) _ _ _ hh]; simpa using hv1
 rw [run_call_load (P := Tryz.prog) Tryz.func101 rfl rfl next101 .i64 find101 hcell, Oper.upon_value]
 exact hK V _ w (V.ext_refl lab) rfl (by rw [upd_none T2 lab rfl rfl]; exact hT)
noncomputable def exAt : Nat → Option Sum := addS (addS exR 184 atAdd) 101 atLd
theorem exAt_ok : ∀ f S, exAt f = some S → ∀ Γ : Env, Γ.glob = globs → SumOK Tryz.prog Γ f S := addS_ok (addS_ok exR_ok 184 _ fun Γ _ => atAdd_ok Γ) 101 _ fun Γ _ => atLd_ok Γ
def lgC (n : Int) (l : Nat) : List SV := [.int false .i64 n, .buf l]
def lgL (evs : List (Int × Int)) : List (Nat × SB) := [(57, .own (lgC evs.length 58) 87), (58, .rowp evs 89)]
def lgT (evs : List (Int × Int)) : Tab := fun l => look l (lgL evs)
def puE (k v : Int) (x : SV) (evs : List (Int × Int)) : Eff := { obl := [(evs.length + 1) * 16 ≤ 140737488355328 ∧ evs.length + 1 ≤ 9223372036854775807], val := x, new := [.rowp (evs ++ [(k, v)]) 89], wr := [(57, .own [.int false .i64 (IntKind.i64.wrap ((evs.length : Int) + 1)), .buf 100] 87), (58, .gone)] }
theorem if_1 (evs : List (Int × Int)) : interp (env exAt 4) Tryz.f64 true [] 600 [.ptr 57 true 0, .bool true true] (lgT evs) 100 100 = some (puE 1 1 (.bool true true) evs) := by kernel_rfl
theorem if_0 (evs : List (Int × Int)) : interp (env exAt 4) Tryz.f64 true [] 600 [.ptr 57 true 0, .bool true false] (lgT evs) 100 100 = some (puE 1 0 (.bool true false) evs) := by kernel_rfl
theorem at_0 (evs : List (Int × Int)) (i : Int) : interp (env exAt 4) Tryz.f65 true [] 600 [.ptr 57 true 0, .int false .i64 i] (lgT evs) 100 100 = some (puE 2 i (.int false .i64 i) evs) := by kernel_rfl
theorem op_0 (evs : List (Int × Int)) (i : Int) : interp (env exAt 4) Tryz.f66 true [] 600 [.ptr 57 true 0, .int false .i64 i] (lgT evs) 100 100 = some (puE 3 i (.tup []) evs) := by kernel_rfl
def lgE (x : SV) (evs : List (Int × Int)) : Eff := { val := x, new := [.rowp evs 89], wr := [(57, .own (lgC evs.length 100) 87), (58, .gone)] }
theorem pu_call {f : Nat} {fn : Func} {vs : List SV} {k v : Int} {x : SV} {evs : List (Int × Int)} (hs : SumOK Tryz.prog (env exAt 4) f (interp (env exAt 4) fn true [] 600)) (hr : interp (env exAt 4) fn true [] 600 vs (lgT evs) 100 100 = some (puE k v x evs)) (hl : evs.length ≤ 1000000000000) (Γ : Env) (hg : Γ.glob = globs) :
  CallOK Tryz.prog Γ f vs (lgT evs) 100 100 (lgE x (evs ++ [(k, v)])) := by
 have h1 := hs.call hr (by
  intro q hq
  simp only [puE, List.mem_singleton] at hq
  subst hq
  omega)
 have e : IntKind.i64.wrap ((evs.length : Int) + 1) = ((evs ++ [(k, v)]).length : Int) := by
  rw [IntWalk.i64_in _ (by omega)]; simp
 refine h1.words (by rw [hg]; rfl) (fun _ => rfl) (fun _ _ h => h) (fun _ => rfl) rfl ?_
 simp only [puE, lgE, lgC, e]
theorem ifL_call (s b : Bool) {evs : List (Int × Int)} (hl : evs.length ≤ 1000000000000) (Γ : Env) (hg : Γ.glob = globs) :
  CallOK Tryz.prog Γ 64 [.ptr 57 true 0, .bool s b] (lgT evs) 100 100 (lgE (.bool s b) (evs ++ [(1, if b then 1 else 0)])) := by
 have hs : SumOK Tryz.prog (env exAt 4) 64 (interp (env exAt 4) Tryz.f64 true [] 600) := interp_ok (env_ty exAt 4) (env_ok exAt exAt_ok 4) mix Tryz.func64 (by kernel_rfl) true [] 600
 cases b with
 | true => exact (pu_call hs (if_1 evs) hl Γ hg).words rfl (fun _ => rfl) (fun _ _ h => h) (fun _ => rfl) rfl rfl
 | false => exact (pu_call hs (if_0 evs) hl Γ hg).words rfl (fun _ => rfl) (fun _ _ h => h) (fun _ => rfl) rfl rfl
theorem atL_call (s : Bool) (i : Int) {evs : List (Int × Int)} (hl : evs.length ≤ 1000000000000) (Γ : Env) (hg : Γ.glob = globs) :
  CallOK Tryz.prog Γ 65 [.ptr 57 true 0, .int s .i64 i] (lgT evs) 100 100 (lgE (.int s .i64 i) (evs ++ [(2, i)])) := by
 have hs : SumOK Tryz.prog (env exAt 4) 65 (interp (env exAt 4) Tryz.f65 true [] 600) := interp_ok (env_ty exAt 4) (env_ok exAt exAt_ok 4) mix Tryz.func65 (by kernel_rfl) true [] 600
 exact (pu_call hs (at_0 evs i) hl Γ hg).words rfl (fun _ => rfl) (fun _ _ h => h) (fun _ => rfl) rfl rfl
theorem opL_call (s : Bool) (i : Int) {evs : List (Int × Int)} (hl : evs.length ≤ 1000000000000) (Γ : Env) (hg : Γ.glob = globs) :
  CallOK Tryz.prog Γ 66 [.ptr 57 true 0, .int s .i64 i] (lgT evs) 100 100 (lgE (.tup []) (evs ++ [(3, i)])) := by
 have hs : SumOK Tryz.prog (env exAt 4) 66 (interp (env exAt 4) Tryz.f66 true [] 600) := interp_ok (env_ty exAt 4) (env_ok exAt exAt_ok 4) mix Tryz.func66 (by kernel_rfl) true [] 600
 exact (pu_call hs (op_0 evs i) hl Γ hg).words rfl (fun _ => rfl) (fun _ _ h => h) (fun _ => rfl) rfl rfl
def lgIn (T : Tab) (L : Nat) : Option (Nat × List (Int × Int)) := match T L with
 | some (.own [.int _ .i64 _, .buf l2] ty) => match Nat.beq ty 87, T l2 with
   | true, some (.rowp evs t2) => match Nat.beq t2 89 with
     | true => some (l2, evs)
     | false => none
   | _, _ => none
 | _ => none
def lgVl (L l2 : Nat) : List (Nat × Src0) := [(57, .lab L 0), (58, .lab l2 0)]
def lgCan (vs0 : List SV) (x : SV) (e : Int × Int) (T : Tab) (L : Nat) : Option Canon := match lgIn T L with
 | some (l2, evs) => some { vs0 := vs0, T0 := lgL evs, vl := lgVl L l2, e0 := lgE x (evs ++ [e]), conds := [evs.length ≤ 1000000000000] }
 | none => none
def ifLDec (vs : List SV) (T : Tab) : Option Canon := match vs with
 | [.raw (.pointer none), .bool s b] => some { vs0 := [.raw (.pointer none), .bool s b], T0 := [], vl := [], e0 := { val := .bool s b } }
 | [.ptr L _ _, .bool s b] => lgCan [.ptr 57 true 0, .bool s b] (.bool s b) (1, if b then 1 else 0) T L
 | _ => none
def atLDec (vs : List SV) (T : Tab) : Option Canon := match vs with
 | [.ptr L _ _, .int s .i64 i] => lgCan [.ptr 57 true 0, .int s .i64 i] (.int s .i64 i) (2, i) T L
 | _ => none
def opLDec (vs : List SV) (T : Tab) : Option Canon := match vs with
 | [.ptr L _ _, .int s .i64 i] => lgCan [.ptr 57 true 0, .int s .i64 i] (.tup []) (3, i) T L
 | _ => none
theorem ifL_ok (Γ : Env) (hg : Γ.glob = globs) : SumOK Tryz.prog Γ 64 (canonS globs 100 ifLDec) := by
 refine canonS_ok hg fun vs T c hd hc => ?_
 unfold ifLDec at hd
 split at hd
 ·cases hd; exact if_call _ _ Γ hg
 ·unfold lgCan at hd
  split at hd
  case h_2 => cases hd
  cases hd
  exact ifL_call _ _ (hc _ (by simp)) Γ hg
 ·cases hd
theorem atL_ok (Γ : Env) (hg : Γ.glob = globs) : SumOK Tryz.prog Γ 65 (canonS globs 100 atLDec) := by
 refine canonS_ok hg fun vs T c hd hc => ?_
 unfold atLDec at hd
 split at hd
 case h_2 => cases hd
 unfold lgCan at hd
 split at hd
 case h_2 => cases hd
 cases hd
 exact atL_call _ _ (hc _ (by simp)) Γ hg
theorem opL_ok (Γ : Env) (hg : Γ.glob = globs) : SumOK Tryz.prog Γ 66 (canonS globs 100 opLDec) := by
 refine canonS_ok hg fun vs T c hd hc => ?_
 unfold opLDec at hd
 split at hd
 case h_2 => cases hd
 unfold lgCan at hd
 split at hd
 case h_2 => cases hd
 cases hd
 exact opL_call _ _ (hc _ (by simp)) Γ hg
noncomputable def exL : Nat → Option Sum := addS (addS (addS exAt 64 (canonS globs 100 ifLDec)) 65 (canonS globs 100 atLDec)) 66 (canonS globs 100 opLDec)
theorem exL_ok : ∀ f S, exL f = some S → ∀ Γ : Env, Γ.glob = globs → SumOK Tryz.prog Γ f S := addS_ok (addS_ok (addS_ok exAt_ok 64 _ ifL_ok) 65 _ atL_ok) 66 _ opL_ok
end Go.Proofs.YtdhombdiakjdhaaGreatDoor.Sx
end
section
open Go
set_option maxRecDepth 100000
namespace Go.Proofs.YtdhombdiakjdhaaGreatDoor.Sx
noncomputable def ΓWL : Env := env exL 4
theorem ΓWL_ty : TyOK Tryz.prog ΓWL := env_ty exL 4
theorem ΓWL_ok : SumsOK Tryz.prog ΓWL := env_ok exL exL_ok 4
def hL (S : D.HS) : List SV := [.ptr 57 true 0, .int true .i64 32] ++ (intsV .u32 8 S.st ++ (.int false .u64 S.cnt :: (intsV .u8 64 S.blk ++ [.int false .i64 (S.held : Int)])))
def vlL (S : D.HS) (d : List Int) (evs : List (Int × Int)) : List (Nat × SB) := (60, .own (hL S) 193) :: (61, .rov .u8 d) :: lgL evs
def vlT (S : D.HS) (d : List Int) (evs : List (Int × Int)) : Tab := fun l => look l (vlL S d evs)
noncomputable def vlM (S : D.HS) (d : List Int) (evs : List (Int × Int)) (cf : Cf) (K : List Fr) (s : St) : Option Cfg := mrun ΓWL (cutT 100 (vlT S d evs)) 100 Tryz.f75.ntmps [1] 400 2000 cf K s
def vlTb (S : D.HS) (d : List Int) (evs : List (Int × Int)) : List (Nat × SB) := [(60, .own (hL S) 193), (57, .own (lgC evs.length 101) 87), (58, .gone), (100, .rov .u8 d), (101, .rowp evs 89)]
noncomputable def vlR : Option Cfg := vlM ⟨[], 0, [], 0⟩ [] [] (.go (codeOf Tryz.f75)) [] (st0 (wrVs 0) 100)
noncomputable def vlLp : Code := cfgC vlR
noncomputable def vlK : List Fr := cfgF vlR
def iE (b : Bool) : Int × Int := (1, if b then 1 else 0)
def lgO (x : Prop) (evs : List (Int × Int)) (r : List Prop) : List Prop := (evs.length ≤ 1000000000000) :: x :: ((evs.length : Int) = (evs.length : Int)) :: (evs = evs) :: r
def lgO' (evs : List (Int × Int)) (r : List Prop) : List Prop := (evs.length ≤ 1000000000000) :: ((evs.length : Int) = (evs.length : Int)) :: (evs = evs) :: r
def ev1 (n : Nat) (evs : List (Int × Int)) : List (Int × Int) := evs ++ [iE (decide ((n : Int) > 0))]
def ev2 (n h : Nat) (evs : List (Int × Int)) : List (Int × Int) := ev1 n evs ++ [iE ((h : Int) == 64)]
def ev3 (n h : Nat) (evs : List (Int × Int)) : List (Int × Int) := ev2 n h evs ++ [(2, (h : Int))]
def ev4 (n h m : Nat) (evs : List (Int × Int)) : List (Int × Int) := ev3 n h evs ++ [(2, (m : Int))]
def ev3' (n h : Nat) (evs : List (Int × Int)) : List (Int × Int) := ev2 n h evs ++ [(3, 31)]
def ev4' (n h : Nat) (evs : List (Int × Int)) : List (Int × Int) := ev3' n h evs ++ [(2, 0)]
def ev5' (n h m : Nat) (evs : List (Int × Int)) : List (Int × Int) := ev4' n h evs ++ [(2, (m : Int))]
theorem v_0 (S S' : D.HS) (d d' : List Int) (n : Nat) (evs evs' : List (Int × Int)) : toC 100 Tryz.f75.ntmps (cutT 100 (vlT S d evs)) [.ali 1, .mvb 57 1] (wrGs n) (vlTb S' d' evs') 102 [60, 57, 58] [] (vlM S d evs (.go (codeOf Tryz.f75)) [] ((st0 (wrVs n) 100).hint [])) =
  some (.go (.loop vlLp), vlK, (n = n) :: (qE S.st S.cnt S.blk S.held S' ++ [(evs.length : Int) = (evs'.length : Int), d = d', evs = evs'])) := by kernel_rfl
theorem v_3 (S S0 : D.HS) (d d0 : List Int) (n : Nat) (evs0 evs evs' : List (Int × Int)) : toC 100 Tryz.f75.ntmps (cutT 100 (vlT S0 d0 evs0)) [] (wrGs n) (vlTb S d evs') 102 [60, 57, 58] [] (vlM S0 d0 evs0 (.go vlLp) [] ((stOf (wrGs n) (vlTb S d evs) 102 [60, 57, 58] []).hint [false])) =
  some (.at (.exit 0), [], (decide ((n : Int) > 0) = false) :: lgO (decide ((n : Int) > 0) = decide ((n : Int) > 0)) evs ((n = n) :: (qE S.st S.cnt S.blk S.held S ++ [((ev1 n evs).length : Int) = (evs'.length : Int), d = d, ev1 n evs = evs']))) := by kernel_rfl
theorem v_2 (S S0 S' : D.HS) (d d0 d' : List Int) (n n' : Nat) (evs0 evs evs' : List (Int × Int)) : toC 100 Tryz.f75.ntmps (cutT 100 (vlT S0 d0 evs0)) [] (wrGs n') (vlTb S' d' evs') 102 [60, 57, 58] [] (vlM S0 d0 evs0 (.go vlLp) [] ((stOf (wrGs n) (vlTb S d evs) 102 [60, 57, 58] []).hint [true, false])) =
  some (.at .normal, [], cB n (mB d S.held) :: lgO ((mB d S.held : Int) = (mB d S.held : Int)) (ev3 n S.held evs) ((11 ≤ oB S.held ∧ oB S.held + (d.take (mB d S.held)).length ≤ 11 + 64) :: ((0 : Int) ≤ 64 ∧ (64 : Int) ≤ (64 : Nat) ∧ (0 : Int) ≤ 64 ∧ (64 : Int) ≤ 64 ∧ 0 ≤ (S.held : Int) ∧ (S.held : Int) ≤ 64) ::
   lgO ((S.held : Int) = (S.held : Int)) (ev2 n S.held evs) ((((S.held : Int) == 64) = false) :: lgO (((S.held : Int) == 64) = ((S.held : Int) == 64)) (ev1 n evs) ((decide ((n : Int) > 0) = true) :: lgO (decide ((n : Int) > 0) = decide ((n : Int) > 0)) evs
    (((n : Int).toNat - (mB d S.held : Int).toNat = n') :: (qE S.st S.cnt (splB (bytesI 64 S.blk) d (oB S.held) (mB d S.held)) (IntKind.i64.wrap ((S.held : Int) + (mB d S.held : Nat))) S' ++ (((ev4 n S.held (mB d S.held) evs).length : Int) = (evs'.length : Int)) :: (tailB d d' n (mB d S.held) ++ [ev4 n S.held (mB d S.held) evs = evs']))))))) := by kernel_rfl
theorem v_4 (S S0 : D.HS) (d d0 : List Int) (n : Nat) (evs0 evs : List (Int × Int)) : endC ΓWL (vlT S0 d0 evs0) 100 100 Tryz.f75 [] (vlM S0 d0 evs0 (.at (.exit 0)) vlK ((stOf (wrGs n) (vlTb S d evs) 102 [60, 57, 58] []).hint [])) =
  some { val := .tup [], new := [.rowp evs 89], wr := [(60, .own (hL S) 193), (57, .own (lgC evs.length 100) 87), (58, .gone)] } := by kernel_rfl
theorem v_1 (S S0 S' : D.HS) (d d0 d' : List Int) (n n' : Nat) (evs0 evs evs' : List (Int × Int)) : toC 100 Tryz.f75.ntmps (cutT 100 (vlT S0 d0 evs0)) [] (wrGs n') (vlTb S' d' evs') 102 [60, 57, 58] [] (vlM S0 d0 evs0 (.go vlLp) [] ((stOf (wrGs n) (vlTb S d evs) 102 [60, 57, 58] []).hint [true, true])) =
  some (.at .normal, [], cB n (d.length.min 64) :: lgO (((d.length.min 64 : Nat) : Int) = ((d.length.min 64 : Nat) : Int)) (ev4' n S.held evs) ((11 ≤ 11 ∧ 11 + (d.take (d.length.min 64)).length ≤ 11 + 64) :: lgO' (ev3' n S.held evs) (prOb (D.start S.st (IntKind.u64.wrap (S.cnt + 64)) 0) (D.words S.blk) ++
   lgO' (ev2 n S.held evs) ((((S.held : Int) == 64) = true) :: lgO (((S.held : Int) == 64) = ((S.held : Int) == 64)) (ev1 n evs) ((decide ((n : Int) > 0) = true) :: lgO (decide ((n : Int) > 0) = decide ((n : Int) > 0)) evs
    (((n : Int).toNat - ((d.length.min 64 : Nat) : Int).toNat = n') :: (qE (D.press S.st S.blk (IntKind.u64.wrap (S.cnt + 64)) 0) (IntKind.u64.wrap (S.cnt + 64)) (splB (bytesI 64 S.blk) d 11 (d.length.min 64)) (IntKind.i64.wrap (0 + (d.length.min 64 : Nat))) S' ++ (((ev5' n S.held (d.length.min 64) evs).length : Int) = (evs'.length : Int)) :: (tailB d d' n (d.length.min 64) ++ [ev5' n S.held (d.length.min 64) evs = evs'])))))))) := by kernel_rfl
end Go.Proofs.YtdhombdiakjdhaaGreatDoor.Sx
end
section
open Go
set_option maxRecDepth 100000
namespace Go.Proofs.YtdhombdiakjdhaaGreatDoor.Sx
def D.wrE (h n : Nat) : List (Int × Int) :=
 if n = 0 then [(1, 0)]
 else if 64 ≤ h then (1, 1) :: (1, 1) :: (3, 31) :: (2, 0) :: (2, ((min n 64 : Nat) : Int)) :: D.wrE (min n 64) (n - min n 64)
 else (1, 1) :: (1, 0) :: (2, (h : Int)) :: (2, ((min n (64 - h) : Nat) : Int)) :: D.wrE (h + min n (64 - h)) (n - min n (64 - h))
termination_by n
decreasing_by all_goals omega
theorem D.wrE_zero (h : Nat) : D.wrE h 0 = [(1, 0)] := by rw [D.wrE]; simp
theorem D.wrE_full {n : Nat} (hn : n ≠ 0) : D.wrE 64 n = (1, 1) :: (1, 1) :: (3, 31) :: (2, 0) :: (2, ((min n 64 : Nat) : Int)) :: D.wrE (min n 64) (n - min n 64) := by rw [D.wrE]; simp [hn]
theorem D.wrE_part {h n : Nat} (hn : n ≠ 0) (hh : h < 64) : D.wrE h n = (1, 1) :: (1, 0) :: (2, (h : Int)) :: (2, ((min n (64 - h) : Nat) : Int)) :: D.wrE (h + min n (64 - h)) (n - min n (64 - h)) := by
 rw [D.wrE]; simp [hn, show ¬ 64 ≤ h by omega]
theorem D.wrE_len (n : Nat) : ∀ h, (D.wrE h n).length ≤ 5 * n + 1 := by
 induction n using Nat.strongRecOn with
 | ind n ih =>
   intro h
   rw [D.wrE]
   split
   ·simp
   ·split
    ·have := ih (n - min n 64) (by omega) (min n 64)
     simp only [List.length_cons]; omega
    ·have := ih (n - min n (64 - h)) (by omega) (h + min n (64 - h))
     simp only [List.length_cons]; omega
theorem mem1L {p : Prop} {l : List Prop} (hp : p) (hl : ∀ q ∈ l, q) : ∀ q ∈ p :: l, q := fun q hq => (List.mem_cons.1 hq).elim (fun e => e ▸ hp) (hl q)
theorem iE_t : iE true = (1, 1) := rfl
theorem iE_f : iE false = (1, 0) := rfl
theorem lgO_ok {x : Prop} {evs : List (Int × Int)} {r : List Prop} (h1 : evs.length ≤ 1000000000000) (h2 : x) (h3 : ∀ q ∈ r, q) : ∀ q ∈ lgO x evs r, q := mem1L h1 (mem1L h2 (mem1L rfl (mem1L rfl h3)))
theorem lgO'_ok {evs : List (Int × Int)} {r : List Prop} (h1 : evs.length ≤ 1000000000000) (h3 : ∀ q ∈ r, q) : ∀ q ∈ lgO' evs r, q := mem1L h1 (mem1L rfl (mem1L rfl h3))
def hsE (S : D.HS) (evs : List (Int × Int)) : Eff := { val := .tup [], new := [.rowp evs 89], wr := [(60, .own (hL S) 193), (57, .own (lgC evs.length 100) 87), (58, .gone)] }
theorem wrL_call {S : D.HS} {n : Nat} (d : List Int) (evs : List (Int × Int)) (hS : S.WF n) (hn : n + d.length ≤ 1000000000000) (hl : evs.length + 5 * d.length + 10 ≤ 1000000000000) :
  CallOK Tryz.prog ΓWL 75 (wrVs d.length) (vlT S d evs) 100 100 (hsE (S.take d) (evs ++ D.wrE S.held d.length)) := by
 refine call_G ΓWL_ty ΓWL_ok Tryz.func75 (by kernel_rfl) rfl (Nat.le_of_ble_eq_true (by kernel_rfl)) rfl [] ?_
 intro w0 M V0 Q hb H
 have hty := ΓWL_ty
 have hsum := ΓWL_ok
 have mem1 : ∀ {p : Prop} {l : List Prop}, p → (∀ q ∈ l, q) → ∀ q ∈ p :: l, q := fun hp hl q hq => (List.mem_cons.1 hq).elim (fun e => e ▸ hp) (hl q)
 have app : ∀ {l l' : List Prop}, (∀ q ∈ l, q) → (∀ q ∈ l', q) → ∀ q ∈ l ++ l', q := fun h1 h2 q hq => (List.mem_append.1 hq).elim (h1 q) (h2 q)
 have nil : ∀ q ∈ ([] : List Prop), q := fun q hq => by cases hq
 refine G.toC hty hsum mix hb [] (v_0 S S d d d.length evs evs) (mem1 rfl (app (qE_ok rfl rfl rfl rfl) (mem1 rfl (mem1 rfl (mem1 rfl nil))))) ?_
 refine G.loop (fun r s => ∃ (S1 : D.HS) (d2 : List Int) (n1 : Nat) (ev : List (Int × Int)), S1.WF n1 ∧ n1 + d2.length ≤ 1000000000000 ∧ S1.take d2 = S.take d ∧ ev ++ D.wrE S1.held d2.length = evs ++ D.wrE S.held d.length ∧ ev.length + 5 * d2.length + 10 ≤ 1000000000000 ∧ r = d2.length ∧ s = stOf (wrGs d2.length) (vlTb S1 d2 ev) 102 [60, 57, 58] []) (r0 := d.length)
  ⟨S, d, n, evs, hS, hn, rfl, rfl, hl, rfl, rfl⟩ ?_
 rintro r s ⟨S1, d2, n1, ev, hw, hn1, he, hev, hel, rfl, rfl⟩
 by_cases hz : d2.length = 0
 ·have hd : d2 = [] := List.length_eq_zero_iff.1 hz
  subst hd
  have hf : decide (((List.length ([] : List Int) : Nat) : Int) > 0) = false := by decide
  refine G.toC hty hsum mix hb [false] (v_3 S1 S [] d 0 evs ev (evs ++ D.wrE S.held d.length)) (mem1 hf (lgO_ok (by omega) rfl (mem1 rfl (app (qE_ok rfl rfl rfl rfl) ?_)))) (G.leave (by simp) ?_)
  ·have e : ev1 0 ev = evs ++ D.wrE S.held d.length := by rw [← hev, List.length_nil, D.wrE_zero]; rfl
   rw [e]
   exact mem1 rfl (mem1 rfl (mem1 rfl nil))
  have he : S1 = S.take d := he
  subst he
  exact G.finC (cl := []) hty hsum mix [] H (v_4 _ S [] d 0 evs _) nil rfl rfl rfl
 have hpos : decide ((d2.length : Int) > 0) = true := decide_eq_true (by omega)
 have hne : d2 ≠ [] := fun e => hz (by rw [e]; rfl)
 obtain ⟨st, cnt, blk, held⟩ := S1
 have hw' := hw
 obtain ⟨w1, w2, w3, w4, w5⟩ := hw
 simp only at w1 w2 w3 w4 w5
 have chunk : ∀ (S2 : D.HS) (m : Nat), S2.blk.length = 64 → S2.held < 64 → m = min d2.length (64 - S2.held) → S2.WF n1 →
   (⟨S2.st, S2.cnt, S2.blk.take S2.held ++ d2.take m ++ S2.blk.drop (S2.held + (d2.take m).length), S2.held + m⟩ : D.HS) = S2.take (d2.take m) ∧ (S2.take (d2.take m)).WF (n1 + m) ∧ 0 < m ∧ m ≤ d2.length ∧ S2.held + m ≤ 64 := by
  intro S2 m hb2 hh hm hw2
  have hml : (d2.take m).length = m := by rw [List.length_take]; omega
  refine ⟨?_, ?_, by omega, by omega, by omega⟩
  ·rw [D.take_fit hb2 (by rw [hml]; omega), hml]
  ·have := D.WF_take (d := d2.take m) hw2
   rwa [hml] at this
 have next : ∀ (S2 : D.HS) (m : Nat), S2.take d2 = S.take d → (S2.take (d2.take m)).take (d2.drop m) = S.take d := by
  intro S2 m h
  rw [← h]
  show List.foldl _ (List.foldl _ _ _) _ = _
  rw [← List.foldl_append, List.take_append_drop]
  rfl
 by_cases h64 : held = 64
 ·subst h64
  have hcw : IntKind.u64.wrap (cnt + 64) = cnt + 64 := IntWalk.u64_in _ (by omega)
  have hfull : (⟨D.press st blk (cnt + 64) 0, cnt + 64, blk, 0⟩ : D.HS).take d2 = S.take d := by rw [← he]; exact (D.take_full (S := ⟨st, cnt, blk, 64⟩) rfl hne).symm
  obtain ⟨c1, c2, c3, c4, c5⟩ := chunk ⟨D.press st blk (cnt + 64) 0, cnt + 64, blk, 0⟩ (min d2.length 64) w2 (show (0 : Nat) < 64 by decide) rfl ⟨D.press_length _ _ _ _, w2, Nat.zero_le _, by simp only; omega, by simp only; omega⟩
  have hmin : d2.length.min 64 = min d2.length 64 := rfl
  have hn0 : d2.length ≠ 0 := hz
  rw [D.wrE_full hn0] at hev
  generalize min d2.length 64 = m at *
  have hnx := next _ m hfull
  have hdt : decide ((d2.length : Int) > 0) = true := hpos
  have e4 : ev5' d2.length 64 m ev = ev ++ [(1, 1), (1, 1), (3, 31), (2, 0), (2, (m : Int))] := by
   unfold ev5' ev4' ev3' ev2 ev1
   rw [hdt, show (((64 : Nat) : Int) == 64) = true from rfl, iE_t]
   simp only [List.append_assoc, List.cons_append, List.nil_append]
  have hheld : ((⟨D.press st blk (cnt + 64) 0, cnt + 64, blk, 0⟩ : D.HS).take (d2.take m)).held = m := by rw [← c1]; exact Nat.zero_add m
  have l1 : (ev1 d2.length ev).length = ev.length + 1 := by simp [ev1]
  have l2 : (ev2 d2.length 64 ev).length = ev.length + 2 := by simp [ev2, l1]
  have l3 : (ev3' d2.length 64 ev).length = ev.length + 3 := by simp [ev3', l2]
  have l4 : (ev4' d2.length 64 ev).length = ev.length + 4 := by simp [ev4', l3]
  refine G.roundC hty hsum mix hb [true, true] (v_1 ⟨st, cnt, blk, 64⟩ S ((⟨D.press st blk (cnt + 64) 0, cnt + 64, blk, 0⟩ : D.HS).take (d2.take m)) d2 d (d2.drop m) d2.length (d2.drop m).length evs ev (ev5' d2.length 64 m ev)) ?_ (d2.drop m).length (by rw [List.length_drop]; omega) ⟨_, _, n1 + m, _, c2, by rw [List.length_drop]; omega, hnx, ?_, by rw [e4, List.length_append, List.length_drop]; simp only [List.length_cons, List.length_nil]; omega, rfl, rfl⟩
  rotate_left
  ·rw [hheld, e4, ← hev, List.length_drop]
   simp only [List.append_assoc, List.cons_append, List.nil_append]
  rw [hmin]
  have hml : (d2.take m).length = m := by rw [List.length_take]; omega
  refine mem1 ⟨by omega, by omega, by omega⟩ (lgO_ok (by rw [l4]; omega) rfl (mem1 ⟨by omega, by rw [hml]; simp only at c5; omega⟩ (lgO'_ok (by rw [l3]; omega) (app ?_ (lgO'_ok (by rw [l2]; omega) (mem1 (by rfl) (lgO_ok (by rw [l1]; omega) rfl (mem1 hpos (lgO_ok (by omega) rfl (mem1 (by rw [List.length_drop]; omega) (app ?_ (mem1 rfl (app (mem1 ?_ nil) (mem1 rfl nil))))))))))))))
  ·exact of_allP (l := prOb _ _) (show _ ∧ _ ∧ _ ∧ _ ∧ True from ⟨by simp [D.start, bytesI], by simp [D.words], ⟨rfl, rfl⟩, rfl, trivial⟩)
  ·simp only [hcw]
   rw [← c1]
   refine qE_ok rfl rfl ?_ ?_
   ·simp only [splB, bytesI_eq w2]
   ·show IntKind.i64.wrap _ = ((_ + _ : Nat) : Int)
    rw [IntWalk.i64_in _ (by simp only at *; omega)]
    simp only; omega
  ·rw [Int.toNat_natCast, Int.toNat_natCast, List.take_of_length_le (by simp)]
 ·have hh : held < 64 := by omega
  have hob : oB held = 11 + held := by unfold oB; rw [if_neg (by omega), Int.toNat_natCast]; omega
  have hmb : mB d2 held = min d2.length (64 - held) := rfl
  obtain ⟨c1, c2, c3, c4, c5⟩ := chunk ⟨st, cnt, blk, held⟩ (min d2.length (64 - held)) w2 hh rfl hw'
  have hnx := next _ (min d2.length (64 - held)) he
  rw [D.wrE_part hz hh] at hev
  have h64f : ((held : Int) == 64) = false := by simpa using by omega
  have e4 : ev4 d2.length held (min d2.length (64 - held)) ev = ev ++ [(1, 1), (1, 0), (2, (held : Int)), (2, ((min d2.length (64 - held) : Nat) : Int))] := by
   unfold ev4 ev3 ev2 ev1
   rw [hpos, h64f, iE_t, iE_f]
   simp only [List.append_assoc, List.cons_append, List.nil_append]
  have hheld : ((⟨st, cnt, blk, held⟩ : D.HS).take (d2.take (min d2.length (64 - held)))).held = held + min d2.length (64 - held) := by rw [← c1]
  have l1 : (ev1 d2.length ev).length = ev.length + 1 := by simp [ev1]
  have l2 : (ev2 d2.length held ev).length = ev.length + 2 := by simp [ev2, l1]
  have l3 : (ev3 d2.length held ev).length = ev.length + 3 := by simp [ev3, l2]
  refine G.roundC hty hsum mix hb [true, false] (v_2 ⟨st, cnt, blk, held⟩ S ((⟨st, cnt, blk, held⟩ : D.HS).take (d2.take (min d2.length (64 - held)))) d2 d (d2.drop (min d2.length (64 - held))) d2.length (d2.drop (min d2.length (64 - held))).length evs ev (ev4 d2.length held (min d2.length (64 - held)) ev)) ?_ (d2.drop (min d2.length (64 - held))).length (by rw [List.length_drop]; omega) ⟨_, _, n1 + min d2.length (64 - held), _, c2, by rw [List.length_drop]; omega, hnx, ?_, by rw [e4, List.length_append, List.length_drop]; simp only [List.length_cons, List.length_nil]; omega, rfl, rfl⟩
  rotate_left
  ·rw [hheld, e4, ← hev, List.length_drop]
   simp only [List.append_assoc, List.cons_append, List.nil_append]
  have e1 : mB d2 (⟨st, cnt, blk, held⟩ : D.HS).held = min d2.length (64 - held) := hmb
  have e2 : oB (⟨st, cnt, blk, held⟩ : D.HS).held = 11 + held := hob
  rw [e1, e2]
  clear e1 e2
  generalize min d2.length (64 - held) = m at *
  have hml : (d2.take m).length = m := by rw [List.length_take]; omega
  simp only at c1 c5
  refine mem1 ⟨by omega, by omega, by omega⟩ (lgO_ok (by rw [l3]; omega) rfl (mem1 ⟨by omega, by omega⟩ (mem1 ⟨by omega, by omega, by omega, by omega, Int.natCast_nonneg _, by simp only; omega⟩ (lgO_ok (by rw [l2]; omega) rfl (mem1 (by simpa using by omega) (lgO_ok (by rw [l1]; omega) rfl (mem1 hpos (lgO_ok (by omega) rfl (mem1 (by rw [List.length_drop]; omega) (app ?_ (mem1 rfl (app (mem1 ?_ nil) (mem1 rfl nil)))))))))))))
  ·rw [← c1]
   refine qE_ok rfl rfl ?_ ?_
   ·simp only [splB, bytesI_eq w2, Nat.add_sub_cancel_left]
   ·show IntKind.i64.wrap _ = ((_ + _ : Nat) : Int)
    rw [IntWalk.i64_in _ (by simp only at *; omega)]
    simp only; omega
  ·rw [Int.toNat_natCast, Int.toNat_natCast, List.take_of_length_le (by simp)]
end Go.Proofs.YtdhombdiakjdhaaGreatDoor.Sx
end
section
open Go
set_option maxRecDepth 100000
namespace Go.Proofs.YtdhombdiakjdhaaGreatDoor.Sx
def slT (S : D.HS) (evs : List (Int × Int)) : Tab := fun l => look l ((60, .own (hL S) 193) :: lgL evs)
def slO (st b : List Int) (cnt : Int) (held : Nat) (evs : List (Int × Int)) : List Prop :=
 prOb (D.start st (IntKind.u64.wrap (cnt + IntKind.u64.wrap (held : Int))) 4294967295) (D.words (clr held b)) ++ (((List.range 64).map fun j => 64 - j ≤ (clr held b).length) ++
  lgO' (evs ++ [(2, (held : Int))]) ((0 ≤ oS held ∧ oS held + (List.replicate (64 - (held : Int).toNat) (0 : Int)).length ≤ 0 + b.length) :: ((0 : Int) ≤ 64 ∧ (64 : Int) ≤ (64 : Nat) ∧ (0 : Int) ≤ 64 ∧ (64 : Int) ≤ 64 ∧ 0 ≤ (held : Int) ∧ (held : Int) ≤ 64) :: lgO ((held : Int) = (held : Int)) evs []))
theorem sl_run (st blk : List Int) (cnt : Int) (held : Nat) (evs : List (Int × Int)) : interp (env exL 4) Tryz.f76 true [] 2000 [.ptr 60 true 0] (slT ⟨st, cnt, blk, held⟩ evs) 100 100 =
  some { obl := slO st (bytesI 64 blk) cnt held evs, val := .slc 100 true 0 32 32, new := [.own ((D.bytes (D.press st (clr held (bytesI 64 blk)) (IntKind.u64.wrap (cnt + IntKind.u64.wrap (held : Int))) 4294967295)).map (.int false .u8)) 5, .rowp (evs ++ [(2, (held : Int))] ++ [(3, 31)]) 89], wr := [(57, .own (lgC (evs ++ [(2, (held : Int))] ++ [(3, 31)]).length 101) 87), (58, .gone)] } := by kernel_rfl
def hshL (cs : List SV) : Option (Nat × D.HS) := match cs with
 | .ptr L true 0 :: .int _ .i64 z :: r => match beqI z 32, intsK .u32 (r.take 8), (r.drop 8) with
   | true, some st, .int _ .u64 cnt :: r2 => match intsK .u8 (r2.take 64), r2.drop 64 with
     | some blk, [.int _ .i64 h] => some (L, ⟨st, cnt, blk, h.toNat⟩)
     | _, _ => none
   | _, _, _ => none
 | _ => none
def D.nf (S : D.HS) : D.HS := ⟨(List.range 8).map fun j => S.st.getD j 0, S.cnt, bytesI 64 S.blk, (S.held : Int).toNat⟩
theorem hshL_hL (S : D.HS) : hshL (hL S) = some (57, D.nf S) := by kernel_rfl
theorem D.nf_eq {S : D.HS} (h1 : S.st.length = 8) (h2 : S.blk.length = 64) : D.nf S = S := by
 obtain ⟨st, cnt, blk, held⟩ := S
 have e : (List.range 8).map (fun j => st.getD j 0) = st := by
  have : ∀ (n : Nat) (xs : List Int), xs.length = n → (List.range n).map (fun j => xs.getD j 0) = xs := by
   intro n xs h
   apply List.ext_getElem
   ·simp [h]
   ·intro i h1 h2
    simp [List.getD_eq_getElem?_getD, h2]
  exact this 8 st h1
 unfold D.nf
 simp only [e, bytesI_eq h2, Int.toNat_natCast]
def D.smE (h : Nat) : List (Int × Int) := [(2, (h : Int)), (3, 31)]
def D.sumB (S : D.HS) : List Int := D.bytes (D.press S.st (S.blk.take S.held ++ List.replicate (64 - S.held) 0) (S.cnt + S.held) 4294967295)
def smF (S : D.HS) (evs : List (Int × Int)) : Eff := { val := .slc 100 true 0 32 32, new := [.ints .u8 (D.sumB S) 5, .rowp evs 89], wr := [(60, .own (hL S) 193), (57, .own (lgC evs.length 101) 87), (58, .gone)] }
theorem slL_call {S : D.HS} {n : Nat} {evs : List (Int × Int)} (hS : S.WF n) (hn : n ≤ 1000000000000) (hl : evs.length + 10 ≤ 1000000000000) (Γ : Env) (hg : Γ.glob = globs) :
  CallOK Tryz.prog Γ 76 [.ptr 60 true 0] (slT S evs) 100 100 (smF S (evs ++ D.smE S.held)) := by
 obtain ⟨st, cnt, blk, held⟩ := S
 obtain ⟨w1, w2, w3, w4, w5⟩ := hS
 simp only at w1 w2 w3 w4 w5
 have hs : SumOK Tryz.prog (env exL 4) 76 (interp (env exL 4) Tryz.f76 true [] 2000) :=
  interp_ok (env_ty exL 4) (env_ok exL exL_ok 4) mix Tryz.func76 (by kernel_rfl) true [] 2000
 have hc : IntKind.u64.wrap (cnt + IntKind.u64.wrap (held : Int)) = cnt + held := by
  rw [IntWalk.u64_in (held : Int) (by omega), IntWalk.u64_in _ (by omega)]
 have hX := clr_eq w2 w3
 have hXl : (clr held blk).length = 64 := by rw [hX]; simp; omega
 have h1 := hs.call (sl_run st blk cnt held evs) (by
  rw [bytesI_eq w2]
  have hpr : ∀ q ∈ prOb (D.start st (IntKind.u64.wrap (cnt + IntKind.u64.wrap (held : Int))) 4294967295) (D.words (clr held blk)), q :=
   of_allP (l := prOb _ _) (show allP (prOb _ _) from (⟨by simp [D.start, bytesI], by simp [D.words], ⟨rfl, rfl⟩, rfl, trivial⟩ : _ ∧ _ ∧ _ ∧ _ ∧ True))
  unfold slO
  refine memA hpr (memA ?_ (lgO'_ok (by simp; omega) (mem1 ?_ (mem1 (by omega) (lgO_ok (by omega) rfl mem0)))))
  ·intro q hq
   simp only [List.mem_map, List.mem_range] at hq
   obtain ⟨j, hj, rfl⟩ := hq
   rw [hXl]; omega
  ·refine ⟨Nat.zero_le _, ?_⟩
   unfold oS
   rw [List.length_replicate, Int.toNat_natCast, w2]
   split <;> omega)
 rw [bytesI_eq w2, hX, hc] at h1
 have e3 : evs ++ [(2, (held : Int))] ++ [(3, 31)] = evs ++ D.smE held := by rw [List.append_assoc]; rfl
 rw [e3] at h1
 exact ((h1.new1 (C := .ints .u8 _ 5) (o' := []) rfl rfl (fun V => denL_map_int V _ _) rfl).same (l0 := 60) (by simp only [slT, look_cons_eq]) rfl).words (by rw [hg]; rfl) (fun _ => rfl) (fun _ _ h => h) (fun _ => rfl) rfl rfl
def slDec (vs : List SV) (T : Tab) : Option Canon := match vs with
 | [.ptr l _ _] => match T l with
   | some (.own cs ty) => match Nat.beq ty 193, hshL cs with
     | true, some (L, S) => match lgIn T L with
       | some (l2, evs) => some { vs0 := [.ptr 60 true 0], T0 := (60, .own (hL S) 193) :: lgL evs, vl := (60, .lab l 0) :: lgVl L l2, e0 := smF S (evs ++ D.smE S.held), conds := [∃ n, S.WF n ∧ n ≤ 1000000000000, evs.length + 10 ≤ 1000000000000] }
       | none => none
     | _, _ => none
   | _ => none
 | _ => none
theorem slL_ok (Γ : Env) (hg : Γ.glob = globs) : SumOK Tryz.prog Γ 76 (canonS globs 100 slDec) := by
 refine canonS_ok hg fun vs T c hd hc => ?_
 unfold slDec at hd
 split at hd
 case h_2 => cases hd
 split at hd
 case h_2 => cases hd
 split at hd
 case h_2 => cases hd
 split at hd
 case h_2 => cases hd
 cases hd
 obtain ⟨n, h1, h2⟩ := hc _ List.mem_cons_self
 exact slL_call h1 h2 (hc _ (by simp)) Γ hg
theorem wrvL_call {S : D.HS} {n : Nat} (d : List Int) {evs : List (Int × Int)} (hS : S.WF n) (hn : n + d.length ≤ 1000000000000) (hl : evs.length + 5 * d.length + 10 ≤ 1000000000000) (Γ : Env) (hg : Γ.glob = globs) :
  CallOK Tryz.prog Γ 75 [.ptr 60 true 0, .ros 61 d.length] (vlT S d evs) 100 100 (hsE (S.take d) (evs ++ D.wrE S.held d.length)) :=
 (wrL_call d evs hS hn hl).words (by rw [hg]; rfl) (fun _ => rfl) (fun _ _ h => h) (fun _ => rfl) rfl rfl
def wrLDec (vs : List SV) (T : Tab) : Option Canon := match vs with
 | [.ptr l _ _, p] => match T l with
   | some (.own cs ty) => match Nat.beq ty 193, hshL cs, seqRo T .u8 p with
     | true, some (L, S), some (ob, d) => match lgIn T L with
       | some (l2, evs) => some { vs0 := [.ptr 60 true 0, .ros 61 d.length], T0 := vlL S d evs, vl := (60, .lab l 0) :: (61, .arg 1) :: lgVl L l2, e0 := hsE (S.take d) (evs ++ D.wrE S.held d.length), conds := (∃ n, S.WF n ∧ n + d.length ≤ 1000000000000) :: (evs.length + 5 * d.length + 10 ≤ 1000000000000) :: ob }
       | none => none
     | _, _, _ => none
   | _ => none
 | _ => none
theorem wrL_ok (Γ : Env) (hg : Γ.glob = globs) : SumOK Tryz.prog Γ 75 (canonS globs 100 wrLDec) := by
 refine canonS_ok hg fun vs T c hd hc => ?_
 unfold wrLDec at hd
 split at hd
 case h_2 => cases hd
 split at hd
 case h_2 => cases hd
 split at hd
 case h_2 => cases hd
 split at hd
 case h_2 => cases hd
 cases hd
 obtain ⟨n, h1, h2⟩ := hc _ List.mem_cons_self
 exact wrvL_call _ h1 h2 (hc _ (by simp)) Γ hg
noncomputable def exLD : Nat → Option Sum := addS (addS exL 75 (canonS globs 100 wrLDec)) 76 (canonS globs 100 slDec)
theorem exLD_ok : ∀ f S, exLD f = some S → ∀ Γ : Env, Γ.glob = globs → SumOK Tryz.prog Γ f S := addS_ok (addS_ok exL_ok 75 _ wrL_ok) 76 _ slL_ok
end Go.Proofs.YtdhombdiakjdhaaGreatDoor.Sx
end
section
open Go
set_option maxRecDepth 100000
namespace Go.Proofs.YtdhombdiakjdhaaGreatDoor.Sx
noncomputable def ΓOL : Env := env exLD 4
theorem ΓOL_ty : TyOK Tryz.prog ΓOL := env_ty exLD 4
theorem ΓOL_ok : SumsOK Tryz.prog ΓOL := env_ok exLD exLD_ok 4
def olVs (n : Nat) : List SV := [.ptr 57 true 0, .rsl 62 n]
def olL (ds : List (List Int)) (evs : List (Int × Int)) : List (Nat × SB) := (62, .rol ds) :: lgL evs
def olT (ds : List (List Int)) (evs : List (Int × Int)) : Tab := fun l => look l (olL ds evs)
noncomputable def olM (ds : List (List Int)) (evs : List (Int × Int)) (cf : Cf) (K : List Fr) (s : St) : Option Cfg := mrun ΓOL (cutT 100 (olT ds evs)) 100 Tryz.f40.ntmps [3] 400 2000 cf K s
def olGs (n : Nat) (i : Int) : List (Nat × SV) := [(0, .ptr 57 true 0), (1, .rsl 62 n), (4, .ptr 100 true 0), (5, .ptr 101 true 0), (7, .int false .i64 i)]
def olTb (S : D.HS) (evs : List (Int × Int)) : List (Nat × SB) := [(57, .own (lgC evs.length 102) 87), (58, .gone), (100, .own (List.replicate 32 (.int true .u8 0)) 24), (101, .own (hL S) 193), (102, .rowp evs 89)]
noncomputable def olR : Option Cfg := olM [] [] (.go (codeOf Tryz.f40)) [] ((st0 (olVs 0) 100).hint [])
noncomputable def olLp : Code := cfgC olR
noncomputable def olK : List Fr := cfgF olR
def nE1 (evs : List (Int × Int)) : List (Int × Int) := evs ++ [iE false]
def nE2 (evs : List (Int × Int)) : List (Int × Int) := nE1 evs ++ [iE false]
def nE3 (evs : List (Int × Int)) : List (Int × Int) := nE2 evs ++ [iE false]
def nE4 (evs : List (Int × Int)) : List (Int × Int) := nE3 evs ++ [iE false]
theorem ol_0 (ds : List (List Int)) (evs evs' : List (Int × Int)) (S : D.HS) (n : Nat) (i : Int) : toC 100 Tryz.f40.ntmps (cutT 100 (olT ds evs)) [] (olGs n i) (olTb S evs') 103 [57, 58] [] (olM ds evs (.go (codeOf Tryz.f40)) [] ((st0 (olVs n) 100).hint [])) =
  some (.go (.loop olLp), olK, lgO' (nE3 evs) (lgO' (nE2 evs) (lgO' (nE1 evs) (lgO' evs ((n = n) :: (0 = i) :: (((nE4 evs).length : Int) = (evs'.length : Int)) :: (qE D.h0 0 (List.replicate 64 0) 0 S ++ [nE4 evs = evs'])))))) := by kernel_rfl
def oE1 (i : Int) (n : Nat) (evs : List (Int × Int)) : List (Int × Int) := evs ++ [iE (decide (i < n))]
def oE2 (i : Int) (n : Nat) (evs : List (Int × Int)) : List (Int × Int) := oE1 i n evs ++ [(2, i)]
theorem ol_2 (ds : List (List Int)) (evs0 evs evs' : List (Int × Int)) (S : D.HS) (n : Nat) (i : Int) : toC 100 Tryz.f40.ntmps (cutT 100 (olT ds evs0)) [] (olGs n i) (olTb S evs') 103 [57, 58] [] (olM ds evs0 (.go olLp) [] ((stOf (olGs n i) (olTb S evs) 103 [57, 58] []).hint [false])) =
  some (.at (.exit 0), [], (decide (i < n) = false) :: lgO (decide (i < n) = decide (i < n)) evs ((n = n) :: (i = i) :: (((oE1 i n evs).length : Int) = (evs'.length : Int)) :: (qE S.st S.cnt S.blk S.held S ++ [oE1 i n evs = evs']))) := by kernel_rfl
def oWO (S : D.HS) (d : List Int) (evs : List (Int × Int)) (x : List Prop) (r : List Prop) : List Prop :=
 (∃ m, (D.nf S).WF m ∧ m + d.length ≤ 1000000000000) :: (evs.length + 5 * d.length + 10 ≤ 1000000000000) :: (x ++ (qE S.st S.cnt S.blk S.held (D.nf S) ++ (d = d) :: ((evs.length : Int) = (evs.length : Int)) :: (evs = evs) :: r))
theorem ol_1 (ds : List (List Int)) (evs0 evs evs' : List (Int × Int)) (S S' : D.HS) (n : Nat) (i i' : Int) : toC 100 Tryz.f40.ntmps (cutT 100 (olT ds evs0)) [] (olGs n i') (olTb S' evs') 103 [57, 58] [] (olM ds evs0 (.go olLp) [] ((stOf (olGs n i) (olTb S evs) 103 [57, 58] []).hint [true])) =
  some (.at .normal, [], oWO S (ds.getD i.toNat []) (oE2 i n evs) [i.toNat = i.toNat ∧ (ds.getD i.toNat []).length = (ds.getD i.toNat []).length, (ds.getD i.toNat []).length = (ds.getD i.toNat []).length] ((i.toNat < ds.length) :: (0 ≤ i ∧ i < n) ::
   lgO (i = i) (oE1 i n evs) ((decide (i < n) = true) :: lgO (decide (i < n) = decide (i < n)) evs ((n = n) :: (IntKind.i64.wrap (i + 1) = i') ::
    (((oE2 i n evs ++ D.wrE (D.nf S).held (ds.getD i.toNat []).length).length : Int) = (evs'.length : Int)) :: (qE ((D.nf S).take (ds.getD i.toNat [])).st ((D.nf S).take (ds.getD i.toNat [])).cnt ((D.nf S).take (ds.getD i.toNat [])).blk ((D.nf S).take (ds.getD i.toNat [])).held S' ++ [oE2 i n evs ++ D.wrE (D.nf S).held (ds.getD i.toNat []).length = evs']))))) := by kernel_rfl
def hB (b : List Int) : List Int := cp 32 (ar 32 b)
def oSO (S : D.HS) (evs : List (Int × Int)) : List Prop :=
 kO 32 (ar 32 (D.sumB (D.nf S))) :: (32 ≤ (D.sumB (D.nf S)).length) :: (∃ m, (D.nf S).WF m ∧ m ≤ 1000000000000) :: (evs.length + 10 ≤ 1000000000000) :: (qE S.st S.cnt S.blk S.held (D.nf S) ++ [(evs.length : Int) = (evs.length : Int), evs = evs])
theorem ol_3 (ds : List (List Int)) (evs0 evs : List (Int × Int)) (S : D.HS) (n : Nat) (i : Int) : endC ΓOL (olT ds evs0) 100 100 Tryz.f40 [] (olM ds evs0 (.at (.exit 0)) olK ((stOf (olGs n i) (olTb S evs) 103 [57, 58] []).hint [])) =
  some { obl := lO 32 3 (hB (D.sumB (D.nf S))) ++ oSO S evs, val := .ai .u8 (hB (D.sumB (D.nf S))), new := [.rowp (evs ++ D.smE (D.nf S).held) 89], wr := [(57, .own (lgC (evs ++ D.smE (D.nf S).held).length 100) 87), (58, .gone)] } := by kernel_rfl
end Go.Proofs.YtdhombdiakjdhaaGreatDoor.Sx
end
section
open Go
set_option maxRecDepth 100000
namespace Go.Proofs.YtdhombdiakjdhaaGreatDoor.Sx
def D.heldW (h n : Nat) : Nat :=
 if n = 0 then h
 else if 64 ≤ h then D.heldW (min n 64) (n - min n 64)
 else D.heldW (h + min n (64 - h)) (n - min n (64 - h))
termination_by n
decreasing_by all_goals omega
theorem D.heldW_zero (h : Nat) : D.heldW h 0 = h := by rw [D.heldW]; simp
theorem D.heldW_full {n : Nat} (hn : n ≠ 0) : D.heldW 64 n = D.heldW (min n 64) (n - min n 64) := by rw [D.heldW]; simp [hn]
theorem D.heldW_part {h n : Nat} (hn : n ≠ 0) (hh : h < 64) : D.heldW h n = D.heldW (h + min n (64 - h)) (n - min n (64 - h)) := by
 rw [D.heldW]; simp [hn, show ¬ 64 ≤ h by omega]
theorem D.take_app (S : D.HS) (a b : List Int) : (S.take a).take b = S.take (a ++ b) := by
 show List.foldl _ (List.foldl _ _ _) _ = _
 rw [← List.foldl_append]; rfl
theorem D.take_held : ∀ (n : Nat) (d : List Int) (S : D.HS) (k : Nat), d.length = n → S.WF k → (S.take d).held = D.heldW S.held d.length := by
 intro n
 induction n using Nat.strongRecOn with
 | ind n ih =>
   intro d S k hd hS
   by_cases hz : d.length = 0
   ·have e : d = [] := List.length_eq_zero_iff.1 hz
    subst e
    rw [List.length_nil, D.heldW_zero]; rfl
   have hne : d ≠ [] := fun e => hz (by rw [e]; rfl)
   have part : ∀ (S2 : D.HS) (k2 : Nat), S2.WF k2 → S2.held < 64 → (S2.take d).held = D.heldW (S2.held + min d.length (64 - S2.held)) (d.length - min d.length (64 - S2.held)) := by
    intro S2 k2 h2 hh
    have hml : (d.take (min d.length (64 - S2.held))).length = min d.length (64 - S2.held) := by rw [List.length_take]; omega
    have e1 : (S2.take (d.take (min d.length (64 - S2.held)))).held = S2.held + min d.length (64 - S2.held) := by
     rw [D.take_fit h2.bl (by rw [hml]; omega), hml]
    have e2 := ih (d.length - min d.length (64 - S2.held)) (by omega) (d.drop (min d.length (64 - S2.held))) (S2.take (d.take (min d.length (64 - S2.held)))) _ (by rw [List.length_drop]) (D.WF_take h2)
    rw [D.take_app, List.take_append_drop, e1, List.length_drop] at e2
    exact e2
   by_cases h64 : S.held = 64
   ·rw [D.take_full h64 hne, h64, D.heldW_full hz]
    have hb := hS.bl
    have := part ⟨D.press S.st S.blk (S.cnt + 64) 0, S.cnt + 64, S.blk, 0⟩ k ⟨D.press_length _ _ _ _, hb, Nat.zero_le _, by have := hS.cnt; rw [h64] at this; simp only; omega, by have := hS.c0; simp only; omega⟩ (by simp)
    simpa using this
   ·have hh := hS.hl
    rw [part S k hS (by omega), D.heldW_part hz (by omega)]
def D.lsE : Nat → Nat → List Nat → List (Int × Int)
 | _, h, [] => (1, 0) :: D.smE h
 | i, h, n :: r => (1, 1) :: (2, (i : Int)) :: (D.wrE h n ++ D.lsE (i + 1) (D.heldW h n) r)
def D.hashE (lens : List Nat) : List (Int × Int) := (1, 0) :: (1, 0) :: (1, 0) :: (1, 0) :: D.lsE 0 0 lens
theorem D.lsE_at (ds : List (List Int)) {i : Nat} (h : i < ds.length) (hd : Nat) : D.lsE i hd ((ds.drop i).map List.length) = (1, 1) :: (2, (i : Int)) :: (D.wrE hd (ds.getD i []).length ++ D.lsE (i + 1) (D.heldW hd (ds.getD i []).length) ((ds.drop (i + 1)).map List.length)) := by
 rw [List.drop_eq_getElem_cons h, List.map_cons, D.lsE]
 simp [List.getD_eq_getElem?_getD, h]
theorem D.nf_st (ms : List Int) : D.nf (D.st ms) = D.st ms := D.nf_eq (D.WF_st ms).sl (D.WF_st ms).bl
theorem D.sumB_st (ms : List Int) : D.sumB (D.st ms) = D.hash ms := by
 unfold D.sumB
 rw [D.st_fin]; rfl
theorem hB_st (ms : List Int) : hB (D.sumB (D.st ms)) = D.hash ms := by
 unfold hB
 rw [D.sumB_st, ar_same (D.hash_length _), cp_same (D.hash_length _)]
theorem flat_drop {ds : List (List Int)} {i : Nat} (h : i < ds.length) : (ds.drop i).flatten.length = (ds.getD i []).length + (ds.drop (i + 1)).flatten.length := by
 rw [List.drop_eq_getElem_cons h, List.flatten_cons, List.length_append]
 simp [List.getD_eq_getElem?_getD, h]
def aiE (x : List Int) (evs : List (Int × Int)) : Eff := { val := .ai .u8 x, new := [.rowp evs 89], wr := [(57, .own (lgC evs.length 100) 87), (58, .gone)] }
theorem olL_call (ds : List (List Int)) (evs : List (Int × Int)) (hl : ds.flatten.length ≤ 100000000000) (hn : ds.length ≤ 1000000000) (hv : evs.length + 5 * ds.flatten.length + 10 * ds.length + 40 ≤ 1000000000000) (Γ : Env) (hg : Γ.glob = globs) :
  CallOK Tryz.prog Γ 40 (olVs ds.length) (olT ds evs) 100 100 (aiE (D.hash ds.flatten) (evs ++ D.hashE (ds.map List.length))) := by
 refine CallOK.words (Γ := ΓOL) ?_ (by rw [hg]; rfl) (fun _ => rfl) (fun _ _ h => h) (fun _ => rfl) rfl rfl
 refine call_G ΓOL_ty ΓOL_ok Tryz.func40 (by kernel_rfl) rfl (Nat.le_of_ble_eq_true (by kernel_rfl)) rfl [] ?_
 intro w0 M V0 Q hb H
 have hty := ΓOL_ty
 have hsum := ΓOL_ok
 have l1 : (nE1 evs).length = evs.length + 1 := by simp [nE1]
 have l2 : (nE2 evs).length = evs.length + 2 := by simp [nE2, l1]
 have l3 : (nE3 evs).length = evs.length + 3 := by simp [nE3, l2]
 have l4 : (nE4 evs).length = evs.length + 4 := by simp [nE4, l3]
 have e4 : nE4 evs = evs ++ [(1, 0), (1, 0), (1, 0), (1, 0)] := by
  unfold nE4 nE3 nE2 nE1
  rw [iE_f]
  simp only [List.append_assoc, List.cons_append, List.nil_append]
 have q0 : ∀ q ∈ qE D.h0 0 (List.replicate 64 0) 0 (D.st []), q := qE_ok (S' := D.st []) rfl rfl rfl rfl
 refine G.toC hty hsum mix hb [] (ol_0 ds evs (nE4 evs) (D.st []) ds.length 0) (lgO'_ok (by omega) (lgO'_ok (by omega) (lgO'_ok (by omega) (lgO'_ok (by omega) (mem1 rfl (mem1 rfl (mem1 rfl (memA q0 (mem1 rfl mem0))))))))) ?_
 refine G.loop (fun r s => ∃ (i : Nat) (ev : List (Int × Int)), i ≤ ds.length ∧ ev ++ D.lsE i (D.st (ds.take i).flatten).held ((ds.drop i).map List.length) = evs ++ D.hashE (ds.map List.length) ∧ ev.length + 5 * (ds.drop i).flatten.length + 10 * (ds.length - i) + 30 ≤ 1000000000000 ∧ r = ds.length - i ∧ s = stOf (olGs ds.length i) (olTb (D.st (ds.take i).flatten) ev) 103 [57, 58] []) (r0 := ds.length)
  ⟨0, nE4 evs, Nat.zero_le _, by rw [e4, List.append_assoc]; rfl, by rw [l4, List.drop_zero]; omega, rfl, rfl⟩ ?_
 rintro r s ⟨i, ev, hi, he, hel, rfl, rfl⟩
 have hW := D.WF_st (ds.take i).flatten
 have qn := qE_ok (S' := D.nf (D.st (ds.take i).flatten)) (st := (D.st (ds.take i).flatten).st) (cnt := (D.st (ds.take i).flatten).cnt) (blk := (D.st (ds.take i).flatten).blk) (h := ((D.st (ds.take i).flatten).held : Int)) (by rw [D.nf_st]) (by rw [D.nf_st]) (by rw [D.nf_st]) (by rw [D.nf_st])
 by_cases hlt : i < ds.length
 ·have hf := flat_len hlt
  have hfd := flat_drop hlt
  rw [D.lsE_at ds hlt] at he
  have hdec : decide ((i : Int) < (ds.length : Int)) = true := decide_eq_true (by omega)
  have hst : (D.st (ds.take i).flatten).take (ds.getD i []) = D.st (ds.take (i + 1)).flatten := by rw [D.st_append, flat_take hlt]
  have hheld : D.heldW (D.st (ds.take i).flatten).held (ds.getD i []).length = (D.st (ds.take (i + 1)).flatten).held := by rw [← hst]; exact (D.take_held _ _ _ _ rfl hW).symm
  have k1 : (oE1 i ds.length ev).length = ev.length + 1 := by simp [oE1]
  have k2 : (oE2 i ds.length ev).length = ev.length + 2 := by simp [oE2, k1]
  have ke : oE2 i ds.length ev = ev ++ [(1, 1), (2, (i : Int))] := by
   unfold oE2 oE1
   rw [hdec, iE_t, List.append_assoc]; rfl
  have hwl := D.wrE_len (ds.getD i []).length (D.st (ds.take i).flatten).held
  refine G.roundC hty hsum mix hb [true] (ol_1 ds evs ev (oE2 i ds.length ev ++ D.wrE (D.st (ds.take i).flatten).held (ds.getD i []).length) (D.st (ds.take i).flatten) (D.st (ds.take (i + 1)).flatten) ds.length i ((i + 1 : Nat) : Int)) ?_ (ds.length - (i + 1)) (by omega)
   ⟨i + 1, _, hlt, by rw [ke, ← he, hheld]; simp only [List.append_assoc, List.cons_append, List.nil_append], by rw [List.length_append, k2]; omega, rfl, rfl⟩
  unfold oWO
  rw [Int.toNat_natCast, D.nf_st, hst]
  rw [D.nf_st] at qn
  refine mem1 ⟨_, hW, by omega⟩ (mem1 (by rw [k2]; omega) (memA (mem1 ⟨rfl, rfl⟩ (mem1 rfl mem0)) (memA qn (mem1 rfl (mem1 rfl (mem1 rfl (mem1 hlt (mem1 (by omega) (lgO_ok (by rw [k1]; omega) rfl (mem1 hdec (lgO_ok (by omega) rfl (mem1 rfl (mem1 ?_ (mem1 rfl (memA (qE_ok rfl rfl rfl rfl) (mem1 rfl mem0))))))))))))))))
  rw [IntWalk.i64_in _ (by omega)]; omega
 ·have e : i = ds.length := by omega
  subst e
  rw [List.drop_length, List.map_nil, List.take_length] at he
  rw [List.take_length] at *
  have hdec : decide ((ds.length : Int) < (ds.length : Int)) = false := decide_eq_false (by omega)
  have k1 : (oE1 ds.length ds.length ev).length = ev.length + 1 := by simp [oE1]
  have ke : oE1 ds.length ds.length ev = ev ++ [(1, 0)] := by unfold oE1; rw [hdec, iE_f]
  refine G.toC hty hsum mix hb [false] (ol_2 ds evs ev (oE1 ds.length ds.length ev) _ ds.length _) (mem1 hdec (lgO_ok (by omega) rfl (mem1 rfl (mem1 rfl (mem1 rfl (memA (qE_ok rfl rfl rfl rfl) (mem1 rfl mem0))))))) (G.leave (by simp) ?_)
  have hfin : oE1 ds.length ds.length ev ++ D.smE (D.st ds.flatten).held = evs ++ D.hashE (ds.map List.length) := by
   rw [ke, ← he, List.append_assoc]; rfl
  have h3 := ol_3 ds evs (oE1 ds.length ds.length ev) (D.st ds.flatten) ds.length (ds.length : Int)
  unfold oSO at h3
  rw [D.nf_st] at qn h3
  rw [hfin] at h3
  have hsl : (D.sumB (D.st ds.flatten)).length = 32 := by rw [D.sumB_st]; exact D.hash_length _
  refine G.finC (cl := []) hty hsum mix [] H h3 ?_ ?_ rfl rfl
  ·exact memA (lO_ok (by rw [hB_st]; exact D.hash_length _)) (mem1 (kO_ok (by rw [ar_same hsl, hsl]; exact Nat.le_refl _)) (mem1 (by omega) (mem1 ⟨_, hW, by omega⟩ (mem1 (by rw [k1]; omega) (memA qn (mem1 rfl (mem1 rfl mem0)))))))
  ·show SV.ai .u8 (hB _) = _
   rw [hB_st]
   rfl
def olDec (vs : List SV) (T : Tab) : Option Canon := match vs with
 | [.ptr L _ _, p] => match lsIn T p, lgIn T L with
   | some ds, some (l2, evs) => some { vs0 := olVs ds.length, T0 := olL ds evs, vl := (62, .lst 1) :: lgVl L l2, e0 := aiE (D.hash ds.flatten) (evs ++ D.hashE (ds.map List.length)), conds := [ds.flatten.length ≤ 100000000000, ds.length ≤ 1000000000, evs.length + 5 * ds.flatten.length + 10 * ds.length + 40 ≤ 1000000000000] }
   | _, _ => none
 | _ => none
theorem olL_ok (Γ : Env) (hg : Γ.glob = globs) : SumOK Tryz.prog Γ 40 (canonS globs 100 olDec) := by
 refine canonS_ok hg fun vs T c hd hc => ?_
 unfold olDec at hd
 split at hd
 case h_2 => cases hd
 split at hd
 case h_2 => cases hd
 cases hd
 exact olL_call _ _ (hc _ (by simp)) (hc _ (by simp)) (hc _ (by simp)) Γ hg
end Go.Proofs.YtdhombdiakjdhaaGreatDoor.Sx
end
section
open Go
set_option maxRecDepth 100000
namespace Go.Proofs.YtdhombdiakjdhaaGreatDoor.Sx
noncomputable def exQL0 : Nat → Option Sum := addS (addS exLD 40 (canonS globs 100 olDec)) 78 (canonS globs 100 grDec)
noncomputable def exQL : Nat → Option Sum := addH exQL0 44 [false]
theorem exQL_ok : ∀ f S, exQL f = some S → ∀ Γ : Env, Γ.glob = globs → SumOK Tryz.prog Γ f S := addH_ok (addS_ok (addS_ok exLD_ok 40 _ olL_ok) 78 _ gr_ok) 44 [false]
noncomputable def ΓQL : Env := env exQL 7
theorem ΓQL_ty : TyOK Tryz.prog ΓQL := env_ty _ 7
theorem ΓQL_ok : SumsOK Tryz.prog ΓQL := env_ok _ exQL_ok 7
def qlL (key : List Int) (ds : List (List Int)) (evs : List (Int × Int)) : List (Nat × SB) := (61, .rov .u8 key) :: (62, .rol ds) :: (59, .roc [.ptr 57 true 0]) :: lgL evs
def qlT (key : List Int) (ds : List (List Int)) (evs : List (Int × Int)) : Tab := fun l => look l (qlL key ds evs)
def qlVs (k n : Nat) : List SV := [.agg (fastV 59), .ros 61 k, .rsl 62 n]
noncomputable def qlM (key : List Int) (ds : List (List Int)) (evs : List (Int × Int)) (cf : Cf) (K : List Fr) (s : St) : Option Cfg := mrun ΓQL (cutT 100 (qlT key ds evs)) 100 Tryz.f11.ntmps [8] 400 2000 cf K s
def qlTb (a b : List Int) (evs : List (Int × Int)) : List (Nat × SB) := [(57, .own (lgC evs.length 104) 87), (58, .gone), (100, .own (fastV 59) 33), (101, .own (List.replicate 32 (.int true .u8 0)) 24), (102, .ints .u8 a 76), (103, .ints .u8 b 76), (104, .rowp evs 89)]
noncomputable def qlR : Option Cfg := qlM [] [] [] (.go (codeOf Tryz.f11)) [] ((st0 (qlVs 0 0) 100).hint [false])
noncomputable def qlLp : Code := cfgC qlR
noncomputable def qlK : List Fr := cfgF qlR
theorem ql_0 (key a b : List Int) (ds : List (List Int)) (evs evs' : List (Int × Int)) (k n : Nat) (i : Int) : toC 100 Tryz.f11.ntmps (cutT 100 (qlT key ds evs)) [.mvb 57 1] (hqGs n i) (qlTb a b evs') 105 [57, 58] [] (qlM key ds evs (.go (codeOf Tryz.f11)) [] ((st0 (qlVs k n) 100).hint [false])) =
  some (.go (.loop qlLp), qlK, lO 64 4 (cp 64 key) ++ [kO 64 key, decide ((k : Int) > 64) = false, n = n, 0 = i, (evs.length : Int) = (evs'.length : Int), cp 64 key = a ∧ 76 = 76, cp 64 key = b ∧ 76 = 76, evs = evs']) := by kernel_rfl
def evC (evs : List (Int × Int)) (ds : List (List Int)) : Prop := evs.length + 5 * ds.flatten.length + 10 * ds.length + 40 ≤ 1000000000000
def evH (evs : List (Int × Int)) (ds : List (List Int)) : List (Int × Int) := evs ++ D.hashE (ds.map List.length)
theorem ql_1 (key a b : List Int) (ds : List (List Int)) (evs evs' : List (Int × Int)) (k n : Nat) (i : Int) : toC 100 Tryz.f11.ntmps (cutT 100 (qlT key ds evs)) [.mvb 57 1] (hqGs n i) (qlTb a b evs') 105 [57, 58] [] (qlM key ds evs (.go (codeOf Tryz.f11)) [] ((st0 (qlVs k n) 100).hint [true])) =
  some (.go (.loop qlLp), qlK, lO 64 4 (cp 64 (ar 32 (kh key))) ++ (kO 64 (ar 32 (kh key)) :: (32 ≤ (kh key).length) :: (lO 32 5 (kh key) ++ [[key].flatten.length ≤ 100000000000, [key].length ≤ 1000000000, evC evs [key], 1 = [key].length ∧ 1 ≤ 1, [key] = [key], (evs.length : Int) = (evs.length : Int), evs = evs,
   decide ((k : Int) > 64) = true, n = n, 0 = i, ((evH evs [key]).length : Int) = (evs'.length : Int), cp 64 (ar 32 (kh key)) = a ∧ 76 = 76, cp 64 (ar 32 (kh key)) = b ∧ 76 = 76, evH evs [key] = evs']))) := by kernel_rfl
theorem ql_2 (key a b a' b' : List Int) (ds : List (List Int)) (evs0 evs : List (Int × Int)) (n : Nat) (i i' : Int) : toC 100 Tryz.f11.ntmps (cutT 100 (qlT key ds evs0)) [] (hqGs n i') (qlTb a' b' evs) 105 [57, 58] [] (qlM key ds evs0 (.go qlLp) [] ((stOf (hqGs n i) (qlTb a b evs) 105 [57, 58] []).hint [true])) =
  some (.at .normal, [], [0 + i.toNat * 1 < b.length, 0 ≤ i ∧ i < 64, 0 + i.toNat * 1 + 1 ≤ b.length, 0 ≤ i ∧ i < 64, 0 + i.toNat * 1 < a.length, 0 ≤ i ∧ i < 64, 0 + i.toNat * 1 + 1 ≤ a.length, 0 ≤ i ∧ i < 64, decide (i < 64) = true, n = n, IntKind.i64.wrap (i + 1) = i', (evs.length : Int) = (evs.length : Int),
   a.set (0 + i.toNat * 1) (bXor .u8 (a.getD (0 + i.toNat * 1 + 0) 0) 54) = a' ∧ 76 = 76, b.set (0 + i.toNat * 1) (bXor .u8 (b.getD (0 + i.toNat * 1 + 0) 0) 92) = b' ∧ 76 = 76, evs = evs]) := by kernel_rfl
theorem ql_3 (key a b : List Int) (ds : List (List Int)) (evs0 evs : List (Int × Int)) (n : Nat) (i : Int) : toC 100 Tryz.f11.ntmps (cutT 100 (qlT key ds evs0)) [] (hqGs n i) (qlTb a b evs) 105 [57, 58] [] (qlM key ds evs0 (.go qlLp) [] ((stOf (hqGs n i) (qlTb a b evs) 105 [57, 58] []).hint [false])) =
  some (.at (.exit 0), [], [decide (i < 64) = false, n = n, i = i, (evs.length : Int) = (evs.length : Int), a = a ∧ 76 = 76, b = b ∧ 76 = 76, evs = evs]) := by kernel_rfl
def qlE1 (a : List Int) (ds : List (List Int)) (evs : List (Int × Int)) : List (Int × Int) := evH evs ([ar 64 a] ++ ds)
def qlE2 (a b : List Int) (ds : List (List Int)) (evs : List (Int × Int)) : List (Int × Int) := evH (qlE1 a ds evs) [ar 64 b, ar 32 (hqI a ds)]
def qlO (a b : List Int) (ds : List (List Int)) (evs : List (Int × Int)) (n : Nat) : List Prop := p32 (hqX a b ds) 6 (([ar 64 b, ar 32 (hqI a ds)].flatten.length ≤ 100000000000) :: ([ar 64 b, ar 32 (hqI a ds)].length ≤ 1000000000) :: evC (qlE1 a ds evs) [ar 64 b, ar 32 (hqI a ds)] :: (2 = [ar 64 b, ar 32 (hqI a ds)].length ∧ 2 ≤ 2) :: ([ar 64 b, ar 32 (hqI a ds)] = [ar 64 b, ar 32 (hqI a ds)]) ::
    (64 ≤ b.length ∧ 64 ≤ 64) :: (32 ≤ (hqI a ds).length ∧ 32 ≤ 32) :: (((qlE1 a ds evs).length : Int) = ((qlE1 a ds evs).length : Int)) :: (qlE1 a ds evs = qlE1 a ds evs) :: p32 (hqI a ds) 5 [([ar 64 a] ++ ds).flatten.length ≤ 100000000000, ([ar 64 a] ++ ds).length ≤ 1000000000, evC evs ([ar 64 a] ++ ds), 1 + n = ([ar 64 a] ++ ds).length ∧ 1 + n = 1 + n ∧ 1 + n = 1 + ds.length, 1 + n = 1 + ds.length ∧ ds = ds ∧ [ar 64 a] ++ ds = [ar 64 a] ++ ds,
    64 ≤ a.length ∧ 64 ≤ 64, (evs.length : Int) = (evs.length : Int), evs = evs, ds.length = n, (1 + n) * 24 ≤ 140737488355328 ∧ 1 + n ≤ 9223372036854775807, 0 < IntKind.i64.wrap (1 + (n : Int)), IntKind.i64.wrap (1 + (n : Int)) ≤ 1000000000, IntKind.i64.wrap (1 + (n : Int)) = IntKind.i64.wrap (1 + (n : Int)), decide (IntKind.i64.wrap (1 + (n : Int)) < 0) = false])
theorem ql_4 (key a b : List Int) (ds : List (List Int)) (evs0 evs : List (Int × Int)) (n : Nat) (i : Int) : endC ΓQL (qlT key ds evs0) 100 100 Tryz.f11 [] (qlM key ds evs0 (.at (.exit 0)) qlK ((stOf (hqGs n i) (qlTb a b evs) 105 [57, 58] []).hint [])) =
  some { obl := qlO a b ds evs n, val := .ai .u8 (hqX a b ds), new := [.rowp (qlE2 a b ds evs) 89], wr := [(57, .own (lgC (qlE2 a b ds evs).length 100) 87), (58, .gone)] } := by kernel_rfl
end Go.Proofs.YtdhombdiakjdhaaGreatDoor.Sx
end
section
open Go
set_option maxRecDepth 100000
namespace Go.Proofs.YtdhombdiakjdhaaGreatDoor.Sx
theorem D.lsE_len : ∀ (lens : List Nat) (i h : Nat), (D.lsE i h lens).length ≤ 5 * lens.sum + 3 * lens.length + 3
 | [], _, _ => by simp [D.lsE, D.smE]
 | n :: r, i, h => by
   have h1 := D.wrE_len n h
   have h2 := D.lsE_len r (i + 1) (D.heldW h n)
   simp only [D.lsE, List.length_cons, List.length_append, List.sum_cons]
   omega
theorem sum_len (ds : List (List Int)) : (ds.map List.length).sum = ds.flatten.length := by
 rw [List.length_flatten]
theorem evH_len (evs : List (Int × Int)) (ds : List (List Int)) : (evH evs ds).length ≤ evs.length + 5 * ds.flatten.length + 3 * ds.length + 7 := by
 have := D.lsE_len (ds.map List.length) 0 0
 rw [sum_len, List.length_map] at this
 unfold evH D.hashE
 simp only [List.length_append, List.length_cons]
 omega
def D.hmE (k : Nat) (lens : List Nat) : List (Int × Int) := (if k ≤ 64 then [] else D.hashE [k]) ++ (D.hashE (64 :: lens) ++ D.hashE [64, 32])
theorem qlO_ok {a b : List Int} (ha : a.length = 64) (hb : b.length = 64) {ds : List (List Int)} {evs : List (Int × Int)} (hn : ds.length ≤ 100000000) (hl : ds.flatten.length ≤ 10000000000) (hv : evs.length + 5 * ds.flatten.length + 10 * ds.length + 2000 ≤ 1000000000000) : ∀ q ∈ qlO a b ds evs ds.length, q := by
 have hX : (hqX a b ds).length = 32 := D.hash_length _
 have hI : (hqI a ds).length = 32 := D.hash_length _
 have e1 : [ar 64 b, ar 32 (hqI a ds)].flatten.length = 96 := by
  rw [ar_same hb, ar_same hI]
  simp only [List.flatten_cons, List.flatten_nil, List.append_nil, List.length_append, hb, hI]
 have e2 : ([ar 64 a] ++ ds).flatten.length = 64 + ds.flatten.length := by rw [ar_same ha, List.singleton_append, List.flatten_cons, List.length_append, ha]
 have e3 : ([ar 64 a] ++ ds).length = 1 + ds.length := by simp; omega
 have w : IntKind.i64.wrap (1 + (ds.length : Int)) = 1 + ds.length := IntWalk.i64_in _ (by omega)
 have c1 : evC evs ([ar 64 a] ++ ds) := by unfold evC; rw [e2, e3]; omega
 have hE := evH_len evs ([ar 64 a] ++ ds)
 rw [e2, e3] at hE
 have c2 : evC (qlE1 a ds evs) [ar 64 b, ar 32 (hqI a ds)] := by
  unfold evC qlE1
  rw [e1]
  simp only [List.length_cons, List.length_nil]
  omega
 unfold qlO
 rw [w]
 refine p32_ok hX _ (mem1 (by omega) (mem1 (by simp) (mem1 c2 (mem1 ⟨rfl, by omega⟩ (mem1 rfl (mem1 (by omega) (mem1 (by omega) (mem1 rfl (mem1 rfl (p32_ok hI _ (of_allP ?_)))))))))))
 exact ⟨by omega, by omega, c1, ⟨e3.symm, rfl, rfl⟩, ⟨rfl, rfl, rfl⟩, by omega, rfl, rfl, rfl, by omega, by omega, by omega, rfl, decide_eq_false (by omega), trivial⟩
theorem ql_loop {key : List Int} {ds : List (List Int)} {evs0 evs : List (Int × Int)} {n : Nat} {k : List Int} (hk : k.length = 64)
  {w0 : World} {M : Nat → Prop} {V0 : Val} {Q : Exit → Act → World → Prop} (hb : Base ΓQL (cutT 100 (qlT key ds evs0)) 100 V0)
  (h : G Tryz.prog ΓQL w0 M (cutT 100 (qlT key ds evs0)) Tryz.f11.ntmps 100 V0 (.at (.exit 0)) qlK (stOf (hqGs n 64) (qlTb (padN k 54 64) (padN k 92 64) evs) 105 [57, 58] []) Q) :
  G Tryz.prog ΓQL w0 M (cutT 100 (qlT key ds evs0)) Tryz.f11.ntmps 100 V0 (.go (.loop qlLp)) qlK (stOf (hqGs n 0) (qlTb k k evs) 105 [57, 58] []) Q := by
 have hty := ΓQL_ty
 have hsum := ΓQL_ok
 refine G.loop (fun r s => ∃ i : Nat, i ≤ 64 ∧ r = 64 - i ∧ s = stOf (hqGs n i) (qlTb (padN k 54 i) (padN k 92 i) evs) 105 [57, 58] []) (r0 := 64)
  ⟨0, by omega, rfl, by rw [padN_zero hk, padN_zero hk]; rfl⟩ ?_
 rintro r s ⟨i, hi, rfl, rfl⟩
 by_cases hlt : i < 64
 ·have e1 : 0 + (i : Int).toNat * 1 = i := by omega
  refine G.roundC hty hsum mix hb [true] (ql_2 key _ _ (padN k 54 (i + 1)) (padN k 92 (i + 1)) ds evs0 evs n i ((i + 1 : Nat) : Int)) ?_ (64 - (i + 1)) (by omega) ⟨i + 1, hlt, rfl, rfl⟩
  rw [e1, Nat.add_zero]
  have l1 := padN_length k 54 i
  have l2 := padN_length k 92 i
  refine mem1 (by omega) (mem1 (by omega) (mem1 (by omega) (mem1 (by omega) (mem1 (by omega) (mem1 (by omega) (mem1 (by omega) (mem1 (by omega) (mem1 (decide_eq_true (by omega)) (mem1 rfl (mem1 ?_ (mem1 rfl (mem1 ⟨padN_succ k 54 hlt, rfl⟩ (mem1 ⟨padN_succ k 92 hlt, rfl⟩ (mem1 rfl mem0))))))))))))))
  rw [IntWalk.i64_in _ (by omega)]; omega
 ·have e1 : i = 64 := by omega
  subst e1
  refine G.toC hty hsum mix hb [false] (ql_3 key _ _ ds evs0 evs n _) (mem1 (by decide) (mem1 rfl (mem1 rfl (mem1 rfl (mem1 ⟨rfl, rfl⟩ (mem1 ⟨rfl, rfl⟩ (mem1 rfl mem0))))))) (G.leave (by simp) h)
theorem ql_call (key : List Int) (ds : List (List Int)) (evs : List (Int × Int)) (hk : key.length ≤ 1000000000) (hn : ds.length ≤ 100000000) (hl : ds.flatten.length ≤ 10000000000) (hv : evs.length + 5 * ds.flatten.length + 10 * ds.length + 5 * key.length + 4000 ≤ 1000000000000) (Γ : Env) (hg : Γ.glob = globs) :
  CallOK Tryz.prog Γ 11 (qlVs key.length ds.length) (qlT key ds evs) 100 100 (aiE (D.hmac key ds.flatten) (evs ++ D.hmE key.length (ds.map List.length))) := by
 refine CallOK.words (Γ := ΓQL) ?_ (by rw [hg]; rfl) (fun _ => rfl) (fun _ _ h => h) (fun _ => rfl) rfl rfl
 refine call_G ΓQL_ty ΓQL_ok Tryz.func11 (by kernel_rfl) rfl (Nat.le_of_ble_eq_true (by kernel_rfl)) rfl [] ?_
 intro w0 M V0 Q hb H
 have hty := ΓQL_ty
 have hsum := ΓQL_ok
 have fin : ∀ ev : List (Int × Int), ev ++ (D.hashE (64 :: ds.map List.length) ++ D.hashE [64, 32]) = evs ++ D.hmE key.length (ds.map List.length) → ev.length + 5 * ds.flatten.length + 10 * ds.length + 2000 ≤ 1000000000000 →
   G Tryz.prog ΓQL w0 M (cutT 100 (qlT key ds evs)) Tryz.f11.ntmps 100 V0 (.at (.exit 0)) qlK (stOf (hqGs ds.length 64) (qlTb (D.pad (D.key key) 54) (D.pad (D.key key) 92) ev) 105 [57, 58] []) Q := by
  intro ev he hve
  have ha := D.pad_length (D.key key) 54
  have hb2 := D.pad_length (D.key key) 92
  have hI : (hqI (D.pad (D.key key) 54) ds).length = 32 := D.hash_length _
  have hE2 : qlE2 (D.pad (D.key key) 54) (D.pad (D.key key) 92) ds ev = evs ++ D.hmE key.length (ds.map List.length) := by
   rw [← he]
   unfold qlE2 qlE1 evH
   rw [ar_same ha, ar_same hb2, ar_same hI, List.singleton_append, List.map_cons, List.map_cons, List.map_cons, List.map_nil, ha, hb2, hI, List.append_assoc]
  have h4 := ql_4 key (D.pad (D.key key) 54) (D.pad (D.key key) 92) ds evs ev ds.length ((64 : Nat) : Int)
  rw [hE2] at h4
  refine G.finC (cl := []) hty hsum mix [] H h4 (qlO_ok ha hb2 hn hl hve) ?_ rfl rfl
  show SV.ai .u8 (hqX _ _ _) = _
  rw [hqX_eq ha hb2]
  rfl
 by_cases h64 : key.length ≤ 64
 ·have ek : D.key key = key := by unfold D.key; rw [if_pos h64]
  have fin := fin evs (by unfold D.hmE; rw [if_pos h64]; rfl) (by omega)
  rw [ek] at fin
  refine G.toC hty hsum mix hb [false] (ql_0 key (cp 64 key) (cp 64 key) ds evs evs key.length ds.length 0) (memA (lO_ok (cp_length h64)) (mem1 (kO_ok h64) (mem1 (decide_eq_false (by omega)) (mem1 rfl (mem1 rfl (mem1 rfl (mem1 ⟨rfl, rfl⟩ (mem1 ⟨rfl, rfl⟩ (mem1 rfl mem0))))))))) ?_
  refine ql_loop (cp_length h64) hb ?_
  rw [padN_cp h64, padN_cp h64]
  exact fin
 ·have ek : D.key key = D.hash key := by unfold D.key; rw [if_neg h64]
  have hkf : [key].flatten.length = key.length := by simp
  have hE := evH_len evs [key]
  rw [hkf] at hE
  simp only [List.length_cons, List.length_nil] at hE
  have fin := fin (evH evs [key]) (by unfold D.hmE evH; rw [if_neg h64, List.append_assoc]; rfl) (by omega)
  rw [ek] at fin
  have hh := D.hash_length key
  have e0 : kh key = D.hash key := by unfold kh; rw [List.flatten_cons, List.flatten_nil, List.append_nil]
  have ea : ar 32 (kh key) = D.hash key := by rw [e0, ar_same hh]
  have c1 : evC evs [key] := by unfold evC; rw [hkf]; simp only [List.length_cons, List.length_nil]; omega
  refine G.toC hty hsum mix hb [true] (ql_1 key (cp 64 (D.hash key)) (cp 64 (D.hash key)) ds evs (evH evs [key]) key.length ds.length 0) ?_ ?_
  ·rw [ea]
   refine memA (lO_ok (cp_length (by omega))) (mem1 (kO_ok (by omega)) (mem1 (by rw [e0]; omega) (memA (lO_ok (by rw [e0]; exact hh)) (of_allP ?_))))
   exact ⟨by rw [hkf]; omega, by simp, c1, ⟨rfl, by omega⟩, rfl, rfl, rfl, decide_eq_true (by omega), rfl, rfl, rfl, ⟨rfl, rfl⟩, ⟨rfl, rfl⟩, rfl, trivial⟩
  refine ql_loop (cp_length (by omega)) hb ?_
  rw [padN_cp (by omega), padN_cp (by omega)]
  exact fin
def lgEn (T : Tab) (en : List SV) : Option (Nat × Nat × Nat × List (Int × Int)) := match engIn en with
 | some (.fast, Lb) => match T Lb with
   | some B => match cellsB B with
     | some [.ptr L true 0] => match lgIn T L with
       | some (l2, evs) => some (Lb, L, l2, evs)
       | none => none
     | _ => none
   | none => none
 | _ => none
def lgVe (Lb L l2 : Nat) : List (Nat × Src0) := (59, .lab Lb 0) :: lgVl L l2
def qlDec (vs : List SV) (T : Tab) : Option Canon := match vs with
 | [.agg en, p, q] => match lgEn T en, seqRo T .u8 p, lsIn T q with
   | some (Lb, L, l2, evs), some (_, k), some ds => some { vs0 := qlVs k.length ds.length, T0 := qlL k ds evs, vl := (61, .arg 1) :: (62, .lst 2) :: lgVe Lb L l2, e0 := aiE (D.hmac k ds.flatten) (evs ++ D.hmE k.length (ds.map List.length)), conds := [k.length ≤ 1000000000, ds.length ≤ 100000000, ds.flatten.length ≤ 10000000000, evs.length + 5 * ds.flatten.length + 10 * ds.length + 5 * k.length + 4000 ≤ 1000000000000] }
   | _, _, _ => none
 | _ => none
theorem qld_ok (Γ : Env) (hg : Γ.glob = globs) : SumOK Tryz.prog Γ 11 (canonS globs 100 qlDec) := by
 refine canonS_ok hg fun vs T c hd hc => ?_
 unfold qlDec at hd
 split at hd
 case h_2 => cases hd
 split at hd
 case h_2 => cases hd
 cases hd
 exact ql_call _ _ _ (hc _ (by simp)) (hc _ (by simp)) (hc _ (by simp)) (hc _ (by simp)) Γ hg
theorem hmE_len (k : Nat) (lens : List Nat) : (D.hmE k lens).length ≤ 5 * k + 5 * lens.sum + 3 * lens.length + 900 := by
 have h1 := D.lsE_len [k] 0 0
 have h2 := D.lsE_len (64 :: lens) 0 0
 have h3 := D.lsE_len [64, 32] 0 0
 simp only [List.sum_cons, List.sum_nil, List.length_cons, List.length_nil] at h1 h2 h3
 unfold D.hmE D.hashE
 split <;> simp only [List.length_append, List.length_cons, List.length_nil] <;> omega
end Go.Proofs.YtdhombdiakjdhaaGreatDoor.Sx
end
section
open Go
set_option maxRecDepth 100000
namespace Go.Proofs.YtdhombdiakjdhaaGreatDoor.Sx
theorem ri_1 : interp (env exA 3) Tryz.f97 true [] 400 [.bool true true] (fun _ => none) 100 100 = some { val := .agg [.int true .i64 1, .int true .i64 1] } := by kernel_rfl
theorem ri_0 : interp (env exA 3) Tryz.f97 true [] 400 [.bool true false] (fun _ => none) 100 100 = some { val := .agg [.int true .i64 1, .int true .i64 0] } := by kernel_rfl
theorem ri_call (s b : Bool) (Γ : Env) (hg : Γ.glob = globs) : CallOK Tryz.prog Γ 97 [.bool s b] (fun l => look l []) 100 100 { val := .agg [.int false .i64 1, .int false .i64 (if b then 1 else 0)] } := by
 have hs : SumOK Tryz.prog (env exA 3) 97 (interp (env exA 3) Tryz.f97 true [] 400) := interp_ok (env_ty exA 3) (exA_sums 3) mix Tryz.func97 (by kernel_rfl) true [] 400
 cases b with
 | true => exact (hs.call ri_1 (by simp)).words (by rw [hg]; rfl) (fun _ => rfl) (fun _ _ h => by cases h) (fun _ => rfl) rfl rfl
 | false => exact (hs.call ri_0 (by simp)).words (by rw [hg]; rfl) (fun _ => rfl) (fun _ _ h => by cases h) (fun _ => rfl) rfl rfl
def riDec (vs : List SV) (_ : Tab) : Option Canon := match vs with
 | [.bool s b] => some { vs0 := [.bool s b], T0 := [], vl := [], e0 := { val := .agg [.int false .i64 1, .int false .i64 (if b then 1 else 0)] } }
 | _ => none
theorem ri_ok (Γ : Env) (hg : Γ.glob = globs) : SumOK Tryz.prog Γ 97 (canonS globs 100 riDec) := by
 refine canonS_ok hg fun vs T c hd hc => ?_
 unfold riDec at hd
 split at hd
 case h_2 => cases hd
 cases hd
 exact ri_call _ _ Γ hg
noncomputable def exRi : Nat → Option Sum := addS exA 97 (canonS globs 100 riDec)
theorem exRi_ok : ∀ f S, exRi f = some S → ∀ Γ : Env, Γ.glob = globs → SumOK Tryz.prog Γ f S := addS_ok (fun f S h Γ _ => exA_ok f S h Γ) 97 _ ri_ok
noncomputable def ΓRi : Env := env exRi 4
theorem ΓRi_ty : TyOK Tryz.prog ΓRi := env_ty _ 4
theorem ΓRi_ok : SumsOK Tryz.prog ΓRi := env_ok _ exRi_ok 4
def rwVs (h n : Int) : List SV := [.int false .i64 h, .int false .i64 n]
def rwT : Tab := fun l => look l []
noncomputable def rwM (cf : Cf) (K : List Fr) (s : St) : Option Cfg := mrun ΓRi (cutT 100 rwT) 100 Tryz.f99.ntmps [2] 400 2000 cf K s
def rwGs (h n : Int) : List (Nat × SV) := [(0, .int false .i64 h), (1, .int false .i64 n), (6, .buf 100)]
def rwTb (evs : List (Int × Int)) : List (Nat × SB) := [(100, .rowp evs 89)]
noncomputable def rwR : Option Cfg := rwM (.go (codeOf Tryz.f99)) [] ((st0 (rwVs 0 0) 100).hint [])
noncomputable def rwLp : Code := cfgC rwR
noncomputable def rwK : List Fr := cfgF rwR
def apO (evs new : List (Int × Int)) : Prop := (evs.length + new.length) * 16 ≤ 140737488355328 ∧ evs.length + new.length ≤ 9223372036854775807
theorem apO_ok {evs new : List (Int × Int)} (h : evs.length + new.length ≤ 2000000000000) : apO evs new := by unfold apO; omega
def rwA (h : Int) (evs : List (Int × Int)) : List (Int × Int) := evs ++ [(1, 1), iE (h == 64)]
def rwB (h : Int) (evs : List (Int × Int)) : List (Int × Int) := rwA h evs ++ [(3, 31)]
theorem rw_0 (h n h' n' : Int) (evs : List (Int × Int)) : toC 100 Tryz.f99.ntmps (cutT 100 rwT) [.nilp 6 89] (rwGs h' n') (rwTb evs) 101 [] [] (rwM (.go (codeOf Tryz.f99)) [] ((st0 (rwVs h n) 100).hint [])) =
  some (.go (.loop rwLp), rwK, [h = h', n = n', [] = evs]) := by kernel_rfl
theorem rw_1 (h n h' n' : Int) (evs evs' : List (Int × Int)) : toC 100 Tryz.f99.ntmps (cutT 100 rwT) [] (rwGs h' n') (rwTb evs') 101 [] [] (rwM (.go rwLp) [] ((stOf (rwGs h n) (rwTb evs) 101 [] []).hint [true, true, true])) =
  some (.at .normal, [], [apO (rwB h evs) [(2, 0), (2, n)], decide ((64 : Int) > n) = true, apO (rwA h evs) [(3, 31)], (h == 64) = true, apO evs [(1, 1), iE (h == 64)], (h == 64) = (h == 64), decide (n > 0) = true, IntKind.i64.wrap (0 + n) = h', IntKind.i64.wrap (n - n) = n', rwB h evs ++ [(2, 0), (2, n)] = evs']) := by kernel_rfl
theorem rw_2 (h n h' n' : Int) (evs evs' : List (Int × Int)) : toC 100 Tryz.f99.ntmps (cutT 100 rwT) [] (rwGs h' n') (rwTb evs') 101 [] [] (rwM (.go rwLp) [] ((stOf (rwGs h n) (rwTb evs) 101 [] []).hint [true, true, false])) =
  some (.at .normal, [], [apO (rwB h evs) [(2, 0), (2, 64)], decide ((64 : Int) > n) = false, apO (rwA h evs) [(3, 31)], (h == 64) = true, apO evs [(1, 1), iE (h == 64)], (h == 64) = (h == 64), decide (n > 0) = true, 64 = h', IntKind.i64.wrap (n - 64) = n', rwB h evs ++ [(2, 0), (2, 64)] = evs']) := by kernel_rfl
theorem rw_3 (h n h' n' : Int) (evs evs' : List (Int × Int)) : toC 100 Tryz.f99.ntmps (cutT 100 rwT) [] (rwGs h' n') (rwTb evs') 101 [] [] (rwM (.go rwLp) [] ((stOf (rwGs h n) (rwTb evs) 101 [] []).hint [true, false, true])) =
  some (.at .normal, [], [apO (rwA h evs) [(2, h), (2, n)], decide (IntKind.i64.wrap (64 - h) > n) = true, (h == 64) = false, apO evs [(1, 1), iE (h == 64)], (h == 64) = (h == 64), decide (n > 0) = true, IntKind.i64.wrap (h + n) = h', IntKind.i64.wrap (n - n) = n', rwA h evs ++ [(2, h), (2, n)] = evs']) := by kernel_rfl
theorem rw_4 (h n h' n' : Int) (evs evs' : List (Int × Int)) : toC 100 Tryz.f99.ntmps (cutT 100 rwT) [] (rwGs h' n') (rwTb evs') 101 [] [] (rwM (.go rwLp) [] ((stOf (rwGs h n) (rwTb evs) 101 [] []).hint [true, false, false])) =
  some (.at .normal, [], [apO (rwA h evs) [(2, h), (2, IntKind.i64.wrap (64 - h))], decide (IntKind.i64.wrap (64 - h) > n) = false, (h == 64) = false, apO evs [(1, 1), iE (h == 64)], (h == 64) = (h == 64), decide (n > 0) = true, IntKind.i64.wrap (h + IntKind.i64.wrap (64 - h)) = h', IntKind.i64.wrap (n - IntKind.i64.wrap (64 - h)) = n', rwA h evs ++ [(2, h), (2, IntKind.i64.wrap (64 - h))] = evs']) := by kernel_rfl
theorem rw_5 (h n h' n' : Int) (evs evs' : List (Int × Int)) : toC 100 Tryz.f99.ntmps (cutT 100 rwT) [] (rwGs h' n') (rwTb evs') 101 [] [] (rwM (.go rwLp) [] ((stOf (rwGs h n) (rwTb evs) 101 [] []).hint [false])) =
  some (.at (.exit 0), [], [decide (n > 0) = false, h = h', n = n', evs = evs']) := by kernel_rfl
theorem rw_6 (h n : Int) (evs : List (Int × Int)) : endC ΓRi rwT 100 100 Tryz.f99 [] (rwM (.at (.exit 0)) rwK ((stOf (rwGs h n) (rwTb evs) 101 [] []).hint [])) =
  some { obl := [apO evs [iE false]], val := .tup [.buf 100, .int false .i64 h], new := [.rowp (evs ++ [iE false]) 89] } := by kernel_rfl
theorem rw_call {h n : Nat} (hh : h ≤ 64) (hn : n ≤ 100000000000) (Γ : Env) (hg : Γ.glob = globs) :
  CallOK Tryz.prog Γ 99 (rwVs h n) rwT 100 100 { val := .tup [.buf 100, .int false .i64 (D.heldW h n : Nat)], new := [.rowp (D.wrE h n) 89] } := by
 refine CallOK.words (Γ := ΓRi) ?_ (by rw [hg]; rfl) (fun _ => rfl) (fun _ _ h => h) (fun _ => rfl) rfl rfl
 refine call_G ΓRi_ty ΓRi_ok Tryz.func99 (by kernel_rfl) rfl (Nat.le_of_ble_eq_true (by kernel_rfl)) rfl [] ?_
 intro w0 M V0 Q hb H
 have hty := ΓRi_ty
 have hsum := ΓRi_ok
 refine G.toC hty hsum mix hb [] (rw_0 h n h n []) (mem1 rfl (mem1 rfl (mem1 rfl mem0))) ?_
 refine G.loop (fun r s => ∃ (h1 n1 : Nat) (ev : List (Int × Int)), h1 ≤ 64 ∧ ev ++ D.wrE h1 n1 = D.wrE h n ∧ D.heldW h1 n1 = D.heldW h n ∧ ev.length + 5 * n1 + 10 ≤ 1000000000000 ∧ r = n1 ∧ s = stOf (rwGs h1 n1) (rwTb ev) 101 [] []) (r0 := n)
  ⟨h, n, [], hh, rfl, rfl, by simp; omega, rfl, rfl⟩ ?_
 rintro r s ⟨h1, n1, ev, hh1, he, hw, hl, rfl, rfl⟩
 by_cases hz : r = 0
 ·subst hz
  refine G.toC hty hsum mix hb [false] (rw_5 h1 (0 : Nat) h1 (0 : Nat) ev ev) (mem1 (by decide) (mem1 rfl (mem1 rfl (mem1 rfl mem0)))) (G.leave (by simp) ?_)
  rw [D.wrE_zero] at he
  rw [D.heldW_zero] at hw
  subst hw
  have h6 := rw_6 (D.heldW h n : Nat) (0 : Nat) ev
  rw [iE_f, he] at h6
  exact G.finC (cl := []) hty hsum mix [] H h6 (mem1 (apO_ok (by simp; omega)) mem0) rfl rfl rfl
 have hpos : decide ((r : Int) > 0) = true := decide_eq_true (by omega)
 by_cases h64 : h1 = 64
 ·subst h64
  rw [D.wrE_full hz] at he
  rw [D.heldW_full hz] at hw
  have hb64 : (((64 : Nat) : Int) == 64) = true := rfl
  have lA : (rwA (64 : Nat) ev).length = ev.length + 2 := by unfold rwA; rw [List.length_append]; rfl
  have lB : (rwB (64 : Nat) ev).length = ev.length + 3 := by unfold rwB; rw [List.length_append, lA]; rfl
  have eB : rwB (64 : Nat) ev = ev ++ [(1, 1), (1, 1), (3, 31)] := by unfold rwB rwA; rw [hb64, iE_t, List.append_assoc]; rfl
  by_cases hm : r < 64
  ·rw [Nat.min_eq_left (by omega)] at he hw
   refine G.roundC hty hsum mix hb [true, true, true] (rw_1 (64 : Nat) r (r : Nat) ((r - r : Nat)) ev (rwB (64 : Nat) ev ++ [(2, 0), (2, (r : Int))])) ?_ (r - r) (by omega)
    ⟨r, r - r, _, by omega, by rw [← he, eB]; simp only [List.append_assoc, List.cons_append, List.nil_append], hw, by rw [List.length_append, lB]; simp only [List.length_cons, List.length_nil]; omega, rfl, rfl⟩
   refine mem1 (apO_ok (by rw [lB]; simp; omega)) (mem1 (decide_eq_true (by omega)) (mem1 (apO_ok (by rw [lA]; simp; omega)) (mem1 hb64 (mem1 (apO_ok (by simp; omega)) (mem1 rfl (mem1 hpos (mem1 ?_ (mem1 ?_ (mem1 rfl mem0)))))))))
   ·rw [IntWalk.i64_in _ (by omega)]; omega
   ·rw [IntWalk.i64_in _ (by omega)]; omega
  ·rw [Nat.min_eq_right (by omega)] at he hw
   refine G.roundC hty hsum mix hb [true, true, false] (rw_2 (64 : Nat) r (64 : Nat) ((r - 64 : Nat)) ev (rwB (64 : Nat) ev ++ [(2, 0), (2, 64)])) ?_ (r - 64) (by omega)
    ⟨64, r - 64, _, by omega, by rw [← he, eB]; simp only [List.append_assoc, List.cons_append, List.nil_append]; rfl, hw, by rw [List.length_append, lB]; simp only [List.length_cons, List.length_nil]; omega, rfl, rfl⟩
   refine mem1 (apO_ok (by rw [lB]; simp; omega)) (mem1 (decide_eq_false (by omega)) (mem1 (apO_ok (by rw [lA]; simp; omega)) (mem1 hb64 (mem1 (apO_ok (by simp; omega)) (mem1 rfl (mem1 hpos (mem1 rfl (mem1 ?_ (mem1 rfl mem0)))))))))
   rw [IntWalk.i64_in _ (by omega)]; omega
 ·have hlt : h1 < 64 := by omega
  rw [D.wrE_part hz hlt] at he
  rw [D.heldW_part hz hlt] at hw
  have hb64 : ((h1 : Int) == 64) = false := by simpa using by omega
  have lA : (rwA h1 ev).length = ev.length + 2 := by simp [rwA]
  have eA : rwA h1 ev = ev ++ [(1, 1), (1, 0)] := by unfold rwA; rw [hb64, iE_f]
  have w64 : IntKind.i64.wrap (64 - (h1 : Int)) = ((64 - h1 : Nat) : Int) := by rw [IntWalk.i64_in _ (by omega)]; omega
  by_cases hm : r < 64 - h1
  ·rw [Nat.min_eq_left (by omega)] at he hw
   refine G.roundC hty hsum mix hb [true, false, true] (rw_3 h1 r ((h1 + r : Nat)) ((r - r : Nat)) ev (rwA h1 ev ++ [(2, (h1 : Int)), (2, (r : Int))])) ?_ (r - r) (by omega)
    ⟨h1 + r, r - r, _, by omega, by rw [← he, eA]; simp only [List.append_assoc, List.cons_append, List.nil_append], hw, by rw [List.length_append, lA]; simp only [List.length_cons, List.length_nil]; omega, rfl, rfl⟩
   refine mem1 (apO_ok (by rw [lA]; simp; omega)) (mem1 (by rw [w64]; exact decide_eq_true (by omega)) (mem1 hb64 (mem1 (apO_ok (by simp; omega)) (mem1 rfl (mem1 hpos (mem1 ?_ (mem1 ?_ (mem1 rfl mem0))))))))
   ·rw [IntWalk.i64_in _ (by omega)]; omega
   ·rw [IntWalk.i64_in _ (by omega)]; omega
  ·rw [Nat.min_eq_right (by omega)] at he hw
   refine G.roundC hty hsum mix hb [true, false, false] (rw_4 h1 r ((h1 + (64 - h1) : Nat)) ((r - (64 - h1) : Nat)) ev (rwA h1 ev ++ [(2, (h1 : Int)), (2, ((64 - h1 : Nat) : Int))])) ?_ (r - (64 - h1)) (by omega)
    ⟨h1 + (64 - h1), r - (64 - h1), _, by omega, by rw [← he, eA]; simp only [List.append_assoc, List.cons_append, List.nil_append], hw, by rw [List.length_append, lA]; simp only [List.length_cons, List.length_nil]; omega, rfl, rfl⟩
   rw [w64]
   refine mem1 (apO_ok (by rw [lA]; simp; omega)) (mem1 (decide_eq_false (by omega)) (mem1 hb64 (mem1 (apO_ok (by simp; omega)) (mem1 rfl (mem1 hpos (mem1 ?_ (mem1 ?_ (mem1 rfl mem0))))))))
   ·rw [IntWalk.i64_in _ (by omega)]; omega
   ·rw [IntWalk.i64_in _ (by omega)]; omega
def rwDec (vs : List SV) (_ : Tab) : Option Canon := match vs with
 | [.int _ .i64 h, .int _ .i64 n] => some { vs0 := rwVs (h.toNat : Nat) (n.toNat : Nat), T0 := [], vl := [], e0 := { val := .tup [.buf 100, .int false .i64 (D.heldW h.toNat n.toNat : Nat)], new := [.rowp (D.wrE h.toNat n.toNat) 89] }, conds := [h.toNat ≤ 64, n.toNat ≤ 100000000000] }
 | _ => none
theorem rwd_ok (Γ : Env) (hg : Γ.glob = globs) : SumOK Tryz.prog Γ 99 (canonS globs 100 rwDec) := by
 refine canonS_ok hg fun vs T c hd hc => ?_
 unfold rwDec at hd
 split at hd
 case h_2 => cases hd
 cases hd
 exact rw_call (hc _ (by simp)) (hc _ (by simp)) Γ hg
end Go.Proofs.YtdhombdiakjdhaaGreatDoor.Sx
end
section
open Go
set_option maxRecDepth 100000
namespace Go.Proofs.YtdhombdiakjdhaaGreatDoor.Sx
noncomputable def exRw : Nat → Option Sum := addS exRi 99 (canonS globs 100 rwDec)
theorem exRw_ok : ∀ f S, exRw f = some S → ∀ Γ : Env, Γ.glob = globs → SumOK Tryz.prog Γ f S := addS_ok exRi_ok 99 _ rwd_ok
noncomputable def ΓRw : Env := env exRw 5
theorem ΓRw_ty : TyOK Tryz.prog ΓRw := env_ty _ 5
theorem ΓRw_ok : SumsOK Tryz.prog ΓRw := env_ok _ exRw_ok 5
def rhVs (n : Nat) : List SV := [.ros 61 n]
def rhT (xs : List Int) : Tab := fun l => look l [(61, .rov .i64 xs)]
noncomputable def rhM (xs : List Int) (cf : Cf) (K : List Fr) (s : St) : Option Cfg := mrun ΓRw (cutT 100 (rhT xs)) 100 Tryz.f54.ntmps [4] 400 2000 cf K s
def rhGs (n : Nat) (h i : Int) : List (Nat × SV) := [(0, .ros 61 n), (3, .buf 100), (4, .int false .i64 h), (5, .int false .i64 i)]
noncomputable def rhR : Option Cfg := rhM [] (.go (codeOf Tryz.f54)) [] ((st0 (rhVs 0) 100).hint [])
noncomputable def rhLp : Code := cfgC rhR
noncomputable def rhK : List Fr := cfgF rhR
theorem rh_0 (xs : List Int) (n : Nat) (h i : Int) (evs : List (Int × Int)) : toC 100 Tryz.f54.ntmps (cutT 100 (rhT xs)) [] (rhGs n h i) (rwTb evs) 101 [] [] (rhM xs (.go (codeOf Tryz.f54)) [] ((st0 (rhVs n) 100).hint [])) =
  some (.go (.loop rhLp), rhK, [64 ≤ 140737488355328 ∧ 4 ≤ 9223372036854775807, 48 ≤ 140737488355328 ∧ 3 ≤ 9223372036854775807, 32 ≤ 140737488355328 ∧ 2 ≤ 9223372036854775807, 16 ≤ 140737488355328 ∧ 1 ≤ 9223372036854775807, n = n, 0 = h, 0 = i, [(1, 0), (1, 0), (1, 0), (1, 0)] = evs]) := by kernel_rfl
def rhA (i : Int) (evs : List (Int × Int)) : List (Int × Int) := evs ++ [(1, 1), (2, i)]
def rhN (xs : List Int) (i : Int) : Nat := (xs.getD i.toNat 0).toNat
theorem rh_1 (xs : List Int) (n : Nat) (h i h' i' : Int) (evs evs' : List (Int × Int)) : toC 100 Tryz.f54.ntmps (cutT 100 (rhT xs)) [] (rhGs n h' i') (rwTb evs') 101 [] [] (rhM xs (.go rhLp) [] ((stOf (rhGs n h i) (rwTb evs) 101 [] []).hint [true])) =
  some (.at .normal, [], [apO (rhA i evs) (D.wrE h.toNat (rhN xs i)), h.toNat ≤ 64, rhN xs i ≤ 100000000000, h = (h.toNat : Int), xs.getD i.toNat 0 = (rhN xs i : Int), i.toNat < xs.length, 0 ≤ i ∧ i < (n : Int), apO evs [(1, 1), (2, i)], decide (i < (n : Int)) = true, n = n, (D.heldW h.toNat (rhN xs i) : Int) = h', IntKind.i64.wrap (i + 1) = i', rhA i evs ++ D.wrE h.toNat (rhN xs i) = evs']) := by kernel_rfl
theorem rh_2 (xs : List Int) (n : Nat) (h i : Int) (evs evs' : List (Int × Int)) : toC 100 Tryz.f54.ntmps (cutT 100 (rhT xs)) [] (rhGs n h i) (rwTb evs') 101 [] [] (rhM xs (.go rhLp) [] ((stOf (rhGs n h i) (rwTb evs) 101 [] []).hint [false])) =
  some (.at (.exit 0), [], [decide (i < (n : Int)) = false, n = n, h = h, i = i, evs = evs']) := by kernel_rfl
theorem rh_3 (xs : List Int) (n : Nat) (h i : Int) (evs : List (Int × Int)) : endC ΓRw (rhT xs) 100 100 Tryz.f54 [] (rhM xs (.at (.exit 0)) rhK ((stOf (rhGs n h i) (rwTb evs) 101 [] []).hint [])) =
  some { obl := [apO (evs ++ [iE false]) ([] ++ [(2, h), (3, 31)]), apO [] [(2, h), (3, 31)], apO evs [iE false]], val := .buf 100, new := [.rowp (evs ++ [iE false] ++ ([] ++ [(2, h), (3, 31)])) 89] } := by kernel_rfl
theorem D.heldW_le (n : Nat) : ∀ h, h ≤ 64 → D.heldW h n ≤ 64 := by
 induction n using Nat.strongRecOn with
 | ind n ih =>
   intro h hh
   rw [D.heldW]
   split
   ·exact hh
   ·split
    ·exact ih _ (by omega) _ (by omega)
    ·exact ih _ (by omega) _ (by omega)
def nzL (ls : List Nat) : List Int := ls.map fun n : Nat => (n : Int)
theorem nzL_getD (ls : List Nat) (i : Nat) : (nzL ls).getD i 0 = ((ls.getD i 0 : Nat) : Int) := by
 simp only [nzL, List.getD_eq_getElem?_getD, List.getElem?_map]
 cases ls[i]? <;> rfl
theorem D.lsE_nth (ls : List Nat) {i : Nat} (h : i < ls.length) (hd : Nat) : D.lsE i hd (ls.drop i) = (1, 1) :: (2, (i : Int)) :: (D.wrE hd (ls.getD i 0) ++ D.lsE (i + 1) (D.heldW hd (ls.getD i 0)) (ls.drop (i + 1))) := by
 rw [List.drop_eq_getElem_cons h, D.lsE]
 simp [List.getD_eq_getElem?_getD, h]
theorem sum_drop (ls : List Nat) {i : Nat} (h : i < ls.length) : (ls.drop i).sum = ls.getD i 0 + (ls.drop (i + 1)).sum := by
 rw [List.drop_eq_getElem_cons h, List.sum_cons]
 simp [List.getD_eq_getElem?_getD, h]
theorem rh_call {ls : List Nat} (hs : ls.sum ≤ 100000000000) (hn : ls.length ≤ 1000000000) (Γ : Env) (hg : Γ.glob = globs) :
  CallOK Tryz.prog Γ 54 (rhVs ls.length) (rhT (nzL ls)) 100 100 { val := .buf 100, new := [.rowp (D.hashE ls) 89] } := by
 refine CallOK.words (Γ := ΓRw) ?_ (by rw [hg]; rfl) (fun _ => rfl) (fun _ _ h => h) (fun _ => rfl) rfl rfl
 refine call_G ΓRw_ty ΓRw_ok Tryz.func54 (by kernel_rfl) rfl (Nat.le_of_ble_eq_true (by kernel_rfl)) rfl [] ?_
 intro w0 M V0 Q hb H
 have hty := ΓRw_ty
 have hsum := ΓRw_ok
 have hzl : (nzL ls).length = ls.length := by simp [nzL]
 refine G.toC hty hsum mix hb [] (rh_0 (nzL ls) ls.length 0 0 _) (of_allP ⟨by omega, by omega, by omega, by omega, rfl, rfl, rfl, rfl, trivial⟩) ?_
 refine G.loop (fun r s => ∃ (i h : Nat) (ev : List (Int × Int)), i ≤ ls.length ∧ h ≤ 64 ∧ ev ++ D.lsE i h (ls.drop i) = D.hashE ls ∧ ev.length + 5 * (ls.drop i).sum + 3 * (ls.length - i) + 10 ≤ 1000000000000 ∧ r = ls.length - i ∧ s = stOf (rhGs ls.length h i) (rwTb ev) 101 [] []) (r0 := ls.length)
  ⟨0, 0, [(1, 0), (1, 0), (1, 0), (1, 0)], Nat.zero_le _, Nat.zero_le _, rfl, by rw [List.drop_zero]; simp only [List.length_cons, List.length_nil]; omega, rfl, rfl⟩ ?_
 rintro r s ⟨i, h, ev, hi, hh, he, hl, rfl, rfl⟩
 by_cases hlt : i < ls.length
 ·rw [D.lsE_nth ls hlt] at he
  have hsd := sum_drop ls hlt
  have hN : rhN (nzL ls) i = ls.getD i 0 := by unfold rhN; rw [Int.toNat_natCast, nzL_getD, Int.toNat_natCast]
  have hwl := D.wrE_len (ls.getD i 0) h
  have hle : ls.getD i 0 ≤ ls.sum := by
   have : (ls.drop i).sum ≤ ls.sum := by
    have e := congrArg List.sum (List.take_append_drop i ls)
    rw [List.sum_append] at e
    omega
   omega
  have lA : (rhA i ev).length = ev.length + 2 := by simp [rhA]
  refine G.roundC hty hsum mix hb [true] (rh_1 (nzL ls) ls.length h i (D.heldW h (ls.getD i 0) : Nat) ((i + 1 : Nat)) ev (rhA i ev ++ D.wrE h (ls.getD i 0))) ?_ (ls.length - (i + 1)) (by omega)
   ⟨i + 1, D.heldW h (ls.getD i 0), _, hlt, D.heldW_le _ _ hh, by rw [← he]; unfold rhA; simp only [List.append_assoc, List.cons_append, List.nil_append], by rw [List.length_append, lA]; omega, rfl, rfl⟩
  rw [hN, Int.toNat_natCast, Int.toNat_natCast, nzL_getD]
  refine mem1 (apO_ok (by rw [lA]; omega)) (mem1 hh (mem1 (by omega) (mem1 rfl (mem1 rfl (mem1 (by rw [hzl]; exact hlt) (mem1 (by omega) (mem1 (apO_ok (by simp; omega)) (mem1 (decide_eq_true (by omega)) (mem1 rfl (mem1 rfl (mem1 ?_ (mem1 rfl mem0))))))))))))
  rw [IntWalk.i64_in _ (by omega)]; omega
 ·have e : i = ls.length := by omega
  subst e
  rw [List.drop_length] at he
  refine G.toC hty hsum mix hb [false] (rh_2 (nzL ls) ls.length h ls.length ev ev) (mem1 (decide_eq_false (by omega)) (mem1 rfl (mem1 rfl (mem1 rfl (mem1 rfl mem0))))) (G.leave (by simp) ?_)
  have h3 := rh_3 (nzL ls) ls.length h ls.length ev
  have e2 : ev ++ [iE false] ++ ([] ++ [(2, (h : Int)), (3, 31)]) = D.hashE ls := by
   rw [← he, iE_f, List.append_assoc]; rfl
  rw [e2] at h3
  exact G.finC (cl := []) hty hsum mix [] H h3 (mem1 (apO_ok (by simp; omega)) (mem1 (apO_ok (by simp)) (mem1 (apO_ok (by simp; omega)) mem0))) rfl rfl rfl
def natL (xs : List Int) : List Nat := xs.map Int.toNat
def rhDec (vs : List SV) (T : Tab) : Option Canon := match vs with
 | [p] => match seqRo T .i64 p with
   | some (ob, xs) => some { vs0 := rhVs (natL xs).length, T0 := [(61, .rov .i64 (nzL (natL xs)))], vl := [(61, .arg 0)], e0 := { val := .buf 100, new := [.rowp (D.hashE (natL xs)) 89] }, conds := ((natL xs).sum ≤ 100000000000) :: ((natL xs).length ≤ 1000000000) :: ob }
   | none => none
 | _ => none
theorem rhd_ok (Γ : Env) (hg : Γ.glob = globs) : SumOK Tryz.prog Γ 54 (canonS globs 100 rhDec) := by
 refine canonS_ok hg fun vs T c hd hc => ?_
 unfold rhDec at hd
 split at hd
 case h_2 => cases hd
 split at hd
 case h_2 => cases hd
 cases hd
 exact rh_call (hc _ (by simp)) (hc _ (by simp)) Γ hg
noncomputable def exRh : Nat → Option Sum := addS exRw 54 (canonS globs 100 rhDec)
theorem exRh_ok : ∀ f S, exRh f = some S → ∀ Γ : Env, Γ.glob = globs → SumOK Tryz.prog Γ f S := addS_ok exRw_ok 54 _ rhd_ok
end Go.Proofs.YtdhombdiakjdhaaGreatDoor.Sx
end
section
open Go
set_option maxRecDepth 100000
namespace Go.Proofs.YtdhombdiakjdhaaGreatDoor.Sx
def reVs (k : Int) (n : Nat) : List SV := [.int false .i64 k, .ros 61 n]
def reX (xs : List Int) : List Int := List.take 1 [64] ++ xs
def reY : List Int := ar 2 [64, 32]
def reA (xs : List Int) : List (Int × Int) := D.hashE (natL (reX xs))
def reB : List (Int × Int) := D.hashE (natL reY)
def bfE (evs : List (Int × Int)) (ob : List Prop) : Eff := { obl := ob, val := .buf 100, new := [.rowp evs 89] }
theorem re_0 (k : Int) (n : Nat) (xs : List Int) : interp (env exRh 4) Tryz.f23 true [false] 1500 (reVs k n) (rhT xs) 100 100 =
  some (bfE ([] ++ reA xs ++ reB) (apO ([] ++ reA xs) reB :: ((natL reY).sum ≤ 100000000000) :: ((natL reY).length ≤ 1000000000) :: (2 ≤ 2 ∧ 2 ≤ 2) :: (2 ≤ 2 ∧ 2 ≤ 2) :: ((natL reY).length = reY.length) :: (reY = nzL (natL reY)) :: (2 ≤ 2 ∧ 2 ≤ 2) :: apO [] (reA xs) :: ((natL (reX xs)).sum ≤ 100000000000) :: ((natL (reX xs)).length ≤ 1000000000) :: ((natL (reX xs)).length = (reX xs).length) :: (reX xs = nzL (natL (reX xs))) :: ((1 + xs.length) * 8 ≤ 140737488355328) :: [decide (k > 64) = false])) := by kernel_rfl
theorem natL_nz (ls : List Nat) : natL (nzL ls) = ls := by
 unfold natL nzL
 rw [List.map_map]
 conv => rhs; rw [← List.map_id ls]
 apply List.map_congr_left
 intro n _
 simp
theorem reX_nz (ls : List Nat) : reX (nzL ls) = nzL (64 :: ls) := rfl
theorem reY_nz : reY = nzL [64, 32] := rfl
theorem hashE_len (ls : List Nat) : (D.hashE ls).length ≤ 5 * ls.sum + 3 * ls.length + 7 := by
 have := D.lsE_len ls 0 0
 unfold D.hashE
 simp only [List.length_cons]
 omega
theorem re_call {k : Int} {ls : List Nat} (hk : k ≤ 64) (hs : ls.sum ≤ 10000000000) (hn : ls.length ≤ 100000000) (Γ : Env) (hg : Γ.glob = globs) :
  CallOK Tryz.prog Γ 23 (reVs k ls.length) (rhT (nzL ls)) 100 100 { val := .buf 100, new := [.rowp (D.hashE (64 :: ls) ++ D.hashE [64, 32]) 89] } := by
 have hs' : SumOK Tryz.prog (env exRh 4) 23 (interp (env exRh 4) Tryz.f23 true [false] 1500) :=
  interp_ok (env_ty exRh 4) (env_ok exRh exRh_ok 4) mix Tryz.func23 (by kernel_rfl) true [false] 1500
 have hzl : (nzL ls).length = ls.length := by simp [nzL]
 have h1 := hashE_len (64 :: ls)
 have h2 := hashE_len [64, 32]
 simp only [List.sum_cons, List.sum_nil, List.length_cons, List.length_nil] at h1 h2
 have hA : reA (nzL ls) = D.hashE (64 :: ls) := by unfold reA; rw [reX_nz, natL_nz]
 have hB : reB = D.hashE [64, 32] := by unfold reB; rw [reY_nz, natL_nz]
 have h := hs'.call (re_0 k ls.length (nzL ls)) (of_allP (by
  rw [hA, hB, reX_nz, reY_nz, natL_nz, natL_nz, hzl]
  have hz1 : (nzL (64 :: ls)).length = (64 :: ls).length := by simp [nzL]
  have hz2 : (nzL [64, 32]).length = [64, 32].length := by simp [nzL]
  exact ⟨apO_ok (by rw [List.nil_append]; omega), by simp, by simp, ⟨by omega, by omega⟩, ⟨by omega, by omega⟩, hz2.symm, rfl, ⟨by omega, by omega⟩, apO_ok (by simp only [List.length_nil]; omega), by rw [List.sum_cons]; omega, by rw [List.length_cons]; omega, hz1.symm, rfl, by omega, decide_eq_false (by omega), trivial⟩))
 rw [hA, hB, List.nil_append] at h
 exact h.words (by rw [hg]; rfl) (fun _ => rfl) (fun _ _ h => h) (fun _ => rfl) rfl rfl
def reDec (vs : List SV) (T : Tab) : Option Canon := match vs with
 | [.int s .i64 k, p] => match seqRo T .i64 p with
   | some (ob, xs) => some { vs0 := reVs k (natL xs).length, T0 := [(61, .rov .i64 (nzL (natL xs)))], vl := [(61, .arg 1)], e0 := { val := .buf 100, new := [.rowp (D.hashE (64 :: natL xs) ++ D.hashE [64, 32]) 89] }, conds := (k ≤ 64) :: ((natL xs).sum ≤ 10000000000) :: ((natL xs).length ≤ 100000000) :: ob }
   | none => none
 | _ => none
theorem red_ok (Γ : Env) (hg : Γ.glob = globs) : SumOK Tryz.prog Γ 23 (canonS globs 100 reDec) := by
 refine canonS_ok hg fun vs T c hd hc => ?_
 unfold reDec at hd
 split at hd
 case h_2 => cases hd
 split at hd
 case h_2 => cases hd
 cases hd
 exact re_call (hc _ (by simp)) (hc _ (by simp)) (hc _ (by simp)) Γ hg
noncomputable def exRe : Nat → Option Sum := addS exRh 23 (canonS globs 100 reDec)
theorem exRe_ok : ∀ f S, exRe f = some S → ∀ Γ : Env, Γ.glob = globs → SumOK Tryz.prog Γ f S := addS_ok exRh_ok 23 _ red_ok
end Go.Proofs.YtdhombdiakjdhaaGreatDoor.Sx
end
section
open Go
set_option maxRecDepth 100000
namespace Go.Proofs.YtdhombdiakjdhaaGreatDoor.Sx
def reK (k : Int) : List (Int × Int) := D.hashE (natL (ar 1 [k]))
theorem re_1 (k : Int) (n : Nat) (xs : List Int) : interp (env exRh 4) Tryz.f23 true [true] 1500 (reVs k n) (rhT xs) 100 100 =
  some (bfE ([] ++ reK k ++ reA xs ++ reB) (apO ([] ++ reK k ++ reA xs) reB :: ((natL reY).sum ≤ 100000000000) :: ((natL reY).length ≤ 1000000000) :: (2 ≤ 2 ∧ 2 ≤ 2) :: (2 ≤ 2 ∧ 2 ≤ 2) :: ((natL reY).length = reY.length) :: (reY = nzL (natL reY)) :: (2 ≤ 2 ∧ 2 ≤ 2) :: apO ([] ++ reK k) (reA xs) :: ((natL (reX xs)).sum ≤ 100000000000) :: ((natL (reX xs)).length ≤ 1000000000) :: ((natL (reX xs)).length = (reX xs).length) :: (reX xs = nzL (natL (reX xs))) :: ((1 + xs.length) * 8 ≤ 140737488355328) ::
   apO [] (reK k) :: ((natL (ar 1 [k])).sum ≤ 100000000000) :: ((natL (ar 1 [k])).length ≤ 1000000000) :: (1 ≤ 1 ∧ 1 ≤ 1) :: (1 ≤ 1 ∧ 1 ≤ 1) :: ((natL (ar 1 [k])).length = (ar 1 [k]).length) :: (ar 1 [k] = nzL (natL (ar 1 [k]))) :: (1 ≤ 1 ∧ 1 ≤ 1) :: [decide (k > 64) = true])) := by kernel_rfl
theorem re2_call {k : Nat} {ls : List Nat} (hk : k ≤ 1000000000) (hs : ls.sum ≤ 10000000000) (hn : ls.length ≤ 100000000) (Γ : Env) (hg : Γ.glob = globs) :
  CallOK Tryz.prog Γ 23 (reVs k ls.length) (rhT (nzL ls)) 100 100 (bfE (D.hmE k ls) []) := by
 by_cases h64 : k ≤ 64
 ·have h := re_call (k := (k : Int)) (ls := ls) (by omega) hs hn Γ hg
  unfold D.hmE
  rw [if_pos h64]
  exact h
 have hs' : SumOK Tryz.prog (env exRh 4) 23 (interp (env exRh 4) Tryz.f23 true [true] 1500) :=
  interp_ok (env_ty exRh 4) (env_ok exRh exRh_ok 4) mix Tryz.func23 (by kernel_rfl) true [true] 1500
 have hzl : (nzL ls).length = ls.length := by simp [nzL]
 have h1 := hashE_len (64 :: ls)
 have h2 := hashE_len [64, 32]
 have h3 := hashE_len [k]
 simp only [List.sum_cons, List.sum_nil, List.length_cons, List.length_nil] at h1 h2 h3
 have hA : reA (nzL ls) = D.hashE (64 :: ls) := by unfold reA; rw [reX_nz, natL_nz]
 have hB : reB = D.hashE [64, 32] := by unfold reB; rw [reY_nz, natL_nz]
 have hk1 : ar 1 [(k : Int)] = nzL [k] := rfl
 have hK : reK k = D.hashE [k] := by unfold reK; rw [hk1, natL_nz]
 have h := hs'.call (re_1 k ls.length (nzL ls)) (of_allP (by
  rw [hA, hB, hK, reX_nz, reY_nz, hk1, natL_nz, natL_nz, natL_nz, hzl]
  have hz1 : (nzL (64 :: ls)).length = (64 :: ls).length := by simp [nzL]
  have hz2 : (nzL [64, 32]).length = [64, 32].length := by simp [nzL]
  have hz3 : (nzL [k]).length = [k].length := by simp [nzL]
  exact ⟨apO_ok (by rw [List.nil_append, List.length_append]; omega), by simp, by simp, ⟨by omega, by omega⟩, ⟨by omega, by omega⟩, hz2.symm, rfl, ⟨by omega, by omega⟩, apO_ok (by rw [List.nil_append]; omega), by rw [List.sum_cons]; omega, by rw [List.length_cons]; omega, hz1.symm, rfl, by omega,
   apO_ok (by simp only [List.length_nil]; omega), by simp; omega, by simp, ⟨by omega, by omega⟩, ⟨by omega, by omega⟩, hz3.symm, rfl, ⟨by omega, by omega⟩, decide_eq_true (by omega), trivial⟩))
 rw [hA, hB, hK, List.nil_append] at h
 unfold D.hmE
 rw [if_neg h64, ← List.append_assoc]
 exact h.words (by rw [hg]; rfl) (fun _ => rfl) (fun _ _ h => h) (fun _ => rfl) rfl rfl
def re2Dec (vs : List SV) (T : Tab) : Option Canon := match vs with
 | [.int _ .i64 k, p] => match seqRo T .i64 p with
   | some (ob, xs) => some { vs0 := reVs (k.toNat : Nat) (natL xs).length, T0 := [(61, .rov .i64 (nzL (natL xs)))], vl := [(61, .arg 1)], e0 := bfE (D.hmE k.toNat (natL xs)) [], conds := (k.toNat ≤ 1000000000) :: ((natL xs).sum ≤ 10000000000) :: ((natL xs).length ≤ 100000000) :: ob }
   | none => none
 | _ => none
theorem re2d_ok (Γ : Env) (hg : Γ.glob = globs) : SumOK Tryz.prog Γ 23 (canonS globs 100 re2Dec) := by
 refine canonS_ok hg fun vs T c hd hc => ?_
 unfold re2Dec at hd
 split at hd
 case h_2 => cases hd
 split at hd
 case h_2 => cases hd
 cases hd
 exact re2_call (hc _ (by simp)) (hc _ (by simp)) (hc _ (by simp)) Γ hg
end Go.Proofs.YtdhombdiakjdhaaGreatDoor.Sx
end
section
open Go
set_option maxRecDepth 100000
namespace Go.Proofs.YtdhombdiakjdhaaGreatDoor.Sx
noncomputable def ΓMc : Env := env exA 3
theorem ΓMc_ty : TyOK Tryz.prog ΓMc := env_ty _ 3
theorem ΓMc_ok : SumsOK Tryz.prog ΓMc := exA_sums 3
def mcVs (n m : Nat) : List SV := [.ros 61 n, .rsl 62 m]
def mcT (k : List Int) (ds : List (List Int)) : Tab := fun l => look l [(61, .rov .u8 k), (62, .rol ds)]
noncomputable def mcM (k : List Int) (ds : List (List Int)) (cf : Cf) (K : List Fr) (s : St) : Option Cfg := mrun ΓMc (cutT 100 (mcT k ds)) 100 Tryz.f17.ntmps [5] 400 2000 cf K s
def mcGs (n m : Nat) (t i : Int) : List (Nat × SV) := [(0, .ros 61 n), (1, .rsl 62 m), (5, .int false .i64 t), (6, .int false .i64 i)]
noncomputable def mcR : Option Cfg := mcM [] [] (.go (codeOf Tryz.f17)) [] ((st0 (mcVs 0 0) 100).hint [false, false])
noncomputable def mcLp : Code := cfgC mcR
noncomputable def mcK : List Fr := cfgF mcR
theorem mc_0 (k : List Int) (ds : List (List Int)) (n m : Nat) : interp ΓMc Tryz.f17 true [true] 1500 (mcVs n m) (mcT k ds) 100 100 = some { obl := [decide ((n : Int) > 20000) = true], val := .bool true true } := by kernel_rfl
theorem mc_1 (k : List Int) (ds : List (List Int)) (n m : Nat) : interp ΓMc Tryz.f17 true [false, true] 1500 (mcVs n m) (mcT k ds) 100 100 = some { obl := [decide ((m : Int) > 200) = true, decide ((n : Int) > 20000) = false], val := .bool true true } := by kernel_rfl
theorem mc_2 (k : List Int) (ds : List (List Int)) (n m : Nat) (t i : Int) : toC 100 Tryz.f17.ntmps (cutT 100 (mcT k ds)) [] (mcGs n m t i) [] 100 [] [] (mcM k ds (.go (codeOf Tryz.f17)) [] ((st0 (mcVs n m) 100).hint [false, false])) =
  some (.go (.loop mcLp), mcK, [decide ((m : Int) > 200) = false, decide ((n : Int) > 20000) = false, n = n, m = m, (n : Int) = t, 0 = i]) := by kernel_rfl
theorem mc_3 (k : List Int) (ds : List (List Int)) (n m : Nat) (t i t' i' : Int) : toC 100 Tryz.f17.ntmps (cutT 100 (mcT k ds)) [] (mcGs n m t' i') [] 100 [] [] (mcM k ds (.go mcLp) [] ((stOf (mcGs n m t i) [] 100 [] []).hint [true, false])) =
  some (.at .normal, [], [i.toNat < ds.length, 0 ≤ i ∧ i < (m : Int), decide (((ds.getD i.toNat []).length : Int) > 20000) = false, i.toNat < ds.length, 0 ≤ i ∧ i < (m : Int), decide (i < (m : Int)) = true, n = n, m = m, IntKind.i64.wrap (t + (ds.getD i.toNat []).length) = t', IntKind.i64.wrap (i + 1) = i']) := by kernel_rfl
theorem mc_4 (k : List Int) (ds : List (List Int)) (n m : Nat) (t i : Int) : toC 100 Tryz.f17.ntmps (cutT 100 (mcT k ds)) [] [(4, .bool true true)] [] 100 [] [] (mcM k ds (.go mcLp) [] ((stOf (mcGs n m t i) [] 100 [] []).hint [true, true])) =
  some (.at .ret, [], [decide (((ds.getD i.toNat []).length : Int) > 20000) = true, i.toNat < ds.length, 0 ≤ i ∧ i < (m : Int), decide (i < (m : Int)) = true]) := by kernel_rfl
theorem mc_5 (k : List Int) (ds : List (List Int)) (n m : Nat) (t i : Int) : toC 100 Tryz.f17.ntmps (cutT 100 (mcT k ds)) [] (mcGs n m t i) [] 100 [] [] (mcM k ds (.go mcLp) [] ((stOf (mcGs n m t i) [] 100 [] []).hint [false])) =
  some (.at (.exit 0), [], [decide (i < (m : Int)) = false, n = n, m = m, t = t, i = i]) := by kernel_rfl
theorem mc_6 (k : List Int) (ds : List (List Int)) (n m : Nat) (t i : Int) : endC ΓMc (mcT k ds) 100 100 Tryz.f17 [] (mcM k ds (.at (.exit 0)) mcK ((stOf (mcGs n m t i) [] 100 [] []).hint [])) = some { val := .bool false (decide (t > 20000)) } := by kernel_rfl
theorem mc_7 (k : List Int) (ds : List (List Int)) : endC ΓMc (mcT k ds) 100 100 Tryz.f17 [] (mcM k ds (.at .ret) mcK ((stOf [(4, .bool true true)] [] 100 [] []).hint [])) = some { val := .bool true true } := by kernel_rfl
def muchB (n : Nat) (ds : List (List Int)) : Bool := decide (200 < ds.length ∨ 20000 < n + ds.flatten.length)
theorem flat_any : ∀ {ds : List (List Int)} {d : List Int}, d ∈ ds → d.length ≤ ds.flatten.length
 | [], _, h => by cases h
 | e :: r, d, h => by
   simp only [List.flatten_cons, List.length_append]
   rcases List.mem_cons.1 h with rfl | h
   ·omega
   ·have := flat_any h; omega
theorem flat_le {b : Nat} {ds : List (List Int)} (h : ∀ d ∈ ds, d.length ≤ b) : ds.flatten.length ≤ ds.length * b := by
 induction ds with
 | nil => simp
 | cons d r ih =>
   have h1 := h d (by simp)
   have h2 := ih fun x hx => h x (by simp [hx])
   simp only [List.flatten_cons, List.length_append, List.length_cons, Nat.add_mul, Nat.one_mul]
   omega
theorem mc_loop {k : List Int} {ds : List (List Int)} (hn : k.length ≤ 20000) (hm : ds.length ≤ 200)
  {w0 : World} {M : Nat → Prop} {V0 : Val} {Q : Exit → Act → World → Prop} (hb : Base ΓMc (cutT 100 (mcT k ds)) 100 V0)
  (h1 : (∃ d ∈ ds, 20000 < d.length) → G Tryz.prog ΓMc w0 M (cutT 100 (mcT k ds)) Tryz.f17.ntmps 100 V0 (.at .ret) mcK (stOf [(4, .bool true true)] [] 100 [] []) Q)
  (h2 : (∀ d ∈ ds, d.length ≤ 20000) → G Tryz.prog ΓMc w0 M (cutT 100 (mcT k ds)) Tryz.f17.ntmps 100 V0 (.at (.exit 0)) mcK (stOf (mcGs k.length ds.length ((k.length + ds.flatten.length : Nat) : Int) ds.length) [] 100 [] []) Q) :
  G Tryz.prog ΓMc w0 M (cutT 100 (mcT k ds)) Tryz.f17.ntmps 100 V0 (.go (.loop mcLp)) mcK (stOf (mcGs k.length ds.length k.length 0) [] 100 [] []) Q := by
 have hty := ΓMc_ty
 have hsum := ΓMc_ok
 refine G.loop (fun r s => ∃ i : Nat, i ≤ ds.length ∧ r = ds.length - i ∧ (∀ d ∈ ds.take i, d.length ≤ 20000) ∧ s = stOf (mcGs k.length ds.length ((k.length + (ds.take i).flatten.length : Nat) : Int) i) [] 100 [] []) (r0 := ds.length) ⟨0, Nat.zero_le _, rfl, by simp, rfl⟩ ?_
 rintro r s ⟨i, hi, rfl, hs, rfl⟩
 by_cases hlt : i < ds.length
 ·have hg : ds[i] = ds.getD i [] := by simp [List.getD_eq_getElem?_getD, hlt]
  have hmem : ds.getD i [] ∈ ds := by rw [← hg]; exact List.getElem_mem hlt
  by_cases hbig : 20000 < (ds.getD i []).length
  ·refine G.toC hty hsum mix hb [true, true] (mc_4 k ds k.length ds.length _ i) ?_ (G.leave (by simp) (h1 ⟨_, hmem, hbig⟩))
   rw [Int.toNat_natCast]
   exact of_allP ⟨decide_eq_true (by omega), hlt, by omega, decide_eq_true (by omega), trivial⟩
  ·have hf := flat_le hs
   have hl : (ds.take i).length = i := by rw [List.length_take]; omega
   rw [hl] at hf
   refine G.roundC hty hsum mix hb [true, false] (mc_3 k ds k.length ds.length _ i ((k.length + (ds.take (i + 1)).flatten.length : Nat) : Int) ((i + 1 : Nat))) ?_ (ds.length - (i + 1)) (by omega) ⟨i + 1, hlt, rfl, fun d hd => ?_, rfl⟩
   ·rw [Int.toNat_natCast]
    refine of_allP ⟨hlt, by omega, decide_eq_false (by omega), hlt, by omega, decide_eq_true (by omega), rfl, rfl, ?_, ?_, trivial⟩
    ·rw [flat_take hlt, List.length_append, IntWalk.i64_in _ (by omega)]; omega
    ·rw [IntWalk.i64_in _ (by omega)]; omega
   ·rw [List.take_add_one, List.getElem?_eq_getElem hlt, hg] at hd
    rcases List.mem_append.1 hd with q | q
    ·exact hs d q
    ·simp only [Option.toList_some, List.mem_singleton] at q
     subst q; omega
 ·have e : i = ds.length := by omega
  subst e
  rw [List.take_length] at hs ⊢
  exact G.toC hty hsum mix hb [false] (mc_5 k ds k.length ds.length _ _) (of_allP ⟨decide_eq_false (by omega), rfl, rfl, rfl, rfl, trivial⟩) (G.leave (by simp) (h2 hs))
theorem mc_call (k : List Int) (ds : List (List Int)) (Γ : Env) (hg : Γ.glob = globs) : CallOK Tryz.prog Γ 17 (mcVs k.length ds.length) (mcT k ds) 100 100 { val := .bool false (muchB k.length ds) } := by
 have hs : ∀ hints, SumOK Tryz.prog ΓMc 17 (interp ΓMc Tryz.f17 true hints 1500) := fun hints => interp_ok (env_ty exA 3) (exA_sums 3) mix Tryz.func17 (by kernel_rfl) true hints 1500
 have yes : (200 < ds.length ∨ 20000 < k.length + ds.flatten.length) → muchB k.length ds = true := fun h => decide_eq_true h
 by_cases m1 : (k.length : Int) > 20000
 ·rw [yes (by omega)]
  exact ((hs [true]).call (mc_0 k ds k.length ds.length) (of_allP ⟨decide_eq_true m1, trivial⟩)).words (by rw [hg]; rfl) (fun _ => rfl) (fun _ _ h => h) (fun _ => rfl) rfl rfl
 by_cases m2 : (ds.length : Int) > 200
 ·rw [yes (by omega)]
  exact ((hs [false, true]).call (mc_1 k ds k.length ds.length) (of_allP ⟨decide_eq_true m2, decide_eq_false m1, trivial⟩)).words (by rw [hg]; rfl) (fun _ => rfl) (fun _ _ h => h) (fun _ => rfl) rfl rfl
 have hty := ΓMc_ty
 have hsum := ΓMc_ok
 have start : ∀ {w0 : World} {M : Nat → Prop} {V0 : Val} {Q : Exit → Act → World → Prop}, Base ΓMc (cutT 100 (mcT k ds)) 100 V0 → G Tryz.prog ΓMc w0 M (cutT 100 (mcT k ds)) Tryz.f17.ntmps 100 V0 (.go (.loop mcLp)) mcK (stOf (mcGs k.length ds.length k.length 0) [] 100 [] []) Q →
   G Tryz.prog ΓMc w0 M (cutT 100 (mcT k ds)) Tryz.f17.ntmps 100 V0 (.go (codeOf Tryz.f17)) [] (st0 (mcVs k.length ds.length) 100) Q := fun hb h =>
  G.toC hty hsum mix hb [false, false] (mc_2 k ds k.length ds.length k.length 0) (of_allP ⟨decide_eq_false m2, decide_eq_false m1, rfl, rfl, rfl, rfl, trivial⟩) h
 by_cases hex : ∃ d ∈ ds, 20000 < d.length
 ·obtain ⟨d, hd, hbig⟩ := hex
  have := flat_any hd
  rw [yes (by omega)]
  refine CallOK.words (Γ := ΓMc) (e := { val := .bool true true }) ?_ (by rw [hg]; rfl) (fun _ => rfl) (fun _ _ h => h) (fun _ => rfl) rfl rfl
  refine call_G ΓMc_ty ΓMc_ok Tryz.func17 (by kernel_rfl) rfl (Nat.le_of_ble_eq_true (by kernel_rfl)) rfl [] ?_
  intro w0 M V0 Q hb H
  refine start hb (mc_loop (by omega) (by omega) hb (fun _ => G.finC (cl := []) hty hsum mix [] H (mc_7 k ds) mem0 rfl rfl rfl) fun h => ?_)
  have := h d hd
  omega
 ·refine CallOK.words (Γ := ΓMc) (e := { val := .bool false (decide (((k.length + ds.flatten.length : Nat) : Int) > 20000)) }) ?_ (by rw [hg]; rfl) (fun _ => rfl) (fun _ _ h => h) (fun _ => ?_) rfl rfl
  ·refine call_G ΓMc_ty ΓMc_ok Tryz.func17 (by kernel_rfl) rfl (Nat.le_of_ble_eq_true (by kernel_rfl)) rfl [] ?_
   intro w0 M V0 Q hb H
   exact start hb (mc_loop (by omega) (by omega) hb (fun h => (hex h).elim) fun _ => G.finC (cl := []) hty hsum mix [] H (mc_6 k ds k.length ds.length _ _) mem0 rfl rfl rfl)
  ·have : muchB k.length ds = decide (((k.length + ds.flatten.length : Nat) : Int) > 20000) := by
    unfold muchB
    apply decide_eq_decide.2
    omega
   rw [this]
def mcDec (vs : List SV) (T : Tab) : Option Canon := match vs with
 | [p, q] => match seqRo T .u8 p, lsIn T q with
   | some (ob, k), some ds => some { vs0 := mcVs k.length ds.length, T0 := [(61, .rov .u8 k), (62, .rol ds)], vl := [(61, .arg 0), (62, .lst 1)], e0 := { val := .bool false (muchB k.length ds) }, conds := ob }
   | _, _ => none
 | _ => none
theorem mcd_ok (Γ : Env) (hg : Γ.glob = globs) : SumOK Tryz.prog Γ 17 (canonS globs 100 mcDec) := by
 refine canonS_ok hg fun vs T c hd hc => ?_
 unfold mcDec at hd
 split at hd
 case h_2 => cases hd
 split at hd
 case h_2 => cases hd
 cases hd
 exact mc_call _ _ Γ hg
end Go.Proofs.YtdhombdiakjdhaaGreatDoor.Sx
end
section
open Go
set_option maxRecDepth 100000
namespace Go.Proofs.YtdhombdiakjdhaaGreatDoor.Sx
def jnVs (m : Nat) : List SV := [.rsl 62 m]
def jnT (ds : List (List Int)) : Tab := fun l => look l [(62, .rol ds)]
noncomputable def jnM (ds : List (List Int)) (cf : Cf) (K : List Fr) (s : St) : Option Cfg := mrun ΓMc (cutT 100 (jnT ds)) 100 Tryz.f18.ntmps [4] 400 2000 cf K s
def jnGs (m : Nat) (i : Int) : List (Nat × SV) := [(0, .rsl 62 m), (4, .buf 100), (5, .buf 101), (6, .int false .i64 i)]
def jnTb (x y : List Int) : List (Nat × SB) := [(100, .rowi .u8 x 5), (101, .rowi .i64 y 3)]
noncomputable def jnR : Option Cfg := jnM [] (.go (codeOf Tryz.f18)) [] ((st0 (jnVs 0) 100).hint [])
noncomputable def jnLp : Code := cfgC jnR
noncomputable def jnK : List Fr := cfgF jnR
theorem jn_0 (ds : List (List Int)) (m : Nat) (i : Int) (x y : List Int) : toA 100 (cutT 100 (jnT ds)) [(4, .u8, 5), (5, .i64, 3)] (jnGs m i) (jnTb x y) 102 [] [] (jnM ds (.go (codeOf Tryz.f18)) [] ((st0 (jnVs m) 100).hint [])) =
  some (.go (.loop jnLp), jnK, [m = m, 0 = i, [] = x, [] = y]) := by kernel_rfl
theorem jn_1 (ds : List (List Int)) (m : Nat) (i i' : Int) (x y x' y' : List Int) : toC 100 Tryz.f18.ntmps (cutT 100 (jnT ds)) [] (jnGs m i') (jnTb x' y') 102 [] [] (jnM ds (.go jnLp) [] ((stOf (jnGs m i) (jnTb x y) 102 [] []).hint [true])) =
  some (.at .normal, [], [(y.length + 1) * 8 ≤ 140737488355328, i.toNat < ds.length, 0 ≤ i ∧ i < (m : Int), (x.length + (ds.getD i.toNat []).length) * 1 ≤ 140737488355328, i.toNat < ds.length, 0 ≤ i ∧ i < (m : Int), decide (i < (m : Int)) = true, m = m, IntKind.i64.wrap (i + 1) = i', x ++ ds.getD i.toNat [] = x', y ++ [((ds.getD i.toNat []).length : Int)] = y']) := by kernel_rfl
theorem jn_2 (ds : List (List Int)) (m : Nat) (i : Int) (x y : List Int) : toC 100 Tryz.f18.ntmps (cutT 100 (jnT ds)) [] (jnGs m i) (jnTb x y) 102 [] [] (jnM ds (.go jnLp) [] ((stOf (jnGs m i) (jnTb x y) 102 [] []).hint [false])) =
  some (.at (.exit 0), [], [decide (i < (m : Int)) = false, m = m, i = i, x = x, y = y]) := by kernel_rfl
theorem jn_3 (ds : List (List Int)) (m : Nat) (i : Int) (x y : List Int) : endC ΓMc (jnT ds) 100 100 Tryz.f18 [] (jnM ds (.at (.exit 0)) jnK ((stOf (jnGs m i) (jnTb x y) 102 [] []).hint [])) =
  some { val := .tup [.buf 100, .buf 101], new := [.rowi .u8 x 5, .rowi .i64 y 3] } := by kernel_rfl
def lensI (ds : List (List Int)) : List Int := nzL (ds.map List.length)
theorem lensI_len (ds : List (List Int)) : (lensI ds).length = ds.length := by simp [lensI, nzL]
def jnE (ds : List (List Int)) : Eff := { val := .tup [.buf 100, .buf 101], new := [.rowi .u8 ds.flatten 5, .rowi .i64 (lensI ds) 3] }
theorem jn_call {ds : List (List Int)} (hl : ds.flatten.length ≤ 100000000000) (hn : ds.length ≤ 1000000000) (Γ : Env) (hg : Γ.glob = globs) : CallOK Tryz.prog Γ 18 (jnVs ds.length) (jnT ds) 100 100 (jnE ds) := by
 refine CallOK.words (Γ := ΓMc) ?_ (by rw [hg]; rfl) (fun _ => rfl) (fun _ _ h => h) (fun _ => rfl) rfl rfl
 refine call_G ΓMc_ty ΓMc_ok Tryz.func18 (by kernel_rfl) rfl (Nat.le_of_ble_eq_true (by kernel_rfl)) rfl [] ?_
 intro w0 M V0 Q hb H
 have hty := ΓMc_ty
 have hsum := ΓMc_ok
 refine G.toA hty hsum mix hb [] (jn_0 ds ds.length 0 [] []) (of_allP ⟨rfl, rfl, rfl, rfl, trivial⟩) ?_
 refine G.loop (fun r s => ∃ i : Nat, i ≤ ds.length ∧ r = ds.length - i ∧ s = stOf (jnGs ds.length i) (jnTb (ds.take i).flatten (lensI (ds.take i))) 102 [] []) (r0 := ds.length) ⟨0, Nat.zero_le _, rfl, rfl⟩ ?_
 rintro r s ⟨i, hi, rfl, rfl⟩
 by_cases hlt : i < ds.length
 ·have hf := flat_len hlt
  have hg2 : ds[i] = ds.getD i [] := by simp [List.getD_eq_getElem?_getD, hlt]
  refine G.roundC hty hsum mix hb [true] (jn_1 ds ds.length i ((i + 1 : Nat)) _ _ (ds.take (i + 1)).flatten (lensI (ds.take (i + 1)))) ?_ (ds.length - (i + 1)) (by omega) ⟨i + 1, hlt, rfl, rfl⟩
  rw [Int.toNat_natCast]
  refine of_allP ⟨?_, hlt, by omega, by omega, hlt, by omega, decide_eq_true (by omega), rfl, ?_, (flat_take hlt).symm, ?_, trivial⟩
  ·rw [lensI_len, List.length_take]; omega
  ·rw [IntWalk.i64_in _ (by omega)]; omega
  ·unfold lensI nzL
   rw [List.take_add_one, List.getElem?_eq_getElem hlt, hg2]
   simp
 ·have e : i = ds.length := by omega
  subst e
  refine G.toC hty hsum mix hb [false] (jn_2 ds ds.length _ _ _) (of_allP ⟨decide_eq_false (by omega), rfl, rfl, rfl, rfl, trivial⟩) (G.leave (by simp) ?_)
  rw [List.take_length]
  exact G.finC (cl := []) hty hsum mix [] H (jn_3 ds ds.length _ _ _) mem0 rfl rfl rfl
def jnDec (vs : List SV) (T : Tab) : Option Canon := match vs with
 | [q] => match lsIn T q with
   | some ds => some { vs0 := jnVs ds.length, T0 := [(62, .rol ds)], vl := [(62, .lst 0)], e0 := jnE ds, conds := [ds.flatten.length ≤ 100000000000, ds.length ≤ 1000000000] }
   | none => none
 | _ => none
theorem jnd_ok (Γ : Env) (hg : Γ.glob = globs) : SumOK Tryz.prog Γ 18 (canonS globs 100 jnDec) := by
 refine canonS_ok hg fun vs T c hd hc => ?_
 unfold jnDec at hd
 split at hd
 case h_2 => cases hd
 split at hd
 case h_2 => cases hd
 cases hd
 exact jn_call (hc _ (by simp)) (hc _ (by simp)) Γ hg
end Go.Proofs.YtdhombdiakjdhaaGreatDoor.Sx
end
section
open Go Go.RowKit
namespace Go.Proofs.YtdhombdiakjdhaaGreatDoor.Sx
structure Grows (B : Tab) (V0 : Val) (w0 : World) (M : Nat → Prop) (w1 : World) (M1 : Nat → Prop) : Prop where
 frame : FrameOK w0 M w1
 sub : ∀ n, M1 n → w0.heap.size ≤ n ∨ M n
 fro : ∀ l b, B l = some b → froB w0 M V0 l b
theorem Grows.trans {B : Tab} {V0 : Val} {w0 w1 w2 : World} {M M1 M2 : Nat → Prop} (h : Grows B V0 w0 M w1 M1) (k : Grows B V0 w1 M1 w2 M2) : Grows B V0 w0 M w2 M2 :=
 ⟨h.frame.trans k.frame fun n hn hm => (h.sub n hm).resolve_left (by omega), fun n hn => by
  rcases k.sub n hn with q | q
  ·have := h.frame.size; exact .inl (by omega)
  ·exact h.sub n q, h.fro⟩
section
variable {w0 w : World} {M : Nat → Prop} {V : Val} {T : Tab} {lab : Nat}
theorem TabOK.froze (hT : TabOK w0 M V T w) (hf : V.fresh lab) {l : Nat} {B C : SB} (hl : T l = some B) {u : Value} (v : SV) (ob : List Prop)
  (hC : C.owned = false) (hok : okB (V.putσ lab u) w lab C) (hblk : C.blk (V.putσ lab u) lab = none)
  (hfro : ∀ M1 : Nat → Prop, (∀ n, M1 n → w0.heap.size ≤ n ∨ M n) → (∀ n, B.blk V l = some n → ¬ M1 n) → froB w M1 (V.putσ lab u) lab C) :
  ∃ M1 : Nat → Prop, (∀ n, M1 n → w0.heap.size ≤ n ∨ M n) ∧ TabOK w M1 (V.putσ lab u) (upd T lab { obl := ob, val := v, new := [C], wr := [(l, .gone)] }) w := by
 have hext := Val.putσ_ext hf lab (Nat.le_refl _) (by omega) u
 have key : ∀ k D, upd T lab { obl := ob, val := v, new := [C], wr := [(l, .gone)] } k = some D → D = .gone ∨ (k = lab ∧ D = C) ∨ (k ≠ l ∧ T k = some D) := by
  intro k D h
  unfold upd Eff.tab at h
  simp only [newL, List.cons_append, List.nil_append] at h
  by_cases e : l = k
  ·subst e
   rw [look_cons_eq] at h
   cases h; exact .inl rfl
  ·rw [look_cons_ne e] at h
   by_cases e2 : lab = k
   ·subst e2
    rw [look_cons_eq] at h
    cases h; exact .inr (.inl ⟨rfl, rfl⟩)
   ·rw [look_cons_ne e2] at h
    exact .inr (.inr ⟨fun q => e q.symm, h⟩)
 let M1 : Nat → Prop := fun n => ∃ k D, k ≠ l ∧ T k = some D ∧ D.owned = true ∧ D.blk V k = some n
 have hsub : ∀ n, M1 n → w0.heap.size ≤ n ∨ M n := fun n ⟨k, D, _, h1, h2, h3⟩ => hT.perm k D n h1 h2 h3
 have hoff : ∀ n, B.blk V l = some n → ¬ M1 n := fun n hn ⟨k, D, h0, h1, h2, h3⟩ => hT.dist k D l B n h0 h1 hl h2 h3 hn
 refine ⟨M1, hsub, fun k D h => ?_, fun k D k' D' n hne h h' hD hn => ?_, fun k D n h hD hn => ?_, FrameOK.refl w _, fun k D h => ?_⟩
 ·rcases key k D h with rfl | ⟨rfl, rfl⟩ | ⟨_, h⟩
  ·exact ⟨[], rfl, trivial⟩
  ·exact hok
  ·exact (hT.ok k D h).keep hext.1 (Nat.le_refl _) fun _ _ => rfl
 ·rcases key k D h with rfl | ⟨rfl, rfl⟩ | ⟨e, h⟩
  ·cases hD
  ·rw [hC] at hD; cases hD
  ·rcases key k' D' h' with rfl | ⟨rfl, rfl⟩ | ⟨e', h'⟩
   ·simp [SB.blk]
   ·rw [hblk]; simp
   ·rw [(hT.ok k' D' h').blk_eq hext.1]
    rw [(hT.ok k D h).blk_eq hext.1] at hn
    exact hT.dist k D k' D' n hne h h' hD hn
 ·rcases key k D h with rfl | ⟨rfl, rfl⟩ | ⟨e, h⟩
  ·cases hD
  ·rw [hC] at hD; cases hD
  ·rw [(hT.ok k D h).blk_eq hext.1] at hn
   exact .inr ⟨k, D, e, h, hD, hn⟩
 ·rcases key k D h with rfl | ⟨rfl, rfl⟩ | ⟨e, h⟩
  ·trivial
  ·exact hfro M1 hsub hoff
  ·exact ((hT.fro k D h).keep hT.frame hsub).le hext.1
theorem TabOK.frozeI (hT : TabOK w0 M V T w) (hf : V.fresh lab) {l m : Nat} {sf : Bool} {xs : List Int} {ty : TypeId} (hl : T l = some (.ints .u8 xs ty)) {u : Value} (hu : den V (.slc l sf 0 m m) = some u) (hm : m = xs.length) (ob : List Prop) :
  ∃ (M1 : Nat → Prop) (V' : Val), V.ext lab V' ∧ den V' (.ros lab m) = some u ∧ (∀ n, M1 n → w0.heap.size ≤ n ∨ M n) ∧ TabOK w M1 V' (upd T lab { obl := ob, val := .ros lab m, new := [.rof xs], wr := [(l, .gone)] }) w := by
 obtain ⟨cs, hc, b, hb, hh⟩ := hT.ok l _ hl
 simp only [SB.cells, Option.some.injEq] at hc
 subst hc
 simp only [den, hb, Option.map_some, Option.some.injEq, Nat.add_zero] at hu
 subst hu
 have hse : (V.putσ lab (.slice (some ⟨b, 0, none⟩) m m)).σ lab = some (.slice (some ⟨b, 0, none⟩) m m) := by simp [Val.putσ]
 obtain ⟨M1, h1, h2⟩ := hT.froze hf (C := .rof xs) (u := .slice (some ⟨b, 0, none⟩) m m) hl (.ros lab m) ob rfl ⟨[], rfl, trivial⟩ rfl fun M1 hs ho => ⟨_, hse, by
  refine ⟨.inr ⟨b, 0, m, by rw [hm], (Array.getElem?_eq_some_iff.1 hh).1, by omega, fun j v hj => ?_⟩, fun n hn => ?_⟩
  ·rw [cell_of_row w b (0 + j) _ _ _ hh]; simpa using hj
  ·have : n = b := by
    unfold roBlk at hn
    split at hn
    ·cases hn
    ·simpa [Value.ownBlock] using hn.symm
   subst this
   exact ⟨(Array.getElem?_eq_some_iff.1 hh).1, ho n (by simp [SB.blk, hb])⟩⟩
 exact ⟨M1, _, Val.putσ_ext hf lab (Nat.le_refl _) (by omega) _, by simp [den, hse, rosV], h1, h2⟩
theorem TabOK.frozeZ (hT : TabOK w0 M V T w) (hf : V.fresh lab) {l m z : Nat} {sf : Bool} {vs : List Value} {ds : List (List Int)} {ty : TypeId} (hl : T l = some (.vals vs ty)) {u : Value} (hu : den V (.slc l sf 0 m m) = some u) (hm : m = vs.length)
  (hlen : vs.length = ds.length + z) (hd : ∀ (i : Nat) (v : Value) (d : List Int), vs[i]? = some v → ds[i]? = some d → FrozenRd w0 M v d) (hz : ∀ (i : Nat) (v : Value), vs[i]? = some v → ds.length ≤ i → v = .slice none 0 0) (ob : List Prop) :
  ∃ (M1 : Nat → Prop) (V' : Val), V.ext lab V' ∧ den V' (.rsl lab m) = some u ∧ (∀ n, M1 n → w0.heap.size ≤ n ∨ M n) ∧ TabOK w M1 V' (upd T lab { obl := ob, val := .rsl lab m, new := [.rolz ds z], wr := [(l, .gone)] }) w := by
 obtain ⟨cs, hc, b, hb, hh⟩ := hT.ok l _ hl
 simp only [SB.cells, Option.some.injEq] at hc
 subst hc
 simp only [den, hb, Option.map_some, Option.some.injEq, Nat.add_zero] at hu
 subst hu
 have hse : (V.putσ lab (.tuple (Value.slice (some ⟨b, 0, none⟩) m m :: vs).toArray)).σ lab = some (.tuple (Value.slice (some ⟨b, 0, none⟩) m m :: vs).toArray) := by simp [Val.putσ]
 obtain ⟨M1, h1, h2⟩ := hT.froze hf (C := .rolz ds z) (u := .tuple (Value.slice (some ⟨b, 0, none⟩) m m :: vs).toArray) hl (.rsl lab m) ob rfl ⟨[], rfl, trivial⟩ rfl fun M1 hs ho =>
  ⟨_, _, hse, ⟨.inr ⟨b, 0, m, by rw [hm], (Array.getElem?_eq_some_iff.1 hh).1, by omega, fun j v hj => by rw [cell_of_row w b (0 + j) _ _ _ hh]; simpa using hj⟩, fun n hn => by
   have : n = b := by
    unfold roBlk at hn
    split at hn
    ·cases hn
    ·simpa [Value.ownBlock] using hn.symm
   subst this
   exact ⟨(Array.getElem?_eq_some_iff.1 hh).1, ho n (by simp [SB.blk, hb])⟩⟩, hlen, fun i v d hv hdd => (hd i v d hv hdd).keep hT.frame hs, hz⟩
 exact ⟨M1, _, Val.putσ_ext hf lab (Nat.le_refl _) (by omega) _, by simp [den, hse, rslV, rosV], h1, h2⟩
theorem TabOK.told (hT : TabOK w0 M V T w) {l m : Nat} {xs : List Int} (hl : T l = some (.rof xs)) {u : Value} (hu : den V (.ros l m) = some u) (hx : xs ≠ []) :
  ∃ b o c, u = .slice (some ⟨b, o, none⟩) m c ∧ m = xs.length ∧ FrozenRd w0 M (.slice (some ⟨b, o, none⟩) m c) xs := by
 obtain ⟨v, hσ, hF⟩ := hT.fro l _ hl
 simp only [den, hσ, Option.bind_some] at hu
 have e := (rosV_ok hu).1
 subst e
 rcases hF.1 with ⟨_, h0⟩ | ⟨b, o, c, rfl, h1, h2, h3⟩
 ·exact absurd h0 hx
 ·have hm : m = xs.length := by
   rcases (rosV_ok hu).2 with ⟨⟨a, h4⟩, h5⟩ | ⟨b', o', c', h4, h5⟩
   ·injection h4 with _ h6 _; omega
   ·injection h4 with _ h6 _; omega
  subst hm
  exact ⟨b, o, c, rfl, rfl, hF⟩
end
section
variable {P : Program} {Γ : Env} {w0 : World} {M : Nat → Prop} {B : Tab} {N F0 : Nat} {V0 : Val}
theorem Inv.stepW {w1 w w' : World} {M1 : Nat → Prop} {V V' : Val} {s s' : St} {a : Act} {dst : Option Tmp} {e : Eff} {x : Value} {lab nx : Nat}
  (h : Inv P Γ w0 M B N F0 V0 s V a w) (hs : s.step F0 N dst e lab nx = some s') (hle : s.nx ≤ lab) (hn : lab + 8 ≤ nx) (hV : V.ext lab V') (hx : dst.isSome = true → den V' e.val = some x)
  (hT : TabOK w1 M1 V' (upd (s.T B) lab e) w') : Inv P Γ w1 M1 B N F0 V0 s' V' (a.put dst x) w' := by
 obtain ⟨h1, h2, h3, h4, h5, h6, h7, h8, h9⟩ := St.step_T B hs
 refine ⟨fun t v hv => ?_, fun d v hv => ?_, ?_, ?_, by rw [h1]; exact hT, fun n l hl => hV.1.1 _ _ (h.glob n l hl), fun l hl => ?_, Val.le_trans h.le hV.1, fun l hl => ?_, fun l hl hw => ?_, ?_, fun l hl => ?_⟩
 ·rw [h6] at hv
  by_cases hd : dst = some t
  ·subst hd
   simp only [if_true, Option.some.injEq] at hv
   subst hv
   have hlt : t < a.tmps.size := Nat.lt_of_lt_of_le (h7 t rfl) h.size
   rw [hx rfl]
   simp [Act.eval, Act.put, Array.getD_eq_getD_getElem?, hlt]
  ·rw [if_neg hd] at hv
   rw [den_mono hV.1 (h.tmp t v hv)]
   rw [Act.eval_put (fun d hd' hq => hd (by cases hq; exact hd'))]
 ·rw [h6] at hv
  by_cases hd : dst = some d
  ·exact h7 d hd
  ·rw [if_neg hd] at hv; exact h.keys d v hv
 ·cases dst with
  | none => exact h.size
  | some d => simpa [Act.put] using h.size
 ·obtain ⟨xs, hx1, hx2⟩ := h.defers
  refine ⟨xs, by rw [St.step_df hs]; exact denL_mono hV.1 hx1, ?_⟩
  cases dst <;> exact hx2
 ·rw [h2] at hl
  have := hV.2 l (.inr (by omega))
  rw [this.1, this.2]
  exact h.top l (by omega)
 ·have := hV.2 l (.inl (by have := h.nx; omega))
  rw [this.1, this.2]
  exact h.low l hl
 ·exact h5 l hl hw (h.ch l hl (fun q => hw (h4 l q)))
 ·rw [h2]; have := h.nx; omega
 ·rw [h2] at hl
  rw [h1]
  unfold upd Eff.tab
  rw [look_append]
  cases hk : look l e.wr with
  | some b => have := h9 l b hk; omega
  | none =>
    have : look l (newL lab e.new) = none := by
     rw [look_newL]
     split
     ·apply List.getElem?_eq_none; omega
     ·rfl
    simp only [this]
    exact h.hi l (by omega)
theorem Inv.fro0 (hb : Base Γ B F0 V0) {s : St} {V : Val} {a : Act} {w : World} (hi : Inv P Γ w0 M B N F0 V0 s V a w) (hws : s.ws = []) : ∀ l b, B l = some b → froB w0 M V0 l b := by
 intro l b hl
 have hlt : l < F0 := by
  rcases Nat.lt_or_ge l F0 with h | h
  ·exact h
  ·rw [hb.cut l h] at hl; cases hl
 have hT : s.T B l = some b := by simp only [St.T, hi.ch l hlt (by rw [hws]; simp), hl]
 have h := hi.tab.fro l b hT
 have e := (hi.low l hlt).2
 cases b with
 | rol ds => obtain ⟨v, us, hσ, r⟩ := h; exact ⟨v, us, e ▸ hσ, r⟩
 | rolz ds z => obtain ⟨v, us, hσ, r⟩ := h; exact ⟨v, us, e ▸ hσ, r⟩
 | rof d => obtain ⟨u, hσ, r⟩ := h; exact ⟨u, e ▸ hσ, r⟩
 | rowl ds ty => obtain ⟨v, us, hσ, r⟩ := h; exact ⟨v, us, e ▸ hσ, r⟩
 | _ => trivial
noncomputable def frzE (B : Tab) (t : Nat) (s : St) : Option Eff := match s.g.get t with
 | some (.slc l _ 0 m m') => match s.T B l with
   | some (.ints .u8 xs _) => some { obl := [m' = m, m = xs.length], val := .ros s.nx m, new := [.rof xs], wr := [(l, .gone)] }
   | _ => none
 | _ => none
noncomputable def frzZE (B : Tab) (t : Nat) (vs : List Value) (ds : List (List Int)) (z : Nat) (s : St) : Option Eff := match s.g.get t with
 | some (.slc l _ 0 m m') => match s.T B l with
   | some (.vals us _) => some { obl := [m' = m, m = us.length, us = vs], val := .rsl s.nx m, new := [.rolz ds z], wr := [(l, .gone)] }
   | _ => none
 | _ => none
noncomputable def rawE (B : Tab) (t : Nat) (u : Value) (xs : List Int) (s : St) : Option Eff := match s.g.get t with
 | some (.ros l m) => match s.T B l with
   | some (.rof ys) => some { obl := [ys = xs], val := .raw u }
   | _ => none
 | _ => none
noncomputable def toE (F0 N : Nat) (B : Tab) (t : Nat) (fe : St → Option Eff) (gs : List (Nat × SV)) (tb : List (Nat × SB)) (nx : Nat) (df : List SV) (r : Option Cfg) : Option (Cf × List Fr × List Prop) := match r with
 | some r => match fe r.st, r.st.ws with
   | some e, [] => match r.st.step F0 N (some t) e r.st.nx (r.st.nx + 8) with
     | some s => toA F0 B [] gs tb nx [] df (some ⟨r.cf, r.fr, s⟩)
     | none => none
   | _, _ => none
 | none => none
theorem toA_ob {B : Tab} {gs : List (Nat × SV)} {tb : List (Nat × SB)} {nx : Nat} {ws : List Nat} {df : List SV} {r : Cfg} {cf' : Cf} {K' : List Fr} {ps : List Prop} (h : toA F0 B [] gs tb nx ws df (some r) = some (cf', K', ps)) : ∀ q ∈ r.st.ob, q ∈ ps := by
 intro q hq
 unfold Sx.toA at h
 simp only at h
 unfold Sx.toN at h
 simp only [nilBs] at h
 unfold toS at h
 simp only at h
 split at h
 case h_2 => cases h
 split at h
 case h_2 => cases h
 cases h
 exact List.mem_append_left _ hq
theorem G.toE (hty : TyOK P Γ) (hsum : SumsOK P Γ) (hmix : P.follows .mixedOrders = true) (hb : Base Γ B F0 V0) {stops : List Nat} {lf n : Nat} {cf cf' : Cf} {K K' : List Fr} {s : St} (hs : List Bool) {t : Nat} {fe : St → Option Eff} {gs : List (Nat × SV)} {tb : List (Nat × SB)} {nx : Nat} {df : List SV} {ps : List Prop} {Q : Exit → Act → World → Prop}
  (h : toE F0 N B t fe gs tb nx df (mrun Γ B F0 N stops lf n cf K (s.hint hs)) = some (cf', K', ps)) (hp : ∀ q ∈ ps, q)
  (hfe : ∀ s e, fe s = some e → (∀ q ∈ e.obl, q) → ∀ V a w, s.ws = [] → Inv P Γ w0 M B N F0 V0 s V a w → ∃ w1 M1 V' x, Grows B V0 w0 M w1 M1 ∧ V.ext s.nx V' ∧ den V' e.val = some x ∧ a.put (some t) x = a ∧ TabOK w1 M1 V' (upd (s.T B) s.nx e) w)
  (hG : ∀ w1 M1, Grows B V0 w0 M w1 M1 → G P Γ w1 M1 B N F0 V0 cf' K' (stOf gs tb nx [] df) Q) : G P Γ w0 M B N F0 V0 cf K s Q := by
 unfold Sx.toE at h
 split at h
 case h_2 => cases h
 rename_i r hr
 split at h
 case h_2 => cases h
 rename_i e he hws
 split at h
 case h_2 => cases h
 rename_i s1 h1
 have hob := toA_ob h
 obtain ⟨_, _, o3, _⟩ := St.step_T B h1
 have h0 : Sx.toA F0 B [] gs tb nx [] df (mrun Γ B F0 N stops lf 0 r.cf r.fr (s1.hint s1.hs)) = some (cf', K', ps) := h
 have hrun : G P Γ w0 M B N F0 V0 cf K (s.hint hs) Q := by
  refine G.run hty hsum hmix hr (fun q hq => hp q (hob q (by simp only; rw [o3]; exact List.mem_append_right _ hq))) ?_
  intro V a w hi
  obtain ⟨w1, M1, V', x, g1, g2, g3, g4, g5⟩ := hfe _ e he (fun q hq => hp q (hob q (by simp only; rw [o3]; exact List.mem_append_left _ hq))) V a w hws hi
  have hi' := hi.stepW h1 (Nat.le_refl _) (Nat.le_refl _) g2 (fun _ => g3) g5
  rw [g4] at hi'
  exact G.toA hty hsum hmix hb s1.hs h0 hp (hG w1 M1 g1) V' a w hi'
 intro V a w hi
 exact hrun V a w (hi.hints s.ob hs)
theorem put_eval {a : Act} {t : Nat} : a.put (some t) (a.eval (.tmp t)) = a := Act.put_same a t
theorem frzE_ok (hb : Base Γ B F0 V0) (t : Nat) : ∀ s e, frzE B t s = some e → (∀ q ∈ e.obl, q) → ∀ V a w, s.ws = [] → Inv P Γ w0 M B N F0 V0 s V a w → ∃ w1 M1 V' x, Grows B V0 w0 M w1 M1 ∧ V.ext s.nx V' ∧ den V' e.val = some x ∧ a.put (some t) x = a ∧ TabOK w1 M1 V' (upd (s.T B) s.nx e) w := by
 intro s e he ho V a w hws hi
 unfold frzE at he
 split at he
 case h_2 => cases he
 rename_i l sf m m' hg
 split at he
 case h_2 => cases he
 rename_i xs ty hl
 cases he
 obtain rfl : m' = m := ho _ (by simp)
 have hm : m' = xs.length := ho _ (by simp)
 obtain ⟨M1, V', k1, k2, k3, k4⟩ := hi.tab.frozeI hi.top.fresh hl (hi.tmp t _ hg) hm [m' = m', m' = xs.length]
 exact ⟨w, M1, V', _, ⟨hi.tab.frame, k3, hi.fro0 hb hws⟩, k1, k2, put_eval, k4⟩
theorem frzZE_ok (hb : Base Γ B F0 V0) (t : Nat) {vs : List Value} {ds : List (List Int)} {z : Nat} (hlen : vs.length = ds.length + z) (hd : ∀ (i : Nat) (v : Value) (d : List Int), vs[i]? = some v → ds[i]? = some d → FrozenRd w0 M v d)
  (hz : ∀ (i : Nat) (v : Value), vs[i]? = some v → ds.length ≤ i → v = .slice none 0 0) :
  ∀ s e, frzZE B t vs ds z s = some e → (∀ q ∈ e.obl, q) → ∀ V a w, s.ws = [] → Inv P Γ w0 M B N F0 V0 s V a w → ∃ w1 M1 V' x, Grows B V0 w0 M w1 M1 ∧ V.ext s.nx V' ∧ den V' e.val = some x ∧ a.put (some t) x = a ∧ TabOK w1 M1 V' (upd (s.T B) s.nx e) w := by
 intro s e he ho V a w hws hi
 unfold frzZE at he
 split at he
 case h_2 => cases he
 rename_i l sf m m' hg
 split at he
 case h_2 => cases he
 rename_i us ty hl
 cases he
 obtain rfl : m' = m := ho _ (by simp)
 have hm : m' = us.length := ho _ (by simp)
 obtain rfl : us = vs := ho _ (by simp)
 obtain ⟨M1, V', k1, k2, k3, k4⟩ := hi.tab.frozeZ hi.top.fresh hl (hi.tmp t _ hg) hm hlen hd hz [m' = m', m' = us.length, us = us]
 exact ⟨w, M1, V', _, ⟨hi.tab.frame, k3, hi.fro0 hb hws⟩, k1, k2, put_eval, k4⟩
theorem G.toRaw (hty : TyOK P Γ) (hsum : SumsOK P Γ) (hmix : P.follows .mixedOrders = true) (hb : Base Γ B F0 V0) {stops : List Nat} {lf n : Nat} {cf cf' : Cf} {K K' : List Fr} {s : St} (hs : List Bool) {t l m : Nat} {xs : List Int}
  {gs : Nat → Nat → Nat → List (Nat × SV)} {tb : List (Nat × SB)} {nx : Nat} {df : List SV} {ps : Nat → Nat → Nat → List Prop} {Q : Exit → Act → World → Prop} (hg : s.g.get t = some (.ros l m)) (hl : s.T B l = some (.rof xs)) (hx : xs ≠ [])
  (h : ∀ b o c, Sx.toE F0 N B t (rawE B t (.slice (some ⟨b, o, none⟩) m c) xs) (gs b o c) tb nx df (mrun Γ B F0 N stops lf n cf K (s.hint hs)) = some (cf', K', ps b o c)) (h0 : n = 0)
  (hp : ∀ b o c, FrozenRd w0 M (.slice (some ⟨b, o, none⟩) m c) xs → ∀ q ∈ ps b o c, q)
  (hG : ∀ b o c, m = xs.length → FrozenRd w0 M (.slice (some ⟨b, o, none⟩) m c) xs → G P Γ w0 M B N F0 V0 cf' K' (stOf (gs b o c) tb nx [] df) Q) : G P Γ w0 M B N F0 V0 cf K s Q := by
 subst h0
 intro V a w hi
 obtain ⟨b, o, c, h1, h2, h3⟩ := hi.tab.told hl (hi.tmp t _ hg) hx
 have hh := h b o c
 unfold Sx.toE at hh
 have hr : mrun Γ B F0 N stops lf 0 cf K (s.hint hs) = some ⟨cf, K, s.hint hs⟩ := rfl
 rw [hr] at hh
 simp only at hh
 split at hh
 case h_2 => cases hh
 rename_i e he hws
 split at hh
 case h_2 => cases hh
 rename_i s1 hs1
 have hob := toA_ob hh
 have he2 := he
 have hg' : (s.hint hs).g.get t = some (.ros l m) := hg
 have hl' : (s.hint hs).T B l = some (.rof xs) := hl
 unfold rawE at he2
 rw [hg'] at he2
 simp only [hl'] at he2
 cases he2
 have hi2 : Inv P Γ w0 M B N F0 V0 (s.hint hs) V a w := hi.hints s.ob hs
 have hi' := hi2.stepW hs1 (Nat.le_refl _) (Nat.le_refl _) (V.ext_refl _) (x := a.eval (.tmp t)) (fun _ => by simp only [den]; rw [h1]) (by rw [upd_none _ _ rfl rfl]; exact hi2.tab)
 rw [put_eval] at hi'
 exact G.toA hty hsum hmix hb s1.hs (stops := stops) (lf := lf) (n := 0) (cf := cf) (K := K) hh (hp b o c h3) (hG b o c h2 h3) V a w hi'
theorem G.later (hb : Base Γ B F0 V0) {cf : Cf} {K : List Fr} {s : St} {Q : Exit → Act → World → Prop} (hws : s.ws = []) (hG : ∀ w1 M1, Grows B V0 w0 M w1 M1 → G P Γ w1 M1 B N F0 V0 cf K s Q) : G P Γ w0 M B N F0 V0 cf K s Q := by
 intro V a w hi
 have hp := hi.tab.part (T := s.T B) fun _ _ h => h
 exact hG w _ ⟨hi.tab.frame, fun n ⟨l, b, h1, h2, h3⟩ => hi.tab.perm l b n h1 h2 h3, hi.fro0 hb hws⟩ V a w ⟨hi.tmp, hi.keys, hi.size, hi.defers, hp, hi.glob, hi.top, hi.le, hi.low, hi.ch, hi.nx, hi.hi⟩
theorem G.loopR {L : Code} {K : List Fr} {Q : Exit → Act → World → Prop} (S : Nat → World → (Nat → Prop) → St → Prop) {r0 : Nat} {s0 : St} (h0 : S r0 w0 M s0)
  (hround : ∀ r w1 M1 s, S r w1 M1 s → G P Γ w1 M1 B N F0 V0 (.go L) [] s (Exit.then (fun a w => ∃ r', r' < r ∧ ∃ w2 M2 s', S r' w2 M2 s' ∧ ∃ V, Inv P Γ w2 M2 B N F0 V0 s' V a w) (KQ P K Q))) :
  G P Γ w0 M B N F0 V0 (.go (.loop L)) K s0 Q := by
 intro V a w hi
 refine wp_loop_ghost (fun r a w => ∃ w1 M1 s, S r w1 M1 s ∧ ∃ V, Inv P Γ w1 M1 B N F0 V0 s V a w) r0 ⟨w0, M, s0, h0, V, hi⟩ ?_
 rintro r a w ⟨w1, M1, s, hs, V, hi⟩
 exact hround r w1 M1 s hs V a w hi
theorem G.againR {K : List Fr} {Q : Exit → Act → World → Prop} {S : Nat → World → (Nat → Prop) → St → Prop} {r r' : Nat} {s : St} (hr : r' < r) (hS : S r' w0 M s) :
  G P Γ w0 M B N F0 V0 (.at .normal) [] s (Exit.then (fun a w => ∃ r', r' < r ∧ ∃ w2 M2 s', S r' w2 M2 s' ∧ ∃ V, Inv P Γ w2 M2 B N F0 V0 s' V a w) (KQ P K Q)) :=
 fun V _ _ hi => ⟨r', hr, w0, M, s, hS, V, hi⟩
theorem G.back {w1 : World} {M1 : Nat → Prop} (hgr : Grows B V0 w0 M w1 M1) {cf : Cf} {K : List Fr} {s : St} {Q : Exit → Act → World → Prop} (hpl : ∀ k b, s.tb.get k = some b → b.plain = true) (h : G P Γ w0 M B N F0 V0 cf K s Q) : G P Γ w1 M1 B N F0 V0 cf K s Q := by
 intro V a w hi
 refine h V a w ⟨hi.tmp, hi.keys, hi.size, hi.defers, ⟨hi.tab.ok, hi.tab.dist, fun l b n hl ho hn => ?_, hgr.frame.trans hi.tab.frame fun n hn hm => (hgr.sub n hm).resolve_left (by omega), fun l b hl => ?_⟩, hi.glob, hi.top, hi.le, hi.low, hi.ch, hi.nx, hi.hi⟩
 ·rcases hi.tab.perm l b n hl ho hn with q | q
  ·have := hgr.frame.size; exact .inl (by omega)
  ·exact hgr.sub n q
 ·unfold St.T at hl
  split at hl
  ·rename_i b' hb'
   cases hl
   exact froB_plain (hpl l _ hb')
  ·exact (hgr.fro l b hl).le hi.le
end
end Go.Proofs.YtdhombdiakjdhaaGreatDoor.Sx
end
section
open Go Go.RowKit Go.Shelf
namespace Go.Proofs.YtdhombdiakjdhaaGreatDoor.Sx
attribute [local go_sem] Oper.semAt_some
def evV (p : Int × Int) : Value := .agg #[.int .i64 p.1, .int .i64 p.2]
def upto {α : Type} (f : Nat → α) (k : Nat) : List α := (List.range k).map f
theorem upto_succ {α : Type} (f : Nat → α) (k : Nat) : upto f (k + 1) = upto f k ++ [f k] := by simp [upto, List.range_succ]
theorem upto_length {α : Type} (f : Nat → α) (k : Nat) : (upto f k).length = k := by simp [upto]
theorem upto_all (zs : List (Int × Int)) : upto (fun j => zs[j]?.getD (0, 0)) zs.length = zs := by
 apply List.ext_getElem
 ·simp [upto]
 ·intro i h1 h2
  simp [upto, h2]
theorem upto_take (zs : List (Int × Int)) {k : Nat} (hk : k ≤ zs.length) : upto (fun j => zs[j]?.getD (0, 0)) k = zs.take k := by
 apply List.ext_getElem
 ·simp [upto, hk]
 ·intro i h1 h2
  have : i < zs.length := by simp [upto] at h1; omega
  simp [upto, this]
set_option maxRecDepth 100000 in
set_option maxHeartbeats 2000000 in
theorem since1_in (F : Fence) (n : Nat) (h95 : F.fn 95) (hro : F.round = none) (hn : 1 ≤ n) (l B1 B2 R n₀ b cap : Nat) (zs : List (Int × Int)) (hreach : zs.length * 16 ≤ 140737488351232) (hb : b < n₀) (J Jx : List (Int × Int) → World → Prop)
  (hY : ∀ pre x W, J pre W → pre.length < zs.length → YieldAt F (n - 1) Tryz.prog l #[evV x] W fun e W' =>
   (e = .returned (.bool true) ∧ J (pre ++ [x]) W' ∧ Below n₀ W W') ∨ (e = .returned (.bool false) ∧ Jx (pre ++ [x]) W'))
  (W : World) (hB1 : W.cell? ⟨B1, 0, none⟩ = some (.pointer (some ⟨R, 0, none⟩))) (hB2 : W.cell? ⟨B2, 0, none⟩ = some (.int .i64 0)) (hR : W.cell? ⟨R, 1, none⟩ = some (.slice (some ⟨b, 0, none⟩) zs.length cap))
  (hc : ∀ j, j < zs.length → W.cell? ⟨b, j * 2, none⟩ = some (.int .i64 (zs[j]?.getD (0, 0)).1) ∧ W.cell? ⟨b, j * 2 + 1, none⟩ = some (.int .i64 (zs[j]?.getD (0, 0)).2)) (h0 : J [] W) :
  CallsIn F n Tryz.prog 95 #[.func (.yield l) #[] #[], .pointer (some ⟨B1, 0, none⟩), .pointer (some ⟨B2, 0, none⟩)] W fun e W' => (∃ v, e = .returned v) ∧
   ((∃ ys, ys = upto (fun j => zs[j]?.getD (0, 0)) zs.length ∧ J ys W') ∨ (∃ pre, (∃ k, k ≤ zs.length ∧ pre = upto (fun j => zs[j]?.getD (0, 0)) k) ∧ Jx pre W')) := by
 refine callsIn_of_wp Tryz.func95 rfl h95 ?_ hro
 simp only [Tryz.ntmps95, List.size_toArray, List.length_cons, List.length_nil, Nat.reduceAdd, Nat.reduceSub, Array.replicate_succ, Array.replicate_zero, List.push_toArray, List.append_toArray, List.nil_append, List.cons_append]
 gi_wp2
 gi_loopw [5] (fun i wr => ∃ k : Nat, k ≤ zs.length ∧ i = .int .i64 k ∧ J (upto (fun j => zs[j]?.getD (0, 0)) k) wr ∧ Below n₀ W wr)
  (fun i _ => zs.length - (intOf i).toNat)
 case atStart => exact ⟨0, Nat.zero_le _, rfl, h0, Below.refl _ _⟩
 case round =>
  obtain ⟨k, hk, rfl, hJs, hnx⟩ := hrel
  have hcx : k < zs.length → wr.cell? ⟨b, k * 2, none⟩ = some (.int .i64 (zs[k]?.getD (0, 0)).1) ∧ wr.cell? ⟨b, k * 2 + 1, none⟩ = some (.int .i64 (zs[k]?.getD (0, 0)).2) := fun h => ⟨(hnx.cell (p := ⟨b, k * 2, none⟩) hb).trans (hc k h).1, (hnx.cell (p := ⟨b, k * 2 + 1, none⟩) hb).trans (hc k h).2⟩
  by_cases hlt : k < zs.length
  ·have ek : zs[k]?.getD (0, 0) = zs[k] := by simp [hlt]
   obtain ⟨fn, tmps, assign, body, hy, hR⟩ := hY _ zs[k] wr hJs (by rw [upto_length]; exact hlt)
   obtain ⟨hcx1, hcx2⟩ := hcx hlt
   unfold evV at hy
   gi_wp2
   refine hR.mono ?_
   rintro e W3 (⟨rfl, hJ3, hk3⟩ | ⟨rfl, hJx3⟩)
   ·gi_wp2
    go_roundw
    case rel => exact ⟨k + 1, by omega, by simp, by rw [upto_succ, ek]; exact hJ3, hnx.trans hk3⟩
    case measure => simp [intOf]; omega
   ·gi_wp2
    refine bodyPost_ret (results_none rfl _ _ _) rfl ?_
    exact ⟨⟨_, rfl⟩, .inr ⟨_, ⟨k + 1, by omega, by rw [upto_succ, ek]⟩, hJx3⟩⟩
  ·obtain rfl : k = zs.length := by omega
   gi_wp2
   go_end0
   exact ⟨⟨_, rfl⟩, .inl ⟨_, rfl, hJs⟩⟩
end Go.Proofs.YtdhombdiakjdhaaGreatDoor.Sx
end
section
open Go Go.RowKit Go.Shelf
namespace Go.Proofs.YtdhombdiakjdhaaGreatDoor.Sx
attribute [local go_sem] Oper.semAt_some
def EvAt (n₀ : Nat) (W : World) (sv : Value) (zs : List (Int × Int)) : Prop :=
 (sv = .slice none 0 0 ∧ zs = []) ∨ ∃ b cap, sv = .slice (some ⟨b, 0, none⟩) zs.length cap ∧ b < n₀ ∧ ∀ j, j < zs.length → W.cell? ⟨b, j * 2, none⟩ = some (.int .i64 (zs[j]?.getD (0, 0)).1) ∧ W.cell? ⟨b, j * 2 + 1, none⟩ = some (.int .i64 (zs[j]?.getD (0, 0)).2)
theorem EvAt.below {n₀ : Nat} {A B : World} (h : Below n₀ A B) {sv : Value} {zs : List (Int × Int)} : EvAt n₀ A sv zs → EvAt n₀ B sv zs
 | .inl e => .inl e
 | .inr ⟨b, cap, e, hb, hc⟩ => .inr ⟨b, cap, e, hb, fun j hj => ⟨(h.cell (p := ⟨b, j * 2, none⟩) hb).trans (hc j hj).1, (h.cell (p := ⟨b, j * 2 + 1, none⟩) hb).trans (hc j hj).2⟩⟩
set_option maxRecDepth 100000 in
set_option maxHeartbeats 1000000 in
theorem since1_nil_in (F : Fence) (n : Nat) (h95 : F.fn 95) (hro : F.round = none) (l B1 B2 R : Nat) (J : List (Int × Int) → World → Prop) (W : World) (hB1 : W.cell? ⟨B1, 0, none⟩ = some (.pointer (some ⟨R, 0, none⟩))) (hB2 : W.cell? ⟨B2, 0, none⟩ = some (.int .i64 0)) (hR : W.cell? ⟨R, 1, none⟩ = some (.slice none 0 0)) (h0 : J [] W) :
  CallsIn F n Tryz.prog 95 #[.func (.yield l) #[] #[], .pointer (some ⟨B1, 0, none⟩), .pointer (some ⟨B2, 0, none⟩)] W fun e W' => (∃ v, e = .returned v) ∧ J [] W' := by
 refine callsIn_of_wp Tryz.func95 rfl h95 ?_ hro
 simp only [Tryz.ntmps95, List.size_toArray, List.length_cons, List.length_nil, Nat.reduceAdd, Nat.reduceSub, Array.replicate_succ, Array.replicate_zero, List.push_toArray, List.append_toArray, List.nil_append, List.cons_append]
 gi_wp2
 gi_loopw [5] (fun i wr => i = .int .i64 0 ∧ J [] wr) (fun _ _ => 0)
 case atStart => exact ⟨rfl, h0⟩
 case round =>
  obtain ⟨rfl, hJs⟩ := hrel
  gi_wp2
  go_end0
  exact ⟨⟨_, rfl⟩, hJs⟩
set_option maxHeartbeats 1000000 in
theorem since_in (F : Fence) (n : Nat) (h53 : F.fn 53) (hro : F.round = none) (r : Option Addr) (k : Int) (w : World) :
  CallsIn F n Tryz.prog 53 #[.pointer r, .int .i64 k] w fun e w' => e = .returned (.func (.func 95) #[] #[.pointer (some ⟨w.heap.size, 0, none⟩), .pointer (some ⟨w.heap.size + 1, 0, none⟩)]) ∧ w' = (w.alloc (.cells #[.pointer r] 53)).alloc (.cells #[.int .i64 k] 3) := by
 refine callsIn_of_wp Tryz.func53 rfl h53 ?_ hro
 simp only [Tryz.ntmps53, List.size_toArray, List.length_cons, List.length_nil, Nat.reduceAdd, Nat.reduceSub, Array.replicate_succ, Array.replicate_zero, List.push_toArray, List.append_toArray, List.nil_append, List.cons_append]
 gi_wp2
 go_ret
 exact ⟨rfl, rfl⟩
theorem since_stops (F : Fence) (n : Nat) (h95 : F.fn 95) (hro : F.round = none) (hn : 1 ≤ n) (B1 B2 R n₀ : Nat) (sv : Value) (zs : List (Int × Int)) (hreach : zs.length * 16 ≤ 140737488351232) (w : World) (hl1 : B1 < w.heap.size) (hl2 : B2 < w.heap.size) (hlR : R < w.heap.size) (hn₀ : n₀ ≤ w.heap.size)
  (hB1 : w.cell? ⟨B1, 0, none⟩ = some (.pointer (some ⟨R, 0, none⟩))) (hB2 : w.cell? ⟨B2, 0, none⟩ = some (.int .i64 0)) (hR : w.cell? ⟨R, 1, none⟩ = some sv) (hI : EvAt n₀ w sv zs) :
  SeqStopsK F n Tryz.prog 95 #[.pointer (some ⟨B1, 0, none⟩), .pointer (some ⟨B2, 0, none⟩)] (fun x : Int × Int => #[evV x]) (Below n₀) (fun ys => ys = zs) (fun pre => pre <+: zs) zs.length w := fun l J Jx W hW _ _ hY h0 => by
 have hc1 := (hW.cell (p := ⟨B1, 0, none⟩) hl1).trans hB1
 have hc2 := (hW.cell (p := ⟨B2, 0, none⟩) hl2).trans hB2
 have hc3 := (hW.cell (p := ⟨R, 1, none⟩) hlR).trans hR
 rcases hI.below (hW.mono hn₀) with ⟨rfl, rfl⟩ | ⟨b, cap, rfl, hb, hcs⟩
 ·exact (since1_nil_in F n h95 hro l B1 B2 R J W hc1 hc2 hc3 h0).mono fun e W' ⟨he, hj⟩ => ⟨he, .inl ⟨_, rfl, hj⟩⟩
 ·refine (since1_in F n h95 hro hn l B1 B2 R n₀ b cap zs hreach hb J Jx hY W hc1 hc2 hc3 hcs h0).mono ?_
  rintro e W' ⟨he, ⟨ys, rfl, hj⟩ | ⟨pre, ⟨k, hk, rfl⟩, hj⟩⟩
  ·exact ⟨he, .inl ⟨_, upto_all zs, hj⟩⟩
  ·exact ⟨he, .inr ⟨_, by rw [upto_take zs hk]; exact List.take_prefix _ _, hj⟩⟩
set_option maxHeartbeats 1000000 in
theorem load64_in (F : Fence) (n : Nat) (h55 : F.fn 55) (h101 : F.fn 101) (hro : F.round = none) (R : Nat) (c : Int) (w : World) (hR : w.cell? ⟨R, 0, none⟩ = some (.int .i64 c)) :
  CallsIn F n Tryz.prog 55 #[.pointer (some ⟨R, 0, none⟩)] w fun e w' => e = .returned (.int .i64 c) ∧ w = w' := by
 have hl : (callFunc 101 #[.pointer (some ⟨R, 0, none⟩)]).run Tryz.prog w = .ok (.value (.int .i64 c)) w := run_call_load (P := Tryz.prog) Tryz.func101 rfl rfl next101 .i64 find101 hR
 refine callsIn_of_wp Tryz.func55 rfl h55 ?_ hro
 simp only [Tryz.ntmps55, List.size_toArray, List.length_cons, List.length_nil, Nat.reduceAdd, Nat.reduceSub, Array.replicate_succ, Array.replicate_zero, List.push_toArray, List.append_toArray, List.nil_append, List.cons_append]
 gi_wp2
 go_ret
 exact ⟨rfl, rfl⟩
set_option maxHeartbeats 1000000 in
theorem total_in (F : Fence) (n : Nat) (h26 : F.fn 26) (h55 : F.fn 55) (h101 : F.fn 101) (hro : F.round = none) (hn : 1 ≤ n) (R : Nat) (c : Int) (w : World) (hR : w.cell? ⟨R, 0, none⟩ = some (.int .i64 c)) :
  CallsIn F n Tryz.prog 26 #[.pointer (some ⟨R, 0, none⟩)] w fun e w' => e = .returned (.int .i64 c) ∧ w = w' := by
 refine callsIn_of_wp Tryz.func26 rfl h26 ?_ hro
 simp only [Tryz.ntmps26, List.size_toArray, List.length_cons, List.length_nil, Nat.reduceAdd, Nat.reduceSub, Array.replicate_succ, Array.replicate_zero, List.push_toArray, List.append_toArray, List.nil_append, List.cons_append]
 gi_wp2_with (gi_at_call 55; refine (load64_in F (n - 1) h55 h101 hro _ _ _ hR).mono ?_; rintro e w' ⟨rfl, rfl⟩)
 go_ret
 exact ⟨rfl, rfl⟩
theorem info89 : (Tryz.prog.info? 89).map (fun i => (i.zero, i.size, i.bytes)) = some (some (.agg #[.int .i64 0, .int .i64 0]), 2, 16) := by kernel_rfl
theorem run_makeE (w : World) (c : Int) (h1 : 0 ≤ c) (h2 : 16 * c ≤ 2 ^ 48) (h3 : c < 2 ^ 63) : ∃ cur : Array Value, cur.size = c.toNat * 2 ∧ (Instr.makeSlice 56 (.int .i64 0) (.int .i64 c)).run Tryz.prog w = .ok (.slice (some ⟨w.heap.size, 0, none⟩) 0 c.toNat) (w.alloc (.cells cur 89)) := by
 obtain ⟨i, hi, hz, hi2, hby⟩ := info_parts info89
 have en : IntKind.i64.wrap 0 = 0 := wrap64_id (by omega) (by omega)
 have ec : IntKind.i64.wrap c = c := wrap64_id (by omega) (by omega)
 have hti : (typeInfo 89).run Tryz.prog w = .ok i w := by simp [typeInfo, hi]
 have hcond : (c < 0 || (i.bytes : Int) * c > 2 ^ 48 || (0 : Int) < 0 || (0 : Int) > c) = false := by rw [hby]; simp; omega
 have hu := Tryz.underlying56
 unfold Instr.makeSlice
 simp only [Sem.run_bind, run_underlying hu w, Result.andThen_ok, asInt, asIntOf, Sem.run_pure, hti, en, ec, hcond, Bool.false_eq_true, if_false, run_askRoom, run_sizeOf hi, hi2]
 by_cases hc0 : c.toNat * 2 = 0
 ·exact ⟨#[], by simp; omega, by simp [show c.toNat = 0 by omega, newRow, show Array.range 0 = #[] from rfl]⟩
 ·refine ⟨(Array.range (c.toNat * 2)).map fun j => (Value.agg #[.int .i64 0, .int .i64 0]).cells[j % (Value.agg #[.int .i64 0, .int .i64 0]).cells.size]!, by simp, ?_⟩
  simp only [if_neg hc0, Sem.run_bind, run_zeroValue hi hz, Result.andThen_ok, Sem.run_pure, newRow, run_newObj, World.alloc_eq, Int.toNat_zero]
end Go.Proofs.YtdhombdiakjdhaaGreatDoor.Sx
end
section
open Go Go.RowKit Go.Shelf
namespace Go.Proofs.YtdhombdiakjdhaaGreatDoor.Sx
attribute [local go_sem] Oper.semAt_some
def PairB (W : World) (B : Nat) (x : Int × Int) : Prop := W.heap[B]? = some (.cells #[.int .i64 x.1, .int .i64 x.2] 89 (0, 0))
theorem PairB.c0 {W : World} {B : Nat} {x : Int × Int} (h : PairB W B x) : W.cell? ⟨B, 0, none⟩ = some (.int .i64 x.1) := by simp [World.cell?, show W.heap[B]? = _ from h]
theorem PairB.c1 {W : World} {B : Nat} {x : Int × Int} (h : PairB W B x) : W.cell? ⟨B, 1, none⟩ = some (.int .i64 x.2) := by simp [World.cell?, show W.heap[B]? = _ from h]
theorem PairB.kept {W W' : World} {row : Option Nat} {B : Nat} {x : Int × Int} (h : PairB W B x) (hg : W.grownBy W' row) (hne : some B ≠ row) : PairB W' B x := (hg.block B (Array.getElem?_eq_some_iff.1 h).1 hne).trans h
theorem cells2 {W : World} {B : Nat} {x y : Value} {t : TypeId} (h : W.heap[B]? = some (.cells #[x, y] t (0, 0))) : W.cell? ⟨B, 0, none⟩ = some x ∧ W.cell? ⟨B, 1, none⟩ = some y := ⟨by simp [World.cell?, h], by simp [World.cell?, h]⟩
theorem cells_two_new (w : World) (x y : Value) (t : TypeId) : ∀ j u, [x, y][j]? = some u → (w.alloc (.cells #[x, y] t)).cell? ((⟨w.heap.size, 0, none⟩ : Addr).add j) = some u := by
 intro j u hj
 obtain ⟨h0, h1⟩ := cells2 (World.alloc_heap_new w (.cells #[x, y] t))
 match j, hj with
 | 0, hj => simp only [List.getElem?_cons_zero, Option.some.injEq] at hj; subst hj; exact h0
 | 1, hj => simp only [List.getElem?_cons_succ, List.getElem?_cons_zero, Option.some.injEq] at hj; subst hj; exact h1
 | j + 2, hj => simp at hj
set_option maxRecDepth 100000 in
set_option maxHeartbeats 4000000 in
theorem events_in (F : Fence) (n : Nat) (h22 : F.fn 22) (h26 : F.fn 26) (h53 : F.fn 53) (h55 : F.fn 55) (h95 : F.fn 95) (h101 : F.fn 101) (hro : F.round = none) (hn : 3 ≤ n) (R : Nat) (c : Int) (sv : Value) (zs : List (Int × Int)) (hc0 : 0 ≤ c) (hc1 : 16 * c ≤ 2 ^ 48) (hc2 : c < 2 ^ 63) (hlen : zs.length ≤ 1000000000000)
  (w : World) (hlR : R < w.heap.size) (hR0 : w.cell? ⟨R, 0, none⟩ = some (.int .i64 c)) (hR1 : w.cell? ⟨R, 1, none⟩ = some sv) (hE : EvAt w.heap.size w sv zs) :
  CallsIn F n Tryz.prog 22 #[.pointer (some ⟨R, 0, none⟩)] w fun e W' => ∃ v, e = .returned v ∧ W'.ownsRow w.heap.size 89 2 v zs.length (pairC zs) ∧ Below w.heap.size w W' := by
 have h1 : 1 ≤ n := by omega
 obtain ⟨i0, hi, hz0, hz1, hz2⟩ := info_parts info89
 obtain ⟨cur, hcur, hmk⟩ := run_makeE w c hc0 hc1 hc2
 refine callsIn_of_wp_marks Tryz.func22 rfl h22 ?_ hro
 simp only [Tryz.ntmps22, List.size_toArray, List.length_cons, List.length_nil, Nat.reduceAdd, Nat.reduceSub, Array.replicate_succ, Array.replicate_zero, List.push_toArray, List.append_toArray, List.nil_append, List.cons_append]
 have h1' : 1 ≤ n - 1 := by omega
 gi_wp2_with first | (gi_at_call 26; refine (total_in F (n - 1) h26 h55 h101 hro h1' _ _ _ hR0).mono ?_; rintro e w' ⟨rfl, rfl⟩) | (gi_at_call 53; refine (since_in F (n - 1) h53 hro _ _ _).mono ?_; rintro e w2 ⟨rfl, rfl⟩)
 obtain ⟨S, hS⟩ : ∃ S, S = w.heap.size := ⟨_, rfl⟩
 have b1 := ((Boxed.new (w.alloc (.cells cur 89)) 56 (.slice (some ⟨w.heap.size, 0, none⟩) 0 c.toNat)).alloc (.cells #[.pointer (some ⟨R, 0, none⟩)] 53)).alloc (.cells #[.int .i64 0] 3)
 have b2 := (Boxed.new ((w.alloc (.cells cur 89)).alloc (.cells #[.slice (some ⟨w.heap.size, 0, none⟩) 0 c.toNat] 56)) 53 (.pointer (some ⟨R, 0, none⟩))).alloc (.cells #[.int .i64 0] 3)
 have b3 := Boxed.new (((w.alloc (.cells cur 89)).alloc (.cells #[.slice (some ⟨w.heap.size, 0, none⟩) 0 c.toNat] 56)).alloc (.cells #[.pointer (some ⟨R, 0, none⟩)] 53)) 3 (.int .i64 0)
 simp only [World.size_alloc] at b1 b2 b3
 have hB0 : Below w.heap.size w ((((w.alloc (.cells cur 89)).alloc (.cells #[.slice (some ⟨w.heap.size, 0, none⟩) 0 c.toNat] 56)).alloc (.cells #[.pointer (some ⟨R, 0, none⟩)] 53)).alloc (.cells #[.int .i64 0] 3)) := ((((Below.refl _ w).alloc (Nat.le_refl _) _).alloc (by simp) _).alloc (by simp; omega) _).alloc (by simp; omega) _
 have hcurH : ((((w.alloc (.cells cur 89)).alloc (.cells #[.slice (some ⟨w.heap.size, 0, none⟩) 0 c.toNat] 56)).alloc (.cells #[.pointer (some ⟨R, 0, none⟩)] 53)).alloc (.cells #[.int .i64 0] 3)).heap[w.heap.size]? = some (.cells cur 89) :=
  (Below.heap_alloc _ _ _ (by simp; omega)).trans ((Below.heap_alloc _ _ _ (by simp; omega)).trans ((Below.heap_alloc _ _ _ (by simp)).trans (World.alloc_heap_new w _)))
 have hsz : ((((w.alloc (.cells cur 89)).alloc (.cells #[.slice (some ⟨w.heap.size, 0, none⟩) 0 c.toNat] 56)).alloc (.cells #[.pointer (some ⟨R, 0, none⟩)] 53)).alloc (.cells #[.int .i64 0] 3)).heap.size = w.heap.size + 4 := by simp
 obtain ⟨W0, hW0⟩ : ∃ W0, (((w.alloc (.cells cur 89)).alloc (.cells #[.slice (some ⟨w.heap.size, 0, none⟩) 0 c.toNat] 56)).alloc (.cells #[.pointer (some ⟨R, 0, none⟩)] 53)).alloc (.cells #[.int .i64 0] 3) = W0 := ⟨_, rfl⟩
 rw [hW0] at b1 b2 b3 hB0 hcurH hsz ⊢
 clear hW0
 have hrow0 : W0.ownsRow w.heap.size 89 2 (.slice (some ⟨w.heap.size, 0, none⟩) 0 c.toNat) 0 [] := ⟨rfl, .inr ⟨w.heap.size, c.toNat, cur, rfl, Nat.le_refl _, hcurH, Nat.zero_le _, by simp only [maxLen]; omega, hcur, by simp⟩⟩
 have hR1' : W0.cell? ⟨R, 1, none⟩ = some sv := (hB0.cell (p := ⟨R, 1, none⟩) hlR).trans hR1
 refine wpIn_rangeFunc_ownH hro h1 (gf := 95) (lb := #[.pointer (some ⟨w.heap.size + 1 + 1, 0, none⟩), .pointer (some ⟨w.heap.size + 1 + 1 + 1, 0, none⟩)]) rfl h95 (enters_of Tryz.func95 (by kernel_rfl) rfl)
  (since_stops F (n - 1) h95 hro (by omega) (w.heap.size + 1 + 1) (w.heap.size + 1 + 1 + 1) R w.heap.size sv zs (by omega) W0 (by omega) (by omega) (by omega) (by omega) b2.cell b3.cell hR1' (hE.below hB0)) belowK_t (belowK_b (by omega)) (Below.refl _ _) (fun _ => rfl)
  (fun pre W => (∃ v, Boxed W (w.heap.size + 1) 56 v ∧ W.ownsRow w.heap.size 89 2 v pre.length (pairC pre) ∧ True) ∧ Below w.heap.size w W)
  (fun _ _ _ => False)
  (OwnFrom.and (Own.from (holdsRow_own w.heap.size (w.heap.size + 1) 56 89 2 (fun pre : List (Int × Int) => pre.length) (fun pre => pairC pre) (fun _ _ => True)) _) (ownFrom_below (Nat.le_refl _) (by omega)))
  (fun _ _ _ _ _ hs _ _ => hs)
  ⟨⟨_, b1, hrow0, trivial⟩, hB0⟩
  (fun x a' W => ∃ Bx, w.heap.size + 1 < Bx ∧ PairB W Bx x ∧ a' = { tmps := #[.pointer (some ⟨R, 0, none⟩), undef, .slice none 0 0, .pointer (some ⟨w.heap.size + 1, 0, none⟩), .pointer (some ⟨Bx, 0, none⟩), .pointer (some ⟨R, 0, none⟩), .int .i64 c, .slice (some ⟨w.heap.size, 0, none⟩) 0 c.toNat, .pointer (some ⟨R, 0, none⟩), .func (.func 95) #[] #[.pointer (some ⟨w.heap.size + 1 + 1, 0, none⟩), .pointer (some ⟨w.heap.size + 1 + 1 + 1, 0, none⟩)], evV x, undef, undef, undef, undef, undef], defers := [] })
  (fun x a' _ X Y row hs hg hr => by
   obtain ⟨Bx, h1, h2, h3⟩ := hs
   refine ⟨Bx, h1, h2.kept hg (fun e' => ?_), h3⟩
   obtain ⟨_, o, ho, hc⟩ := hr Bx e'.symm
   rw [show X.heap[Bx]? = _ from h2] at ho; cases ho; cases hc)
  ?assign ?body ?done ?stop
 case assign =>
  rintro l pre x W K ⟨⟨v, hv, hrow, _⟩, hB⟩ hK
  unfold evV at hK ⊢
  gi_wp2
  exact hK _ _ ((KeepsOthers.alloc _ _).from _) ((Below.refl _ W).alloc hB.size _) ⟨⟨v, hv.alloc _, hrow.alloc _, trivial⟩, hB.alloc hB.size _⟩ ⟨W.heap.size, hv.lt, World.alloc_heap_new W _, rfl⟩
 case body =>
  rintro l pre x a' W hl ⟨r, hr⟩ ⟨⟨v, hv, hrow, _⟩, hB⟩ ⟨Bx, hBx, bX, rfl⟩ hlt
  have hc := hv.cell
  have hx0 := bX.c0
  have hx1 := bX.c1
  gi_wp2_with (gi_at_builtin; refine wpListIn_append_own _ rfl _ _ 56 rfl w.heap.size 89 i0 (.agg #[.int .i64 0, .int .i64 0]) 2 16 Tryz.underlying56 hi hz0 hz1 hz2 rfl (by decide) _ _ _ rfl (hrow.alloc _) ⟨W.heap.size, 0, none⟩ 1 1 [.int .i64 x.1, .int .i64 x.2] rfl rfl (cells_two_new _ _ _ _) (by simp [Value.oneCell']) (by simp only [maxLen]; omega) (by omega) (by have := hB.size; simp; omega) ?_; intro v' w1 hown' hgrow _; obtain ⟨g', cap', rfl⟩ := ownsRow_succ hown'; obtain ⟨hv1, hv2, hr2, hk2, hb2⟩ := hv.appended (by decide) hrow hB.size (by omega) hown' hgrow; have hc1 := hv1.cell; have hf1 := hv1.frozen)
  exact ⟨hk2.from _, hb2, ⟨_, hv2, by rw [pairC_append, List.length_append]; exact hr2, trivial⟩, hB.trans hb2⟩
 case done =>
  rintro D ys W hD rfl ⟨⟨v, hv, hrow, _⟩, hB⟩ hK
  have hc := hv.cell
  gi_wp2
  refine ⟨by simp, .inl ⟨_, _, rfl, run_takeDeferred hK, ?_⟩⟩
  exact ⟨_, results_tmp rfl _ _ _, ⟨v, rfl, ownsRow_putObj hrow _ hK rfl, hB.trans (belowK_b (w := w) (Nat.le_refl _) W D _ _ (by omega) hK rfl rfl)⟩⟩
 case stop =>
  rintro D c pre W _ _ h _
  exact h.elim
end Go.Proofs.YtdhombdiakjdhaaGreatDoor.Sx
end
section
open Go Go.RowKit Go.Shelf
set_option maxRecDepth 100000
namespace Go.Proofs.YtdhombdiakjdhaaGreatDoor.Sx
theorem row_RpOK {W : World} {base : Nat} {el : TypeId} {v : Value} {xs : List (Int × Int)} (h : W.ownsRow base el 2 v xs.length (pairC xs)) : RpOK W v xs ∧ rosV xs.length v = some v ∧ ∀ n, roBlk v = some n → base ≤ n := by
 rcases h.2 with ⟨rfl, h0⟩ | ⟨gb, cap, cur, rfl, hb, hh, hle, _, _, htake⟩
 ·have : xs = [] := List.eq_nil_of_length_eq_zero h0
  subst this
  exact ⟨.inl ⟨.nil, rfl⟩, by simp [rosV], fun n hn => by cases hn⟩
 ·refine ⟨.inr ⟨gb, 0, cap, rfl, (Array.getElem?_eq_some_iff.1 hh).1, hle, fun j u hj => ?_⟩, by simp [rosV, hle], fun n hn => ?_⟩
  ·rw [cell_of_row W gb _ _ _ _ hh]
   rw [← htake, List.getElem?_take] at hj
   split at hj
   ·simpa using hj
   ·cases hj
  ·have := roBlk_own hn
   simp only [Value.ownBlock, Option.some.injEq] at this
   omega
theorem row_evAt {W : World} {base : Nat} {el : TypeId} {v : Value} {xs : List (Int × Int)} (h : W.ownsRow base el 2 v xs.length (pairC xs)) : EvAt W.heap.size W v xs := by
 have hr := (row_RpOK h).1
 rcases h.2 with ⟨rfl, h0⟩ | ⟨gb, cap, cur, rfl, hb, hh, hle, _, _, htake⟩
 ·exact .inl ⟨rfl, List.eq_nil_of_length_eq_zero h0⟩
 ·refine .inr ⟨gb, cap, rfl, (Array.getElem?_eq_some_iff.1 hh).1, fun j hj => ?_⟩
  obtain ⟨g1, g2⟩ := pairC_at hj
  have e : xs.getD j (0, 0) = xs[j]?.getD (0, 0) := List.getD_eq_getElem?_getD ..
  rw [e] at g1 g2
  have hc : ∀ (j : Nat) (u : Value), (pairC xs)[j]? = some u → W.cell? ⟨gb, j, none⟩ = some u := by
   intro j u hj
   rw [cell_of_row W gb _ _ _ _ hh]
   rw [← htake, List.getElem?_take] at hj
   split at hj
   ·simpa using hj
   ·cases hj
  have k1 := hc _ _ g1
  have k2 := hc _ _ g2
  rw [Nat.mul_comm] at k1 k2
  exact ⟨k1, k2⟩
def evE (evs : List (Int × Int)) : Eff := { val := .ros 100 evs.length, new := [.rop evs], wr := [(57, .own (lgC evs.length 58) 87), (58, .rowp evs 89)] }
theorem ev_call {evs : List (Int × Int)} (hl : evs.length ≤ 1000000000000) (Γ : Env) : CallOK Tryz.prog Γ 22 [.ptr 57 true 0] (lgT evs) 100 100 (evE evs) := by
 have base : CallOK Tryz.prog Γ 22 [.ptr 57 true 0] (lgT evs) 100 100 { val := .ros 100 evs.length, new := [.rop evs] } := by
  intro w0 M V T2 w xs hsub hT hg hf hF hx o a K Q hK
  have h57 := hsub 57 (.own (lgC evs.length 58) 87) rfl
  have h58 := hsub 58 (.rowp evs 89) rfl
  simp only [denL, den, Option.map_some, Option.some.injEq, Option.map_eq_some_iff, Option.bind_eq_some_iff] at hx
  obtain ⟨x, ⟨p, hβ, rfl⟩, ys, rfl, rfl⟩ := hx
  obtain ⟨b, o'⟩ := p
  obtain ⟨us, hu, b', hb', hh⟩ := hT.ok 57 _ h57
  rw [hβ] at hb'
  cases hb'
  obtain ⟨ps, hps, u, hσ, hrow⟩ := hT.ok 58 _ h58
  cases hps
  have hu : denL V (lgC evs.length 58) = some us := hu
  simp only [lgC, denL, den, hσ, Option.bind_some, Option.map_some, Option.some.injEq] at hu
  subst hu
  have hR0 : w.cell? ⟨b, 0, none⟩ = some (.int .i64 evs.length) := by simp [World.cell?, hh]
  have hR1 : w.cell? ⟨b, 1, none⟩ = some u := by simp [World.cell?, hh]
  have hE : EvAt w.heap.size w u evs := row_evAt hrow
  have hlt : b < w.heap.size := (Array.getElem?_eq_some_iff.1 hh).1
  have hC := callsIn_wide.1 (events_in Fence.wide 10 trivial trivial trivial trivial trivial trivial rfl (by omega) b (evs.length : Int) u evs (by omega) (by omega) (by omega) hl w hlt hR0 hR1 hE)
  rw [callFunc_enter Tryz.func22 rfl rfl, Oper.upon_enter]
  refine hC.mono ?_
  rintro e w' ⟨v, rfl, hrow', hB⟩
  obtain ⟨k1, k2, k3⟩ := row_RpOK hrow'
  have hext := Val.putσ_ext hf 100 (Nat.le_refl _) (by omega) v
  have hs : (V.putσ 100 v).σ 100 = some v := by simp [Val.putσ]
  refine hK (V.putσ 100 v) v w' hext (by simp only [den, hs, Option.bind_some, k2]) ?_
  refine hT.step (N := fun m => if m = 100 then some (.rop evs) else none) hext.1 (fun m C hm => ?_) (fun m C hm => ?_) (fun m C q hm hq => ?_) (fun m C m' C' q hne hm hm' ho2 _ => ?_) hB.size (fun n hn _ => hB.block n hn) hB.os hB.tape hB.output (fun m C hm => ?_)
  ·unfold upd Eff.tab at hm
   simp only [newL, List.nil_append] at hm
   by_cases e : m = 100
   ·subst e
    left
    rw [look_cons_eq] at hm
    rw [if_pos rfl]; exact hm
   ·right
    rw [look_cons_ne (fun q => e q.symm)] at hm
    exact ⟨if_neg e, hm⟩
  ·split at hm
   ·rename_i e; subst e; cases hm; exact ⟨_, rfl, v, hs, k1⟩
   ·cases hm
  ·split at hm
   ·rename_i e; subst e; cases hm
    simp only [SB.blk, hs, Option.bind_some] at hq
    exact .inl (k3 q hq)
   ·cases hm
  ·split at hm
   ·cases hm; cases ho2
   ·cases hm
  ·split at hm
   ·cases hm; trivial
   ·cases hm
 exact CallOK.same (l0 := 57) (B := .own (lgC evs.length 58) 87) (CallOK.same (l0 := 58) (B := .rowp evs 89) base rfl rfl) rfl rfl
end Go.Proofs.YtdhombdiakjdhaaGreatDoor.Sx
end
section
open Go Go.RowKit
set_option maxRecDepth 100000
namespace Go.Proofs.YtdhombdiakjdhaaGreatDoor.Sx
noncomputable def ΓEv : Env := env exA 3
theorem ΓEv_ty : TyOK Tryz.prog ΓEv := env_ty _ 3
theorem ΓEv_ok : SumsOK Tryz.prog ΓEv := exA_sums 3
def eqVs (n m : Nat) : List SV := [.ros 61 n, .ros 62 m]
def eqT (a b : List (Int × Int)) : Tab := fun l => look l [(61, .rop a), (62, .rop b)]
noncomputable def eqM (a b : List (Int × Int)) (cf : Cf) (K : List Fr) (s : St) : Option Cfg := mrun ΓEv (cutT 100 (eqT a b)) 100 Tryz.f21.ntmps [4] 400 2000 cf K s
def eqGs (n m : Nat) (i : Int) : List (Nat × SV) := [(0, .ros 61 n), (1, .ros 62 m), (5, .int false .i64 i)]
noncomputable def eqR : Option Cfg := eqM [] [] (.go (codeOf Tryz.f21)) [] ((st0 (eqVs 0 0) 100).hint [false])
noncomputable def eqLp : Code := cfgC eqR
noncomputable def eqK : List Fr := cfgF eqR
theorem eq_0 (a b : List (Int × Int)) (n m : Nat) (i : Int) : toC 100 Tryz.f21.ntmps (cutT 100 (eqT a b)) [] (eqGs n m i) [] 100 [] [] (eqM a b (.go (codeOf Tryz.f21)) [] ((st0 (eqVs n m) 100).hint [false])) =
  some (.go (.loop eqLp), eqK, [((n : Int) != (m : Int)) = false, n = n, m = m, 0 = i]) := by kernel_rfl
def eqAt (a : List (Int × Int)) (i : Int) : Int × Int := a.getD (2 * i.toNat / 2) (0, 0)
theorem eq_1 (a b : List (Int × Int)) (n m : Nat) (i i' : Int) : toC 100 Tryz.f21.ntmps (cutT 100 (eqT a b)) [] (eqGs n m i') [] 100 [] [] (eqM a b (.go eqLp) [] ((stOf (eqGs n m i) [] 100 [] []).hint [true, false])) =
  some (.at .normal, [], [(!(decide ((eqAt a i).1 = (eqAt b i).1) && decide ((eqAt a i).2 = (eqAt b i).2))) = false, 2 * i.toNat = 2 * (2 * i.toNat / 2) ∧ 2 * i.toNat / 2 < b.length, 0 ≤ i ∧ i < (m : Int), 2 * i.toNat = 2 * (2 * i.toNat / 2) ∧ 2 * i.toNat / 2 < a.length, 0 ≤ i ∧ i < (n : Int), decide (i < (n : Int)) = true, n = n, m = m, IntKind.i64.wrap (i + 1) = i']) := by kernel_rfl
theorem eq_2 (a b : List (Int × Int)) (n m : Nat) (i i' : Int) : toC 100 Tryz.f21.ntmps (cutT 100 (eqT a b)) [] (eqGs n m i') [] 100 [] [] (eqM a b (.go eqLp) [] ((stOf (eqGs n m i) [] 100 [] []).hint [false])) =
  some (.at (.exit 0), [], [decide (i < (n : Int)) = false, n = n, m = m, i = i']) := by kernel_rfl
theorem eq_3 (a b : List (Int × Int)) (n m : Nat) (i : Int) : endC ΓEv (eqT a b) 100 100 Tryz.f21 [] (eqM a b (.at (.exit 0)) eqK ((stOf (eqGs n m i) [] 100 [] []).hint [])) = some { val := .bool true true } := by kernel_rfl
theorem eq_call {a : List (Int × Int)} (hd : a.length ≤ 1000000000000) (Γ : Env) (hg : Γ.glob = globs) :
  CallOK Tryz.prog Γ 21 (eqVs a.length a.length) (eqT a a) 100 100 { val := .bool true true } := by
 refine CallOK.words (Γ := ΓEv) ?_ (by rw [hg]; rfl) (fun _ => rfl) (fun _ _ h => h) (fun _ => rfl) rfl rfl
 refine call_G ΓEv_ty ΓEv_ok Tryz.func21 (by kernel_rfl) rfl (Nat.le_of_ble_eq_true (by kernel_rfl)) rfl [] ?_
 intro w0 M V0 Q hb H
 have hty := ΓEv_ty
 have hsum := ΓEv_ok
 refine G.toC hty hsum mix hb [false] (eq_0 a a a.length a.length 0) (of_allP ⟨by simp, rfl, rfl, rfl, trivial⟩) ?_
 refine G.loop (fun r s => ∃ i : Nat, i ≤ a.length ∧ r = a.length - i ∧ s = stOf (eqGs a.length a.length i) [] 100 [] []) (r0 := a.length) ⟨0, Nat.zero_le _, rfl, rfl⟩ ?_
 rintro r s ⟨i, hi, rfl, rfl⟩
 by_cases hlt : i < a.length
 ·refine G.roundC hty hsum mix hb [true, false] (eq_1 a a a.length a.length i ((i + 1 : Nat))) ?_ (a.length - (i + 1)) (by omega) ⟨i + 1, hlt, rfl, rfl⟩
  have e : 2 * (i : Int).toNat / 2 = i := by omega
  refine of_allP ⟨by simp, ⟨by omega, by omega⟩, by omega, ⟨by omega, by omega⟩, by omega, decide_eq_true (by omega), rfl, rfl, ?_, trivial⟩
  rw [IntWalk.i64_in _ (by omega)]; omega
 ·have e : i = a.length := by omega
  subst e
  refine G.toC hty hsum mix hb [false] (eq_2 a a a.length a.length _ _) (of_allP ⟨decide_eq_false (by omega), rfl, rfl, rfl, trivial⟩) (G.leave (by simp) ?_)
  exact G.finC (cl := []) hty hsum mix [] H (eq_3 a a a.length a.length _) mem0 rfl rfl rfl
def eqDec (vs : List SV) (T : Tab) : Option Canon := match vs with
 | [p, q] => match seqRp T p, seqRp T q with
   | some a, some b => some { vs0 := eqVs b.length b.length, T0 := [(61, .rop b), (62, .rop b)], vl := [(61, .arg 0), (62, .arg 1)], e0 := { val := .bool true true }, conds := [a = b, b.length ≤ 1000000000000] }
   | _, _ => none
 | _ => none
theorem eqd_ok (Γ : Env) (hg : Γ.glob = globs) : SumOK Tryz.prog Γ 21 (canonS globs 100 eqDec) := by
 refine canonS_ok hg fun vs T c hd hc => ?_
 unfold eqDec at hd
 split at hd
 case h_2 => cases hd
 split at hd
 case h_2 => cases hd
 cases hd
 exact eq_call (hc _ (by simp)) Γ hg
def nwE : Eff := { val := .ptr 100 true 0, new := [.own [.int true .i64 0, .buf 101] 87, .rowp [] 89] }
theorem nw_0 : endC ΓEv (fun l => look l []) 100 100 Tryz.f20 [.nilpx 0 1 89] (mrun ΓEv (cutT 100 (fun l => look l [])) 100 Tryz.f20.ntmps [] 400 2000 (.go (codeOf Tryz.f20)) [] ((st0 [] 100).hint [])) = some nwE := by kernel_rfl
theorem nw_call (Γ : Env) (hg : Γ.glob = globs) : CallOK Tryz.prog Γ 20 [] (fun l => look l []) 100 100 nwE := by
 refine CallOK.words (Γ := ΓEv) ?_ (by rw [hg]; rfl) (fun _ => rfl) (fun _ _ h => h) (fun _ => rfl) rfl rfl
 refine call_G ΓEv_ty ΓEv_ok Tryz.func20 (by kernel_rfl) rfl (Nat.le_of_ble_eq_true (by kernel_rfl)) rfl [] ?_
 intro w0 M V0 Q hb H
 exact G.finC (cl := [.nilpx 0 1 89]) ΓEv_ty ΓEv_ok mix [] H nw_0 mem0 rfl rfl rfl
def nwDec (vs : List SV) (_ : Tab) : Option Canon := match vs with
 | [] => some { vs0 := [], T0 := [], vl := [], e0 := nwE }
 | _ => none
theorem nw_ok (Γ : Env) (hg : Γ.glob = globs) : SumOK Tryz.prog Γ 20 (canonS globs 100 nwDec) := by
 refine canonS_ok hg fun vs T c hd hc => ?_
 unfold nwDec at hd
 split at hd
 case h_2 => cases hd
 cases hd
 exact nw_call Γ hg
def evS : Sum := fun vs T lab _ => match vs with
 | [.ptr L true 0] => match T L with
   | some (.own [.int _ .i64 n, .buf l2] _) => match T l2 with
     | some (.rowp evs _) => some { obl := [n = evs.length, evs.length ≤ 1000000000000], val := .ros lab evs.length, new := [.rop evs] }
     | _ => none
   | _ => none
 | _ => none
theorem evS_ok (Γ : Env) : SumOK Tryz.prog Γ 22 evS := by
 intro vs T lab F e he ho w0 M V T2 w xs hsub hT hg hf hF hx o a K Q hK
 unfold evS at he
 split at he
 case h_2 => cases he
 rename_i L
 split at he
 case h_2 => cases he
 rename_i s n l2 ty h57
 split at he
 case h_2 => cases he
 rename_i evs ty2 h58
 cases he
 obtain rfl : n = evs.length := ho _ (by simp)
 have hl : evs.length ≤ 1000000000000 := ho _ (by simp)
 replace h57 := hsub L _ h57
 replace h58 := hsub l2 _ h58
 simp only [denL, den, Option.map_some, Option.some.injEq, Option.map_eq_some_iff, Option.bind_eq_some_iff] at hx
 obtain ⟨x, ⟨p, hβ, rfl⟩, ys, rfl, rfl⟩ := hx
 obtain ⟨b, o'⟩ := p
 obtain ⟨us, hu, b', hb', hh⟩ := hT.ok L _ h57
 rw [hβ] at hb'
 cases hb'
 obtain ⟨ps, hps, u, hσ, hrow⟩ := hT.ok l2 _ h58
 cases hps
 have hu : denL V [.int s .i64 evs.length, .buf l2] = some us := hu
 simp only [denL, den, hσ, Option.bind_some, Option.map_some, Option.some.injEq] at hu
 subst hu
 have hR0 : w.cell? ⟨b, 0, none⟩ = some (.int .i64 evs.length) := by simp [World.cell?, hh]
 have hR1 : w.cell? ⟨b, 1, none⟩ = some u := by simp [World.cell?, hh]
 have hE : EvAt w.heap.size w u evs := row_evAt hrow
 have hlt : b < w.heap.size := (Array.getElem?_eq_some_iff.1 hh).1
 have hC := callsIn_wide.1 (events_in Fence.wide 10 trivial trivial trivial trivial trivial trivial rfl (by omega) b (evs.length : Int) u evs (by omega) (by omega) (by omega) hl w hlt hR0 hR1 hE)
 rw [callFunc_enter Tryz.func22 rfl rfl, Oper.upon_enter]
 refine hC.mono ?_
 rintro e w' ⟨v, rfl, hrow', hB⟩
 obtain ⟨k1, k2, k3⟩ := row_RpOK hrow'
 have hext := Val.putσ_ext hf lab (Nat.le_refl _) (by omega) v
 have hs : (V.putσ lab v).σ lab = some v := by simp [Val.putσ]
 refine hK (V.putσ lab v) v w' hext (by simp only [den, hs, Option.bind_some, k2]) ?_
 refine hT.step (N := fun m => if m = lab then some (.rop evs) else none) hext.1 (fun m C hm => ?_) (fun m C hm => ?_) (fun m C q hm hq => ?_) (fun m C m' C' q hne hm hm' ho2 _ => ?_) hB.size (fun n hn _ => hB.block n hn) hB.os hB.tape hB.output (fun m C hm => ?_)
 ·unfold upd Eff.tab at hm
  simp only [newL, List.nil_append] at hm
  by_cases e : m = lab
  ·subst e
   left
   rw [look_cons_eq] at hm
   rw [if_pos rfl]; exact hm
  ·right
   rw [look_cons_ne (fun q => e q.symm)] at hm
   exact ⟨if_neg e, hm⟩
 ·split at hm
  ·rename_i e; subst e; cases hm; exact ⟨_, rfl, v, hs, k1⟩
  ·cases hm
 ·split at hm
  ·rename_i e; subst e; cases hm
   simp only [SB.blk, hs, Option.bind_some] at hq
   exact .inl (k3 q hq)
  ·cases hm
 ·split at hm
  ·cases hm; cases ho2
  ·cases hm
 ·split at hm
  ·cases hm; trivial
  ·cases hm
end Go.Proofs.YtdhombdiakjdhaaGreatDoor.Sx
end
section
open Go
set_option maxRecDepth 100000
namespace Go.Proofs.YtdhombdiakjdhaaGreatDoor.Sx
noncomputable def ΓRo : Env := env exA 3
theorem ΓRo_ty : TyOK Tryz.prog ΓRo := env_ty _ 3
theorem ΓRo_ok : SumsOK Tryz.prog ΓRo := exA_sums 3
def ryVs (n : Nat) : List SV := [.ros 61 n]
def ryT (d : List Int) : Tab := fun l => look l [(61, .rov .u8 d)]
noncomputable def ryM (d : List Int) (cf : Cf) (K : List Fr) (s : St) : Option Cfg := mrun ΓRo (cutT 100 (ryT d)) 100 Tryz.f19.ntmps [3] 400 2000 cf K s
def ryGs (n m : Nat) (i : Int) : List (Nat × SV) := [(0, .ros 61 n), (3, .slc 100 false 0 m m), (4, .int false .i64 i)]
def ryTb (w : List Int) : List (Nat × SB) := [(100, .ints .u8 w 5)]
noncomputable def ryR : Option Cfg := ryM [] (.go (codeOf Tryz.f19)) [] ((st0 (ryVs 0) 100).hint [])
noncomputable def ryLp : Code := cfgC ryR
noncomputable def ryK : List Fr := cfgF ryR
def m70 (n : Nat) : Int := IntKind.i64.wrap ((n : Int) + 70)
theorem ry_0 (d w : List Int) (n m : Nat) (i : Int) : toC 100 Tryz.f19.ntmps (cutT 100 (ryT d)) [] (ryGs n m i) (ryTb w) 101 [] [] (ryM d (.go (codeOf Tryz.f19)) [] ((st0 (ryVs n) 100).hint [])) =
  some (.go (.loop ryLp), ryK, [0 ≤ m70 n ∧ m70 n ≤ m70 n ∧ 1 * m70 n ≤ 281474976710656 ∧ m70 n < 9223372036854775808, n = n, 0 = 0, (m70 n).toNat = m, (m70 n).toNat = m, 0 = i, List.replicate (m70 n).toNat (0 : Int) = w ∧ 5 = 5]) := by kernel_rfl
theorem ry_1 (d w w' : List Int) (n m : Nat) (i i' : Int) : toC 100 Tryz.f19.ntmps (cutT 100 (ryT d)) [] (ryGs n m i') (ryTb w') 101 [] [] (ryM d (.go ryLp) [] ((stOf (ryGs n m i) (ryTb w) 101 [] []).hint [true, true])) =
  some (.at .normal, [], [0 + i.toNat * 1 < (w.set (0 + i.toNat * 1) 171).length, 0 ≤ i ∧ i < (m : Int), i.toNat < d.length, 0 ≤ i ∧ i < (n : Int), decide (i < (n : Int)) = true, 0 + i.toNat * 1 < w.length, 0 ≤ i ∧ i < (m : Int), decide (i < (m : Int)) = true, n = n, 0 = 0, m = m, m = m,
   IntKind.i64.wrap (i + 1) = i', (w.set (0 + i.toNat * 1) 171).set (0 + i.toNat * 1) (d.getD i.toNat 0) = w' ∧ 5 = 5]) := by kernel_rfl
theorem ry_2 (d w w' : List Int) (n m : Nat) (i i' : Int) : toC 100 Tryz.f19.ntmps (cutT 100 (ryT d)) [] (ryGs n m i') (ryTb w') 101 [] [] (ryM d (.go ryLp) [] ((stOf (ryGs n m i) (ryTb w) 101 [] []).hint [true, false])) =
  some (.at .normal, [], [decide (i < (n : Int)) = false, 0 + i.toNat * 1 < w.length, 0 ≤ i ∧ i < (m : Int), decide (i < (m : Int)) = true, n = n, 0 = 0, m = m, m = m, IntKind.i64.wrap (i + 1) = i', w.set (0 + i.toNat * 1) 171 = w' ∧ 5 = 5]) := by kernel_rfl
theorem ry_3 (d w w' : List Int) (n m : Nat) (i i' : Int) : toC 100 Tryz.f19.ntmps (cutT 100 (ryT d)) [] (ryGs n m i') (ryTb w') 101 [] [] (ryM d (.go ryLp) [] ((stOf (ryGs n m i) (ryTb w) 101 [] []).hint [false])) =
  some (.at (.exit 0), [], [decide (i < (m : Int)) = false, n = n, 0 = 0, m = m, m = m, i = i', w = w' ∧ 5 = 5]) := by kernel_rfl
theorem ry_4 (d w : List Int) (n m : Nat) (i : Int) : endC ΓRo (ryT d) 100 100 Tryz.f19 [] (ryM d (.at (.exit 0)) ryK ((stOf (ryGs n m i) (ryTb w) 101 [] []).hint [])) =
  some { val := .slc 100 false 0 m m, new := [.ints .u8 w 5] } := by kernel_rfl
def roomW (d : List Int) : List Int := d ++ List.replicate 70 171
theorem roomW_len (d : List Int) : (roomW d).length = d.length + 70 := by simp [roomW]
def ryW (d : List Int) (i : Nat) : List Int := (roomW d).take i ++ List.replicate (d.length + 70 - i) 0
theorem ryW_set (d : List Int) {i : Nat} {v : Int} (h : i < d.length + 70) (hv : (roomW d)[i]? = some v) : (ryW d i).set i v = ryW d (i + 1) := by
 have hl := roomW_len d
 have ht : ((roomW d).take i).length = i := by rw [List.length_take]; omega
 unfold ryW
 rw [List.set_append_right _ _ (by omega), ht, Nat.sub_self]
 obtain ⟨k, hk⟩ : ∃ k, d.length + 70 - i = k + 1 := ⟨d.length + 70 - i - 1, by omega⟩
 rw [hk, List.replicate_succ, List.set_cons_zero, show d.length + 70 - (i + 1) = k by omega, List.take_add_one, hv]
 simp
theorem ryW_len (d : List Int) {i : Nat} (h : i ≤ d.length + 70) : (ryW d i).length = d.length + 70 := by
 have hl := roomW_len d
 unfold ryW
 rw [List.length_append, List.length_take, List.length_replicate]; omega
theorem ry_call {d : List Int} (hd : d.length ≤ 1000000000) (Γ : Env) (hg : Γ.glob = globs) :
  CallOK Tryz.prog Γ 19 (ryVs d.length) (ryT d) 100 100 { val := .slc 100 false 0 (d.length + 70) (d.length + 70), new := [.ints .u8 (roomW d) 5] } := by
 refine CallOK.words (Γ := ΓRo) ?_ (by rw [hg]; rfl) (fun _ => rfl) (fun _ _ h => h) (fun _ => rfl) rfl rfl
 refine call_G ΓRo_ty ΓRo_ok Tryz.func19 (by kernel_rfl) rfl (Nat.le_of_ble_eq_true (by kernel_rfl)) rfl [] ?_
 intro w0 M V0 Q hb H
 have hty := ΓRo_ty
 have hsum := ΓRo_ok
 have hm : m70 d.length = ((d.length + 70 : Nat) : Int) := by unfold m70; rw [IntWalk.i64_in _ (by omega)]; omega
 refine G.toC hty hsum mix hb [] (ry_0 d (ryW d 0) d.length (d.length + 70) 0) ?_ ?_
 ·rw [hm]
  exact of_allP ⟨⟨by omega, by omega, by omega, by omega⟩, rfl, rfl, by omega, by omega, rfl, ⟨by unfold ryW; rw [List.take_zero, List.nil_append, Int.toNat_natCast, Nat.sub_zero], rfl⟩, trivial⟩
 refine G.loop (fun r s => ∃ i : Nat, i ≤ d.length + 70 ∧ r = d.length + 70 - i ∧ s = stOf (ryGs d.length (d.length + 70) i) (ryTb (ryW d i)) 101 [] []) (r0 := d.length + 70) ⟨0, Nat.zero_le _, rfl, rfl⟩ ?_
 rintro r s ⟨i, hi, rfl, rfl⟩
 have hwl := ryW_len d hi
 have e1 : 0 + (i : Int).toNat * 1 = i := by omega
 by_cases hlt : i < d.length + 70
 ·by_cases hd2 : i < d.length
  ·have hv : (roomW d)[i]? = some (d.getD i 0) := by unfold roomW; rw [List.getElem?_append_left hd2]; simp [List.getD_eq_getElem?_getD, hd2]
   refine G.roundC hty hsum mix hb [true, true] (ry_1 d (ryW d i) (ryW d (i + 1)) d.length (d.length + 70) i ((i + 1 : Nat))) ?_ (d.length + 70 - (i + 1)) (by omega) ⟨i + 1, hlt, rfl, rfl⟩
   rw [e1, Int.toNat_natCast]
   refine of_allP ⟨by rw [List.length_set]; omega, by omega, hd2, by omega, decide_eq_true (by omega), by omega, by omega, decide_eq_true (by omega), rfl, rfl, rfl, rfl, ?_, ⟨?_, rfl⟩, trivial⟩
   ·rw [IntWalk.i64_in _ (by omega)]; omega
   ·rw [List.set_set]; exact ryW_set d hlt hv
  ·have hv : (roomW d)[i]? = some 171 := by unfold roomW; rw [List.getElem?_append_right (by omega), List.getElem?_replicate, if_pos (by omega)]
   refine G.roundC hty hsum mix hb [true, false] (ry_2 d (ryW d i) (ryW d (i + 1)) d.length (d.length + 70) i ((i + 1 : Nat))) ?_ (d.length + 70 - (i + 1)) (by omega) ⟨i + 1, hlt, rfl, rfl⟩
   rw [e1]
   refine of_allP ⟨decide_eq_false (by omega), by omega, by omega, decide_eq_true (by omega), rfl, rfl, rfl, rfl, ?_, ⟨ryW_set d hlt hv, rfl⟩, trivial⟩
   rw [IntWalk.i64_in _ (by omega)]; omega
 ·have e : i = d.length + 70 := by omega
  subst e
  have hW : ryW d (d.length + 70) = roomW d := by unfold ryW; rw [Nat.sub_self, List.replicate_zero, List.append_nil]; exact List.take_of_length_le (by rw [roomW_len]; omega)
  rw [hW]
  refine G.toC hty hsum mix hb [false] (ry_3 d (roomW d) (roomW d) d.length (d.length + 70) _ _) (of_allP ⟨decide_eq_false (by omega), rfl, rfl, rfl, rfl, rfl, ⟨rfl, rfl⟩, trivial⟩) (G.leave (by simp) ?_)
  exact G.finC (cl := []) hty hsum mix [] H (ry_4 d (roomW d) d.length (d.length + 70) _) mem0 rfl rfl rfl
def ryDec (vs : List SV) (T : Tab) : Option Canon := match vs with
 | [p] => match seqRo T .u8 p with
   | some (ob, d) => some { vs0 := ryVs d.length, T0 := [(61, .rov .u8 d)], vl := [(61, .arg 0)], e0 := { val := .slc 100 false 0 (d.length + 70) (d.length + 70), new := [.ints .u8 (roomW d) 5] }, conds := (d.length ≤ 1000000000) :: ob }
   | none => none
 | _ => none
theorem ryd_ok (Γ : Env) (hg : Γ.glob = globs) : SumOK Tryz.prog Γ 19 (canonS globs 100 ryDec) := by
 refine canonS_ok hg fun vs T c hd hc => ?_
 unfold ryDec at hd
 split at hd
 case h_2 => cases hd
 split at hd
 case h_2 => cases hd
 cases hd
 exact ry_call (hc _ (by simp)) Γ hg
end Go.Proofs.YtdhombdiakjdhaaGreatDoor.Sx
end
section
open Go
set_option maxRecDepth 100000
namespace Go.Proofs.YtdhombdiakjdhaaGreatDoor.Sx
def lfVs (n m : Nat) : List SV := [.ros 61 n, .ros 62 m]
def lfT (a b : List Int) : Tab := fun l => look l [(61, .rov .u8 a), (62, .rov .u8 b)]
noncomputable def lfM (a b : List Int) (cf : Cf) (K : List Fr) (s : St) : Option Cfg := mrun ΓRo (cutT 100 (lfT a b)) 100 Tryz.f24.ntmps [2] 400 2000 cf K s
def lfGs (n m : Nat) (i : Int) : List (Nat × SV) := [(0, .ros 61 n), (1, .ros 62 m), (5, .int false .i64 i)]
noncomputable def lfR : Option Cfg := lfM [] [] (.go (codeOf Tryz.f24)) [] ((st0 (lfVs 0 0) 100).hint [])
noncomputable def lfLp : Code := cfgC lfR
noncomputable def lfK : List Fr := cfgF lfR
theorem lf_0 (a b : List Int) (n m : Nat) (i : Int) : toC 100 Tryz.f24.ntmps (cutT 100 (lfT a b)) [] (lfGs n m i) [] 100 [] [] (lfM a b (.go (codeOf Tryz.f24)) [] ((st0 (lfVs n m) 100).hint [])) =
  some (.go (.loop lfLp), lfK, [n = n, m = m, 0 = i]) := by kernel_rfl
theorem lf_1 (a b : List Int) (n m : Nat) (i i' : Int) : toC 100 Tryz.f24.ntmps (cutT 100 (lfT a b)) [] (lfGs n m i') [] 100 [] [] (lfM a b (.go lfLp) [] ((stOf (lfGs n m i) [] 100 [] []).hint [true, true, false, false, false])) =
  some (.at .normal, [], [decide (i ≥ (m : Int)) = false, (a.getD i.toNat 0 != b.getD i.toNat 0) = false, i.toNat < b.length, 0 ≤ i ∧ i < (m : Int), i.toNat < a.length, 0 ≤ i ∧ i < (n : Int), decide (i < (m : Int)) = true, decide (i < (n : Int)) = true, n = n, m = m, IntKind.i64.wrap (i + 1) = i']) := by kernel_rfl
theorem lf_2 (a b : List Int) (n m : Nat) (i i' : Int) : toC 100 Tryz.f24.ntmps (cutT 100 (lfT a b)) [] (lfGs n m i') [] 100 [] [] (lfM a b (.go lfLp) [] ((stOf (lfGs n m i) [] 100 [] []).hint [true, false, true, false])) =
  some (.at .normal, [], [(a.getD i.toNat 0 != 171) = false, i.toNat < a.length, 0 ≤ i ∧ i < (n : Int), decide (i ≥ (m : Int)) = true, decide (i < (m : Int)) = false, decide (i < (n : Int)) = true, n = n, m = m, IntKind.i64.wrap (i + 1) = i']) := by kernel_rfl
theorem lf_3 (a b : List Int) (n m : Nat) (i i' : Int) : toC 100 Tryz.f24.ntmps (cutT 100 (lfT a b)) [] (lfGs n m i') [] 100 [] [] (lfM a b (.go lfLp) [] ((stOf (lfGs n m i) [] 100 [] []).hint [false])) =
  some (.at (.exit 0), [], [decide (i < (n : Int)) = false, n = n, m = m, i = i']) := by kernel_rfl
theorem lf_4 (a b : List Int) (n m : Nat) (i : Int) : endC ΓRo (lfT a b) 100 100 Tryz.f24 [] (lfM a b (.at (.exit 0)) lfK ((stOf (lfGs n m i) [] 100 [] []).hint [])) = some { val := .bool true true } := by kernel_rfl
theorem lf_call {b : List Int} (hd : b.length ≤ 1000000000) (Γ : Env) (hg : Γ.glob = globs) :
  CallOK Tryz.prog Γ 24 (lfVs (b.length + 70) b.length) (lfT (roomW b) b) 100 100 { val := .bool true true } := by
 refine CallOK.words (Γ := ΓRo) ?_ (by rw [hg]; rfl) (fun _ => rfl) (fun _ _ h => h) (fun _ => rfl) rfl rfl
 refine call_G ΓRo_ty ΓRo_ok Tryz.func24 (by kernel_rfl) rfl (Nat.le_of_ble_eq_true (by kernel_rfl)) rfl [] ?_
 intro w0 M V0 Q hb H
 have hty := ΓRo_ty
 have hsum := ΓRo_ok
 have hw := roomW_len b
 refine G.toC hty hsum mix hb [] (lf_0 (roomW b) b (b.length + 70) b.length 0) (of_allP ⟨rfl, rfl, rfl, trivial⟩) ?_
 refine G.loop (fun r s => ∃ i : Nat, i ≤ b.length + 70 ∧ r = b.length + 70 - i ∧ s = stOf (lfGs (b.length + 70) b.length i) [] 100 [] []) (r0 := b.length + 70) ⟨0, Nat.zero_le _, rfl, rfl⟩ ?_
 rintro r s ⟨i, hi, rfl, rfl⟩
 by_cases hlt : i < b.length + 70
 ·by_cases hd2 : i < b.length
  ·have hv : (roomW b).getD i 0 = b.getD i 0 := by unfold roomW; rw [List.getD_eq_getElem?_getD, List.getElem?_append_left hd2, List.getD_eq_getElem?_getD]
   refine G.roundC hty hsum mix hb [true, true, false, false, false] (lf_1 (roomW b) b (b.length + 70) b.length i ((i + 1 : Nat))) ?_ (b.length + 70 - (i + 1)) (by omega) ⟨i + 1, hlt, rfl, rfl⟩
   rw [Int.toNat_natCast, hv]
   refine of_allP ⟨decide_eq_false (by omega), by simp, hd2, by omega, by omega, by omega, decide_eq_true (by omega), decide_eq_true (by omega), rfl, rfl, ?_, trivial⟩
   rw [IntWalk.i64_in _ (by omega)]; omega
  ·have hv : (roomW b).getD i 0 = 171 := by unfold roomW; rw [List.getD_eq_getElem?_getD, List.getElem?_append_right (by omega), List.getElem?_replicate, if_pos (by omega)]; rfl
   refine G.roundC hty hsum mix hb [true, false, true, false] (lf_2 (roomW b) b (b.length + 70) b.length i ((i + 1 : Nat))) ?_ (b.length + 70 - (i + 1)) (by omega) ⟨i + 1, hlt, rfl, rfl⟩
   rw [Int.toNat_natCast, hv]
   refine of_allP ⟨rfl, by omega, by omega, decide_eq_true (by omega), decide_eq_false (by omega), decide_eq_true (by omega), rfl, rfl, ?_, trivial⟩
   rw [IntWalk.i64_in _ (by omega)]; omega
 ·have e : i = b.length + 70 := by omega
  subst e
  refine G.toC hty hsum mix hb [false] (lf_3 (roomW b) b (b.length + 70) b.length _ _) (of_allP ⟨decide_eq_false (by omega), rfl, rfl, rfl, trivial⟩) (G.leave (by simp) ?_)
  exact G.finC (cl := []) hty hsum mix [] H (lf_4 (roomW b) b (b.length + 70) b.length _) mem0 rfl rfl rfl
def lfDec (vs : List SV) (T : Tab) : Option Canon := match vs with
 | [p, q] => match seqRo T .u8 p, seqRo T .u8 q with
   | some (o1, a), some (o2, b) => some { vs0 := lfVs (b.length + 70) b.length, T0 := [(61, .rov .u8 (roomW b)), (62, .rov .u8 b)], vl := [(61, .arg 0), (62, .arg 1)], e0 := { val := .bool true true }, conds := (a = roomW b) :: (b.length ≤ 1000000000) :: (o1 ++ o2) }
   | _, _ => none
 | _ => none
theorem lfd_ok (Γ : Env) (hg : Γ.glob = globs) : SumOK Tryz.prog Γ 24 (canonS globs 100 lfDec) := by
 refine canonS_ok hg fun vs T c hd hc => ?_
 unfold lfDec at hd
 split at hd
 case h_2 => cases hd
 split at hd
 case h_2 => cases hd
 cases hd
 exact lf_call (hc _ (by simp)) Γ hg
end Go.Proofs.YtdhombdiakjdhaaGreatDoor.Sx
end
section
open Go
set_option maxRecDepth 100000
namespace Go.Proofs.YtdhombdiakjdhaaGreatDoor.Sx
def hXDec (vs : List SV) (T : Tab) : Option Canon := match vs with
 | [.agg en, p, q] => match lgEn T en, seqRo T .u8 p, lsIn T q with
   | some (Lb, L, l2, evs), some (_, k), some ds => some { vs0 := qlVs k.length ds.length, T0 := qlL k ds evs, vl := (61, .arg 1) :: (62, .lst 2) :: lgVe Lb L l2, e0 := aiE (D.hmac k ds.flatten) (evs ++ D.hmE k.length (ds.map List.length)), conds := [k.length ≤ 1000000000, ds.length ≤ 100000000, ds.flatten.length ≤ 10000000000, evs.length + 5 * ds.flatten.length + 10 * ds.length + 5 * k.length + 4000 ≤ 1000000000000] }
   | _, _, _ => hqDec vs T
 | _ => none
theorem hX_ok (Γ : Env) (hg : Γ.glob = globs) : SumOK Tryz.prog Γ 11 (canonS globs 100 hXDec) := by
 refine canonS_ok hg fun vs T c hd hc => ?_
 unfold hXDec at hd
 split at hd
 case h_2 => cases hd
 split at hd
 ·cases hd
  exact ql_call _ _ _ (hc _ (by simp)) (hc _ (by simp)) (hc _ (by simp)) (hc _ (by simp)) Γ hg
 ·simp only [hqDec] at hd
  split at hd
  case h_2 => cases hd
  cases hd
  exact hq_call _ _ _ (hc _ (by simp)) (hc _ (by simp)) (hc _ (by simp)) Γ hg
noncomputable def exJ1 : Nat → Option Sum := addS exA 7 (canonS globs 100 knDec)
noncomputable def exJ2 : Nat → Option Sum := addS exJ1 11 (canonS globs 100 hXDec)
noncomputable def exJ3 : Nat → Option Sum := addS exJ2 12 (canonS globs 100 h12Dec)
noncomputable def exJ4 : Nat → Option Sum := addS exJ3 17 (canonS globs 100 mcDec)
noncomputable def exJ5 : Nat → Option Sum := addS exJ4 18 (canonS globs 100 jnDec)
noncomputable def exJ6 : Nat → Option Sum := addS exJ5 19 (canonS globs 100 ryDec)
noncomputable def exJ7 : Nat → Option Sum := addS exJ6 20 (canonS globs 100 nwDec)
noncomputable def exJ8 : Nat → Option Sum := addS exJ7 22 evS
noncomputable def exJ9 : Nat → Option Sum := addS exJ8 23 (canonS globs 100 re2Dec)
noncomputable def exJ10 : Nat → Option Sum := addS exJ9 21 (canonS globs 100 eqDec)
noncomputable def exJ : Nat → Option Sum := addS exJ10 24 (canonS globs 100 lfDec)
theorem exJ_ok : ∀ f S, exJ f = some S → ∀ Γ : Env, Γ.glob = globs → SumOK Tryz.prog Γ f S :=
 addS_ok (addS_ok (addS_ok (addS_ok (addS_ok (addS_ok (addS_ok (addS_ok (addS_ok (addS_ok (addS_ok (fun f S h Γ _ => exA_ok f S h Γ) 7 _ kn_ok) 11 _ hX_ok) 12 _ h12_ok) 17 _ mcd_ok) 18 _ jnd_ok) 19 _ ryd_ok) 20 _ nw_ok) 22 _ fun Γ _ => evS_ok Γ) 23 _ re2d_ok) 21 _ eqd_ok) 24 _ lfd_ok
noncomputable def ΓJ : Env := env exJ 4
theorem ΓJ_ty : TyOK Tryz.prog ΓJ := env_ty _ 4
theorem ΓJ_ok : SumsOK Tryz.prog ΓJ := env_ok _ exJ_ok 4
def f5Vs (n m : Nat) : List SV := [.ros 61 n, .rsl 62 m]
def f5L (key : List Int) (ds : List (List Int)) : List (Nat × SB) := (61, .rov .u8 key) :: (62, .rol ds) :: glB
def f5T (key : List Int) (ds : List (List Int)) : Tab := fun l => look l (f5L key ds)
end Go.Proofs.YtdhombdiakjdhaaGreatDoor.Sx
end
section
open Go
set_option maxRecDepth 100000
namespace Go.Proofs.YtdhombdiakjdhaaGreatDoor.Sx
noncomputable def f5M (n : Nat) (key : List Int) (ds : List (List Int)) (cf : Cf) (K : List Fr) (s : St) : Option Cfg := mrun ΓJ (cutT 100 (f5T key ds)) 100 Tryz.f5.ntmps [9, 21] 400 n cf K s
def f5G (key : List Int) (n m : Nat) : List (Nat × SV) := [(0, .ros 61 n), (1, .rsl 62 m), (6, .buf 100), (7, .ptr 101 true 0), (8, .slc 102 false 0 (key.length + 70) (key.length + 70))]
def f5B (key : List Int) (ds : List (List Int)) : List (Nat × SB) := [(100, .rowi .i64 (lensI ds) 3), (101, .ints .u8 (D.hmac key ds.flatten) 24), (102, .ints .u8 (roomW key) 5)]
def f5Gs (key : List Int) (n m p q : Nat) (i : Int) : List (Nat × SV) := f5G key n m ++ [(9, .rsl 103 p), (10, .slc 104 false 0 q q), (11, .int false .i64 i)]
def f5Tb (key : List Int) (ds rs : List (List Int)) (vs : List Value) : List (Nat × SB) := f5B key ds ++ [(103, .rowl rs 22), (104, .vals vs 22)]
noncomputable def f5R : Option Cfg := f5M 3000 [] [] (.go (codeOf Tryz.f5)) [] ((st0 (f5Vs 0 0) 100).hint [false])
noncomputable def f5Lp : Code := cfgC f5R
noncomputable def f5K : List Fr := cfgF f5R
theorem f5_0 (key : List Int) (ds : List (List Int)) (n m : Nat) : interp ΓJ Tryz.f5 true [true] 3000 (f5Vs n m) (f5T key ds) 100 100 =
  some { obl := [muchB key.length ds = true, n = n, key.length = key.length, m = ds.length, key = key, ds = ds], val := .bool true true } := by kernel_rfl
def m2 (m : Nat) : Int := IntKind.i64.wrap ((m : Int) + 2)
theorem f5_1 (key : List Int) (ds : List (List Int)) (n m q : Nat) (vs : List Value) : toC 100 Tryz.f5.ntmps (cutT 100 (f5T key ds)) [.nill 9 22] (f5Gs key n m 0 q 0) (f5Tb key ds [] vs) 105 [] [] (f5M 3000 key ds (.go (codeOf Tryz.f5)) [] ((st0 (f5Vs n m) 100).hint [false])) =
  some (.go (.loop f5Lp), f5K, [0 ≤ m2 m ∧ m2 m ≤ m2 m ∧ 24 * m2 m ≤ 281474976710656 ∧ m2 m < 9223372036854775808, key.length ≤ 1000000000, n = n, key.length = key.length, key = key, (D.hmac key ds.flatten).length = 32, Bts key, Bts ds.flatten, key.length ≤ 100000000,
   ds.flatten.length ≤ 100000000, n = n, key.length = key.length, ds.flatten.length = ds.flatten.length, key = key, ds.flatten = ds.flatten, ds.flatten.length ≤ 100000000000, ds.length ≤ 1000000000, m = ds.length, ds = ds, muchB key.length ds = false, n = n, key.length = key.length, m = ds.length,
   key = key, ds = ds, n = n, m = m, 0 = 0, key.length + 70 = key.length + 70, key.length + 70 = key.length + 70, 0 = 0, 0 = 0, (m2 m).toNat = q, (m2 m).toNat = q, (0 : Int) = 0, lensI ds = lensI ds, D.hmac key ds.flatten = D.hmac key ds.flatten ∧ 24 = 24, roomW key = roomW key ∧ 5 = 5, ([] : List (List Int)) = [],
   List.replicate (m2 m).toNat (Value.slice none 0 0) = vs]) := by kernel_rfl
end Go.Proofs.YtdhombdiakjdhaaGreatDoor.Sx
end
section
open Go
set_option maxRecDepth 100000
namespace Go.Proofs.YtdhombdiakjdhaaGreatDoor.Sx
noncomputable def f5Ka : List Fr := cfgF (f5M 11 [] [[]] (.go f5Lp) [] ((stOf (f5Gs [] 0 1 0 3 0) (f5Tb [] [[]] [] []) 105 [] []).hint [true]))
def f5Ga (key : List Int) (n m p q : Nat) (i : Int) (r : Nat) : List (Nat × SV) := f5Gs key n m p q i ++ [(12, .ros 105 r)]
def f5Ba (key : List Int) (ds rs : List (List Int)) (vs : List Value) (d : List Int) : List (Nat × SB) := f5Tb key ds rs vs ++ [(105, .rof d)]
noncomputable def f5Kb : List Fr := cfgF (f5M 3 [] [[]] (.at .normal) f5Ka (stOf (f5Ga [] 0 1 0 3 0 70) (f5Ba [] [[]] [] [] []) 106 [] []))
def f5Gb (key : List Int) (n m p q : Nat) (i : Int) (u : Value) : List (Nat × SV) := f5Gs key n m p q i ++ [(12, .raw u)]
def f5O (key : List Int) (n m p q : Nat) (r : List Prop) : List Prop := (n = n) :: (m = m) :: (0 = 0) :: (key.length + 70 = key.length + 70) :: (key.length + 70 = key.length + 70) :: (p = p) :: (0 = 0) :: (q = q) :: (q = q) :: r
def f5P (key : List Int) (ds : List (List Int)) (r : List Prop) : List Prop := (lensI ds = lensI ds) :: (D.hmac key ds.flatten = D.hmac key ds.flatten ∧ 24 = 24) :: (roomW key = roomW key ∧ 5 = 5) :: r
theorem f5O_ok {key : List Int} {n m p q : Nat} {r : List Prop} (h : ∀ x ∈ r, x) : ∀ x ∈ f5O key n m p q r, x := mem1 rfl (mem1 rfl (mem1 rfl (mem1 rfl (mem1 rfl (mem1 rfl (mem1 rfl (mem1 rfl (mem1 rfl h))))))))
theorem f5P_ok {key : List Int} {ds : List (List Int)} {r : List Prop} (h : ∀ x ∈ r, x) : ∀ x ∈ f5P key ds r, x := mem1 rfl (mem1 ⟨rfl, rfl⟩ (mem1 ⟨rfl, rfl⟩ h))
def dA (ds : List (List Int)) (i : Int) : List Int := ds.getD i.toNat []
theorem f5_2 (key : List Int) (ds : List (List Int)) (n m p q : Nat) (i : Int) (rs : List (List Int)) (vs : List Value) : toE 100 Tryz.f5.ntmps (cutT 100 (f5T key ds)) 12 (frzE (cutT 100 (f5T key ds)) 12) (f5Ga key n m p q i ((dA ds i).length + 70)) (f5Ba key ds rs vs (roomW (dA ds i))) 106 [] (f5M 11 key ds (.go f5Lp) [] ((stOf (f5Gs key n m p q i) (f5Tb key ds rs vs) 105 [] []).hint [true])) =
  some (.at .normal, f5Ka, [(dA ds i).length + 70 = (dA ds i).length + 70, (dA ds i).length + 70 = (roomW (dA ds i)).length, (dA ds i).length ≤ 1000000000, i.toNat = i.toNat ∧ (dA ds i).length = (dA ds i).length, (dA ds i).length = (dA ds i).length, dA ds i = dA ds i, i.toNat < ds.length, 0 ≤ i ∧ i < (m : Int), decide (i < (m : Int)) = true] ++
   f5O key n m p q ((i = i) :: ((dA ds i).length + 70 = (dA ds i).length + 70) :: f5P key ds [rs = rs, vs = vs, roomW (dA ds i) = roomW (dA ds i)])) := by kernel_rfl
theorem f5_3 (key : List Int) (ds : List (List Int)) (n m p q : Nat) (i : Int) (rs rs' : List (List Int)) (vs : List Value) (r : Nat) (d : List Int) : toC 100 Tryz.f5.ntmps (cutT 100 (f5T key ds)) [] (f5Ga key n m (p + 1) q i r) (f5Ba key ds rs' vs d) 106 [] [] (f5M 3 key ds (.at .normal) f5Ka ((stOf (f5Ga key n m p q i r) (f5Ba key ds rs vs d) 106 [] []).hint [])) =
  some (.at .normal, f5Kb, ((p + 1) * 24 ≤ 140737488355328 ∧ p + 1 ≤ 9223372036854775807) :: f5O key n m (p + 1) q ((i = i) :: (r = r) :: f5P key ds [rs ++ [d] = rs', vs = vs, d = d])) := by kernel_rfl
theorem f5_4 (key : List Int) (ds : List (List Int)) (n m p q : Nat) (i : Int) (rs : List (List Int)) (vs : List Value) (d : List Int) (r b o c : Nat) : toE 100 Tryz.f5.ntmps (cutT 100 (f5T key ds)) 12 (rawE (cutT 100 (f5T key ds)) 12 (.slice (some ⟨b, o, none⟩) r c) d) (f5Gb key n m p q i (.slice (some ⟨b, o, none⟩) r c)) (f5Tb key ds rs vs) 105 [] (f5M 0 key ds (.at .normal) f5Kb ((stOf (f5Ga key n m p q i r) (f5Ba key ds rs vs d) 106 [] []).hint [])) =
  some (.at .normal, f5Kb, (d = d) :: f5O key n m p q ((i = i) :: (Value.slice (some ⟨b, o, none⟩) r c = Value.slice (some ⟨b, o, none⟩) r c) :: f5P key ds [rs = rs, vs = vs])) := by kernel_rfl
theorem f5_5 (key : List Int) (ds : List (List Int)) (n m p q : Nat) (i i' : Int) (rs : List (List Int)) (vs vs' : List Value) (r b o c : Nat) : toC 100 Tryz.f5.ntmps (cutT 100 (f5T key ds)) [] (f5Gs key n m p q i') (f5Tb key ds rs vs') 105 [] [] (f5M 3000 key ds (.at .normal) f5Kb ((stOf (f5Gb key n m p q i (.slice (some ⟨b, o, none⟩) r c)) (f5Tb key ds rs vs) 105 [] []).hint [])) =
  some (.at .normal, [], [0 + i.toNat * 1 < vs.length, 0 ≤ i ∧ i < (q : Int), 0 ≤ ((dA ds i).length : Int) ∧ ((dA ds i).length : Int) ≤ c, i.toNat < ds.length, 0 ≤ i ∧ i < (m : Int)] ++
   f5O key n m p q ((IntKind.i64.wrap (i + 1) = i') :: f5P key ds [rs = rs, vs.set (0 + i.toNat * 1) (.slice (some ⟨b, o, none⟩) ((dA ds i).length : Int).toNat c) = vs'])) := by kernel_rfl
theorem f5_6 (key : List Int) (ds : List (List Int)) (n m p q : Nat) (i : Int) (rs : List (List Int)) (vs : List Value) : toC 100 Tryz.f5.ntmps (cutT 100 (f5T key ds)) [] (f5Gs key n m p q i) (f5Tb key ds rs vs) 105 [] [] (f5M 3000 key ds (.go f5Lp) [] ((stOf (f5Gs key n m p q i) (f5Tb key ds rs vs) 105 [] []).hint [false])) =
  some (.at (.exit 0), [], (decide (i < (m : Int)) = false) :: f5O key n m p q ((i = i) :: f5P key ds [rs = rs, vs = vs])) := by kernel_rfl
end Go.Proofs.YtdhombdiakjdhaaGreatDoor.Sx
end
section
open Go Go.RowKit
set_option maxRecDepth 100000
namespace Go.Proofs.YtdhombdiakjdhaaGreatDoor.Sx
structure VsOK (w : World) (M : Nat → Prop) (ds : List (List Int)) (i : Nat) (vs : List Value) : Prop where
 len : vs.length = ds.length + 2
 front : ∀ (j : Nat) (v : Value) (d : List Int), j < i → vs[j]? = some v → ds[j]? = some d → FrozenRd w M v d
 back : ∀ (j : Nat) (v : Value), i ≤ j → vs[j]? = some v → v = .slice none 0 0
theorem VsOK.grow {B : Tab} {V0 : Val} {w0 w1 : World} {M M1 : Nat → Prop} {ds : List (List Int)} {i : Nat} {vs : List Value} (h : VsOK w0 M ds i vs) (hg : Grows B V0 w0 M w1 M1) : VsOK w1 M1 ds i vs :=
 ⟨h.len, fun j v d hj hv hd => (h.front j v d hj hv hd).keep hg.frame hg.sub, h.back⟩
theorem VsOK.start (w : World) (M : Nat → Prop) (ds : List (List Int)) : VsOK w M ds 0 (List.replicate (ds.length + 2) (.slice none 0 0)) :=
 ⟨by simp, fun j v d hj => by omega, fun j v _ hv => by
  rw [List.getElem?_replicate] at hv
  split at hv
  ·cases hv; rfl
  ·cases hv⟩
theorem FrozenRd.front {w : World} {M : Nat → Prop} {b o r c : Nat} {d e : List Int} (h : FrozenRd w M (.slice (some ⟨b, o, none⟩) r c) (d ++ e)) : d.length ≤ c ∧ FrozenRd w M (.slice (some ⟨b, o, none⟩) d.length c) d := by
 obtain ⟨h1, h2⟩ := h
 have hd : d.length ≤ c := by
  rcases h1 with ⟨⟨a, h3⟩, h4⟩ | ⟨b', o', c', h3, h4, h5, h6⟩
  ·have : d = [] := (List.append_eq_nil_iff.1 h4).1
   subst this; simp
  ·injection h3 with _ _ h7
   subst h7
   simp only [List.length_append] at h5; omega
 refine ⟨hd, ?_, fun n hn => h2 n ?_⟩
 ·rcases h1 with ⟨⟨a, h3⟩, h4⟩ | ⟨b', o', c', h3, h4, h5, h6⟩
  ·have : d = [] := (List.append_eq_nil_iff.1 h4).1
   subst this
   injection h3 with e1 e2 e3
   subst e3
   exact .inl ⟨⟨_, rfl⟩, rfl⟩
  ·injection h3 with e1 e2 e3
   cases e1
   subst e3
   refine .inr ⟨b, o, c, rfl, h4, hd, fun j u hj => h6 j u ?_⟩
   rw [List.map_append, List.getElem?_append_left (List.getElem?_eq_some_iff.1 hj).1]
   exact hj
 ·cases c with
  | zero => simp [roBlk] at hn
  | succ c => simpa [roBlk, Value.ownBlock] using hn
theorem VsOK.next {w : World} {M : Nat → Prop} {ds : List (List Int)} {i : Nat} {vs : List Value} {u : Value} (h : VsOK w M ds i vs) (hi : i < ds.length) (hu : FrozenRd w M u (ds.getD i [])) : VsOK w M ds (i + 1) (vs.set i u) := by
 have hl := h.len
 refine ⟨by rw [List.length_set]; exact hl, fun j v d hj hv hd => ?_, fun j v hj hv => ?_⟩
 ·rw [List.getElem?_set] at hv
  split at hv
  ·rename_i e
   subst e
   split at hv
   ·cases hv
    rw [List.getD_eq_getElem?_getD, hd] at hu
    exact hu
   ·cases hv
  ·exact h.front j v d (by omega) hv hd
 ·rw [List.getElem?_set, if_neg (by omega)] at hv
  exact h.back j v (by omega) hv
section
variable {w0 : World} {M : Nat → Prop} {V0 : Val} {Q : Exit → Act → World → Prop} {key : List Int} {ds : List (List Int)}
noncomputable def f5S (key : List Int) (ds : List (List Int)) (i : Nat) (vs : List Value) : St := stOf (f5Gs key key.length ds.length i (ds.length + 2) i) (f5Tb key ds ((ds.take i).map roomW) vs) 105 [] []
theorem f5_loop1 (hm : ds.length ≤ 200) (hlen : ∀ d ∈ ds, d.length ≤ 20000) (hb : Base ΓJ (cutT 100 (f5T key ds)) 100 V0) (hfro : ∀ l b, cutT 100 (f5T key ds) l = some b → froB w0 M V0 l b)
  (h : ∀ w1 M1 vs, Grows (cutT 100 (f5T key ds)) V0 w0 M w1 M1 → VsOK w1 M1 ds ds.length vs → G Tryz.prog ΓJ w1 M1 (cutT 100 (f5T key ds)) Tryz.f5.ntmps 100 V0 (.at (.exit 0)) f5K (f5S key ds ds.length vs) Q) :
  G Tryz.prog ΓJ w0 M (cutT 100 (f5T key ds)) Tryz.f5.ntmps 100 V0 (.go (.loop f5Lp)) f5K (f5S key ds 0 (List.replicate (ds.length + 2) (.slice none 0 0))) Q := by
 have hty := ΓJ_ty
 have hsum := ΓJ_ok
 refine G.loopR (fun r w1 M1 s => ∃ (i : Nat) (vs : List Value), i ≤ ds.length ∧ r = ds.length - i ∧ Grows (cutT 100 (f5T key ds)) V0 w0 M w1 M1 ∧ VsOK w1 M1 ds i vs ∧ s = f5S key ds i vs) (r0 := ds.length)
  ⟨0, _, Nat.zero_le _, rfl, ⟨FrameOK.refl _ _, fun n hn => .inr hn, hfro⟩, VsOK.start _ _ _, rfl⟩ ?_
 rintro r w1 M1 s ⟨i, vs, hi, rfl, hg, hv, rfl⟩
 by_cases hlt : i < ds.length
 ·have hd2 : ds[i] = ds.getD i [] := by simp [List.getD_eq_getElem?_getD, hlt]
  have hdl : (ds.getD i []).length ≤ 20000 := hlen _ (by rw [← hd2]; exact List.getElem_mem hlt)
  have hdA : dA ds (i : Int) = ds.getD i [] := by unfold dA; rw [Int.toNat_natCast]
  have hvl := hv.len
  refine G.toE hty hsum mix hb [true] (f5_2 key ds key.length ds.length i (ds.length + 2) i ((ds.take i).map roomW) vs) ?_ (frzE_ok hb 12) fun w2 M2 hg2 => ?_
  ·rw [hdA, Int.toNat_natCast]
   exact mem1 rfl (mem1 (roomW_len _).symm (mem1 (by omega) (mem1 ⟨rfl, rfl⟩ (mem1 rfl (mem1 rfl (mem1 hlt (mem1 (by omega) (mem1 (decide_eq_true (by omega)) (f5O_ok (mem1 rfl (mem1 rfl (f5P_ok (mem1 rfl (mem1 rfl (mem1 rfl mem0)))))))))))))))
  rw [hdA]
  refine G.toC hty hsum mix hb [] (f5_3 key ds key.length ds.length i (ds.length + 2) i ((ds.take i).map roomW) ((ds.take (i + 1)).map roomW) vs ((ds.getD i []).length + 70) (roomW (ds.getD i []))) ?_ ?_
  ·refine mem1 ⟨by omega, by omega⟩ (f5O_ok (mem1 rfl (mem1 rfl (f5P_ok (mem1 ?_ (mem1 rfl (mem1 rfl mem0)))))))
   rw [List.take_add_one, List.getElem?_eq_getElem hlt, hd2, List.map_append]
   rfl
  have hne : roomW (ds.getD i []) ≠ [] := fun e => by have := roomW_len (ds.getD i []); rw [e] at this; simp at this
  refine G.toRaw hty hsum mix hb [] (t := 12) (l := 105) (m := (ds.getD i []).length + 70) (xs := roomW (ds.getD i [])) rfl rfl hne (fun b o c => f5_4 key ds key.length ds.length (i + 1) (ds.length + 2) i ((ds.take (i + 1)).map roomW) vs (roomW (ds.getD i [])) ((ds.getD i []).length + 70) b o c) rfl ?_ fun b o c _ hF => ?_
  ·intro b o c _
   exact mem1 rfl (f5O_ok (mem1 rfl (mem1 rfl (f5P_ok (mem1 rfl (mem1 rfl mem0))))))
  obtain ⟨hc, hu⟩ := FrozenRd.front hF
  refine G.toC hty hsum mix hb [] (f5_5 key ds key.length ds.length (i + 1) (ds.length + 2) i ((i + 1 : Nat)) ((ds.take (i + 1)).map roomW) vs (vs.set i (.slice (some ⟨b, o, none⟩) (ds.getD i []).length c)) ((ds.getD i []).length + 70) b o c) ?_
   (G.againR (r' := ds.length - (i + 1)) (by omega) ⟨i + 1, _, hlt, rfl, hg.trans hg2, (hv.grow hg2).next hlt hu, rfl⟩)
  rw [hdA, Int.toNat_natCast, Int.toNat_natCast, show 0 + i * 1 = i by omega]
  refine mem1 (by omega) (mem1 (by omega) (mem1 (by omega) (mem1 hlt (mem1 (by omega) (f5O_ok (mem1 ?_ (f5P_ok (mem1 rfl (mem1 rfl mem0)))))))))
  rw [IntWalk.i64_in _ (by omega)]; omega
 ·have e : i = ds.length := by omega
  subst e
  exact G.toC hty hsum mix hb [false] (f5_6 key ds key.length ds.length ds.length (ds.length + 2) ds.length ((ds.take ds.length).map roomW) vs) (mem1 (decide_eq_false (by omega)) (f5O_ok (mem1 rfl (f5P_ok (mem1 rfl (mem1 rfl mem0)))))) (G.leave (by simp) (h w1 M1 vs hg hv))
end
end Go.Proofs.YtdhombdiakjdhaaGreatDoor.Sx
end
section
open Go
set_option maxRecDepth 100000
namespace Go.Proofs.YtdhombdiakjdhaaGreatDoor.Sx
def f5H (key : List Int) (n m p q : Nat) : List (Nat × SV) := f5G key n m ++ [(9, .rsl 103 p), (10, .rsl 104 q)]
def f5C (key : List Int) (ds rs es : List (List Int)) (z : Nat) : List (Nat × SB) := f5B key ds ++ [(103, .rowl rs 22), (104, .rolz es z)]
theorem f5_7 (key : List Int) (ds : List (List Int)) (n m p q : Nat) (i : Int) (rs : List (List Int)) (vs : List Value) (es : List (List Int)) (z : Nat) : toE 100 Tryz.f5.ntmps (cutT 100 (f5T key ds)) 10 (frzZE (cutT 100 (f5T key ds)) 10 vs es z) (f5H key n m p q) (f5C key ds rs es z) 105 [] (f5M 0 key ds (.at (.exit 0)) f5K ((stOf (f5Gs key n m p q i) (f5Tb key ds rs vs) 105 [] []).hint [])) =
  some (.at (.exit 0), f5K, [q = q, q = vs.length, vs = vs, n = n, m = m, 0 = 0, key.length + 70 = key.length + 70, key.length + 70 = key.length + 70, p = p, q = q] ++ f5P key ds [rs = rs, es = es ∧ z = z]) := by kernel_rfl
noncomputable def f5R2 : Option Cfg := f5M 3000 [] [] (.at (.exit 0)) f5K ((stOf (f5H [] 0 0 0 2) (f5C [] [] [] [] 2) 105 [] []).hint [false, false, false, false, false])
noncomputable def f5Lq : Code := cfgC f5R2
noncomputable def f5Kq : List Fr := cfgF f5R2
def f5I (m p q : Nat) (i : Int) : List (Nat × SV) := [(1, .rsl 62 m), (9, .rsl 100 p), (10, .rsl 101 q), (17, .int false .i64 i)]
def f5D (rs es : List (List Int)) (z : Nat) : List (Nat × SB) := [(100, .rowl rs 22), (101, .rolz es z)]
def jkX (key : List Int) (n : Nat) : List Int := List.take ((n : Int).toNat - 0) (List.drop 0 (roomW key))
def jeX (es : List (List Int)) (z m : Nat) : List (List Int) := List.take (m : Int).toNat (es ++ List.replicate z [])
def jeN (es : List (List Int)) (z m : Nat) : List Nat := List.map List.length (jeX es z m)
def jhX (key : List Int) (es : List (List Int)) (z n m : Nat) : List (Int × Int) := [] ++ D.hmE (jkX key n).length (jeN es z m)
def jmX (key : List Int) (es : List (List Int)) (z n m : Nat) : List Int := D.hmac (jkX key n) (jeX es z m).flatten
theorem f5_8 (key : List Int) (ds : List (List Int)) (n m p q : Nat) (rs es : List (List Int)) (z : Nat) : toC 100 Tryz.f5.ntmps (cutT 100 (f5T key ds)) [] (f5I m p q 0) (f5D rs es z) 102 [] [] (f5M 3000 key ds (.at (.exit 0)) f5K ((stOf (f5H key n m p q) (f5C key ds rs es z) 105 [] []).hint [false, false, false, false, false])) =
  some (.go (.loop f5Lq), f5Kq, [List.take (key.length + (70 : Nat)) (List.drop (0 : Nat) (roomW key)) = roomW key, key.length ≤ (1000000000 : Nat), (0 : Nat) + (key.length + (70 : Nat)) ≤ (roomW key).length ∧ key.length + (70 : Nat) ≤ key.length + (70 : Nat), (0 : Nat) = (0 : Nat), key.length + (70 : Nat) = key.length + (70 : Nat), key.length + (70 : Nat) = key.length + (70 : Nat), (0 : Nat) + (key.length + (70 : Nat)) ≤ (roomW key).length ∧ key.length + (70 : Nat) ≤ key.length + (70 : Nat), key.length + (70 : Nat) = (List.take (key.length + (70 : Nat)) (List.drop (0 : Nat) (roomW key))).length, n = n, key.length = key.length, List.take (key.length + (70 : Nat)) (List.drop (0 : Nat) (roomW key)) = roomW key, (0 : Nat) + (key.length + (70 : Nat)) ≤ (roomW key).length ∧ key.length + (70 : Nat) ≤ key.length + (70 : Nat), key = key, jhX key es z n m = D.hmE (↑n : Int).toNat (natL (lensI ds)), (D.hmE (↑n : Int).toNat (natL (lensI ds))).length ≤ (1000000000000 : Nat), (jhX key es z n m).length = (jhX key es z n m).length, (D.hmE (↑n : Int).toNat (natL (lensI ds))).length = (jhX key es z n m).length, (D.hmE (↑n : Int).toNat (natL (lensI ds))).length = (D.hmE (↑n : Int).toNat (natL (lensI ds))).length, jhX key es z n m = D.hmE (↑n : Int).toNat (natL (lensI ds)), D.hmE (↑n : Int).toNat (natL (lensI ds)) = D.hmE (↑n : Int).toNat (natL (lensI ds)), (↑n : Int).toNat ≤ (1000000000 : Nat), (natL (lensI ds)).sum ≤ (10000000000 : Nat), (natL (lensI ds)).length ≤ (100000000 : Nat), (↑n : Int) = (↑(↑n : Int).toNat : Int), (natL (lensI ds)).length = (lensI ds).length, lensI ds = nzL (natL (lensI ds)), (↑(jhX key es z n m).length : Int) = (↑(jhX key es z n m).length : Int), (jhX key es z n m).length ≤ (1000000000000 : Nat), (!decide (jmX key es z n m = D.hmac key ds.flatten)) = false, (jmX key es z n m).length = (32 : Nat) ∧ (D.hmac key ds.flatten).length = (32 : Nat), (D.hmac key ds.flatten).length = (32 : Nat), (jmX key es z n m).length = (32 : Nat), (!decide (jmX key es z n m = D.hmac key ds.flatten)) = false, (jmX key es z n m).length = (32 : Nat) ∧ (D.hmac key ds.flatten).length = (32 : Nat), (D.hmac key ds.flatten).length = (32 : Nat), (jmX key es z n m).length = (32 : Nat), (!decide (jmX key es z n m = D.hmac key ds.flatten)) = false, (jmX key es z n m).length = (32 : Nat) ∧ (D.hmac key ds.flatten).length = (32 : Nat), (D.hmac key ds.flatten).length = (32 : Nat), (jmX key es z n m).length = (32 : Nat), (jmX key es z n m).length = (32 : Nat), (jkX key n).length ≤ (1000000000 : Nat), (jeX es z m).length ≤ (100000000 : Nat), (jeX es z m).flatten.length ≤ (10000000000 : Nat), (0 : Nat) = (0 : Nat), (↑n : Int).toNat - (0 : Nat) = (↑n : Int).toNat - (0 : Nat), (↑(key.length + (70 : Nat)) : Int).toNat - (0 : Nat) = (↑(key.length + (70 : Nat)) : Int).toNat - (0 : Nat), (0 : Nat) + ((↑n : Int).toNat - (0 : Nat)) ≤ (roomW key).length ∧ (↑n : Int).toNat - (0 : Nat) ≤ (↑(key.length + (70 : Nat)) : Int).toNat - (0 : Nat), (jkX key n).length = (jkX key n).length, (↑m : Int).toNat = (jeX es z m).length, List.take ((↑n : Int).toNat - (0 : Nat)) (List.drop (0 : Nat) (roomW key)) = List.take ((↑n : Int).toNat - (0 : Nat)) (List.drop (0 : Nat) (roomW key)), (0 : Nat) + ((↑n : Int).toNat - (0 : Nat)) ≤ (roomW key).length ∧ (↑n : Int).toNat - (0 : Nat) ≤ (↑(key.length + (70 : Nat)) : Int).toNat - (0 : Nat), List.take (↑m : Int).toNat (es ++ List.replicate z []) = List.take (↑m : Int).toNat (es ++ List.replicate z []), (0 : Int) ≤ (↑m : Int) ∧ (↑m : Int) ≤ (↑q : Int), (0 : Int) ≤ (↑(key.length + (70 : Nat)) : Int) ∧ (↑(key.length + (70 : Nat)) : Int) ≤ (↑(key.length + (70 : Nat)) : Int) ∧ (0 : Int) ≤ (↑n : Int) ∧ (↑n : Int) ≤ (↑(key.length + (70 : Nat)) : Int) ∧ (0 : Int) ≤ (0 : Int) ∧ (0 : Int) ≤ (↑n : Int), (jmX key es z n m).length = (32 : Nat), (jkX key n).length ≤ (1000000000 : Nat), (jeX es z m).length ≤ (100000000 : Nat), (jeX es z m).flatten.length ≤ (10000000000 : Nat), (0 : Nat) = (0 : Nat), (↑n : Int).toNat - (0 : Nat) = (↑n : Int).toNat - (0 : Nat), (↑(key.length + (70 : Nat)) : Int).toNat - (0 : Nat) = (↑(key.length + (70 : Nat)) : Int).toNat - (0 : Nat), (0 : Nat) + ((↑n : Int).toNat - (0 : Nat)) ≤ (roomW key).length ∧ (↑n : Int).toNat - (0 : Nat) ≤ (↑(key.length + (70 : Nat)) : Int).toNat - (0 : Nat), (jkX key n).length = (jkX key n).length, (↑m : Int).toNat = (jeX es z m).length, List.take ((↑n : Int).toNat - (0 : Nat)) (List.drop (0 : Nat) (roomW key)) = List.take ((↑n : Int).toNat - (0 : Nat)) (List.drop (0 : Nat) (roomW key)), (0 : Nat) + ((↑n : Int).toNat - (0 : Nat)) ≤ (roomW key).length ∧ (↑n : Int).toNat - (0 : Nat) ≤ (↑(key.length + (70 : Nat)) : Int).toNat - (0 : Nat), List.take (↑m : Int).toNat (es ++ List.replicate z []) = List.take (↑m : Int).toNat (es ++ List.replicate z []), (0 : Int) ≤ (↑m : Int) ∧ (↑m : Int) ≤ (↑q : Int), (0 : Int) ≤ (↑(key.length + (70 : Nat)) : Int) ∧ (↑(key.length + (70 : Nat)) : Int) ≤ (↑(key.length + (70 : Nat)) : Int) ∧ (0 : Int) ≤ (↑n : Int) ∧ (↑n : Int) ≤ (↑(key.length + (70 : Nat)) : Int) ∧ (0 : Int) ≤ (0 : Int) ∧ (0 : Int) ≤ (↑n : Int), (jmX key es z n m).length = (32 : Nat), (jkX key n).length ≤ (1000000000 : Nat), (jeX es z m).length ≤ (100000000 : Nat), (jeX es z m).flatten.length ≤ (10000000000 : Nat), (0 : Nat) + (5 : Nat) * (jeX es z m).flatten.length + (10 : Nat) * (jeX es z m).length + (5 : Nat) * (jkX key n).length + (4000 : Nat) ≤ (1000000000000 : Nat), (0 : Nat) = (0 : Nat), (↑n : Int).toNat - (0 : Nat) = (↑n : Int).toNat - (0 : Nat), (↑(key.length + (70 : Nat)) : Int).toNat - (0 : Nat) = (↑(key.length + (70 : Nat)) : Int).toNat - (0 : Nat), (0 : Nat) + ((↑n : Int).toNat - (0 : Nat)) ≤ (roomW key).length ∧ (↑n : Int).toNat - (0 : Nat) ≤ (↑(key.length + (70 : Nat)) : Int).toNat - (0 : Nat), (jkX key n).length = (jkX key n).length, (↑m : Int).toNat = (jeX es z m).length, List.take ((↑n : Int).toNat - (0 : Nat)) (List.drop (0 : Nat) (roomW key)) = List.take ((↑n : Int).toNat - (0 : Nat)) (List.drop (0 : Nat) (roomW key)), (0 : Nat) + ((↑n : Int).toNat - (0 : Nat)) ≤ (roomW key).length ∧ (↑n : Int).toNat - (0 : Nat) ≤ (↑(key.length + (70 : Nat)) : Int).toNat - (0 : Nat), List.take (↑m : Int).toNat (es ++ List.replicate z []) = List.take (↑m : Int).toNat (es ++ List.replicate z []), (0 : Int) = (0 : Int), ([] : List (Int × Int)) = [], (0 : Int) ≤ (↑m : Int) ∧ (↑m : Int) ≤ (↑q : Int), (0 : Int) ≤ (↑(key.length + (70 : Nat)) : Int) ∧ (↑(key.length + (70 : Nat)) : Int) ≤ (↑(key.length + (70 : Nat)) : Int) ∧ (0 : Int) ≤ (↑n : Int) ∧ (↑n : Int) ≤ (↑(key.length + (70 : Nat)) : Int) ∧ (0 : Int) ≤ (0 : Int) ∧ (0 : Int) ≤ (↑n : Int), m = m, p = p, q = q, (0 : Int) = (0 : Int), rs = rs, es = es ∧ z = z]) := by kernel_rfl
theorem f5_9 (key : List Int) (ds : List (List Int)) (m p q : Nat) (i i' : Int) (rs es : List (List Int)) (z : Nat) : toC 100 Tryz.f5.ntmps (cutT 100 (f5T key ds)) [] (f5I m p q i') (f5D rs es z) 102 [] [] (f5M 3000 key ds (.go f5Lq) [] ((stOf (f5I m p q i) (f5D rs es z) 102 [] []).hint [true, false, false, false])) =
  some (.at .normal, [], [((((es ++ List.replicate z []).getD i.toNat []).length : Int) != ((dA ds i).length : Int)) = false, i.toNat < ds.length, 0 ≤ i ∧ i < (m : Int), i.toNat < (es ++ List.replicate z []).length, 0 ≤ i ∧ i < (q : Int), dA rs i = roomW (dA ds i), (dA ds i).length ≤ 1000000000, i.toNat = i.toNat ∧ (dA rs i).length = (dA rs i).length, (dA ds i).length + 70 = (dA rs i).length,
   i.toNat = i.toNat ∧ (dA ds i).length = (dA ds i).length, (dA ds i).length = (dA ds i).length, dA rs i = roomW (dA ds i), dA ds i = dA ds i, i.toNat < ds.length, 0 ≤ i ∧ i < (m : Int), i.toNat < rs.length, 0 ≤ i ∧ i < (p : Int), decide (i < (m : Int)) = true, m = m, p = p, q = q, IntKind.i64.wrap (i + 1) = i', rs = rs, es = es ∧ z = z]) := by kernel_rfl
theorem f5_10 (key : List Int) (ds : List (List Int)) (m p q : Nat) (i : Int) (rs es : List (List Int)) (z : Nat) : toC 100 Tryz.f5.ntmps (cutT 100 (f5T key ds)) [] (f5I m p q i) (f5D rs es z) 102 [] [] (f5M 3000 key ds (.go f5Lq) [] ((stOf (f5I m p q i) (f5D rs es z) 102 [] []).hint [false])) =
  some (.at (.exit 2), [], [decide (i < (m : Int)) = false, m = m, p = p, q = q, i = i, rs = rs, es = es ∧ z = z]) := by kernel_rfl
def m1 (m : Nat) : Int := IntKind.i64.wrap ((m : Int) + 1)
theorem f5_11 (key : List Int) (ds : List (List Int)) (m p q : Nat) (i : Int) (rs es : List (List Int)) (z : Nat) : toC 100 Tryz.f5.ntmps (cutT 100 (f5T key ds)) [] [(4, .bool true true)] [] 100 [] [] (f5M 3000 key ds (.at (.exit 2)) f5Kq ((stOf (f5I m p q i) (f5D rs es z) 102 [] []).hint [])) =
  some (.at .ret, [], [es.length ≤ (m1 m).toNat, (m1 m).toNat < (es ++ List.replicate z []).length, 0 ≤ m1 m ∧ m1 m < (q : Int), es.length ≤ (m : Int).toNat, (m : Int).toNat < (es ++ List.replicate z []).length, 0 ≤ (m : Int) ∧ (m : Int) < (q : Int)]) := by kernel_rfl
theorem f5_12 (key : List Int) (ds : List (List Int)) : endC ΓJ (f5T key ds) 100 100 Tryz.f5 [] (f5M 0 key ds (.at .ret) [] ((stOf [(4, .bool true true)] [] 100 [] []).hint [])) = some { val := .bool true true } := by kernel_rfl
end Go.Proofs.YtdhombdiakjdhaaGreatDoor.Sx
end
section
open Go Go.RowKit
set_option maxRecDepth 100000
namespace Go.Proofs.YtdhombdiakjdhaaGreatDoor.Sx
theorem jkX_eq (key : List Int) : jkX key key.length = key := by unfold jkX roomW; simp
theorem jeX_eq (ds : List (List Int)) (z : Nat) : jeX ds z ds.length = ds := by unfold jeX; rw [Int.toNat_natCast, List.take_left']; rfl
theorem natL_lensI (ds : List (List Int)) : natL (lensI ds) = ds.map List.length := natL_nz _
theorem jhX_eq (key : List Int) (ds : List (List Int)) (z : Nat) : jhX key ds z key.length ds.length = D.hmE key.length (ds.map List.length) := by unfold jhX jeN; rw [jkX_eq, jeX_eq, List.nil_append]
theorem jmX_eq (key : List Int) (ds : List (List Int)) (z : Nat) : jmX key ds z key.length ds.length = D.hmac key ds.flatten := by unfold jmX; rw [jkX_eq, jeX_eq]
theorem f5_8o {key : List Int} {ds : List (List Int)} (hm : ds.length ≤ 200) (ht : key.length + ds.flatten.length ≤ 20000) {p q : Nat} {rs : List (List Int)} {cf : Cf} {K : List Fr} {ps : List Prop} {x : Option (Cf × List Fr × List Prop)} (hq : q = ds.length + 2)
  (h : x = some (cf, K, ps)) (he : toC 100 Tryz.f5.ntmps (cutT 100 (f5T key ds)) [] (f5I ds.length p q 0) (f5D rs ds 2) 102 [] [] (f5M 3000 key ds (.at (.exit 0)) f5K ((stOf (f5H key key.length ds.length p q) (f5C key ds rs ds 2) 105 [] []).hint [false, false, false, false, false])) = x) : ∀ r ∈ ps, r := by
 rw [f5_8] at he
 subst he
 cases h
 have hR : List.take (key.length + 70) (List.drop 0 (roomW key)) = roomW key := List.take_of_length_le (by rw [List.drop_zero, roomW_len]; omega)
 have hX : List.take ((key.length : Int).toNat - 0) (List.drop 0 (roomW key)) = key := jkX_eq key
 have hY : List.take (ds.length : Int).toNat (ds ++ List.replicate 2 []) = ds := jeX_eq ds 2
 have hl := roomW_len key
 have hH : (D.hmac key ds.flatten).length = 32 := D.hmac_length _ _
 have hE := hmE_len key.length (ds.map List.length)
 rw [sum_len, List.length_map] at hE
 have hz : lensI ds = nzL (ds.map List.length) := rfl
 have hzl : (lensI ds).length = ds.length := lensI_len ds
 refine of_allP ?_
 simp only [allP, jhX_eq, jmX_eq, jkX_eq, jeX_eq, hX, hY, hR, hl, hH, natL_lensI, sum_len, Int.toNat_natCast, Nat.sub_zero, decide_true, Bool.not_true, List.length_map, hzl, hq]
 repeat' (first | with_reducible exact trivial | with_reducible assumption | with_reducible apply And.intro | with_reducible rfl | omega)
theorem f5_call {key : List Int} {ds : List (List Int)} (hk : Bts key) (hd : Bts ds.flatten) (Γ : Env) (hg : Γ.glob = globs) :
  CallOK Tryz.prog Γ 5 (f5Vs key.length ds.length) (f5T key ds) 100 100 { val := .bool true true } := by
 by_cases hmu : muchB key.length ds = true
 ·have hs : SumOK Tryz.prog ΓJ 5 (interp ΓJ Tryz.f5 true [true] 3000) := interp_ok ΓJ_ty ΓJ_ok mix Tryz.func5 (by kernel_rfl) true [true] 3000
  exact (hs.call (f5_0 key ds key.length ds.length) (of_allP ⟨hmu, rfl, rfl, rfl, rfl, rfl, trivial⟩)).words (by rw [hg]; rfl) (fun _ => rfl) (fun _ _ h => h) (fun _ => rfl) rfl rfl
 have hmf : muchB key.length ds = false := by simpa using hmu
 have hno := of_decide_eq_false hmf
 have hm : ds.length ≤ 200 := by omega
 have ht : key.length + ds.flatten.length ≤ 20000 := by omega
 refine CallOK.words (Γ := ΓJ) ?_ (by rw [hg]; rfl) (fun _ => rfl) (fun _ _ h => h) (fun _ => rfl) rfl rfl
 refine call_G ΓJ_ty ΓJ_ok Tryz.func5 (by kernel_rfl) rfl (Nat.le_of_ble_eq_true (by kernel_rfl)) rfl [] ?_
 intro w0 M V0 Q hb H
 have hty := ΓJ_ty
 have hsum := ΓJ_ok
 refine G.later hb rfl fun w1 M1 hg1 => ?_
 have hH : (D.hmac key ds.flatten).length = 32 := D.hmac_length _ _
 have hm2 : m2 ds.length = ((ds.length + 2 : Nat) : Int) := by unfold m2; rw [IntWalk.i64_in _ (by omega)]; omega
 have hm1 : m1 ds.length = ((ds.length + 1 : Nat) : Int) := by unfold m1; rw [IntWalk.i64_in _ (by omega)]; omega
 have hlen : ∀ d ∈ ds, d.length ≤ 20000 := fun d hd => by have := flat_any hd; omega
 refine G.toC hty hsum mix hb [false] (f5_1 key ds key.length ds.length (ds.length + 2) (List.replicate (ds.length + 2) (.slice none 0 0))) ?_ ?_
 ·refine of_allP ?_
  simp only [allP, hm2, hH, Int.toNat_natCast]
  repeat' (first | with_reducible exact trivial | with_reducible assumption | with_reducible apply And.intro | with_reducible rfl | omega)
 refine f5_loop1 hm hlen hb (fun l b h => (hg1.fro l b h).keep hg1.frame hg1.sub) fun w2 M2 vs hg2 hv => ?_
 refine G.toE hty hsum mix hb [] (f5_7 key ds key.length ds.length ds.length (ds.length + 2) ds.length ((ds.take ds.length).map roomW) vs ds 2) (mem1 rfl (mem1 hv.len.symm (mem1 rfl (mem1 rfl (mem1 rfl (mem1 rfl (mem1 rfl (mem1 rfl (mem1 rfl (mem1 rfl (f5P_ok (mem1 rfl (mem1 ⟨rfl, rfl⟩ mem0)))))))))))))
  (frzZE_ok hb 10 hv.len (fun i v d h1 h2 => hv.front i v d (List.getElem?_eq_some_iff.1 h2).1 h1 h2) fun i v h1 h2 => hv.back i v h2 h1) fun w3 M3 hg3 => ?_
 have hgr := (hg1.trans hg2).trans hg3
 rw [List.take_length]
 refine G.toC hty hsum mix hb [false, false, false, false, false] (f5_8 key ds key.length ds.length ds.length (ds.length + 2) (ds.map roomW) ds 2) (f5_8o hm ht rfl rfl (f5_8 key ds key.length ds.length ds.length (ds.length + 2) (ds.map roomW) ds 2)) ?_
 refine G.loop (fun r s => ∃ i : Nat, i ≤ ds.length ∧ r = ds.length - i ∧ s = stOf (f5I ds.length ds.length (ds.length + 2) i) (f5D (ds.map roomW) ds 2) 102 [] []) (r0 := ds.length) ⟨0, Nat.zero_le _, rfl, rfl⟩ ?_
 rintro r s ⟨i, hi, rfl, rfl⟩
 have hel : (ds ++ List.replicate 2 []).length = ds.length + 2 := by simp
 by_cases hlt : i < ds.length
 ·have hA : dA ds (i : Int) = ds.getD i [] := by unfold dA; rw [Int.toNat_natCast]
  have hR : dA (ds.map roomW) (i : Int) = roomW (ds.getD i []) := by
   unfold dA
   rw [Int.toNat_natCast]
   simp [List.getD_eq_getElem?_getD, hlt]
  have hE : (ds ++ List.replicate 2 []).getD i [] = ds.getD i [] := by rw [List.getD_eq_getElem?_getD, List.getElem?_append_left hlt, List.getD_eq_getElem?_getD]
  have hl := hlen (ds.getD i []) (by
   have hd2 : ds[i] = ds.getD i [] := by simp [List.getD_eq_getElem?_getD, hlt]
   rw [← hd2]; exact List.getElem_mem hlt)
  refine G.roundC hty hsum mix hb [true, false, false, false] (f5_9 key ds ds.length ds.length (ds.length + 2) i ((i + 1 : Nat)) (ds.map roomW) ds 2) ?_ (ds.length - (i + 1)) (by omega) ⟨i + 1, hlt, rfl, rfl⟩
  rw [hA, hR, Int.toNat_natCast, hE, hel]
  refine of_allP ⟨by simp, hlt, by omega, by omega, by omega, rfl, by omega, ⟨rfl, rfl⟩, (roomW_len _).symm, ⟨rfl, rfl⟩, rfl, rfl, rfl, hlt, by omega, by rw [List.length_map]; exact hlt, by omega, decide_eq_true (by omega), rfl, rfl, rfl, ?_, rfl, ⟨rfl, rfl⟩, trivial⟩
  rw [IntWalk.i64_in _ (by omega)]; omega
 ·have e : i = ds.length := by omega
  subst e
  refine G.toC hty hsum mix hb [false] (f5_10 key ds ds.length ds.length (ds.length + 2) ds.length (ds.map roomW) ds 2) (of_allP ⟨decide_eq_false (by omega), rfl, rfl, rfl, rfl, rfl, ⟨rfl, rfl⟩, trivial⟩) (G.leave (by simp) ?_)
  refine G.toC hty hsum mix hb [] (f5_11 key ds ds.length ds.length (ds.length + 2) ds.length (ds.map roomW) ds 2) ?_ ?_
  ·rw [hm1, hel, Int.toNat_natCast, Int.toNat_natCast]
   exact of_allP ⟨by omega, by omega, by omega, by omega, by omega, by omega, trivial⟩
  refine G.back hgr (fun k b h => by rw [show (stOf [(4, SV.bool true true)] [] 100 [] []).tb.get k = none from Tr.get_lf k] at h; cases h) ?_
  exact G.finC (cl := []) hty hsum mix [] H (f5_12 key ds) mem0 rfl rfl rfl
end Go.Proofs.YtdhombdiakjdhaaGreatDoor.Sx
end
