/- kdf.chained, Two, Three with any engine: contracts. -/
import Derived.Test.YtdhombdiakjdhaaGreatDoorCards
import Derived.Test.YtdhombdiakjdhaaGreatDoorTie
import Derived.ProofKit
import Derived.OpenShut
import Derived.Below
import Derived.Carry
import Derived.LaidLaws
import Derived.Lay
import Derived.MakeChecks
import Derived.Deep.DeepHandedRow
import Derived.Deep.DeepWitnessRowRef
import Derived.Lib.LaidTab
import Derived.Stop.ErrReads
import Derived.Test.YtdhombdiakjdhaaGreatDoorQO
section
open Go
set_option maxRecDepth 100000
namespace Go.Proofs.YtdhombdiakjdhaaGreatDoor.Sx

noncomputable def exHq : Nat → Option Sum := addS exA 11 (canonS globs 100 hqDec)
theorem exHq_ok : ∀ f S, exHq f = some S → ∀ Γ : Env, Γ.glob = globs → SumOK Tryz.prog Γ f S := addS_ok (fun f S h Γ _ => exA_ok f S h Γ) 11 _ hqd_ok
def chL (e : Eng) (d : List Int) : List (Nat × SB) := (61, .rov .u8 d) :: engL e
def chT (e : Eng) (d : List Int) : Tab := fun l => look l (chL e d)
def chVs (e : Eng) (c : List Int) (n : Nat) : List SV := [.agg (engV e), .ai .u8 c, .ros 61 n]
def yT (c d : List Int) : List Int := D.hmac (ar 32 c) [d].flatten
def yA (c d : List Int) : List Int := D.hmac (ar 32 (yT c d)) [ar 1 [1]].flatten
def yB (c d : List Int) : List Int := D.hmac (ar 32 (yT c d)) [ar 32 (yA c d), ar 1 [2]].flatten
theorem ch_0 (e : Eng) (c d : List Int) (n : Nat) : interp (env exHq 4) Tryz.f41 true [] 1500 (chVs e c n) (chT e d) 100 100 =
    some { obl := [(yT c d).length = 32, (yA c d).length = 32, (yB c d).length = 32, (yB c d).length = 32, (yA c d).length = 32 ∧ (yA c d).length = 32, (yT c d).length = 32 ∧ (yT c d).length = 32,
      (ar 32 (yT c d)).length ≤ 1000000000, [ar 32 (yA c d), ar 1 [2]].length ≤ 100000000, [ar 32 (yA c d), ar 1 [2]].flatten.length ≤ 10000000000, 32 ≤ (yT c d).length ∧ 32 ≤ 32, (ar 32 (yT c d)).length = (ar 32 (yT c d)).length, 2 = [ar 32 (yA c d), ar 1 [2]].length ∧ 2 ≤ 2,
      ar 32 (yT c d) = ar 32 (yT c d), 32 ≤ (yT c d).length ∧ 32 ≤ 32, [ar 32 (yA c d), ar 1 [2]] = [ar 32 (yA c d), ar 1 [2]], 32 ≤ (yA c d).length ∧ 32 ≤ 32, 1 ≤ 1 ∧ 1 ≤ 1, (yA c d).length = 32, (yT c d).length = 32, (yA c d).length = 32,
      (ar 32 (yT c d)).length ≤ 1000000000, [ar 1 [1]].length ≤ 100000000, [ar 1 [1]].flatten.length ≤ 10000000000, 32 ≤ (yT c d).length ∧ 32 ≤ 32, (ar 32 (yT c d)).length = (ar 32 (yT c d)).length, 1 = [ar 1 [1]].length ∧ 1 ≤ 1,
      ar 32 (yT c d) = ar 32 (yT c d), 32 ≤ (yT c d).length ∧ 32 ≤ 32, [ar 1 [1]] = [ar 1 [1]], 1 ≤ 1 ∧ 1 ≤ 1, (yT c d).length = 32,
      (ar 32 c).length ≤ 1000000000, [d].length ≤ 100000000, [d].flatten.length ≤ 10000000000, 32 ≤ c.length ∧ 32 ≤ 32, (ar 32 c).length = (ar 32 c).length, 1 = [d].length ∧ 1 ≤ 1, ar 32 c = ar 32 c, 32 ≤ c.length ∧ 32 ≤ 32, [d] = [d]], val := .tup [.ai .u8 (yT c d), .ai .u8 (yA c d), .ai .u8 (yB c d)] } := by cases e <;> kernel_rfl

theorem ar32h (k d : List Int) : ar 32 (D.hmac k d) = D.hmac k d := ar_same (D.hmac_length k d)
theorem ar11 (x : Int) : ar 1 [x] = [x] := rfl
theorem yT_eq {c : List Int} (d : List Int) (h : c.length = 32) : yT c d = D.kt c d := by unfold yT D.kt; rw [ar_same h, List.flatten_cons, List.flatten_nil, List.append_nil]
theorem yA_eq {c : List Int} (d : List Int) (h : c.length = 32) : yA c d = D.ka c d := by unfold yA; rw [yT_eq d h]; unfold D.kt; rw [ar32h]; rfl
theorem yB_eq {c : List Int} (d : List Int) (h : c.length = 32) : yB c d = D.kb c d := by
  unfold yB
  rw [yT_eq d h, yA_eq d h]
  unfold D.kt
  rw [ar32h, show ar 32 (D.ka c d) = D.ka c d from ar32h _ _, ar11]
  rfl
theorem ka_len (c d : List Int) : (D.ka c d).length = 32 := D.hmac_length _ _
theorem kb_len (c d : List Int) : (D.kb c d).length = 32 := D.hmac_length _ _
theorem kt_len (c d : List Int) : (D.kt c d).length = 32 := D.hmac_length _ _
theorem ch_call (e : Eng) {c d : List Int} (hc : c.length = 32) (hd : d.length ≤ 1000000000) (Γ : Env) (hg : Γ.glob = globs) :
    CallOK Tryz.prog Γ 41 (chVs e c d.length) (chT e d) 100 100 { val := .tup [.ai .u8 (D.kt c d), .ai .u8 (D.ka c d), .ai .u8 (D.kb c d)] } := by
  have hs : SumOK Tryz.prog (env exHq 4) 41 (interp (env exHq 4) Tryz.f41 true [] 1500) :=
    interp_ok (env_ty exHq 4) (env_ok exHq exHq_ok 4) mix Tryz.func41 (by kernel_rfl) true [] 1500
  have hT := kt_len c d
  have hA := ka_len c d
  have hB := kb_len c d
  refine (hs.call (ch_0 e c d d.length) (of_allP ?_)).words (by rw [hg]; rfl) (fun _ => rfl) (fun _ _ h => h) (fun V => ?_) rfl rfl
  · rw [yT_eq d hc, yA_eq d hc, yB_eq d hc, ar_same hT, ar_same hA, ar_same hc]
    simp only [allP, ar11, hT, hA, hB, hc, List.flatten_cons, List.flatten_nil, List.append_nil, List.length_append, List.length_cons, List.length_nil]
    repeat' (first | with_reducible exact trivial | with_reducible assumption | with_reducible apply And.intro | omega)
  · rw [yT_eq d hc, yA_eq d hc, yB_eq d hc]
def chDec (vs : List SV) (T : Tab) : Option Canon := match vs with
  | [.agg en, cv, p] => match engIn en, intsOf cv, seqRo T .u8 p with
    | some (e, L), some (.u8, c), some (_, d) => some { vs0 := chVs e c d.length, T0 := chL e d, vl := (61, .arg 2) :: engVl e L, e0 := { val := .tup [.ai .u8 (D.kt c d), .ai .u8 (D.ka c d), .ai .u8 (D.kb c d)] }, conds := [c.length = 32, d.length ≤ 1000000000] }
    | _, _, _ => none
  | _ => none
theorem chd_ok (Γ : Env) (hg : Γ.glob = globs) : SumOK Tryz.prog Γ 41 (canonS globs 100 chDec) := by
  refine canonS_ok hg fun vs T c hd hc => ?_
  unfold chDec at hd
  split at hd
  case h_2 => cases hd
  split at hd
  case h_2 => cases hd
  cases hd
  exact ch_call _ (hc _ (by simp)) (hc _ (by simp)) Γ hg
noncomputable def exCh : Nat → Option Sum := addS exHq 41 (canonS globs 100 chDec)
theorem exCh_ok : ∀ f S, exCh f = some S → ∀ Γ : Env, Γ.glob = globs → SumOK Tryz.prog Γ f S := addS_ok exHq_ok 41 _ chd_ok
end Go.Proofs.YtdhombdiakjdhaaGreatDoor.Sx
end
section
open Go
set_option maxRecDepth 100000
namespace Go.Proofs.YtdhombdiakjdhaaGreatDoor.Sx

theorem tw_0 (e : Eng) (c d : List Int) (n : Nat) : interp (env exCh 4) Tryz.f9 true [] 1500 (chVs e c n) (chT e d) 100 100 =
    some { obl := [(D.ka c d).length = 32, (D.kb c d).length = 32, (D.kb c d).length = 32, (D.ka c d).length = 32, (D.kb c d).length = 32, (D.ka c d).length = 32, (D.kb c d).length = 32, (D.ka c d).length = 32, (D.kt c d).length = 32,
      c.length = 32, d.length ≤ 1000000000, c = c, n = n, d.length = d.length, d = d, c.length = 32], val := .tup [.ai .u8 (D.ka c d), .ai .u8 (D.kb c d)] } := by cases e <;> kernel_rfl
def yC (c d : List Int) : List Int := D.hmac (ar 32 (D.kt c d)) [ar 32 (D.kb c d), ar 1 [3]].flatten
theorem th_0 (e : Eng) (c d : List Int) (n : Nat) : interp (env exCh 4) Tryz.f16 true [] 1500 (chVs e c n) (chT e d) 100 100 =
    some { obl := [(D.ka c d).length = 32, (D.kb c d).length = 32, (yC c d).length = 32, (yC c d).length = 32, (D.kb c d).length = 32, (D.ka c d).length = 32,
      (ar 32 (D.kt c d)).length ≤ 1000000000, [ar 32 (D.kb c d), ar 1 [3]].length ≤ 100000000, [ar 32 (D.kb c d), ar 1 [3]].flatten.length ≤ 10000000000, 32 ≤ (D.kt c d).length ∧ 32 ≤ 32, (ar 32 (D.kt c d)).length = (ar 32 (D.kt c d)).length, 2 = [ar 32 (D.kb c d), ar 1 [3]].length ∧ 2 ≤ 2,
      ar 32 (D.kt c d) = ar 32 (D.kt c d), 32 ≤ (D.kt c d).length ∧ 32 ≤ 32, [ar 32 (D.kb c d), ar 1 [3]] = [ar 32 (D.kb c d), ar 1 [3]], 32 ≤ (D.kb c d).length ∧ 32 ≤ 32, 1 ≤ 1 ∧ 1 ≤ 1,
      (D.kb c d).length = 32, (D.ka c d).length = 32, (D.kb c d).length = 32, (D.ka c d).length = 32, (D.kt c d).length = 32,
      c.length = 32, d.length ≤ 1000000000, c = c, n = n, d.length = d.length, d = d, c.length = 32], val := .tup [.ai .u8 (D.ka c d), .ai .u8 (D.kb c d), .ai .u8 (yC c d)] } := by cases e <;> kernel_rfl
theorem yC_eq (c d : List Int) : yC c d = D.kc c d := by
  unfold yC
  rw [ar_same (kt_len c d), ar_same (kb_len c d), ar11]
  rfl
theorem tw_call (e : Eng) {c d : List Int} (hc : c.length = 32) (hd : d.length ≤ 1000000000) (Γ : Env) (hg : Γ.glob = globs) :
    CallOK Tryz.prog Γ 9 (chVs e c d.length) (chT e d) 100 100 { val := .tup [.ai .u8 (D.ka c d), .ai .u8 (D.kb c d)] } := by
  have hs : SumOK Tryz.prog (env exCh 4) 9 (interp (env exCh 4) Tryz.f9 true [] 1500) :=
    interp_ok (env_ty exCh 4) (env_ok exCh exCh_ok 4) mix Tryz.func9 (by kernel_rfl) true [] 1500
  have hT := kt_len c d
  have hA := ka_len c d
  have hB := kb_len c d
  refine (hs.call (tw_0 e c d d.length) (of_allP ?_)).words (by rw [hg]; rfl) (fun _ => rfl) (fun _ _ h => h) (fun V => rfl) rfl rfl
  simp only [allP]
  repeat' (first | with_reducible exact trivial | with_reducible assumption | with_reducible apply And.intro | with_reducible rfl)
theorem th_call (e : Eng) {c d : List Int} (hc : c.length = 32) (hd : d.length ≤ 1000000000) (Γ : Env) (hg : Γ.glob = globs) :
    CallOK Tryz.prog Γ 16 (chVs e c d.length) (chT e d) 100 100 { val := .tup [.ai .u8 (D.ka c d), .ai .u8 (D.kb c d), .ai .u8 (D.kc c d)] } := by
  have hs : SumOK Tryz.prog (env exCh 4) 16 (interp (env exCh 4) Tryz.f16 true [] 1500) :=
    interp_ok (env_ty exCh 4) (env_ok exCh exCh_ok 4) mix Tryz.func16 (by kernel_rfl) true [] 1500
  have hT := kt_len c d
  have hA := ka_len c d
  have hB := kb_len c d
  have hC : (D.kc c d).length = 32 := D.hmac_length _ _
  refine (hs.call (th_0 e c d d.length) (of_allP ?_)).words (by rw [hg]; rfl) (fun _ => rfl) (fun _ _ h => h) (fun V => ?_) rfl rfl
  · rw [yC_eq, ar_same hT, ar_same hB]
    simp only [allP, ar11, hT, hA, hB, hC, hc, List.flatten_cons, List.flatten_nil, List.append_nil, List.length_append, List.length_cons, List.length_nil]
    repeat' (first | with_reducible exact trivial | with_reducible assumption | with_reducible apply And.intro | omega)
  · rw [yC_eq]
def twDec (vs : List SV) (T : Tab) : Option Canon := match vs with
  | [.agg en, cv, p] => match engIn en, intsOf cv, seqRo T .u8 p with
    | some (e, L), some (.u8, c), some (_, d) => some { vs0 := chVs e c d.length, T0 := chL e d, vl := (61, .arg 2) :: engVl e L, e0 := { val := .tup [.ai .u8 (D.ka c d), .ai .u8 (D.kb c d)] }, conds := [c.length = 32, d.length ≤ 1000000000] }
    | _, _, _ => none
  | _ => none
theorem twd_ok (Γ : Env) (hg : Γ.glob = globs) : SumOK Tryz.prog Γ 9 (canonS globs 100 twDec) := by
  refine canonS_ok hg fun vs T c hd hc => ?_
  unfold twDec at hd
  split at hd
  case h_2 => cases hd
  split at hd
  case h_2 => cases hd
  cases hd
  exact tw_call _ (hc _ (by simp)) (hc _ (by simp)) Γ hg
def thDec (vs : List SV) (T : Tab) : Option Canon := match vs with
  | [.agg en, cv, p] => match engIn en, intsOf cv, seqRo T .u8 p with
    | some (e, L), some (.u8, c), some (_, d) => some { vs0 := chVs e c d.length, T0 := chL e d, vl := (61, .arg 2) :: engVl e L, e0 := { val := .tup [.ai .u8 (D.ka c d), .ai .u8 (D.kb c d), .ai .u8 (D.kc c d)] }, conds := [c.length = 32, d.length ≤ 1000000000] }
    | _, _, _ => none
  | _ => none
theorem thd_ok (Γ : Env) (hg : Γ.glob = globs) : SumOK Tryz.prog Γ 16 (canonS globs 100 thDec) := by
  refine canonS_ok hg fun vs T c hd hc => ?_
  unfold thDec at hd
  split at hd
  case h_2 => cases hd
  split at hd
  case h_2 => cases hd
  cases hd
  exact th_call _ (hc _ (by simp)) (hc _ (by simp)) Γ hg
end Go.Proofs.YtdhombdiakjdhaaGreatDoor.Sx
end
section
open Go
set_option maxRecDepth 100000
namespace Go.Proofs.YtdhombdiakjdhaaGreatDoor.Sx

theorem TabOK.goneL {w0 w : World} {M : Nat → Prop} {V : Val} {T : Tab} (h : TabOK w0 M V T w) (l0 : Nat) : TabOK w0 M V (fun l => if l = l0 then some .gone else T l) w where
  ok := fun l B hl => by
    by_cases e : l = l0
    · rw [if_pos e] at hl; cases hl; exact ⟨[], rfl, trivial⟩
    · rw [if_neg e] at hl; exact h.ok l B hl
  dist := fun l B l' B' n hne hl hl' ho hb => by
    by_cases e : l = l0
    · rw [if_pos e] at hl; cases hl; cases ho
    · rw [if_neg e] at hl
      by_cases e' : l' = l0
      · rw [if_pos e'] at hl'; cases hl'; intro q; cases q
      · rw [if_neg e'] at hl'; exact h.dist l B l' B' n hne hl hl' ho hb
  perm := fun l B n hl ho hb => by
    by_cases e : l = l0
    · rw [if_pos e] at hl; cases hl; cases ho
    · rw [if_neg e] at hl; exact h.perm l B n hl ho hb
  frame := h.frame
  fro := fun l B hl => by
    by_cases e : l = l0
    · rw [if_pos e] at hl; cases hl; trivial
    · rw [if_neg e] at hl; exact h.fro l B hl
/-- A call behind which nothing more is said of a block. -/
theorem CallOK.gone {P : Program} {Γ : Env} {f : FuncId} {vs : List SV} {T : Tab} {lab F l0 : Nat} {e : Eff} (h : CallOK P Γ f vs T lab F e) (hn : look l0 (e.tab lab) = none) :
    CallOK P Γ f vs T lab F { e with wr := (l0, .gone) :: e.wr } := by
  intro w0 M V T2 w ys hsub hT1 hg hf hF hx op a K Q hK
  refine h w0 M V T2 w ys hsub hT1 hg hf hF hx op a K Q fun V' x w' h1 h2 h3 => hK V' x w' h1 h2 ?_
  have e1 : upd T2 lab { e with wr := (l0, .gone) :: e.wr } = fun l => if l = l0 then some .gone else upd T2 lab e l := by
    funext l
    simp only [upd, Eff.tab, List.cons_append] at hn ⊢
    by_cases q : l = l0
    · subst q; rw [look_cons_eq, if_pos rfl]
    · rw [look_cons_ne (fun r => q r.symm), if_neg q]
  rw [e1]
  exact h3.goneL l0

def vlP (l : Nat) : Nat → Nat → List (Nat × Src0)
  | 0, _ => []
  | n + 1, i => (63 + i, .cell l i) :: vlP l n (i + 1)
def pcs (T : Tab) : SV → Option (Bool × Nat × List SV)
  | .slc l true 0 _ _ => match T l with
    | some B => (pcC B).map fun cs => (false, l, cs)
    | none => none
  | .slcR l 0 _ 0 => match T l with
    | some (.row sz cs ty) => match Nat.beq sz 1 && Nat.beq ty 22 with
      | true => some (true, l, cs)
      | false => none
    | _ => none
  | _ => none
def sgE (f : Bool) (ps : List (List Int)) : Eff := match f with
  | true => { val := .tup [.slcR 100 0 32 0, .raw .nilIface], new := [.row 1 ((D.hash ps.flatten).map (.int false .u8)) 5], wr := [(62, .gone)] }
  | false => { val := .tup [.slcR 100 0 32 0, .raw .nilIface], new := [.row 1 ((D.hash ps.flatten).map (.int false .u8)) 5] }
def sgDec (vs : List SV) (T : Tab) : Option Canon := match vs with
  | [.int true .i64 n, .raw (.slice none 0 0), v] => match beqI n 32, pcs T v with
    | true, some (f, l, cs) => match rdP T cs with
      | some (ob, ps) => some { vs0 := sgVs f ps.length, T0 := sgL f ps, vl := (62, .lab l 0) :: vlP l ps.length 0, e0 := sgE f ps, conds := [ps.flatten.length ≤ 1000000000, 1 ≤ ps.length ∧ ps.length ≤ 4] ++ ob }
      | none => none
    | _, _ => none
  | _ => none
theorem sg_call (f : Bool) (ps : List (List Int)) (hl : ps.flatten.length ≤ 1000000000) (hn : 1 ≤ ps.length ∧ ps.length ≤ 4) (Γ : Env) (hg : Γ.glob = globs) : CallOK Tryz.prog Γ 92 (sgVs f ps.length) (sgT f ps) 100 100 (sgE f ps) := by
  have h : CallOK Tryz.prog Γ 92 (sgVs f ps.length) (sgT f ps) 100 100 (sgRes ps.flatten) := by
    match ps, hn with
    | [a], _ =>
      have h := sg1_call f a (by simpa using hl) Γ hg
      rw [show [a].flatten = a by simp]
      exact h
    | [a, b], _ =>
      have h := sg2_call f a b (by simpa using hl) Γ hg
      rw [show [a, b].flatten = a ++ b by simp]
      exact h
    | [a, b, c], _ =>
      have h := sg3_call f a b c (by simpa [Nat.add_assoc] using hl) Γ hg
      rw [show [a, b, c].flatten = a ++ b ++ c by simp]
      exact h
    | [a, b, c, d], _ =>
      have h := sg4_call f a b c d (by simpa [Nat.add_assoc] using hl) Γ hg
      rw [show [a, b, c, d].flatten = a ++ b ++ c ++ d by simp]
      exact h
    | [], hn => simp at hn
    | _ :: _ :: _ :: _ :: _ :: _, hn => simp at hn
  cases f with
  | false => exact h
  | true => exact h.gone (l0 := 62) rfl
theorem sg_ok (Γ : Env) (hg : Γ.glob = globs) : SumOK Tryz.prog Γ 92 (canonS globs 100 sgDec) := by
  refine canonS_ok hg fun vs T c hd hc => ?_
  unfold sgDec at hd
  split at hd
  case h_2 => cases hd
  split at hd
  case h_2 => cases hd
  split at hd
  case h_2 => cases hd
  cases hd
  exact sg_call _ _ (hc _ (by simp)) (hc _ (by simp)) Γ hg
noncomputable def exSg : Nat → Option Sum := addS exA 92 (canonS globs 100 sgDec)
theorem exSg_ok : ∀ f S, exSg f = some S → ∀ Γ : Env, Γ.glob = globs → SumOK Tryz.prog Γ f S := addS_ok (fun f S h Γ _ => exA_ok f S h Γ) 92 _ sg_ok
end Go.Proofs.YtdhombdiakjdhaaGreatDoor.Sx
end
section
open Go
set_option maxRecDepth 100000
namespace Go.Proofs.YtdhombdiakjdhaaGreatDoor.Sx

def lenO : List (List Int) → List Prop
  | [] => []
  | d :: r => (d.length = d.length) :: (d.length = d.length) :: lenO r
def sameO : List (List Int) → List Prop
  | [] => []
  | d :: r => (d = d) :: sameO r
theorem lenO_ok : ∀ ps, ∀ q ∈ lenO ps, q
  | [] => mem0
  | _ :: r => mem1 rfl (mem1 rfl (lenO_ok r))
theorem sameO_ok : ∀ ps, ∀ q ∈ sameO ps, q
  | [] => mem0
  | _ :: r => mem1 rfl (sameO_ok r)
def whO (f : Bool) (ps : List (List Int)) : List Prop := (ps.flatten.length ≤ 1000000000) :: (1 ≤ ps.length ∧ ps.length ≤ 4) :: pO f ps.length (lenO ps ++ sameO ps)
def goneW : Bool → List (Nat × SB)
  | true => [(62, .gone)]
  | false => []
def whR (f : Bool) (ps : List (List Int)) : Eff := { obl := whO f ps, val := .agg ((D.hash ps.flatten).map (.int false .u8)), wr := goneW f }
theorem wh1 (f : Bool) (a : List Int) : interp (env exSg 4) Tryz.f51 true [] 1500 [pv f 1] (sgT f [a]) 100 100 = some (whR f [a]) := by cases f <;> kernel_rfl
theorem wh2 (f : Bool) (a b : List Int) : interp (env exSg 4) Tryz.f51 true [] 1500 [pv f 2] (sgT f [a, b]) 100 100 = some (whR f [a, b]) := by cases f <;> kernel_rfl
theorem wh3 (f : Bool) (a b c : List Int) : interp (env exSg 4) Tryz.f51 true [] 1500 [pv f 3] (sgT f [a, b, c]) 100 100 = some (whR f [a, b, c]) := by cases f <;> kernel_rfl
theorem wh4 (f : Bool) (a b c d : List Int) : interp (env exSg 4) Tryz.f51 true [] 1500 [pv f 4] (sgT f [a, b, c, d]) 100 100 = some (whR f [a, b, c, d]) := by cases f <;> kernel_rfl
theorem wh_call (f : Bool) (ps : List (List Int)) (hl : ps.flatten.length ≤ 1000000000) (hn : 1 ≤ ps.length ∧ ps.length ≤ 4) (Γ : Env) (hg : Γ.glob = globs) :
    CallOK Tryz.prog Γ 51 [pv f ps.length] (sgT f ps) 100 100 { val := .ai .u8 (D.hash ps.flatten), wr := goneW f } := by
  have hs : SumOK Tryz.prog (env exSg 4) 51 (interp (env exSg 4) Tryz.f51 true [] 1500) :=
    interp_ok (env_ty exSg 4) (env_ok exSg exSg_ok 4) mix Tryz.func51 (by kernel_rfl) true [] 1500
  have hr : interp (env exSg 4) Tryz.f51 true [] 1500 [pv f ps.length] (sgT f ps) 100 100 = some (whR f ps) := by
    match ps, hn with
    | [a], _ => exact wh1 f a
    | [a, b], _ => exact wh2 f a b
    | [a, b, c], _ => exact wh3 f a b c
    | [a, b, c, d], _ => exact wh4 f a b c d
    | [], hn => simp at hn
    | _ :: _ :: _ :: _ :: _ :: _, hn => simp at hn
  have ho : ∀ q ∈ whO f ps, q := mem1 hl (mem1 hn (pO_ok (memA (lenO_ok ps) (sameO_ok ps))))
  refine (hs.call hr ho).words (by rw [hg]; rfl) (fun _ => rfl) (fun _ _ h => h) (fun V => ?_) rfl rfl
  show den V (.agg _) = den V (.ai _ _)
  simp only [den, denL_map_int]
  rfl
def whDec (vs : List SV) (T : Tab) : Option Canon := match vs with
  | [v] => match pcs T v with
    | some (f, l, cs) => match rdP T cs with
      | some (ob, ps) => some { vs0 := [pv f ps.length], T0 := sgL f ps, vl := (62, .lab l 0) :: vlP l ps.length 0, e0 := { val := .ai .u8 (D.hash ps.flatten), wr := goneW f }, conds := [ps.flatten.length ≤ 1000000000, 1 ≤ ps.length ∧ ps.length ≤ 4] ++ ob }
      | none => none
    | none => none
  | _ => none
theorem wh_ok (Γ : Env) (hg : Γ.glob = globs) : SumOK Tryz.prog Γ 51 (canonS globs 100 whDec) := by
  refine canonS_ok hg fun vs T c hd hc => ?_
  unfold whDec at hd
  split at hd
  case h_2 => cases hd
  split at hd
  case h_2 => cases hd
  split at hd
  case h_2 => cases hd
  cases hd
  exact wh_call _ _ (hc _ (by simp)) (hc _ (by simp)) Γ hg
noncomputable def exWh : Nat → Option Sum := addS exA 51 (canonS globs 100 whDec)
theorem exWh_ok : ∀ f S, exWh f = some S → ∀ Γ : Env, Γ.glob = globs → SumOK Tryz.prog Γ f S := addS_ok (fun f S h Γ _ => exA_ok f S h Γ) 51 _ wh_ok
end Go.Proofs.YtdhombdiakjdhaaGreatDoor.Sx
end
section
open Go
set_option maxRecDepth 100000
namespace Go.Proofs.YtdhombdiakjdhaaGreatDoor.Sx

/-- The plain engine. -/
def plainV : List SV := [.int true .i64 2, .fn (.func 46) [] [], .fn (.func 47) [] [], .fn (.func 48) [] [], .fn (.func 49) [] [], .fn (.func 50) [] [], .fn (.func 51) [] []]
noncomputable def ΓPl : Env := env exWh 7
theorem ΓPl_ty : TyOK Tryz.prog ΓPl := env_ty exWh 7
theorem ΓPl_ok : SumsOK Tryz.prog ΓPl := env_ok exWh exWh_ok 7
def pmL (key : List Int) (ps : List (List Int)) : List (Nat × SB) := (61, .rov .u8 key) :: (62, .roc (pcV ps 63)) :: (pcB ps 63 ++ glB)
def pmVs (k n : Nat) : List SV := [.agg plainV, .ros 61 k, .slc 62 true 0 n n]
def pmT (key : List Int) (ps : List (List Int)) : Tab := fun l => look l (pmL key ps)
noncomputable def pmM (key : List Int) (ps : List (List Int)) (cf : Cf) (K : List Fr) (s : St) : Option Cfg := mrun ΓPl (cutT 100 (pmT key ps)) 100 Tryz.f11.ntmps [8] 400 2000 cf K s
def pmTb (a b : List Int) : List (Nat × SB) := [(100, .own plainV 33), (101, .own (List.replicate 32 (.int true .u8 0)) 24), (102, .ints .u8 a 76), (103, .ints .u8 b 76)]
noncomputable def pmR : Option Cfg := pmM [] [] (.go (codeOf Tryz.f11)) [] ((st0 (pmVs 0 0) 100).hint [false])
noncomputable def pmLp : Code := cfgC pmR
noncomputable def pmK : List Fr := cfgF pmR
theorem pm_0 (key a b : List Int) (ps : List (List Int)) (k n : Nat) (i : Int) (hn : n = 1 ∨ n = 2 ∨ n = 3) : toC 100 Tryz.f11.ntmps (cutT 100 (pmT key ps)) [] (hmGs n i) (pmTb a b) 104 [] [] (pmM key ps (.go (codeOf Tryz.f11)) [] ((st0 (pmVs k n) 100).hint [false])) =
    some (.go (.loop pmLp), pmK, lO 64 4 (cp 64 key) ++ [kO 64 key, decide ((k : Int) > 64) = false, 0 = i, cp 64 key = a ∧ 76 = 76, cp 64 key = b ∧ 76 = 76]) := by rcases hn with rfl | rfl | rfl <;> kernel_rfl
theorem pm_2 (key a b a' b' : List Int) (ps : List (List Int)) (n : Nat) (i i' : Int) (hn : n = 1 ∨ n = 2 ∨ n = 3) : toC 100 Tryz.f11.ntmps (cutT 100 (pmT key ps)) [] (hmGs n i') (pmTb a' b') 104 [] [] (pmM key ps (.go pmLp) [] ((stOf (hmGs n i) (pmTb a b) 104 [] []).hint [true])) =
    some (.at .normal, [], [0 + i.toNat * 1 < b.length, 0 ≤ i ∧ i < 64, 0 + i.toNat * 1 + 1 ≤ b.length, 0 ≤ i ∧ i < 64, 0 + i.toNat * 1 < a.length, 0 ≤ i ∧ i < 64, 0 + i.toNat * 1 + 1 ≤ a.length, 0 ≤ i ∧ i < 64, decide (i < 64) = true, IntKind.i64.wrap (i + 1) = i',
      a.set (0 + i.toNat * 1) (bXor .u8 (a.getD (0 + i.toNat * 1 + 0) 0) 54) = a' ∧ 76 = 76, b.set (0 + i.toNat * 1) (bXor .u8 (b.getD (0 + i.toNat * 1 + 0) 0) 92) = b' ∧ 76 = 76]) := by rcases hn with rfl | rfl | rfl <;> kernel_rfl
theorem pm_3 (key a b : List Int) (ps : List (List Int)) (n : Nat) (i : Int) (hn : n = 1 ∨ n = 2 ∨ n = 3) : toC 100 Tryz.f11.ntmps (cutT 100 (pmT key ps)) [] (hmGs n i) (pmTb a b) 104 [] [] (pmM key ps (.go pmLp) [] ((stOf (hmGs n i) (pmTb a b) 104 [] []).hint [false])) =
    some (.at (.exit 0), [], [decide (i < 64) = false, i = i, a = a ∧ 76 = 76, b = b ∧ 76 = 76]) := by rcases hn with rfl | rfl | rfl <;> kernel_rfl

/-- The inner digest, the outer one; what is owed for both. -/
def pmI (a : List Int) (ds : List (List Int)) : List Int := D.hash (ar 64 a :: ds).flatten
def pmX (a b : List Int) (ds : List (List Int)) : List Int := D.hash [ar 64 b, ar 32 (pmI a ds)].flatten
def pmO (a b : List Int) (ds : List (List Int)) : List Prop :=
  ((pmX a b ds).length = 32) :: ((pmX a b ds).length = 32) :: ((pmX a b ds).length = 32) :: ((pmX a b ds).length = 32) ::
  ([ar 64 b, ar 32 (pmI a ds)].flatten.length ≤ 1000000000) :: (1 ≤ [ar 64 b, ar 32 (pmI a ds)].length ∧ [ar 64 b, ar 32 (pmI a ds)].length ≤ 4) ::
  (64 ≤ b.length ∧ 64 ≤ 64) :: (32 ≤ (pmI a ds).length ∧ 32 ≤ 32) :: (64 ≤ b.length ∧ 64 ≤ 64) :: ((ar 64 b).length = (ar 64 b).length) :: (32 ≤ (pmI a ds).length ∧ 32 ≤ 32) :: ((ar 32 (pmI a ds)).length = (ar 32 (pmI a ds)).length) ::
  (ar 64 b = ar 64 b) :: (64 ≤ b.length ∧ 64 ≤ 64) :: (ar 32 (pmI a ds) = ar 32 (pmI a ds)) :: (32 ≤ (pmI a ds).length ∧ 32 ≤ 32) ::
  ((pmI a ds).length = 32) :: ((pmI a ds).length = 32) :: ((pmI a ds).length = 32) ::
  ((ar 64 a :: ds).flatten.length ≤ 1000000000) :: (1 ≤ (ar 64 a :: ds).length ∧ (ar 64 a :: ds).length ≤ 4) :: (64 ≤ a.length ∧ 64 ≤ 64) :: (ds.length + 1 = (ar 64 a :: ds).length) :: (64 ≤ a.length ∧ 64 ≤ 64) :: ((ar 64 a).length = (ar 64 a).length) ::
  (lenO ds ++ ((ar 64 a = ar 64 a) :: (64 ≤ a.length ∧ 64 ≤ 64) :: sameO ds))
theorem pm_4 (key a b d : List Int) (i : Int) : endC ΓPl (pmT key [d]) 100 100 Tryz.f11 [] (pmM key [d] (.at (.exit 0)) pmK ((stOf (hmGs 1 i) (pmTb a b) 104 [] []).hint [])) = some { obl := pmO a b [d], val := .ai .u8 (pmX a b [d]) } := by kernel_rfl
theorem pm_5 (key a b d d2 : List Int) (i : Int) : endC ΓPl (pmT key [d, d2]) 100 100 Tryz.f11 [] (pmM key [d, d2] (.at (.exit 0)) pmK ((stOf (hmGs 2 i) (pmTb a b) 104 [] []).hint [])) = some { obl := pmO a b [d, d2], val := .ai .u8 (pmX a b [d, d2]) } := by kernel_rfl
theorem pm_6 (key a b d d2 d3 : List Int) (i : Int) : endC ΓPl (pmT key [d, d2, d3]) 100 100 Tryz.f11 [] (pmM key [d, d2, d3] (.at (.exit 0)) pmK ((stOf (hmGs 3 i) (pmTb a b) 104 [] []).hint [])) = some { obl := pmO a b [d, d2, d3], val := .ai .u8 (pmX a b [d, d2, d3]) } := by kernel_rfl
end Go.Proofs.YtdhombdiakjdhaaGreatDoor.Sx
end
section
open Go
set_option maxRecDepth 100000
namespace Go.Proofs.YtdhombdiakjdhaaGreatDoor.Sx

theorem pm_loop {key : List Int} {ps : List (List Int)} {n : Nat} (hn : n = 1 ∨ n = 2 ∨ n = 3) {k : List Int} (hk : k.length = 64)
    {w0 : World} {M : Nat → Prop} {V0 : Val} {Q : Exit → Act → World → Prop} (hb : Base ΓPl (cutT 100 (pmT key ps)) 100 V0)
    (h : G Tryz.prog ΓPl w0 M (cutT 100 (pmT key ps)) Tryz.f11.ntmps 100 V0 (.at (.exit 0)) pmK (stOf (hmGs n 64) (pmTb (padN k 54 64) (padN k 92 64)) 104 [] []) Q) :
    G Tryz.prog ΓPl w0 M (cutT 100 (pmT key ps)) Tryz.f11.ntmps 100 V0 (.go (.loop pmLp)) pmK (stOf (hmGs n 0) (pmTb k k) 104 [] []) Q := by
  have hty := ΓPl_ty
  have hsum := ΓPl_ok
  refine G.loop (fun r s => ∃ i : Nat, i ≤ 64 ∧ r = 64 - i ∧ s = stOf (hmGs n i) (pmTb (padN k 54 i) (padN k 92 i)) 104 [] []) (r0 := 64)
    ⟨0, by omega, rfl, by rw [padN_zero hk, padN_zero hk]; rfl⟩ ?_
  rintro r s ⟨i, hi, rfl, rfl⟩
  by_cases hlt : i < 64
  · have e1 : 0 + (i : Int).toNat * 1 = i := by omega
    refine G.roundC hty hsum mix hb [true] (pm_2 key _ _ (padN k 54 (i + 1)) (padN k 92 (i + 1)) ps n i ((i + 1 : Nat) : Int) hn) ?_ (64 - (i + 1)) (by omega) ⟨i + 1, hlt, rfl, rfl⟩
    rw [e1, Nat.add_zero]
    have l1 := padN_length k 54 i
    have l2 := padN_length k 92 i
    refine mem1 (by omega) (mem1 (by omega) (mem1 (by omega) (mem1 (by omega) (mem1 (by omega) (mem1 (by omega) (mem1 (by omega) (mem1 (by omega) (mem1 (decide_eq_true (by omega)) (mem1 ?_ (mem1 ⟨padN_succ k 54 hlt, rfl⟩ (mem1 ⟨padN_succ k 92 hlt, rfl⟩ mem0)))))))))))
    rw [IntWalk.i64_in _ (by omega)]; omega
  · have e : i = 64 := by omega
    subst e
    refine G.toC hty hsum mix hb [false] (pm_3 key _ _ ps n _ hn) (mem1 (by decide) (mem1 rfl (mem1 ⟨rfl, rfl⟩ (mem1 ⟨rfl, rfl⟩ mem0)))) (G.leave (by simp) h)

theorem pmI_eq {a : List Int} (ha : a.length = 64) (ds : List (List Int)) : pmI a ds = D.hash (a ++ ds.flatten) := by unfold pmI; rw [ar_same ha, List.flatten_cons]
theorem pmX_eq {a b : List Int} (ha : a.length = 64) (hb : b.length = 64) (ds : List (List Int)) : pmX a b ds = D.hash (b ++ D.hash (a ++ ds.flatten)) := by
  unfold pmX
  rw [pmI_eq ha, ar_same hb, ar_same (D.hash_length _)]
  simp only [List.flatten_cons, List.flatten_nil, List.append_nil]
theorem pmO_ok {a b : List Int} (ha : a.length = 64) (hb : b.length = 64) {ds : List (List Int)} (hn : 1 ≤ ds.length ∧ ds.length ≤ 3) (hl : ds.flatten.length ≤ 100000000) : ∀ q ∈ pmO a b ds, q := by
  have hX : (pmX a b ds).length = 32 := D.hash_length _
  have hI : (pmI a ds).length = 32 := D.hash_length _
  have e1 : [ar 64 b, ar 32 (pmI a ds)].flatten.length ≤ 1000000000 := by
    rw [ar_same hb, ar_same hI]
    simp only [List.flatten_cons, List.flatten_nil, List.append_nil, List.length_append, hb, hI]
    decide
  have e2 : (ar 64 a :: ds).flatten.length ≤ 1000000000 := by rw [ar_same ha, List.flatten_cons, List.length_append]; omega
  have e3 : 64 ≤ b.length ∧ 64 ≤ 64 := by omega
  have e4 : 64 ≤ a.length ∧ 64 ≤ 64 := by omega
  have e5 : 32 ≤ (pmI a ds).length ∧ 32 ≤ 32 := by omega
  have e6 : 1 ≤ (ar 64 a :: ds).length ∧ (ar 64 a :: ds).length ≤ 4 := by simp only [List.length_cons]; omega
  unfold pmO
  exact mem1 hX (mem1 hX (mem1 hX (mem1 hX (mem1 e1 (mem1 (by simp) (mem1 e3 (mem1 e5 (mem1 e3 (mem1 rfl (mem1 e5 (mem1 rfl (mem1 rfl (mem1 e3 (mem1 rfl (mem1 e5 (mem1 hI (mem1 hI (mem1 hI (mem1 e2 (mem1 e6 (mem1 e4 (mem1 rfl (mem1 e4 (mem1 rfl
    (memA (lenO_ok ds) (mem1 rfl (mem1 e4 (sameO_ok ds))))))))))))))))))))))))))))

theorem pm_call (key : List Int) (ds : List (List Int)) (hk : key.length ≤ 64) (hn : 1 ≤ ds.length ∧ ds.length ≤ 3) (hl : ds.flatten.length ≤ 100000000) (Γ : Env) (hg : Γ.glob = globs) :
    CallOK Tryz.prog Γ 11 (pmVs key.length ds.length) (pmT key ds) 100 100 { val := .ai .u8 (D.hmac key ds.flatten) } := by
  refine CallOK.words (Γ := ΓPl) ?_ (by rw [hg]; rfl) (fun _ => rfl) (fun _ _ h => h) (fun _ => rfl) rfl rfl
  refine call_G ΓPl_ty ΓPl_ok Tryz.func11 (by kernel_rfl) rfl (Nat.le_of_ble_eq_true (by kernel_rfl)) rfl [] ?_
  intro w0 M V0 Q hb H
  have hty := ΓPl_ty
  have hsum := ΓPl_ok
  have hn' : ds.length = 1 ∨ ds.length = 2 ∨ ds.length = 3 := by omega
  refine G.toC hty hsum mix hb [false] (pm_0 key (cp 64 key) (cp 64 key) ds key.length ds.length 0 hn') (memA (lO_ok (cp_length hk)) (mem1 (kO_ok hk) (mem1 (decide_eq_false (by omega)) (mem1 rfl (mem1 ⟨rfl, rfl⟩ (mem1 ⟨rfl, rfl⟩ mem0)))))) ?_
  refine pm_loop hn' (cp_length hk) hb ?_
  rw [padN_cp hk, padN_cp hk]
  have ha := D.pad_length key 54
  have hb2 := D.pad_length key 92
  have hr : endC ΓPl (pmT key ds) 100 100 Tryz.f11 [] (pmM key ds (.at (.exit 0)) pmK ((stOf (hmGs ds.length 64) (pmTb (D.pad key 54) (D.pad key 92)) 104 [] []).hint [])) = some { obl := pmO (D.pad key 54) (D.pad key 92) ds, val := .ai .u8 (pmX (D.pad key 54) (D.pad key 92) ds) } := by
    match ds, hn with
    | [d], _ => exact pm_4 key _ _ d 64
    | [d, e], _ => exact pm_5 key _ _ d e 64
    | [d, e, f], _ => exact pm_6 key _ _ d e f 64
    | [], hn => simp at hn
    | _ :: _ :: _ :: _ :: _, hn => simp at hn
  refine G.finC (cl := []) ΓPl_ty ΓPl_ok mix [] H hr (pmO_ok ha hb2 hn hl) ?_ rfl rfl
  show SV.ai .u8 (pmX _ _ _) = _
  rw [pmX_eq ha hb2]
  unfold D.hmac D.key
  rw [if_pos hk]
theorem denL_intsT (V : Val) (k : IntKind) : ∀ zs : List Int, denL V (zs.map (SV.int true k)) = some (zs.map (Value.int k))
  | [] => rfl
  | z :: r => by simp [denL, den, denL_intsT V k r]
def pmDec (vs : List SV) (T : Tab) : Option Canon := match vs with
  | [.agg (.int true .i64 e :: .fn (.func f) [] [] :: _), p, .slc l true 0 _ _] => match beqI e 2 && Nat.beq f 46, seqRo T .u8 p, T l with
    | true, some (ob, k), some B => match pcC B with
      | some cs => match rdP T cs with
        | some (ob2, ds) => match kv k ds.flatten with
          | some r => some { vs0 := pmVs k.length ds.length, T0 := pmL k ds, vl := (61, .arg 1) :: (62, .lab l 0) :: vlP l ds.length 0, e0 := { val := .agg (r.map (.int true .u8)) }, conds := [k.length ≤ 64, 1 ≤ ds.length ∧ ds.length ≤ 3, ds.flatten.length ≤ 100000000] ++ (ob ++ ob2) }
          | none => none
        | none => none
      | none => none
    | _, _, _ => none
  | _ => none
/-- The keys that are asked for, as they are. -/
theorem pm_ok (Γ : Env) (hg : Γ.glob = globs) : SumOK Tryz.prog Γ 11 (canonS globs 100 pmDec) := by
  refine canonS_ok hg fun vs T c hd hc => ?_
  unfold pmDec at hd
  split at hd
  case h_2 => cases hd
  split at hd
  case h_2 => cases hd
  split at hd
  case h_2 => cases hd
  split at hd
  case h_2 => cases hd
  split at hd
  case h_2 => cases hd
  rename_i hr
  cases hd
  refine (pm_call _ _ (hc _ (by simp)) (hc _ (by simp)) (hc _ (by simp)) Γ hg).words rfl (fun _ => rfl) (fun _ _ h => h) (fun V => ?_) rfl rfl
  rw [kv_ok hr]
  simp only [den, denL_intsT]
  rfl
noncomputable def exPm : Nat → Option Sum := addS exA 11 (canonS globs 100 pmDec)
theorem exPm_ok : ∀ f S, exPm f = some S → ∀ Γ : Env, Γ.glob = globs → SumOK Tryz.prog Γ f S := addS_ok (fun f S h Γ _ => exA_ok f S h Γ) 11 _ pm_ok
def glT : Tab := fun l => look l glB
end Go.Proofs.YtdhombdiakjdhaaGreatDoor.Sx
end
section
open Go
set_option maxRecDepth 100000
namespace Go.Proofs.YtdhombdiakjdhaaGreatDoor.Sx

def D.rnd (v n : Int) : Int := if v.tmod n < 0 then v.tmod n + n else v.tmod n
theorem rnd_lt {v n : Int} (h : 0 < n) : 0 ≤ D.rnd v n ∧ D.rnd v n < n := by
  unfold D.rnd
  have h1 := Int.tmod_lt_of_pos v h
  have h2 : -n < v.tmod n := by
    have := Int.tmod_lt_of_pos (-v) h
    rw [Int.neg_tmod] at this
    omega
  split <;> omega
theorem rd_1 (v n : Int) : interp (env exA 3) Tryz.f13 true [true] 400 [.int false .i64 v, .int false .i64 n] (fun _ => none) 100 100 =
    some { obl := [decide (v.tmod n < 0) = true, n ≠ 0], val := .int false .i64 (IntKind.i64.wrap (v.tmod n + n)) } := by kernel_rfl
theorem rd_2 (v n : Int) : interp (env exA 3) Tryz.f13 true [false] 400 [.int false .i64 v, .int false .i64 n] (fun _ => none) 100 100 =
    some { obl := [decide (v.tmod n < 0) = false, n ≠ 0], val := .int false .i64 (v.tmod n) } := by kernel_rfl
theorem rd_call {v n : Int} (h0 : 0 < n) (h1 : n ≤ 1000000) (Γ : Env) (hg : Γ.glob = globs) : CallOK Tryz.prog Γ 13 [.int false .i64 v, .int false .i64 n] (fun _ => none) 100 100 { val := .int false .i64 (D.rnd v n) } := by
  have hs : ∀ hints, SumOK Tryz.prog (env exA 3) 13 (interp (env exA 3) Tryz.f13 true hints 400) := fun hints =>
    interp_ok (env_ty exA 3) (env_ok exA (fun f S h Γ _ => exA_ok f S h Γ) 3) mix Tryz.func13 (by kernel_rfl) true hints 400
  have h2 := rnd_lt (v := v) h0
  by_cases h : v.tmod n < 0
  · refine ((hs [true]).call (rd_1 v n) (of_allP ⟨decide_eq_true h, by omega, trivial⟩)).words (by rw [hg]; rfl) (fun _ => rfl) (fun _ _ h => h) (fun V => ?_) rfl rfl
    have e : D.rnd v n = v.tmod n + n := by unfold D.rnd; rw [if_pos h]
    rw [e] at h2
    simp only [e, IntWalk.i64_in _ (by omega : -9223372036854775808 ≤ v.tmod n + n ∧ v.tmod n + n ≤ 9223372036854775807)]
  · refine ((hs [false]).call (rd_2 v n) (of_allP ⟨decide_eq_false h, by omega, trivial⟩)).words (by rw [hg]; rfl) (fun _ => rfl) (fun _ _ h => h) (fun V => ?_) rfl rfl
    simp only [D.rnd, if_neg h]
def rdDec (vs : List SV) (_ : Tab) : Option Canon := match vs with
  | [.int _ .i64 v, .int _ .i64 n] => some { vs0 := [.int false .i64 v, .int false .i64 n], T0 := [], vl := [], e0 := { val := .int false .i64 (D.rnd v n) }, conds := [0 < n, n ≤ 1000000] }
  | _ => none
theorem rd_ok (Γ : Env) (hg : Γ.glob = globs) : SumOK Tryz.prog Γ 13 (canonS globs 100 rdDec) := by
  refine canonS_ok hg fun vs T c hd hc => ?_
  unfold rdDec at hd
  split at hd
  case h_2 => cases hd
  cases hd
  exact rd_call (hc _ (by simp)) (hc _ (by simp)) Γ hg
end Go.Proofs.YtdhombdiakjdhaaGreatDoor.Sx
end
section
open Go
set_option maxRecDepth 100000
namespace Go.Proofs.YtdhombdiakjdhaaGreatDoor.Sx

theorem t9_0 (c d : List Int) (n : Nat) :
  interp (env exHm 4) Tryz.f9 true [] 1500 [.agg (fastV 59), .ai .u8 c, .ros 61 n] (t9T d) 100 100 =
  some
  {
    obl :=
      [(D.hmac (List.take (32 : Nat) (List.drop (0 : Nat) (D.hmac (List.take (32 : Nat) (List.drop (0 : Nat) c)) d))) (List.take (1 : Nat) (List.drop (0 : Nat) [(1 : Int)]))).length = (32 : Nat),
        (D.hmac (List.take (32 : Nat) (List.drop (0 : Nat) (D.hmac (List.take (32 : Nat) (List.drop (0 : Nat) c)) d)))
              (List.take (32 : Nat)
                  (List.drop (0 : Nat)
                    (D.hmac (List.take (32 : Nat) (List.drop (0 : Nat) (D.hmac (List.take (32 : Nat) (List.drop (0 : Nat) c)) d))) (List.take (1 : Nat) (List.drop (0 : Nat) [(1 : Int)])))) ++
                List.take (1 : Nat) (List.drop (0 : Nat) [(2 : Int)]))).length =
          (32 : Nat),
        (D.hmac (List.take (32 : Nat) (List.drop (0 : Nat) (D.hmac (List.take (32 : Nat) (List.drop (0 : Nat) c)) d)))
              (List.take (32 : Nat)
                  (List.drop (0 : Nat)
                    (D.hmac (List.take (32 : Nat) (List.drop (0 : Nat) (D.hmac (List.take (32 : Nat) (List.drop (0 : Nat) c)) d))) (List.take (1 : Nat) (List.drop (0 : Nat) [(1 : Int)])))) ++
                List.take (1 : Nat) (List.drop (0 : Nat) [(2 : Int)]))).length =
          (32 : Nat),
        (D.hmac (List.take (32 : Nat) (List.drop (0 : Nat) (D.hmac (List.take (32 : Nat) (List.drop (0 : Nat) c)) d))) (List.take (1 : Nat) (List.drop (0 : Nat) [(1 : Int)]))).length = (32 : Nat),
        (D.hmac (List.take (32 : Nat) (List.drop (0 : Nat) (D.hmac (List.take (32 : Nat) (List.drop (0 : Nat) c)) d)))
              (List.take (32 : Nat)
                  (List.drop (0 : Nat)
                    (D.hmac (List.take (32 : Nat) (List.drop (0 : Nat) (D.hmac (List.take (32 : Nat) (List.drop (0 : Nat) c)) d))) (List.take (1 : Nat) (List.drop (0 : Nat) [(1 : Int)])))) ++
                List.take (1 : Nat) (List.drop (0 : Nat) [(2 : Int)]))).length =
          (32 : Nat),
        (D.hmac (List.take (32 : Nat) (List.drop (0 : Nat) (D.hmac (List.take (32 : Nat) (List.drop (0 : Nat) c)) d))) (List.take (1 : Nat) (List.drop (0 : Nat) [(1 : Int)]))).length = (32 : Nat),
        (D.hmac (List.take (32 : Nat) (List.drop (0 : Nat) (D.hmac (List.take (32 : Nat) (List.drop (0 : Nat) c)) d)))
              (List.take (32 : Nat)
                  (List.drop (0 : Nat)
                    (D.hmac (List.take (32 : Nat) (List.drop (0 : Nat) (D.hmac (List.take (32 : Nat) (List.drop (0 : Nat) c)) d))) (List.take (1 : Nat) (List.drop (0 : Nat) [(1 : Int)])))) ++
                List.take (1 : Nat) (List.drop (0 : Nat) [(2 : Int)]))).length =
          (32 : Nat),
        (D.hmac (List.take (32 : Nat) (List.drop (0 : Nat) (D.hmac (List.take (32 : Nat) (List.drop (0 : Nat) c)) d))) (List.take (1 : Nat) (List.drop (0 : Nat) [(1 : Int)]))).length = (32 : Nat),
        (D.hmac (List.take (32 : Nat) (List.drop (0 : Nat) c)) d).length = (32 : Nat), (D.hmac (List.take (32 : Nat) (List.drop (0 : Nat) c)) d).length = (32 : Nat),
        (D.hmac (List.take (32 : Nat) (List.drop (0 : Nat) (D.hmac (List.take (32 : Nat) (List.drop (0 : Nat) c)) d))) (List.take (1 : Nat) (List.drop (0 : Nat) [(1 : Int)]))).length = (32 : Nat),
        (D.hmac (List.take (32 : Nat) (List.drop (0 : Nat) (D.hmac (List.take (32 : Nat) (List.drop (0 : Nat) c)) d)))
              (List.take (32 : Nat)
                  (List.drop (0 : Nat)
                    (D.hmac (List.take (32 : Nat) (List.drop (0 : Nat) (D.hmac (List.take (32 : Nat) (List.drop (0 : Nat) c)) d))) (List.take (1 : Nat) (List.drop (0 : Nat) [(1 : Int)])))) ++
                List.take (1 : Nat) (List.drop (0 : Nat) [(2 : Int)]))).length =
          (32 : Nat),
        (D.hmac (List.take (32 : Nat) (List.drop (0 : Nat) (D.hmac (List.take (32 : Nat) (List.drop (0 : Nat) c)) d)))
              (List.take (32 : Nat)
                  (List.drop (0 : Nat)
                    (D.hmac (List.take (32 : Nat) (List.drop (0 : Nat) (D.hmac (List.take (32 : Nat) (List.drop (0 : Nat) c)) d))) (List.take (1 : Nat) (List.drop (0 : Nat) [(1 : Int)])))) ++
                List.take (1 : Nat) (List.drop (0 : Nat) [(2 : Int)]))).length =
          (32 : Nat),
        (D.hmac (List.take (32 : Nat) (List.drop (0 : Nat) (D.hmac (List.take (32 : Nat) (List.drop (0 : Nat) c)) d))) (List.take (1 : Nat) (List.drop (0 : Nat) [(1 : Int)]))).length = (32 : Nat) ∧
          (D.hmac (List.take (32 : Nat) (List.drop (0 : Nat) (D.hmac (List.take (32 : Nat) (List.drop (0 : Nat) c)) d))) (List.take (1 : Nat) (List.drop (0 : Nat) [(1 : Int)]))).length = (32 : Nat),
        (D.hmac (List.take (32 : Nat) (List.drop (0 : Nat) c)) d).length = (32 : Nat) ∧ (D.hmac (List.take (32 : Nat) (List.drop (0 : Nat) c)) d).length = (32 : Nat),
        (List.take (32 : Nat) (List.drop (0 : Nat) (D.hmac (List.take (32 : Nat) (List.drop (0 : Nat) c)) d))).length ≤ (1000000000 : Nat),
        (List.take (32 : Nat)
              (List.drop (0 : Nat)
                (D.hmac (List.take (32 : Nat) (List.drop (0 : Nat) (D.hmac (List.take (32 : Nat) (List.drop (0 : Nat) c)) d))) (List.take (1 : Nat) (List.drop (0 : Nat) [(1 : Int)]))))).length ≤
          (1000000000 : Nat),
        (1 : Nat) ≤ (1000000000 : Nat), (32 : Nat) ≤ (D.hmac (List.take (32 : Nat) (List.drop (0 : Nat) c)) d).length ∧ (32 : Nat) ≤ (32 : Nat),
        (32 : Nat) ≤ (D.hmac (List.take (32 : Nat) (List.drop (0 : Nat) (D.hmac (List.take (32 : Nat) (List.drop (0 : Nat) c)) d))) (List.take (1 : Nat) (List.drop (0 : Nat) [(1 : Int)]))).length ∧
          (32 : Nat) ≤ (32 : Nat),
        (1 : Nat) ≤ (1 : Nat) ∧ (1 : Nat) ≤ (1 : Nat), (32 : Nat) ≤ (D.hmac (List.take (32 : Nat) (List.drop (0 : Nat) c)) d).length ∧ (32 : Nat) ≤ (32 : Nat),
        (List.take (32 : Nat) (List.drop (0 : Nat) (D.hmac (List.take (32 : Nat) (List.drop (0 : Nat) c)) d))).length =
          (List.take (32 : Nat) (List.drop (0 : Nat) (D.hmac (List.take (32 : Nat) (List.drop (0 : Nat) c)) d))).length,
        List.take (32 : Nat) (List.drop (0 : Nat) (D.hmac (List.take (32 : Nat) (List.drop (0 : Nat) c)) d)) =
          List.take (32 : Nat) (List.drop (0 : Nat) (D.hmac (List.take (32 : Nat) (List.drop (0 : Nat) c)) d)),
        (32 : Nat) ≤ (D.hmac (List.take (32 : Nat) (List.drop (0 : Nat) c)) d).length ∧ (32 : Nat) ≤ (32 : Nat),
        (32 : Nat) ≤ (D.hmac (List.take (32 : Nat) (List.drop (0 : Nat) (D.hmac (List.take (32 : Nat) (List.drop (0 : Nat) c)) d))) (List.take (1 : Nat) (List.drop (0 : Nat) [(1 : Int)]))).length ∧
          (32 : Nat) ≤ (32 : Nat),
        (List.take (32 : Nat)
              (List.drop (0 : Nat)
                (D.hmac (List.take (32 : Nat) (List.drop (0 : Nat) (D.hmac (List.take (32 : Nat) (List.drop (0 : Nat) c)) d))) (List.take (1 : Nat) (List.drop (0 : Nat) [(1 : Int)]))))).length =
          (List.take (32 : Nat)
              (List.drop (0 : Nat)
                (D.hmac (List.take (32 : Nat) (List.drop (0 : Nat) (D.hmac (List.take (32 : Nat) (List.drop (0 : Nat) c)) d))) (List.take (1 : Nat) (List.drop (0 : Nat) [(1 : Int)]))))).length,
        (1 : Nat) ≤ (1 : Nat) ∧ (1 : Nat) ≤ (1 : Nat), (1 : Nat) = (1 : Nat),
        List.take (32 : Nat)
            (List.drop (0 : Nat)
              (D.hmac (List.take (32 : Nat) (List.drop (0 : Nat) (D.hmac (List.take (32 : Nat) (List.drop (0 : Nat) c)) d))) (List.take (1 : Nat) (List.drop (0 : Nat) [(1 : Int)])))) =
          List.take (32 : Nat)
            (List.drop (0 : Nat)
              (D.hmac (List.take (32 : Nat) (List.drop (0 : Nat) (D.hmac (List.take (32 : Nat) (List.drop (0 : Nat) c)) d))) (List.take (1 : Nat) (List.drop (0 : Nat) [(1 : Int)])))),
        (32 : Nat) ≤ (D.hmac (List.take (32 : Nat) (List.drop (0 : Nat) (D.hmac (List.take (32 : Nat) (List.drop (0 : Nat) c)) d))) (List.take (1 : Nat) (List.drop (0 : Nat) [(1 : Int)]))).length ∧
          (32 : Nat) ≤ (32 : Nat),
        List.take (1 : Nat) (List.drop (0 : Nat) [(2 : Int)]) = List.take (1 : Nat) (List.drop (0 : Nat) [(2 : Int)]), (1 : Nat) ≤ (1 : Nat) ∧ (1 : Nat) ≤ (1 : Nat),
        (D.hmac (List.take (32 : Nat) (List.drop (0 : Nat) (D.hmac (List.take (32 : Nat) (List.drop (0 : Nat) c)) d))) (List.take (1 : Nat) (List.drop (0 : Nat) [(1 : Int)]))).length = (32 : Nat),
        (D.hmac (List.take (32 : Nat) (List.drop (0 : Nat) c)) d).length = (32 : Nat),
        (D.hmac (List.take (32 : Nat) (List.drop (0 : Nat) (D.hmac (List.take (32 : Nat) (List.drop (0 : Nat) c)) d))) (List.take (1 : Nat) (List.drop (0 : Nat) [(1 : Int)]))).length = (32 : Nat),
        (List.take (32 : Nat) (List.drop (0 : Nat) (D.hmac (List.take (32 : Nat) (List.drop (0 : Nat) c)) d))).length ≤ (1000000000 : Nat), (1 : Nat) ≤ (1000000000 : Nat),
        (32 : Nat) ≤ (D.hmac (List.take (32 : Nat) (List.drop (0 : Nat) c)) d).length ∧ (32 : Nat) ≤ (32 : Nat), (1 : Nat) ≤ (1 : Nat) ∧ (1 : Nat) ≤ (1 : Nat),
        (32 : Nat) ≤ (D.hmac (List.take (32 : Nat) (List.drop (0 : Nat) c)) d).length ∧ (32 : Nat) ≤ (32 : Nat),
        (List.take (32 : Nat) (List.drop (0 : Nat) (D.hmac (List.take (32 : Nat) (List.drop (0 : Nat) c)) d))).length =
          (List.take (32 : Nat) (List.drop (0 : Nat) (D.hmac (List.take (32 : Nat) (List.drop (0 : Nat) c)) d))).length,
        List.take (32 : Nat) (List.drop (0 : Nat) (D.hmac (List.take (32 : Nat) (List.drop (0 : Nat) c)) d)) =
          List.take (32 : Nat) (List.drop (0 : Nat) (D.hmac (List.take (32 : Nat) (List.drop (0 : Nat) c)) d)),
        (32 : Nat) ≤ (D.hmac (List.take (32 : Nat) (List.drop (0 : Nat) c)) d).length ∧ (32 : Nat) ≤ (32 : Nat), (1 : Nat) ≤ (1 : Nat) ∧ (1 : Nat) ≤ (1 : Nat), (1 : Nat) = (1 : Nat),
        List.take (1 : Nat) (List.drop (0 : Nat) [(1 : Int)]) = List.take (1 : Nat) (List.drop (0 : Nat) [(1 : Int)]), (1 : Nat) ≤ (1 : Nat) ∧ (1 : Nat) ≤ (1 : Nat),
        (D.hmac (List.take (32 : Nat) (List.drop (0 : Nat) c)) d).length = (32 : Nat), (List.take (32 : Nat) (List.drop (0 : Nat) c)).length ≤ (1000000000 : Nat), d.length ≤ (1000000000 : Nat),
        (32 : Nat) ≤ c.length ∧ (32 : Nat) ≤ (32 : Nat), (32 : Nat) ≤ c.length ∧ (32 : Nat) ≤ (32 : Nat),
        (List.take (32 : Nat) (List.drop (0 : Nat) c)).length = (List.take (32 : Nat) (List.drop (0 : Nat) c)).length,
        List.take (32 : Nat) (List.drop (0 : Nat) c) = List.take (32 : Nat) (List.drop (0 : Nat) c), (32 : Nat) ≤ c.length ∧ (32 : Nat) ≤ (32 : Nat), n = n, d.length = d.length, d = d,
        c.length = (32 : Nat)],
    val :=
      SV.tup
        [SV.ai IntKind.u8 (D.hmac (List.take (32 : Nat) (List.drop (0 : Nat) (D.hmac (List.take (32 : Nat) (List.drop (0 : Nat) c)) d))) (List.take (1 : Nat) (List.drop (0 : Nat) [(1 : Int)]))),
          SV.ai IntKind.u8
            (D.hmac (List.take (32 : Nat) (List.drop (0 : Nat) (D.hmac (List.take (32 : Nat) (List.drop (0 : Nat) c)) d)))
              (List.take (32 : Nat)
                  (List.drop (0 : Nat)
                    (D.hmac (List.take (32 : Nat) (List.drop (0 : Nat) (D.hmac (List.take (32 : Nat) (List.drop (0 : Nat) c)) d))) (List.take (1 : Nat) (List.drop (0 : Nat) [(1 : Int)])))) ++
                List.take (1 : Nat) (List.drop (0 : Nat) [(2 : Int)])))] } := by kernel_rfl

end Go.Proofs.YtdhombdiakjdhaaGreatDoor.Sx
end
section
open Go
set_option maxRecDepth 100000
namespace Go.Proofs.YtdhombdiakjdhaaGreatDoor.Sx

theorem t9_call {c d : List Int} (hcl : c.length = 32) (hdl : d.length ≤ 1000000000) (Γ : Env) (hg : Γ.glob = globs) :
    CallOK Tryz.prog Γ 9 [.agg (fastV 59), .ai .u8 c, .ros 61 d.length] (t9T d) 100 100 { val := .tup [.ai .u8 (D.ka c d), .ai .u8 (D.kb c d)] } := by
  have hs : SumOK Tryz.prog (env exHm 4) 9 (interp (env exHm 4) Tryz.f9 true [] 1500) :=
    interp_ok (env_ty exHm 4) (env_ok exHm exHm_ok 4) mix Tryz.func9 (by kernel_rfl) true [] 1500
  have tc : List.take 32 (List.drop 0 c) = c := ar_same hcl
  refine (hs.call (t9_0 c d d.length) (of_allP ?_)).words (by rw [hg]; rfl) (fun _ => rfl) (fun _ _ h => h) (fun V => ?_) rfl rfl
  · simp only [allP, tc, tkh, tk1, List.nil_append, D.hmac_length, List.length_append, List.length_cons, List.length_nil]
    repeat' (first | with_reducible exact trivial | with_reducible assumption | with_reducible apply And.intro | omega)
  · simp only [tc, tkh, tk1, List.nil_append, ka_eq, kb_eq]
def t9Dec (vs : List SV) (T : Tab) : Option Canon := match vs with
  | [.agg (.int true .i64 e :: .fn (.func f) [] [.ptr L _ _] :: _), cv, p] => match beqI e 1 && Nat.beq f 29, intsOf cv, seqRo T .u8 p with
    | true, some (.u8, c), some (ob, d) => some { vs0 := [.agg (fastV 59), .ai .u8 c, .ros 61 d.length], T0 := [(59, .roc [.raw (.pointer none)]), (61, .rov .u8 d)], vl := [(59, .lab L 0), (61, .arg 2)], e0 := { val := .tup [.ai .u8 (D.ka c d), .ai .u8 (D.kb c d)] }, conds := [c.length = 32, d.length ≤ 1000000000] ++ ob }
    | _, _, _ => none
  | _ => none
theorem t9_ok (Γ : Env) (hg : Γ.glob = globs) : SumOK Tryz.prog Γ 9 (canonS globs 100 t9Dec) := by
  refine canonS_ok hg fun vs T c hd hc => ?_
  unfold t9Dec at hd
  split at hd
  case h_2 => cases hd
  split at hd
  case h_2 => cases hd
  cases hd
  exact t9_call (hc _ (by simp)) (hc _ (by simp)) Γ hg
end Go.Proofs.YtdhombdiakjdhaaGreatDoor.Sx
end
section
open Go
set_option maxRecDepth 100000
namespace Go.Proofs.YtdhombdiakjdhaaGreatDoor.Sx

/-- What is owed: closed facts. -/
def knO : List Prop := [(6 : Nat) ≤ (64 : Nat), (1 : Nat) ≤ (1 : Nat) ∧ (1 : Nat) ≤ (3 : Nat), (7 : Nat) ≤ (100000000 : Nat), (6 : Nat) ≤ (6 : Nat) ∧ (6 : Nat) ≤ (6 : Nat), (7 : Nat) ≤ (7 : Nat) ∧ (7 : Nat) ≤ (7 : Nat), (6 : Nat) ≤ (6 : Nat) ∧ (6 : Nat) ≤ (6 : Nat), (6 : Nat) = (6 : Nat), List.take (6 : Nat) (List.drop (0 : Nat) ([112, 105, 110, 116, 108, 101] : List Int)) = List.take (6 : Nat) (List.drop (0 : Nat) ([112, 105, 110, 116, 108, 101] : List Int)), (6 : Nat) ≤ (6 : Nat) ∧ (6 : Nat) ≤ (6 : Nat), (7 : Nat) ≤ (7 : Nat) ∧ (7 : Nat) ≤ (7 : Nat), (7 : Nat) = (7 : Nat), List.take (7 : Nat) (List.drop (0 : Nat) ([103, 117, 100, 103, 101, 111, 110] : List Int)) = List.take (7 : Nat) (List.drop (0 : Nat) ([103, 117, 100, 103, 101, 111, 110] : List Int)), (7 : Nat) ≤ (7 : Nat) ∧ (7 : Nat) ≤ (7 : Nat), (32 : Nat) ≤ (64 : Nat), (1 : Nat) ≤ (2 : Nat) ∧ (2 : Nat) ≤ (3 : Nat), (33 : Nat) ≤ (100000000 : Nat), (32 : Nat) ≤ (32 : Nat) ∧ (32 : Nat) ≤ (32 : Nat), (32 : Nat) ≤ (32 : Nat) ∧ (32 : Nat) ≤ (32 : Nat), (1 : Nat) ≤ (1 : Nat) ∧ (1 : Nat) ≤ (1 : Nat), (32 : Nat) ≤ (32 : Nat) ∧ (32 : Nat) ≤ (32 : Nat), (32 : Nat) = (32 : Nat), List.take (32 : Nat) (List.drop (0 : Nat) kT) = List.take (32 : Nat) (List.drop (0 : Nat) kT), (32 : Nat) ≤ (32 : Nat) ∧ (32 : Nat) ≤ (32 : Nat), (32 : Nat) ≤ (32 : Nat) ∧ (32 : Nat) ≤ (32 : Nat), (32 : Nat) = (32 : Nat), (1 : Nat) ≤ (1 : Nat) ∧ (1 : Nat) ≤ (1 : Nat), (1 : Nat) = (1 : Nat), List.take (32 : Nat) (List.drop (0 : Nat) kY) = List.take (32 : Nat) (List.drop (0 : Nat) kY), (32 : Nat) ≤ (32 : Nat) ∧ (32 : Nat) ≤ (32 : Nat), List.take (1 : Nat) (List.drop (0 : Nat) ([3] : List Int)) = List.take (1 : Nat) (List.drop (0 : Nat) ([3] : List Int)), (1 : Nat) ≤ (1 : Nat) ∧ (1 : Nat) ≤ (1 : Nat), (32 : Nat) ≤ (64 : Nat), (1 : Nat) ≤ (2 : Nat) ∧ (2 : Nat) ≤ (3 : Nat), (33 : Nat) ≤ (100000000 : Nat), (32 : Nat) ≤ (32 : Nat) ∧ (32 : Nat) ≤ (32 : Nat), (32 : Nat) ≤ (32 : Nat) ∧ (32 : Nat) ≤ (32 : Nat), (1 : Nat) ≤ (1 : Nat) ∧ (1 : Nat) ≤ (1 : Nat), (32 : Nat) ≤ (32 : Nat) ∧ (32 : Nat) ≤ (32 : Nat), (32 : Nat) = (32 : Nat), List.take (32 : Nat) (List.drop (0 : Nat) kT) = List.take (32 : Nat) (List.drop (0 : Nat) kT), (32 : Nat) ≤ (32 : Nat) ∧ (32 : Nat) ≤ (32 : Nat), (32 : Nat) ≤ (32 : Nat) ∧ (32 : Nat) ≤ (32 : Nat), (32 : Nat) = (32 : Nat), (1 : Nat) ≤ (1 : Nat) ∧ (1 : Nat) ≤ (1 : Nat), (1 : Nat) = (1 : Nat), List.take (32 : Nat) (List.drop (0 : Nat) kX) = List.take (32 : Nat) (List.drop (0 : Nat) kX), (32 : Nat) ≤ (32 : Nat) ∧ (32 : Nat) ≤ (32 : Nat), List.take (1 : Nat) (List.drop (0 : Nat) ([2] : List Int)) = List.take (1 : Nat) (List.drop (0 : Nat) ([2] : List Int)), (1 : Nat) ≤ (1 : Nat) ∧ (1 : Nat) ≤ (1 : Nat), (32 : Nat) ≤ (64 : Nat), (1 : Nat) ≤ (1 : Nat) ∧ (1 : Nat) ≤ (3 : Nat), (1 : Nat) ≤ (100000000 : Nat), (32 : Nat) ≤ (32 : Nat) ∧ (32 : Nat) ≤ (32 : Nat), (1 : Nat) ≤ (1 : Nat) ∧ (1 : Nat) ≤ (1 : Nat), (32 : Nat) ≤ (32 : Nat) ∧ (32 : Nat) ≤ (32 : Nat), (32 : Nat) = (32 : Nat), List.take (32 : Nat) (List.drop (0 : Nat) kT) = List.take (32 : Nat) (List.drop (0 : Nat) kT), (32 : Nat) ≤ (32 : Nat) ∧ (32 : Nat) ≤ (32 : Nat), (1 : Nat) ≤ (1 : Nat) ∧ (1 : Nat) ≤ (1 : Nat), (1 : Nat) = (1 : Nat), List.take (1 : Nat) (List.drop (0 : Nat) ([1] : List Int)) = List.take (1 : Nat) (List.drop (0 : Nat) ([1] : List Int)), (1 : Nat) ≤ (1 : Nat) ∧ (1 : Nat) ≤ (1 : Nat), (32 : Nat) ≤ (64 : Nat), (1 : Nat) ≤ (1 : Nat) ∧ (1 : Nat) ≤ (3 : Nat), (0 : Nat) ≤ (100000000 : Nat), (32 : Nat) ≤ (32 : Nat) ∧ (32 : Nat) ≤ (32 : Nat), (32 : Nat) ≤ (32 : Nat) ∧ (32 : Nat) ≤ (32 : Nat), (32 : Nat) = (32 : Nat), List.take (32 : Nat) (List.drop (0 : Nat) z32) = List.take (32 : Nat) (List.drop (0 : Nat) z32), (32 : Nat) ≤ (32 : Nat) ∧ (32 : Nat) ≤ (32 : Nat), (0 : Nat) = (0 : Nat), ([] : List Int) = [], (32 : Nat) ≤ (64 : Nat), (1 : Nat) ≤ (2 : Nat) ∧ (2 : Nat) ≤ (3 : Nat), (33 : Nat) ≤ (100000000 : Nat), (32 : Nat) ≤ (32 : Nat) ∧ (32 : Nat) ≤ (32 : Nat), (32 : Nat) ≤ (32 : Nat) ∧ (32 : Nat) ≤ (32 : Nat), (1 : Nat) ≤ (1 : Nat) ∧ (1 : Nat) ≤ (1 : Nat), (32 : Nat) ≤ (32 : Nat) ∧ (32 : Nat) ≤ (32 : Nat), (32 : Nat) = (32 : Nat), List.take (32 : Nat) (List.drop (0 : Nat) kT) = List.take (32 : Nat) (List.drop (0 : Nat) kT), (32 : Nat) ≤ (32 : Nat) ∧ (32 : Nat) ≤ (32 : Nat), (32 : Nat) ≤ (32 : Nat) ∧ (32 : Nat) ≤ (32 : Nat), (32 : Nat) = (32 : Nat), (1 : Nat) ≤ (1 : Nat) ∧ (1 : Nat) ≤ (1 : Nat), (1 : Nat) = (1 : Nat), List.take (32 : Nat) (List.drop (0 : Nat) kX) = List.take (32 : Nat) (List.drop (0 : Nat) kX), (32 : Nat) ≤ (32 : Nat) ∧ (32 : Nat) ≤ (32 : Nat), List.take (1 : Nat) (List.drop (0 : Nat) ([2] : List Int)) = List.take (1 : Nat) (List.drop (0 : Nat) ([2] : List Int)), (1 : Nat) ≤ (1 : Nat) ∧ (1 : Nat) ≤ (1 : Nat), (32 : Nat) ≤ (64 : Nat), (1 : Nat) ≤ (1 : Nat) ∧ (1 : Nat) ≤ (3 : Nat), (1 : Nat) ≤ (100000000 : Nat), (32 : Nat) ≤ (32 : Nat) ∧ (32 : Nat) ≤ (32 : Nat), (1 : Nat) ≤ (1 : Nat) ∧ (1 : Nat) ≤ (1 : Nat), (32 : Nat) ≤ (32 : Nat) ∧ (32 : Nat) ≤ (32 : Nat), (32 : Nat) = (32 : Nat), List.take (32 : Nat) (List.drop (0 : Nat) kT) = List.take (32 : Nat) (List.drop (0 : Nat) kT), (32 : Nat) ≤ (32 : Nat) ∧ (32 : Nat) ≤ (32 : Nat), (1 : Nat) ≤ (1 : Nat) ∧ (1 : Nat) ≤ (1 : Nat), (1 : Nat) = (1 : Nat), List.take (1 : Nat) (List.drop (0 : Nat) ([1] : List Int)) = List.take (1 : Nat) (List.drop (0 : Nat) ([1] : List Int)), (1 : Nat) ≤ (1 : Nat) ∧ (1 : Nat) ≤ (1 : Nat), (32 : Nat) ≤ (64 : Nat), (1 : Nat) ≤ (1 : Nat) ∧ (1 : Nat) ≤ (3 : Nat), (0 : Nat) ≤ (100000000 : Nat), (32 : Nat) ≤ (32 : Nat) ∧ (32 : Nat) ≤ (32 : Nat), (32 : Nat) ≤ (32 : Nat) ∧ (32 : Nat) ≤ (32 : Nat), (32 : Nat) = (32 : Nat), List.take (32 : Nat) (List.drop (0 : Nat) z32) = List.take (32 : Nat) (List.drop (0 : Nat) z32), (32 : Nat) ≤ (32 : Nat) ∧ (32 : Nat) ≤ (32 : Nat), (0 : Nat) = (0 : Nat), ([] : List Int) = [], (6 : Nat) ≤ (64 : Nat), (1 : Nat) ≤ (3 : Nat) ∧ (3 : Nat) ≤ (3 : Nat), (7 : Nat) ≤ (100000000 : Nat), (6 : Nat) ≤ (6 : Nat) ∧ (6 : Nat) ≤ (6 : Nat), (3 : Nat) ≤ (3 : Nat) ∧ (3 : Nat) ≤ (3 : Nat), (4 : Nat) ≤ (4 : Nat) ∧ (4 : Nat) ≤ (4 : Nat), (6 : Nat) ≤ (6 : Nat) ∧ (6 : Nat) ≤ (6 : Nat), (6 : Nat) = (6 : Nat), List.take (6 : Nat) (List.drop (0 : Nat) ([112, 105, 110, 116, 108, 101] : List Int)) = List.take (6 : Nat) (List.drop (0 : Nat) ([112, 105, 110, 116, 108, 101] : List Int)), (6 : Nat) ≤ (6 : Nat) ∧ (6 : Nat) ≤ (6 : Nat), (3 : Nat) ≤ (3 : Nat) ∧ (3 : Nat) ≤ (3 : Nat), (3 : Nat) = (3 : Nat), (0 : Nat) = (0 : Nat), (4 : Nat) ≤ (4 : Nat) ∧ (4 : Nat) ≤ (4 : Nat), (4 : Nat) = (4 : Nat), List.take (3 : Nat) (List.drop (0 : Nat) ([103, 117, 100] : List Int)) = List.take (3 : Nat) (List.drop (0 : Nat) ([103, 117, 100] : List Int)), (3 : Nat) ≤ (3 : Nat) ∧ (3 : Nat) ≤ (3 : Nat), ([] : List Int) = [], List.take (4 : Nat) (List.drop (0 : Nat) ([103, 101, 111, 110] : List Int)) = List.take (4 : Nat) (List.drop (0 : Nat) ([103, 101, 111, 110] : List Int)), (4 : Nat) ≤ (4 : Nat) ∧ (4 : Nat) ≤ (4 : Nat)]
theorem kn_0 : interp (env exPm 6) Tryz.f7 true [] 1500 [] glT 100 100 = some { obl := knO, val := .bool true true } := by kernel_rfl
theorem kn_O : ∀ q ∈ knO, q := by
  unfold knO
  refine of_allP ?_
  simp only [allP]
  repeat' (first | with_reducible exact trivial | with_reducible rfl | with_reducible apply And.intro | omega)
theorem kn_call (Γ : Env) (hg : Γ.glob = globs) : CallOK Tryz.prog Γ 7 [] glT 100 100 { val := .bool true true } := by
  have hs : SumOK Tryz.prog (env exPm 6) 7 (interp (env exPm 6) Tryz.f7 true [] 1500) :=
    interp_ok (env_ty exPm 6) (env_ok exPm exPm_ok 6) mix Tryz.func7 (by kernel_rfl) true [] 1500
  exact (hs.call kn_0 kn_O).words (by rw [hg]; rfl) (fun _ => rfl) (fun _ _ h => h) (fun _ => rfl) rfl rfl
def knDec (vs : List SV) (_ : Tab) : Option Canon := match vs with
  | [] => some { vs0 := [], T0 := glB, vl := [], e0 := { val := .bool true true } }
  | _ => none
theorem kn_ok (Γ : Env) (hg : Γ.glob = globs) : SumOK Tryz.prog Γ 7 (canonS globs 100 knDec) := by
  refine canonS_ok hg fun vs T c hd hc => ?_
  unfold knDec at hd
  split at hd
  case h_2 => cases hd
  cases hd
  exact kn_call Γ hg

/-- What the law calls. -/
noncomputable def exF1 : Nat → Option Sum := addS exA 7 (canonS globs 100 knDec)
noncomputable def exF2 : Nat → Option Sum := addS exF1 9 (canonS globs 100 t9Dec)
noncomputable def exF3 : Nat → Option Sum := addS exF2 10 (canonS globs 100 t12Dec)
noncomputable def exF4 : Nat → Option Sum := addS exF3 11 (canonS globs 100 hmDec)
noncomputable def exF5 : Nat → Option Sum := addS exF4 12 (canonS globs 100 h12Dec)
noncomputable def exF : Nat → Option Sum := addS exF5 13 (canonS globs 100 rdDec)
theorem exF_ok : ∀ f S, exF f = some S → ∀ Γ : Env, Γ.glob = globs → SumOK Tryz.prog Γ f S :=
  addS_ok (addS_ok (addS_ok (addS_ok (addS_ok (addS_ok (fun f S h Γ _ => exA_ok f S h Γ) 7 _ kn_ok) 9 _ t9_ok) 10 _ t12_ok) 11 _ hm_ok) 12 _ h12_ok) 13 _ rd_ok
noncomputable def ΓF : Env := env exF 4
def f3Vs (n m : Nat) (c : List Int) (at_ by_ : Int) : List SV := [.ros 61 n, .ros 62 m, .ai .u8 c, .int false .i64 at_, .int false .u8 by_]
def f3L (ka kb : List Int) : List (Nat × SB) := (61, .rov .u8 ka) :: (62, .rov .u8 kb) :: glB
def f3T (ka kb : List Int) : Tab := fun l => look l (f3L ka kb)
end Go.Proofs.YtdhombdiakjdhaaGreatDoor.Sx
end
section
open Go Go.Proofs.YtdhombdiakjdhaaGreatDoor
set_option maxRecDepth 100000
namespace Go.Proofs.YtdhombdiakjdhaaGreatDoor.Kdp
open Go.ChangeShapes Go.WideShapes Go.ChangeAt Go.RowKit Go.Proofs.YtdhombdiakjdhaaGreatDoor.Sx

theorem calls {P : Program} {Γ : Env} {f : FuncId} {fn : Func} {c : Code} {vs : List SV} {T : Tab} {lab F : Nat} {e : Eff} (h : CallOK P Γ f vs T lab F e) (hfn : P.funcs[f]? = some fn) (hne : (fn.name == "runtime.NumGoroutine") = false) (hc : fn.body = some c)
    {w0 : World} {M : Nat → Prop} {V : Val} {w : World} {xs : List Value} (hT : TabOK w0 M V T w) (hg : GlobOK Γ V) (hf : V.fresh lab) (hF : V.top F) (hx : denL V vs = some xs)
    {R : Ending → World → Prop} (hR : ∀ V' x w', V.ext lab V' → den V' e.val = some x → TabOK w0 M V' (upd T lab e) w' → R (.returned x) w') : Calls P f xs.toArray w R := by
  have h1 := h w0 M V T w xs (fun _ _ h => h) hT hg hf hF hx { dst := some 0, op := .ready 0, type := 0, pos := "", after := #[], guard := none } { tmps := #[Value.nilFunc], defers := [] } (fun a' w' => ∀ x, a'.tmps[0]? = some x → R (.returned x) w') (fun _ _ _ => False)
    (fun V' x w' h1 h2 h3 y hy => by
      simp [Act.put] at hy
      subst hy
      exact hR V' _ w' h1 h2 h3)
  rw [callFunc_enter hfn hc hne, Oper.upon_enter] at h1
  refine h1.mono fun e w' he => ?_
  cases e with
  | returned v => exact he v (by simp [Act.put])
  | panicked ch => exact he.elim
  | outgrown => obtain ⟨_, _, hh⟩ := he; exact hh.elim
theorem laid_var {P : Program} {W : World} : ∀ {laid : List (String × DataW Unit)} {ps : List MemPlace}, DataW.LaidVars P W laid ps → ∀ name d, (name, d) ∈ laid →
    ∃ g t cs fuel p, P.globalNamed name = some g ∧ (P.globals[g]?).map (·.type) = some t ∧ W.var? P name = some cs ∧ DataW.trod (fun _ => ()) P W 0 (fun _ => true) false fuel t cs.toList = some (d, p) ∧ ∀ x ∈ MemPlace.row ⟨g, 0, none⟩ cs.size ++ p, x ∈ ps
  | [], _, _, _, _, h => by cases h
  | (n, d0) :: r, ps, hl, name, d, h => by
    obtain ⟨g, t, cs, fuel, p, q, h1, h2, h3, h4, h5, rfl⟩ := hl
    rcases List.mem_cons.1 h with e | h
    · cases e
      exact ⟨g, t, cs, fuel, p, h1, h2, h3, h4, fun x hx => List.mem_append_left _ hx⟩
    · obtain ⟨g', t', cs', fuel', p', k1, k2, k3, k4, k5⟩ := laid_var h5 name d h
      exact ⟨g', t', cs', fuel', p', k1, k2, k3, k4, fun x hx => List.mem_append_right _ (k5 x hx)⟩

/-- An array of arrays of integers, cell by cell. -/
theorem cells_of_rows {P : Program} {W : World} {fuel : Nat} {t e c : TypeId} {n m : Nat} {k : IntKind} {cs : List Value} {zss : List (List Int)} {p : List MemPlace}
    (ht : P.underlying t = some (.array n e)) (he : P.underlying e = some (.array m c)) (hc : P.underlying c = some (.int k)) (hcc : P.cellsOf c = 1) (hce : P.cellsOf e = m)
    (h : DataW.trod (fun _ => ()) P W 0 (fun _ => true) false fuel t cs = some (.agg (zss.map fun zs => Lib.tabData k zs), p)) (i j : Nat) (zs : List Int) (z : Int) (hi : zss[i]? = some zs) (hj : zs[j]? = some z) (hjm : j < m) :
    cs[i * m + j]? = some (.int k z) := by
  obtain ⟨xs, f, _, hx, hlen, hn, hel⟩ := DataW.trod_array ht h
  simp only [Prod.mk.injEq, DataW.agg.injEq] at hx
  have hin : i < n := by
    have h1 := (List.getElem?_eq_some_iff.1 hi).1
    have h2 := congrArg List.length hx.1
    simp only [List.length_map] at h2
    omega
  have hrow := hel i hin
  have hxi : (xs.map (·.1))[i]? = some (Lib.tabData k zs) := by rw [← hx.1, List.getElem?_map, hi]; rfl
  rw [List.getElem?_map] at hxi
  obtain ⟨y, hy, hy2⟩ := Option.map_eq_some_iff.1 hxi
  rw [hy] at hrow
  obtain ⟨d, q⟩ := y
  simp only at hy2
  subst hy2
  rw [hce] at hrow
  have := Lib.cells_of_tab he hc hcc hce hrow
  have h3 := congrArg (·[j]?) this
  simp only [List.getElem?_take, List.getElem?_drop, List.getElem?_map, hj, Option.map_some, if_pos hjm] at h3
  exact h3

theorem cell_lt {w : World} {b o : Nat} {v : Value} (h : w.cell? ⟨b, o, none⟩ = some v) : b < w.heap.size := by
  unfold World.cell? at h
  simp only at h
  cases hb : w.heap[b]? with
  | none => rw [hb] at h; simp at h
  | some x => exact (Array.getElem?_eq_some_iff.1 hb).1


/-- Numbers that are listed. -/
theorem tab_cells {W : World} {laid : List (String × DataW Unit)} (h : laidMet Tryz.prog laid W) (name : String) (g t e n : Nat) (k : IntKind) (zs : List Int) (hm : (name, Lib.tabData k zs) ∈ laid) (hg : Tryz.prog.globalNamed name = some g) (ht : (Tryz.prog.globals[g]?).map (·.type) = some t)
    (h1 : Tryz.prog.underlying t = some (.array n e)) (h2 : Tryz.prog.underlying e = some (.int k)) (h3 : Tryz.prog.cellsOf e = 1) (h4 : Tryz.prog.cellsOf t = n) (j : Nat) (z : Int) (hj : zs[j]? = some z) : W.cell? ⟨g, j, none⟩ = some (.int k z) := by
  obtain ⟨ps, hl, _, _⟩ := h
  obtain ⟨g', t', cs, fuel, p, k1, k2, k3, k4, _⟩ := laid_var hl _ _ hm
  obtain rfl := Option.some.inj (hg.symm.trans k1)
  obtain rfl := Option.some.inj (ht.symm.trans k2)
  have hcs := Lib.cells_of_tab h1 h2 h3 h4 k4
  have := World.var?_cell hg k3 j
  rw [this, ← Array.getElem?_toList, hcs, List.getElem?_map, hj]
  rfl
/-- Rows of numbers that are listed. -/
theorem rows_cells {W : World} {laid : List (String × DataW Unit)} (h : laidMet Tryz.prog laid W) (name : String) (g t e c n m : Nat) (zss : List (List Int)) (hm : (name, DataW.agg (zss.map fun zs => Lib.tabData .i64 zs)) ∈ laid) (hg : Tryz.prog.globalNamed name = some g) (ht : (Tryz.prog.globals[g]?).map (·.type) = some t)
    (h1 : Tryz.prog.underlying t = some (.array n e)) (h2 : Tryz.prog.underlying e = some (.array m c)) (h3 : Tryz.prog.underlying c = some (.int .i64)) (h4 : Tryz.prog.cellsOf c = 1) (h5 : Tryz.prog.cellsOf e = m) (i j : Nat) (zs : List Int) (z : Int)
    (hi : zss[i]? = some zs) (hj : zs[j]? = some z) (hjm : j < m) : W.cell? ⟨g, i * m + j, none⟩ = some (.int .i64 z) := by
  obtain ⟨ps, hl, _, _⟩ := h
  obtain ⟨g', t', cs, fuel, p, k1, k2, k3, k4, _⟩ := laid_var hl _ _ hm
  obtain rfl := Option.some.inj (hg.symm.trans k1)
  obtain rfl := Option.some.inj (ht.symm.trans k2)
  have hcs := cells_of_rows h1 h2 h3 h4 h5 k4 i j zs z hi hj hjm
  have := World.var?_cell hg k3 (i * m + j)
  rw [this, ← Array.getElem?_toList, hcs]

theorem denL_intsT (V : Val) (k : IntKind) : ∀ zs : List Int, denL V (zs.map (SV.int true k)) = some (zs.map (Value.int k))
  | [] => rfl
  | z :: r => by simp [denL, den, denL_intsT V k r]

theorem roc_ints {V : Val} {w : World} {l : Nat} {k : IntKind} {zs : List Int} (h0 : 0 < zs.length) (hl : V.β l = some (l, 0)) (hc : ∀ (j : Nat) (z : Int), zs[j]? = some z → w.cell? ⟨l, j, none⟩ = some (.int k z)) : okB V w l (.roc (zs.map (SV.int true k))) := by
  refine ⟨zs.map (Value.int k), denL_intsT V k zs, l, 0, hl, ⟨cell_lt (hc 0 zs[0] (List.getElem?_eq_getElem h0)), fun s hs => ?_⟩, fun j v hj => ?_⟩
  · rw [List.getElem?_map] at hs
    obtain ⟨z, _, hz⟩ := Option.map_eq_some_iff.1 hs
    cases hz
  · rw [List.getElem?_map] at hj
    obtain ⟨z, hz, rfl⟩ := Option.map_eq_some_iff.1 hj
    simpa using hc j z hz


def rowsZ : List (List Int) := [[0, 4, 8, 12], [1, 5, 9, 13], [2, 6, 10, 14], [3, 7, 11, 15], [0, 5, 10, 15], [1, 6, 11, 12], [2, 7, 8, 13], [3, 4, 9, 14]]
def ordZ : List (List Int) := D.orders.map fun r => r.map fun n : Nat => (n : Int)
theorem flat_rows (j : Nat) (z : Int) (h : rowsI[j]? = some z) : ∃ i k zs, j = i * 4 + k ∧ k < 4 ∧ rowsZ[i]? = some zs ∧ zs[k]? = some z := by
  have hj : j < 32 := (List.getElem?_eq_some_iff.1 h).1
  have key : ∀ j : Fin 32, (rowsZ[j.1 / 4]?).bind (·[j.1 % 4]?) = rowsI[j.1]? := by decide
  have := key ⟨j, hj⟩
  simp only [h, Option.bind_eq_some_iff] at this
  obtain ⟨zs, h1, h2⟩ := this
  exact ⟨j / 4, j % 4, zs, by omega, Nat.mod_lt _ (by omega), h1, h2⟩
theorem flat_ord (j : Nat) (z : Int) (h : ordI[j]? = some z) : ∃ i k zs, j = i * 16 + k ∧ k < 16 ∧ ordZ[i]? = some zs ∧ zs[k]? = some z := by
  have hj : j < 160 := (List.getElem?_eq_some_iff.1 h).1
  have key : ∀ j : Fin 160, (ordZ[j.1 / 16]?).bind (·[j.1 % 16]?) = ordI[j.1]? := by decide
  have := key ⟨j, hj⟩
  simp only [h, Option.bind_eq_some_iff] at this
  obtain ⟨zs, h1, h2⟩ := this
  exact ⟨j / 16, j % 16, zs, by omega, Nat.mod_lt _ (by omega), h1, h2⟩

theorem ros_den {w : World} {k : IntKind} {v : Value} {ys : List Int} (h : RdOK w k v ys) : rosV ys.length v = some v := by
  rcases h with ⟨⟨a, rfl⟩, rfl⟩ | ⟨b, o, c, rfl, _, hle, _⟩
  · cases a <;> simp [rosV]
  · simp [rosV, hle]
/-- The listed tables, as the walks of the keyed digests want them. -/
abbrev listed : List (String × DataW Unit) := Rows.kdfPiecesRow.laid
/-- WHAT A WALK IS HANDED: blocks of the caller's, at labels below 100, beside the program's tables. -/
theorem laid_ok {W : World} (h : laidMet Tryz.prog listed W) (xs : List (Nat × SB)) (sl : List (Nat × Value)) (hsl : sl.all (fun x => Nat.blt x.1 100) = true)
    (hx : ∀ V : Val, (∀ l, V.σ l = Sx.look l sl) → ∀ x ∈ xs, okB V W x.1 x.2 ∧ x.2.owned = false ∧ froB W (fun _ => False) V x.1 x.2) :
    ∃ V : Val, TabOK W (fun _ => False) V (fun l => Sx.look l (xs ++ glB)) W ∧ (∀ k l, Sx.look k globs = some l → V.β l = some (k, 0)) ∧ V.top 100 ∧ ∀ l, V.σ l = Sx.look l sl := by
  have pick : ∀ {x : String × DataW Unit} (i : Nat), listed[i]? = some x → x ∈ listed := fun i hi => List.mem_of_getElem? hi
  have hr := rows_cells h "pintle/slow.rows" 3 204 203 3 8 4 rowsZ (pick 9 rfl) (by kernel_rfl) (by kernel_rfl) Tryz.underlying204 Tryz.underlying203 Tryz.underlying3 (by kernel_rfl) (by kernel_rfl)
  have ho := rows_cells h "pintle/slow.orders" 5 249 211 3 10 16 ordZ (pick 10 rfl) (by kernel_rfl) (by kernel_rfl) Tryz.underlying249 Tryz.underlying211 Tryz.underlying3 (by kernel_rfl) (by kernel_rfl)
  have hi := tab_cells h "pintle/slow.initial" 4 190 66 8 .u32 D.iv (pick 11 rfl) (by kernel_rfl) (by kernel_rfl) Tryz.underlying190 Tryz.underlying66 (by kernel_rfl) (by kernel_rfl)
  let bl : List (Nat × (Nat × Nat)) := [(3, (3, 0)), (4, (4, 0)), (5, (5, 0))]
  let V : Val := ⟨fun l => Sx.look l bl, fun l => Sx.look l sl⟩
  have all : ∀ l B, Sx.look l (xs ++ glB) = some B → okB V W l B ∧ B.owned = false ∧ froB W (fun _ => False) V l B := by
    intro l B hl
    rcases List.mem_append.1 (look_mem hl) with hm | hm
    · exact hx V (fun _ => rfl) _ hm
    simp only [glB, List.mem_cons, List.not_mem_nil, or_false, Prod.mk.injEq] at hm
    rcases hm with ⟨rfl, rfl⟩ | ⟨rfl, rfl⟩ | ⟨rfl, rfl⟩
    · exact ⟨roc_ints (zs := rowsI) (by decide) rfl fun j z hj => (by
        obtain ⟨i, k, zs, rfl, hk, h1, h2⟩ := flat_rows j z hj
        exact hr i k zs z h1 h2 hk), rfl, trivial⟩
    · exact ⟨roc_ints (zs := D.iv) (by decide) rfl hi, rfl, trivial⟩
    · exact ⟨roc_ints (zs := ordI) (by decide) rfl fun j z hj => (by
        obtain ⟨i, k, zs, rfl, hk, h1, h2⟩ := flat_ord j z hj
        exact ho i k zs z h1 h2 hk), rfl, trivial⟩
  refine ⟨V, ⟨fun l B hl => (all l B hl).1, fun l B l' B' n _ hl _ ho => ?_, fun l B n hl ho => ?_, FrameOK.refl _ _, fun l B hl => (all l B hl).2.2⟩, fun k l hk => ?_, fun l hl => ⟨?_, ?_⟩, fun _ => rfl⟩
  · rw [(all l B hl).2.1] at ho; cases ho
  · rw [(all l B hl).2.1] at ho; cases ho
  · have hm := look_mem hk
    simp only [globs, List.mem_cons, List.not_mem_nil, or_false, Prod.mk.injEq] at hm
    rcases hm with ⟨rfl, rfl⟩ | ⟨rfl, rfl⟩ | ⟨rfl, rfl⟩ <;> rfl
  · show Sx.look l bl = none
    cases hlk : Sx.look l bl with
    | none => rfl
    | some p =>
      exfalso
      have hm := look_mem hlk
      have hall : bl.all (fun x => Nat.blt x.1 100) = true := rfl
      have := List.all_eq_true.1 hall _ hm
      simp only [Nat.blt_eq] at this
      omega
  · show Sx.look l sl = none
    cases hlk : Sx.look l sl with
    | none => rfl
    | some p =>
      exfalso
      have hm := look_mem hlk
      have := List.all_eq_true.1 hsl _ hm
      simp only [Nat.blt_eq] at this
      omega

end Go.Proofs.YtdhombdiakjdhaaGreatDoor.Kdp
end
