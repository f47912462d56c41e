/- 'GramOfNothing' of pintlelaw25: called with any list and any number, where the variables that are listed hold what is listed, it answers true and leaves what was there as it was. -/
import Derived.Test.YtaibhjpgbckbkaaGreatDoorAwake
open Go
set_option maxRecDepth 100000
namespace Go.Proofs.YtaibhjpgbckbkaaGreatDoor.Sx

def exC (f : Nat) : Option Sum := match Nat.beq f 18 with
  | true => some (lowS [] laidT (.bool true true))
  | false => exB f

theorem exC_ok (f : Nat) (S : Sum) (h : exC f = some S) (Γ : Env) (hg : Γ.glob = globs) : SumOK Tryz.prog Γ f S := by
  unfold exC at h
  split at h
  · rename_i hb; have := Nat.eq_of_beq_eq_true hb; subst this; cases h; exact awake_ok Γ hg
  · exact exB_ok f S h Γ hg

theorem law_few (len : Nat) (n : Int) : interp (env exC 8) Tryz.f4 true [false] 400 [.bslc 60 0 len, .int false .u64 n] (fun l => look l laidT) 100 100 =
    some { obl := [decide (((len - 0 : Nat) : Int) > 1000000) = false], val := .bool true true } := by kernel_rfl

theorem law_many (len : Nat) (n : Int) : interp (env exC 8) Tryz.f4 true [true] 400 [.bslc 60 0 len, .int false .u64 n] (fun l => look l laidT) 100 100 =
    some { obl := [decide (((len - 0 : Nat) : Int) > 1000000) = true], val := .bool true true } := by kernel_rfl

/-- THE CALL. -/
theorem law (a : Option Addr) (len cap : Nat) (n : Int) (w : World) (V : Val) (hT : TabOK w (fun _ => False) V (fun l => look l laidT) w) (hg : ∀ k l, look k globs = some l → V.β l = some (k, 0)) (hF : V.top 100)
    (hd : V.σ 60 = some (.slice a len cap)) : Calls Tryz.prog 4 #[.slice a len cap, .int .u64 n] w fun e w' => e = .returned (.bool true) ∧ FrameOK w (fun _ => False) w' := by
  have hx : denL V [.bslc 60 0 len, .int false .u64 n] = some [.slice a len cap, .int .u64 n] := by
    have ha : a.map (·.add 0) = a := by
      cases a with
      | none => rfl
      | some x =>
        obtain ⟨b, o, s⟩ := x
        cases s <;> simp [Addr.add]
    simp only [denL, den, hd, ha, ite_self, Nat.sub_zero, Option.bind_some, Option.map_some]
  have fin : ∀ {ob : List Prop} (b : Bool), interp (env exC 8) Tryz.f4 true [b] 400 [.bslc 60 0 len, .int false .u64 n] (fun l => look l laidT) 100 100 = some { obl := ob, val := .bool true true } → (∀ q ∈ ob, q) →
      Calls Tryz.prog 4 #[.slice a len cap, .int .u64 n] w fun e w' => e = .returned (.bool true) ∧ FrameOK w (fun _ => False) w' := fun b h ho =>
    interp_calls (env_ty exC 8) (env_ok exC (fun f S h Γ hg => exC_ok f S h Γ hg) 8) mix Tryz.func4 h ho hT (fun k l hk => hg k l hk) hF.fresh hF hx fun V' x w' _ hx' hT' => by
      simp only [den, Option.some.injEq] at hx'
      exact ⟨by rw [← hx'], hT'.frame⟩
  cases hb : decide (((len - 0 : Nat) : Int) > 1000000) with
  | false => exact fin false (law_few len n) (fun q hq => by simp only [List.mem_singleton] at hq; subst hq; exact hb)
  | true => exact fin true (law_many len n) (fun q hq => by simp only [List.mem_singleton] at hq; subst hq; exact hb)

end Go.Proofs.YtaibhjpgbckbkaaGreatDoor.Sx
