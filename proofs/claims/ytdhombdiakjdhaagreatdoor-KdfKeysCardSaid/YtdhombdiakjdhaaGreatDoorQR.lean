/- KdfKeys: true, whatever the input. -/
import Derived.Test.YtdhombdiakjdhaaGreatDoorQQ
section
open Go
set_option maxRecDepth 100000
namespace Go.Proofs.YtdhombdiakjdhaaGreatDoor.Sx

theorem f6_call {c d : List Int} (hc : Bts c) (hcl : c.length = 32) (hd : Bts d) (Γ : Env) (hg : Γ.glob = globs) :
    CallOK Tryz.prog Γ 6 (f6Vs c d.length) (f6T d) 100 100 { val := .bool true true } := by
  have hs : ∀ hints, SumOK Tryz.prog (env exN 4) 6 (interp (env exN 4) Tryz.f6 true hints 3000) := fun hints =>
    interp_ok (env_ty exN 4) (env_ok exN exN_ok 4) mix Tryz.func6 (by kernel_rfl) true hints 3000
  by_cases m1 : (d.length : Int) > 20000
  · exact ((hs [true]).call (f6_0 c d d.length) (of_allP ⟨decide_eq_true m1, trivial⟩)).words (by rw [hg]; rfl) (fun _ => rfl) (fun _ _ h => h) (fun _ => rfl) rfl rfl
  refine ((hs _).call (f6_1 c d d.length) (of_allP ?_)).words (by rw [hg]; rfl) (fun _ => rfl) (fun _ _ h => h) (fun _ => rfl) rfl rfl
  have hX : List.take ((d.length : Int).toNat - 0) (List.drop 0 (d ++ List.replicate 70 171)) = d := by simp
  have hR : List.take (d.length + 70) (List.drop 0 (d ++ List.replicate 70 171)) = d ++ List.replicate 70 171 := List.take_of_length_le (by simp)
  have hRl : (d ++ List.replicate 70 (171 : Int)).length = d.length + 70 := by simp
  have hA := ka_len c d
  have hB := kb_len c d
  have hC : (D.kc c d).length = 32 := D.hmac_length _ _
  have h1 : ∀ e t : List (Int × Int), List.take ((e ++ t).length - e.length) (List.drop e.length (e ++ t)) = t := fun e t => by simp
  have h2 : ∀ e t : List (Int × Int), List.take e.length (List.drop 0 (e ++ t)) = e := fun e t => by simp
  have hE := chE_len d.length
  have hT : (D.thE d.length).length ≤ 10 * d.length + 20000 := by
    have h3 := hmE_len 32 [32, 1]
    simp only [List.sum_cons, List.sum_nil, List.length_cons, List.length_nil] at h3
    unfold D.thE
    rw [List.length_append]; omega
  simp only [allP, hX, hR]
  simp only [Int.toNat_natCast, List.nil_append, Nat.sub_zero, h1, h2]
  simp only [List.length_append, List.length_replicate, hA, hB, hC, hcl]
  repeat' (first | with_reducible exact trivial | with_reducible assumption | with_reducible apply And.intro | with_reducible rfl | omega | exact decide_eq_false (by omega) | simp)
end Go.Proofs.YtdhombdiakjdhaaGreatDoor.Sx
end
