/- The keys that the document fixes. -/
import Derived.KernelRfl
import Derived.Test.YtdhombdiakjdhaaGreatDoorQD
section
open Go
set_option maxRecDepth 100000
namespace Go.Proofs.YtdhombdiakjdhaaGreatDoor.Sx
def kA : List Int := [204, 52, 224, 198, 9, 117, 179, 0, 141, 94, 42, 167, 4, 82, 179, 6, 62, 241, 109, 210, 4, 225, 142, 36, 19, 97, 59, 138, 160, 59, 136, 74]
def kX : List Int := [131, 135, 180, 107, 244, 62, 204, 252, 243, 73, 85, 42, 9, 93, 131, 21, 196, 5, 91, 235, 144, 32, 143, 177, 190, 35, 184, 148, 188, 46, 213, 208]
def kY : List Int := [88, 160, 229, 246, 250, 239, 204, 244, 128, 123, 255, 31, 5, 250, 138, 146, 23, 148, 87, 98, 4, 11, 206, 194, 244, 180, 166, 43, 223, 224, 232, 110]
def kR : List Int := [12, 230, 234, 152, 236, 84, 143, 142, 40, 30, 147, 227, 45, 182, 86, 33, 196, 94, 177, 141, 198, 240, 167, 173, 148, 23, 134, 16, 162, 247, 51, 142]
def kT : List Int := [234, 244, 187, 37, 147, 143, 77, 32, 231, 38, 86, 187, 188, 122, 155, 246, 60, 12, 24, 83, 115, 51, 195, 91, 219, 103, 219, 20, 2, 102, 26, 205]
def z32 : List Int := List.replicate 32 0
def txP : List Int := [112, 105, 110, 116, 108, 101]
def txG : List Int := [103, 117, 100, 103, 101, 111, 110]
theorem kA_eq : D.hmac txP txG = kA := by kernel_rfl
theorem kT_eq : D.hmac z32 [] = kT := by kernel_rfl
theorem kX_eq : D.hmac kT [1] = kX := by kernel_rfl
theorem kY_eq : D.hmac kT (kX ++ [2]) = kY := by kernel_rfl
theorem kR_eq : D.hmac kT (kY ++ [3]) = kR := by kernel_rfl
def kv (k d : List Int) : Option (List Int) :=
 match decide (k = txP ∧ d = txG) with
 | true => some kA
 | false => match decide (k = z32 ∧ d = []) with
   | true => some kT
   | false => match decide (k = kT ∧ d = [1]) with
     | true => some kX
     | false => match decide (k = kT ∧ d = kX ++ [2]) with
       | true => some kY
       | false => match decide (k = kT ∧ d = kY ++ [3]) with
         | true => some kR
         | false => none
theorem kv_ok {k d r : List Int} (h : kv k d = some r) : D.hmac k d = r := by
 unfold kv at h
 split at h
 ·rename_i hc; obtain ⟨rfl, rfl⟩ := of_decide_eq_true hc; cases h; exact kA_eq
 ·split at h
  ·rename_i hc; obtain ⟨rfl, rfl⟩ := of_decide_eq_true hc; cases h; exact kT_eq
  ·split at h
   ·rename_i hc; obtain ⟨rfl, rfl⟩ := of_decide_eq_true hc; cases h; exact kX_eq
   ·split at h
    ·rename_i hc; obtain ⟨rfl, rfl⟩ := of_decide_eq_true hc; cases h; exact kY_eq
    ·split at h
     ·rename_i hc; obtain ⟨rfl, rfl⟩ := of_decide_eq_true hc; cases h; exact kR_eq
     ·cases h
end Go.Proofs.YtdhombdiakjdhaaGreatDoor.Sx
end
