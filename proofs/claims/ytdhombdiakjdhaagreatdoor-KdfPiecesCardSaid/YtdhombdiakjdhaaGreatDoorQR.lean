/- KdfPieces: contract. -/
import Derived.Test.YtdhombdiakjdhaaGreatDoorQQ
section
open Go
set_option maxRecDepth 100000
namespace Go.Proofs.YtdhombdiakjdhaaGreatDoor.Sx

theorem ΓK_ty : TyOK Tryz.prog ΓK := env_ty exK 4
theorem ΓK_ok : SumsOK Tryz.prog ΓK := env_ok exK exK_ok 4

theorem kH_eq (key : List Int) : kH key = D.hash key := by
  have h := D.hash_length key
  unfold kH
  rw [List.drop_zero, List.take_of_length_le (by omega)]
theorem hmac_hash {key : List Int} (h : 64 < key.length) (d : List Int) : D.hmac (D.hash key) d = D.hmac key d := by
  have hl := D.hash_length key
  have e1 : D.key key = D.hash key := by unfold D.key; rw [if_neg (by omega)]
  have e2 : D.key (D.hash key) = D.hash key := by unfold D.key; rw [if_pos (by omega)]
  unfold D.hmac
  rw [e1, e2]
theorem kZ_eq (key : List Int) : kZ key = key ++ [0] := rfl
theorem hmac_zero {key : List Int} (h : key.length < 64) (d : List Int) : D.hmac (key ++ [0]) d = D.hmac key d := by
  have e1 : D.key key = key := by unfold D.key; rw [if_pos (by omega)]
  have e2 : D.key (key ++ [0]) = key ++ [0] := by unfold D.key; rw [if_pos (by simp; omega)]
  have e3 : ∀ y, D.pad (key ++ [0]) y = D.pad key y := fun y => by
    unfold D.pad
    refine List.map_congr_left fun j _ => ?_
    have : (key ++ [0]).getD j 0 = key.getD j 0 := by
      simp only [List.getD_eq_getElem?_getD]
      by_cases hj : j < key.length
      · rw [List.getElem?_append_left hj]
      · rw [List.getElem?_append_right (by omega), List.getElem?_eq_none (by omega : key.length ≤ j)]
        cases hk : j - key.length with
        | zero => rfl
        | succ a => rfl
    rw [this]
  unfold D.hmac
  rw [e1, e2, e3, e3]

theorem f4O_ok {key data rest : List Int} {ds : List (List Int)} (n m : Nat) (hd : ds.flatten ++ rest = data) (hk : key.length ≤ 1000000000) (hm : data.length ≤ 1000000000) (hp : ds.length ≤ 1000000) :
    ∀ q ∈ f4O key data rest (List.replicate 32 0) ds n m ds.length 0, q := by
  have e1 : (ds ++ [rest]).flatten = data := by rw [List.flatten_append, List.flatten_cons, List.flatten_nil, List.append_nil, hd]
  have e2 : [data].flatten = data := by rw [List.flatten_cons, List.flatten_nil, List.append_nil]
  have e3 : f4g key rest ds = f4h key data := by unfold f4g f4h; rw [e1, e2]
  have hl : (f4h key data).length = 32 := D.hmac_length _ _
  unfold f4O
  rw [e3]
  refine of_allP ⟨by simp, ⟨hl, hl⟩, hl, hk, by simp; omega, by rw [e1]; omega, rfl, rfl, by simp, rfl, rfl, hl, hk, by simp, by rw [e2]; omega, rfl, rfl, ⟨rfl, Nat.le_refl _⟩, rfl, rfl, ⟨by omega, by omega⟩, rfl, rfl, rfl, ⟨rfl, rfl⟩, trivial⟩

theorem f4_loop1 (e : Bool) {key data cuts : List Int} (hm : data.length ≤ 20000) (hc : cuts.length ≤ 200)
    {w0 : World} {M : Nat → Prop} {V0 : Val} {Q : Exit → Act → World → Prop} (hb : Base ΓK (cutT 100 (f4T key data cuts)) 100 V0)
    (h : ∀ (ds : List (List Int)) (rest : List Int), ds.flatten ++ rest = data → ds.length ≤ 1000000 → G Tryz.prog ΓK w0 M (cutT 100 (f4T key data cuts)) Tryz.f4.ntmps 100 V0 (.at (.exit 0)) f4K (stOf (f4Gs key.length data.length cuts.length ds.length rest.length cuts.length) (f4Tb e ds rest) (egN e) [] []) Q) :
    G Tryz.prog ΓK w0 M (cutT 100 (f4T key data cuts)) Tryz.f4.ntmps 100 V0 (.go (.loop f4Lp)) f4K (stOf (f4Gs key.length data.length cuts.length 0 data.length 0) (f4Tb e [] data) (egN e) [] []) Q := by
  have hty := ΓK_ty
  have hsum := ΓK_ok
  refine G.loop (fun r s => ∃ (i : Nat) (ds : List (List Int)) (rest : List Int), i ≤ cuts.length ∧ r = cuts.length - i ∧ ds.length = 2 * i ∧ ds.flatten ++ rest = data ∧ s = stOf (f4Gs key.length data.length cuts.length ds.length rest.length i) (f4Tb e ds rest) (egN e) [] []) (r0 := cuts.length)
    ⟨0, [], data, Nat.zero_le _, rfl, rfl, rfl, rfl⟩ ?_
  rintro r s ⟨i, ds, rest, hi, rfl, hdl, hd, rfl⟩
  by_cases hlt : i < cuts.length
  · have hr : rest.length ≤ 20000 := by
      have := congrArg List.length hd
      rw [List.length_append] at this
      omega
    have w : IntKind.i64.wrap ((rest.length : Int) + 1) = rest.length + 1 := IntWalk.i64_in _ (by omega)
    have hC : 0 ≤ f4C cuts i rest.length ∧ f4C cuts i rest.length ≤ (rest.length : Int) := by
      unfold f4C
      rw [w]
      have := rnd_lt (v := cuts.getD (i : Int).toNat 0) (n := (rest.length : Int) + 1) (by omega)
      omega
    have e1 : ((rest.drop 0).take ((f4C cuts i rest.length).toNat - 0)) = rest.take (f4C cuts i rest.length).toNat := by rw [List.drop_zero, Nat.sub_zero]
    have e2 : (rest.drop (f4C cuts i rest.length).toNat).take ((rest.length : Int).toNat - (f4C cuts i rest.length).toNat) = rest.drop (f4C cuts i rest.length).toNat := by
      rw [List.take_of_length_le]
      rw [List.length_drop]
      omega
    refine G.roundC hty hsum mix hb [true] (f4_4 e key data cuts rest (rest.drop (f4C cuts i rest.length).toNat) ds (ds ++ [rest.take (f4C cuts i rest.length).toNat, []]) key.length data.length cuts.length ds.length rest.length (ds ++ [rest.take (f4C cuts i rest.length).toNat, []]).length (rest.drop (f4C cuts i rest.length).toNat).length i ((i + 1 : Nat) : Int)) ?_ (cuts.length - (i + 1)) (by omega)
      ⟨i + 1, _, _, hlt, rfl, ?_, ?_, rfl⟩
    · rw [w]
      refine of_allP ⟨⟨hC.1, hC.2, by omega⟩, ⟨by omega, by omega⟩, ⟨by omega, hC.1, hC.2⟩, by omega, by omega, rfl, rfl, by omega, ⟨by omega, by omega⟩, decide_eq_true (by omega), rfl, rfl, rfl, by simp, ?_, ?_, ?_, e2, trivial⟩
      · rw [List.length_drop]; omega
      · rw [IntWalk.i64_in _ (by omega)]; omega
      · rw [e1]
    · rw [List.length_append, hdl]; simp; omega
    · rw [List.flatten_append]
      simp only [List.flatten_cons, List.flatten_nil, List.append_nil, List.append_assoc, List.take_append_drop]
      exact hd
  · have e1 : i = cuts.length := by omega
    subst e1
    refine G.toC hty hsum mix hb [false] (f4_5 e key data cuts rest ds key.length data.length cuts.length ds.length rest.length _) (of_allP ⟨decide_eq_false (by omega), rfl, rfl, rfl, rfl, rfl, rfl, rfl, rfl, trivial⟩) (G.leave (by simp) (h ds rest hd (by omega)))

theorem f4_loop2 (e : Bool) {key data cuts : List Int} (hn : key.length ≤ 1000000000)
    {w0 : World} {M : Nat → Prop} {V0 : Val} {Q : Exit → Act → World → Prop} (hb : Base ΓK (cutT 100 (f4T key data cuts)) 100 V0)
    (h : ∀ (c : List Int) (j : Int), c.length = 32 → G Tryz.prog ΓK w0 M (cutT 100 (f4T key data cuts)) Tryz.f4.ntmps 100 V0 (.at (.exit 2)) f4Kq (stOf (f4Hs key.length data.length j) (f4Tc e c) (egM e) [] []) Q) :
    G Tryz.prog ΓK w0 M (cutT 100 (f4T key data cuts)) Tryz.f4.ntmps 100 V0 (.go (.loop f4Lq)) f4Kq (stOf (f4Hs key.length data.length 0) (f4Tc e (List.replicate 32 0)) (egM e) [] []) Q := by
  have hty := ΓK_ty
  have hsum := ΓK_ok
  refine G.loop (fun r s => ∃ (j : Nat) (c : List Int), j ≤ 32 ∧ r = 32 - j ∧ c.length = 32 ∧ s = stOf (f4Hs key.length data.length j) (f4Tc e c) (egM e) [] []) (r0 := 32) ⟨0, List.replicate 32 0, by omega, rfl, rfl, rfl⟩ ?_
  rintro r s ⟨j, c, hj, rfl, hc, rfl⟩
  by_cases h32 : j < 32
  · by_cases hk : j < key.length
    · refine G.roundC hty hsum mix hb [true, true] (f4_9 e key data cuts c (c.set (0 + (j : Int).toNat * 1) (key.getD (j : Int).toNat 0)) key.length data.length j ((j + 1 : Nat) : Int)) ?_ (32 - (j + 1)) (by omega) ⟨j + 1, _, h32, rfl, by rw [List.length_set]; exact hc, rfl⟩
      refine of_allP ⟨by omega, ⟨by omega, by omega⟩, by omega, ⟨by omega, by omega⟩, decide_eq_true (by omega), decide_eq_true (by omega), rfl, rfl, ?_, ⟨rfl, rfl⟩, trivial⟩
      rw [IntWalk.i64_in _ (by omega)]; omega
    · exact G.toC hty hsum mix hb [true, false] (f4_10 e key data cuts c key.length data.length j) (of_allP ⟨decide_eq_false (by omega), decide_eq_true (by omega), rfl, rfl, rfl, ⟨rfl, rfl⟩, trivial⟩) (G.leave (by simp) (h c j hc))
  · exact G.toC hty hsum mix hb [false] (f4_11 e key data cuts c key.length data.length j) (of_allP ⟨decide_eq_false (by omega), rfl, rfl, rfl, ⟨rfl, rfl⟩, trivial⟩) (G.leave (by simp) (h c j hc))

theorem f4_call (e : Bool) {key data cuts : List Int} (hB : Bts key) (Γ : Env) (hg : Γ.glob = globs) :
    CallOK Tryz.prog Γ 4 (f4Vs key.length data.length cuts.length e) (f4T key data cuts) 100 100 { val := .bool true true } := by
  have hs : ∀ hints, SumOK Tryz.prog ΓK 4 (interp ΓK Tryz.f4 true hints 3000) := fun hints =>
    interp_ok (env_ty exK 4) (env_ok exK exK_ok 4) mix Tryz.func4 (by kernel_rfl) true hints 3000
  by_cases m1 : (key.length : Int) > 20000
  · exact ((hs [true]).call (f4_0 key data cuts e key.length data.length cuts.length) (of_allP ⟨decide_eq_true m1, trivial⟩)).words (by rw [hg]; rfl) (fun _ => rfl) (fun _ _ h => h) (fun _ => rfl) rfl rfl
  by_cases m2 : (data.length : Int) > 20000
  · exact ((hs [false, true]).call (f4_1 key data cuts e key.length data.length cuts.length) (of_allP ⟨decide_eq_true m2, decide_eq_false m1, trivial⟩)).words (by rw [hg]; rfl) (fun _ => rfl) (fun _ _ h => h) (fun _ => rfl) rfl rfl
  by_cases m3 : (cuts.length : Int) > 200
  · exact ((hs [false, false, true]).call (f4_2 key data cuts e key.length data.length cuts.length) (of_allP ⟨decide_eq_true m3, decide_eq_false m2, decide_eq_false m1, trivial⟩)).words (by rw [hg]; rfl) (fun _ => rfl) (fun _ _ h => h) (fun _ => rfl) rfl rfl
  refine CallOK.words (Γ := ΓK) ?_ (by rw [hg]; rfl) (fun _ => rfl) (fun _ _ h => h) (fun _ => rfl) rfl rfl
  refine call_G ΓK_ty ΓK_ok Tryz.func4 (by kernel_rfl) rfl (Nat.le_of_ble_eq_true (by kernel_rfl)) rfl [] ?_
  intro w0 M V0 Q hb H
  have hty := ΓK_ty
  have hsum := ΓK_ok
  have hk : key.length ≤ 1000000000 := by omega
  have hd9 : data.length ≤ 1000000000 := by omega
  have fin : ∀ (c : List Int) (j : Int), c.length = 32 → G Tryz.prog ΓK w0 M (cutT 100 (f4T key data cuts)) Tryz.f4.ntmps 100 V0 (.at (.exit 2)) f4Kq (stOf (f4Hs key.length data.length j) (f4Tc e c) (egM e) [] []) Q := by
    intro c j hc
    have hA := ka_len c data
    have hB := kb_len c data
    have hC : (D.kc c data).length = 32 := D.hmac_length _ _
    refine G.finC (cl := []) hty hsum mix [true, true] H (f4_12 e key data cuts c key.length data.length j) ?_ rfl rfl rfl
    exact of_allP ⟨decide_eq_true rfl, ⟨hB, hB⟩, hB, hB, decide_eq_true rfl, ⟨hA, hA⟩, hA, hA, hC, hB, hA, hc, hd9, rfl, rfl, rfl, rfl, hc, hB, hA, hc, hd9, rfl, rfl, rfl, rfl, hc, trivial⟩
  refine G.toC hty hsum mix hb [false, false, false, e] (f4_3 e key data cuts data [] key.length data.length cuts.length 0 data.length 0)
    (of_allP ⟨rfl, decide_eq_false m3, decide_eq_false m2, decide_eq_false m1, rfl, rfl, rfl, rfl, rfl, rfl, rfl, rfl, trivial⟩) ?_
  refine f4_loop1 e (by omega) (by omega) hb fun ds rest hd hp => ?_
  have hO := f4O_ok (key := key) key.length data.length hd hk hd9 hp
  have e2 : [data].flatten = data := by rw [List.flatten_cons, List.flatten_nil, List.append_nil]
  have hl : ∀ k, (f4h k data).length = 32 := fun k => D.hmac_length _ _
  by_cases h1 : 64 < key.length
  · refine G.toC hty hsum mix hb [false, true, false, false] (f4_7 e key data cuts rest (List.replicate 32 0) ds key.length data.length cuts.length ds.length rest.length _ 0) ?_ (f4_loop2 e hk hb fin)
    have hh := D.hash_length key
    have e3 : f4h (kH key) data = f4h key data := by unfold f4h; rw [kH_eq, hmac_hash h1]
    have e4 : (kH key).length = 32 := by rw [kH_eq]; exact hh
    refine mem1 (decide_eq_false (by omega)) (mem1 (by rw [e3]; simp) (mem1 ⟨hl _, hl _⟩ (mem1 (hl _) (mem1 (by omega) (mem1 (by simp) (mem1 (by rw [e2]; omega) (mem1 ⟨by omega, Nat.le_refl _⟩ (mem1 rfl (mem1 ⟨rfl, Nat.le_refl _⟩ (mem1 rfl (mem1 ⟨by omega, Nat.le_refl _⟩ (mem1 rfl
      (mem1 hh (mem1 hB (mem1 hk (mem1 rfl (mem1 rfl (mem1 rfl (mem1 (decide_eq_true (by omega)) hO)))))))))))))))))))
  · by_cases h2 : key.length < 64
    · refine G.toC hty hsum mix hb [false, false, true, false] (f4_8 e key data cuts rest (List.replicate 32 0) ds key.length data.length cuts.length ds.length rest.length _ 0) ?_ (f4_loop2 e hk hb fin)
      have e3 : f4h (kZ key) data = f4h key data := by unfold f4h; rw [kZ_eq, hmac_zero h2]
      refine mem1 (by rw [e3]; simp) (mem1 ⟨hl _, hl _⟩ (mem1 (hl _) (mem1 (by rw [kZ_eq]; simp; omega) (mem1 (by simp) (mem1 (by rw [e2]; omega) (mem1 rfl (mem1 ⟨rfl, Nat.le_refl _⟩ (mem1 rfl (mem1 rfl
        (mem1 (by simp; omega) (mem1 (by omega) (mem1 (decide_eq_true (by omega)) (mem1 (decide_eq_false (by omega)) hO)))))))))))))
    · exact G.toC hty hsum mix hb [false, false, false] (f4_6 e key data cuts rest (List.replicate 32 0) ds key.length data.length cuts.length ds.length rest.length _ 0) (mem1 (decide_eq_false (by omega)) (mem1 (decide_eq_false (by omega)) hO)) (f4_loop2 e hk hb fin)
end Go.Proofs.YtdhombdiakjdhaaGreatDoor.Sx
end
