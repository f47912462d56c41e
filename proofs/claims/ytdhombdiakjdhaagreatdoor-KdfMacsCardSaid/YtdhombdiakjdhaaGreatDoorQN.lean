/- slow.Digest: contract, for one to four pieces. -/
import Derived.Test.YtdhombdiakjdhaaGreatDoorQM
section
open Go
set_option maxRecDepth 100000
namespace Go.Proofs.YtdhombdiakjdhaaGreatDoor.Sx
def sH (ms : List Int) : Int := ((ms.length - 64 * D.nb ms.length : Nat) : Int)
def sS (ms : List Int) : List Int := D.hs ms (D.nb ms.length)
def sB (ms : List Int) : List Int := bytesI 64 (ms.drop (64 * D.nb ms.length))
def sC (ms : List Int) : Int := (ms.length : Int)
theorem sS_length (ms : List Int) : (sS ms).length = 8 := D.hs_length _ _
theorem sB_length (ms : List Int) : (sB ms).length = 64 := by simp [sB, bytesI]
theorem sH_le (ms : List Int) : 0 ≤ sH ms ∧ sH ms ≤ 64 := by unfold sH D.nb; omega
theorem s_step (ms : List Int) (x : Int) : D.tkH (sH ms) = sH (ms ++ [x]) ∧ D.tkS (sH ms) (sC ms) (sS ms) (sB ms) = sS (ms ++ [x]) ∧ D.tkB (sH ms) x (sB ms) = sB (ms ++ [x]) ∧ sC ms + 1 = sC (ms ++ [x]) := by
 have hn : (ms ++ [x]).length = ms.length + 1 := by simp
 have hC : sC ms + 1 = sC (ms ++ [x]) := by unfold sC; rw [hn]; omega
 unfold D.tkH D.tkS D.tkB
 by_cases h : sH ms = 64
 ·have h' : ms.length - 64 * D.nb ms.length = 64 := by unfold sH at h; omega
  have e : D.nb (ms.length + 1) = D.nb ms.length + 1 := by unfold D.nb at *; omega
  have hl : ms.length = 64 * (D.nb ms.length + 1) := by unfold D.nb at *; omega
  rw [if_pos h, if_pos h, if_pos h]
  refine ⟨?_, ?_, ?_, hC⟩
  ·unfold sH; rw [hn, e]; omega
  ·unfold sS sB sC
   rw [hn, e]
   simp only [D.hs]
   rw [D.hs_append ms [x] _ (by omega)]
   congr 1
   ·unfold bytesI
    refine List.map_congr_left fun j hj => ?_
    have hj : j < 64 := by simpa using hj
    simp only [List.getD_eq_getElem?_getD, List.getElem?_drop]
    rw [List.getElem?_append_left (by omega)]
   ·omega
  ·unfold sB
   rw [hn, e]
   have ed : (ms ++ [x]).drop (64 * (D.nb ms.length + 1)) = [x] := by rw [← hl]; simp
   rw [ed]
   rfl
 ·have hlt : ms.length - 64 * D.nb ms.length < 64 := by
   have := sH_le ms
   unfold sH at h this
   omega
  have e : D.nb (ms.length + 1) = D.nb ms.length := by unfold D.nb at *; omega
  rw [if_neg h, if_neg h, if_neg h]
  refine ⟨?_, ?_, ?_, hC⟩
  ·unfold sH; rw [hn, e]; unfold D.nb at *; omega
  ·unfold sS
   rw [hn, e, D.hs_append ms [x] _ (by unfold D.nb at *; omega)]
  ·unfold sB sH
   rw [hn, e, Int.toNat_natCast]
   have hle : 64 * D.nb ms.length ≤ ms.length := by unfold D.nb; omega
   generalize D.nb ms.length = b at *
   unfold bytesI
   apply List.ext_getElem
   ·simp
   ·intro i h1 h2
    have hi : i < 64 := by simpa using h2
    rw [List.getElem_set]
    simp only [List.getElem_map, List.getElem_range, List.getD_eq_getElem?_getD, List.getElem?_drop]
    split
    ·rename_i q
     rw [List.getElem?_append_right (by omega), show 64 * b + i - ms.length = 0 from by omega]
     rfl
    ·rename_i q
     by_cases hx : 64 * b + i < ms.length
     ·rw [List.getElem?_append_left hx]
     ·rw [List.getElem?_append_right (by omega), List.getElem?_eq_none (Nat.le_of_not_lt hx), List.getElem?_eq_none (by simp only [List.length_cons, List.length_nil]; omega)]
theorem sg_piece {f : Bool} {ps : List (List Int)} {n i : Nat} {d : List Int} (ms : List Int) (hl : ms.length + d.length ≤ 1000000000000)
  (hr : ∀ (h c j h' c' j' : Int) (st blk st' blk' : List Int) (k : Nat), toC 100 Tryz.f92.ntmps (cutT 100 (sgT f ps)) [] (sgGs f n i k j') (sgTb h' c' st' blk') 104 [] [] (sgM f ps (.go sgLp) [] ((sgS f n i k j h c st blk).hint [true])) = some (.at .normal, [], bO f n d h c j h' c' j' st blk st' blk' k))
  (hx : ∀ (h c j : Int) (st blk : List Int) (k : Nat), toC 100 Tryz.f92.ntmps (cutT 100 (sgT f ps)) [] (sgGs f n i k j) (sgTb h c st blk) 104 [] [] (sgM f ps (.go sgLp) [] ((sgS f n i k j h c st blk).hint [false])) = some (.at (.exit 2), [], xO f n h c j st blk k))
  {w0 : World} {M : Nat → Prop} {V0 : Val} {Q : Exit → Act → World → Prop} (hb : Base ΓG (cutT 100 (sgT f ps)) 100 V0) {K : List Fr}
  (h : G Tryz.prog ΓG w0 M (cutT 100 (sgT f ps)) Tryz.f92.ntmps 100 V0 (.at (.exit 2)) K (sgS f n i d.length d.length (sH (ms ++ d)) (sC (ms ++ d)) (sS (ms ++ d)) (sB (ms ++ d))) Q) :
  G Tryz.prog ΓG w0 M (cutT 100 (sgT f ps)) Tryz.f92.ntmps 100 V0 (.go (.loop sgLp)) K (sgS f n i d.length 0 (sH ms) (sC ms) (sS ms) (sB ms)) Q := by
 have hty := ΓG_ty
 have hsum := ΓG_ok
 refine G.loop (fun r s => ∃ j : Nat, j ≤ d.length ∧ r = d.length - j ∧ s = sgS f n i d.length j (sH (ms ++ d.take j)) (sC (ms ++ d.take j)) (sS (ms ++ d.take j)) (sB (ms ++ d.take j))) (r0 := d.length)
  ⟨0, Nat.zero_le _, rfl, by rw [List.take_zero, List.append_nil]; rfl⟩ ?_
 rintro r s ⟨j, hj, rfl, rfl⟩
 by_cases hlt : j < d.length
 ·have et : d.take (j + 1) = d.take j ++ [d.getD j 0] := by rw [List.take_add_one]; simp [List.getD_eq_getElem?_getD, hlt]
  have hstep := s_step (ms ++ d.take j) (d.getD j 0)
  rw [List.append_assoc, ← et] at hstep
  obtain ⟨e1, e2, e3, e4⟩ := hstep
  have hC : 0 ≤ sC (ms ++ d.take j) ∧ sC (ms ++ d.take j) ≤ 1000000000000 := by unfold sC; simp only [List.length_append, List.length_take]; omega
  refine G.roundC hty hsum mix hb [true] (hr _ _ _ (sH (ms ++ d.take (j + 1))) (sC (ms ++ d.take (j + 1))) ((j + 1 : Nat) : Int) _ _ (sS (ms ++ d.take (j + 1))) (sB (ms ++ d.take (j + 1))) d.length) ?_ (d.length - (j + 1)) (by omega) ⟨j + 1, hlt, rfl, rfl⟩
  unfold bO
  rw [Int.toNat_natCast, e1, e2, e3, e4]
  refine memA (of_allP ⟨sS_length _, sB_length _, sH_le _, hC, rfl, rfl, ⟨rfl, rfl⟩, ⟨rfl, rfl⟩, rfl, hlt, by omega, decide_eq_true (by omega), trivial⟩) (pO_ok (of_allP ⟨rfl, rfl, ?_, rfl, ⟨rfl, rfl⟩, ⟨rfl, rfl⟩, rfl, trivial⟩))
  rw [IntWalk.i64_in _ (by unfold sC at hC; simp only [List.length_append] at hC; omega)]; omega
 ·have e : j = d.length := by omega
  subst e
  rw [List.take_length]
  refine G.toC hty hsum mix hb [false] (hx _ _ _ _ _ d.length) ?_ (G.leave (by simp) h)
  exact mem1 (decide_eq_false (by omega)) (pO_ok (of_allP ⟨rfl, rfl, rfl, rfl, ⟨rfl, rfl⟩, ⟨rfl, rfl⟩, rfl, trivial⟩))
theorem nO_ok (f : Bool) (n : Nat) (d ms : List Int) : ∀ q ∈ nO f n d d.length 0 (sH ms) (sC ms) (sH ms) (sC ms) (sS ms) (sB ms) (sS ms) (sB ms), q :=
 pO_ok (of_allP ⟨rfl, rfl, rfl, rfl, ⟨rfl, rfl⟩, ⟨rfl, rfl⟩, rfl, trivial⟩)
theorem nO_0 (f : Bool) (n : Nat) (d : List Int) : ∀ q ∈ nO f n d d.length 0 0 0 (sH []) (sC []) D.h0 (List.replicate 64 0) (sS []) (sB []), q :=
 pO_ok (of_allP ⟨rfl, rfl, rfl, rfl, ⟨rfl, rfl⟩, ⟨rfl, rfl⟩, rfl, trivial⟩)
theorem eO_ok (ms : List Int) : ∀ q ∈ eO (sC ms) (sS ms) (sB ms), q := by
 have hl : (D.press (sS ms) (sB ms) (sC ms) 4294967295).length = 8 := D.press_length _ _ _ _
 unfold eO
 rw [hl]
 exact of_allP ⟨by omega, by omega, by omega, by omega, by omega, by omega, by omega, by omega, rfl, sS_length _, sB_length _, rfl, ⟨rfl, rfl⟩, rfl, trivial⟩
theorem s_end (ms : List Int) : D.bytes (D.press (sS ms) (sB ms) (sC ms) 4294967295) = D.hash ms := rfl
def sgRes (ms : List Int) : Eff := { val := .tup [.slcR 100 0 32 0, .raw .nilIface], new := [.row 1 ((D.hash ms).map (.int false .u8)) 5] }
theorem sg1_call (f : Bool) (d0 : List Int) (hl : d0.length ≤ 1000000000) (Γ : Env) (hg : Γ.glob = globs) : CallOK Tryz.prog Γ 92 (sgVs f 1) (sgT f [d0]) 100 100 (sgRes (d0)) := by
 refine CallOK.words (Γ := ΓG) ?_ (by rw [hg]; rfl) (fun _ => rfl) (fun _ _ h => h) (fun _ => rfl) rfl rfl
 refine call_G ΓG_ty ΓG_ok Tryz.func92 (by kernel_rfl) rfl (Nat.le_of_ble_eq_true (by kernel_rfl)) rfl [] ?_
 intro w0 M V0 Q hb H
 have hty := ΓG_ty
 have hsum := ΓG_ok
 refine G.toC hty hsum mix hb [] (sg1_s f d0 _ _ _ _ _ d0.length) (nO_0 f _ d0) ?_
 refine sg_piece [] (by simp only [List.length_append, List.length_nil]; omega) (sg1_r0 f d0) (sg1_x0 f d0) hb ?_
 have e : ([] ++ d0) = d0 := by simp
 rw [e]
 exact G.finC (cl := []) hty hsum mix [] H (sg1_e f d0 _ _ _ _ _ _) (eO_ok _) rfl rfl rfl
theorem sg2_call (f : Bool) (d0 d1 : List Int) (hl : d0.length + d1.length ≤ 1000000000) (Γ : Env) (hg : Γ.glob = globs) : CallOK Tryz.prog Γ 92 (sgVs f 2) (sgT f [d0, d1]) 100 100 (sgRes (d0 ++ d1)) := by
 refine CallOK.words (Γ := ΓG) ?_ (by rw [hg]; rfl) (fun _ => rfl) (fun _ _ h => h) (fun _ => rfl) rfl rfl
 refine call_G ΓG_ty ΓG_ok Tryz.func92 (by kernel_rfl) rfl (Nat.le_of_ble_eq_true (by kernel_rfl)) rfl [] ?_
 intro w0 M V0 Q hb H
 have hty := ΓG_ty
 have hsum := ΓG_ok
 refine G.toC hty hsum mix hb [] (sg2_s f d0 d1 _ _ _ _ _ d0.length) (nO_0 f _ d0) ?_
 refine sg_piece [] (by simp only [List.length_append, List.length_nil]; omega) (sg2_r0 f d0 d1) (sg2_x0 f d0 d1) hb ?_
 refine G.toC hty hsum mix hb [] (sg2_n1 f d0 d1 _ _ _ _ _ _ _ _ _ _ _ d1.length) (nO_ok f _ d1 ([] ++ d0)) ?_
 refine sg_piece ([] ++ d0) (by simp only [List.length_append, List.length_nil]; omega) (sg2_r1 f d0 d1) (sg2_x1 f d0 d1) hb ?_
 have e : (([] ++ d0) ++ d1) = d0 ++ d1 := by simp
 rw [e]
 exact G.finC (cl := []) hty hsum mix [] H (sg2_e f d0 d1 _ _ _ _ _ _) (eO_ok _) rfl rfl rfl
theorem sg3_call (f : Bool) (d0 d1 d2 : List Int) (hl : d0.length + d1.length + d2.length ≤ 1000000000) (Γ : Env) (hg : Γ.glob = globs) : CallOK Tryz.prog Γ 92 (sgVs f 3) (sgT f [d0, d1, d2]) 100 100 (sgRes (d0 ++ d1 ++ d2)) := by
 refine CallOK.words (Γ := ΓG) ?_ (by rw [hg]; rfl) (fun _ => rfl) (fun _ _ h => h) (fun _ => rfl) rfl rfl
 refine call_G ΓG_ty ΓG_ok Tryz.func92 (by kernel_rfl) rfl (Nat.le_of_ble_eq_true (by kernel_rfl)) rfl [] ?_
 intro w0 M V0 Q hb H
 have hty := ΓG_ty
 have hsum := ΓG_ok
 refine G.toC hty hsum mix hb [] (sg3_s f d0 d1 d2 _ _ _ _ _ d0.length) (nO_0 f _ d0) ?_
 refine sg_piece [] (by simp only [List.length_append, List.length_nil]; omega) (sg3_r0 f d0 d1 d2) (sg3_x0 f d0 d1 d2) hb ?_
 refine G.toC hty hsum mix hb [] (sg3_n1 f d0 d1 d2 _ _ _ _ _ _ _ _ _ _ _ d1.length) (nO_ok f _ d1 ([] ++ d0)) ?_
 refine sg_piece ([] ++ d0) (by simp only [List.length_append, List.length_nil]; omega) (sg3_r1 f d0 d1 d2) (sg3_x1 f d0 d1 d2) hb ?_
 refine G.toC hty hsum mix hb [] (sg3_n2 f d0 d1 d2 _ _ _ _ _ _ _ _ _ _ _ d2.length) (nO_ok f _ d2 (([] ++ d0) ++ d1)) ?_
 refine sg_piece (([] ++ d0) ++ d1) (by simp only [List.length_append, List.length_nil]; omega) (sg3_r2 f d0 d1 d2) (sg3_x2 f d0 d1 d2) hb ?_
 have e : ((([] ++ d0) ++ d1) ++ d2) = d0 ++ d1 ++ d2 := by simp
 rw [e]
 exact G.finC (cl := []) hty hsum mix [] H (sg3_e f d0 d1 d2 _ _ _ _ _ _) (eO_ok _) rfl rfl rfl
theorem sg4_call (f : Bool) (d0 d1 d2 d3 : List Int) (hl : d0.length + d1.length + d2.length + d3.length ≤ 1000000000) (Γ : Env) (hg : Γ.glob = globs) : CallOK Tryz.prog Γ 92 (sgVs f 4) (sgT f [d0, d1, d2, d3]) 100 100 (sgRes (d0 ++ d1 ++ d2 ++ d3)) := by
 refine CallOK.words (Γ := ΓG) ?_ (by rw [hg]; rfl) (fun _ => rfl) (fun _ _ h => h) (fun _ => rfl) rfl rfl
 refine call_G ΓG_ty ΓG_ok Tryz.func92 (by kernel_rfl) rfl (Nat.le_of_ble_eq_true (by kernel_rfl)) rfl [] ?_
 intro w0 M V0 Q hb H
 have hty := ΓG_ty
 have hsum := ΓG_ok
 refine G.toC hty hsum mix hb [] (sg4_s f d0 d1 d2 d3 _ _ _ _ _ d0.length) (nO_0 f _ d0) ?_
 refine sg_piece [] (by simp only [List.length_append, List.length_nil]; omega) (sg4_r0 f d0 d1 d2 d3) (sg4_x0 f d0 d1 d2 d3) hb ?_
 refine G.toC hty hsum mix hb [] (sg4_n1 f d0 d1 d2 d3 _ _ _ _ _ _ _ _ _ _ _ d1.length) (nO_ok f _ d1 ([] ++ d0)) ?_
 refine sg_piece ([] ++ d0) (by simp only [List.length_append, List.length_nil]; omega) (sg4_r1 f d0 d1 d2 d3) (sg4_x1 f d0 d1 d2 d3) hb ?_
 refine G.toC hty hsum mix hb [] (sg4_n2 f d0 d1 d2 d3 _ _ _ _ _ _ _ _ _ _ _ d2.length) (nO_ok f _ d2 (([] ++ d0) ++ d1)) ?_
 refine sg_piece (([] ++ d0) ++ d1) (by simp only [List.length_append, List.length_nil]; omega) (sg4_r2 f d0 d1 d2 d3) (sg4_x2 f d0 d1 d2 d3) hb ?_
 refine G.toC hty hsum mix hb [] (sg4_n3 f d0 d1 d2 d3 _ _ _ _ _ _ _ _ _ _ _ d3.length) (nO_ok f _ d3 ((([] ++ d0) ++ d1) ++ d2)) ?_
 refine sg_piece ((([] ++ d0) ++ d1) ++ d2) (by simp only [List.length_append, List.length_nil]; omega) (sg4_r3 f d0 d1 d2 d3) (sg4_x3 f d0 d1 d2 d3) hb ?_
 have e : (((([] ++ d0) ++ d1) ++ d2) ++ d3) = d0 ++ d1 ++ d2 ++ d3 := by simp
 rw [e]
 exact G.finC (cl := []) hty hsum mix [] H (sg4_e f d0 d1 d2 d3 _ _ _ _ _ _) (eO_ok _) rfl rfl rfl
end Go.Proofs.YtdhombdiakjdhaaGreatDoor.Sx
end
section
open Go
set_option maxRecDepth 100000
namespace Go.Proofs.YtdhombdiakjdhaaGreatDoor.Sx
def dgVs (n : Nat) : List SV := [.int true .i64 32, .raw (.slice none 0 0), .rsl 62 n]
def dgL (ds : List (List Int)) : List (Nat × SB) := (62, .rol ds) :: glB
def dgT (ds : List (List Int)) : Tab := fun l => look l (dgL ds)
noncomputable def dgM (ds : List (List Int)) (cf : Cf) (K : List Fr) (s : St) : Option Cfg := mrun ΓG (cutT 100 (dgT ds)) 100 Tryz.f92.ntmps [12, 15] 400 2000 cf K s
def dgGs (n : Nat) (i : Int) : List (Nat × SV) := [(0, .int true .i64 32), (8, .ptr 101 true 0), (9, .ptr 102 true 0), (10, .ptr 100 true 0), (11, .ptr 103 true 0), (12, .fn (.func 143) [] [.ptr 100 true 0, .ptr 101 true 0, .ptr 102 true 0, .ptr 103 true 0]),
 (52, .rsl 62 n), (53, .int false .i64 n), (54, .int false .i64 i)]
def dgGj (n : Nat) (i : Int) (k : Nat) (j : Int) : List (Nat × SV) := dgGs n i ++ [(58, .ros 104 k), (59, .int false .i64 k), (60, .int false .i64 j)]
def dgTj (h c : Int) (st blk d : List Int) : List (Nat × SB) := sgTb h c st blk ++ [(104, .rov .u8 d)]
noncomputable def dgR : Option Cfg := dgM [] (.go (codeOf Tryz.f92)) [] ((st0 (dgVs 0) 100).hint [])
noncomputable def dgLp : Code := cfgC dgR
noncomputable def dgK : List Fr := cfgF dgR
noncomputable def dgR2 : Option Cfg := dgM [[]] (.go dgLp) [] ((stOf (dgGs 1 0) (sgTb 0 0 [] []) 104 [] []).hint [true])
noncomputable def dgLq : Code := cfgC dgR2
noncomputable def dgKq : List Fr := cfgF dgR2
def dgO (h c : Int) (st blk : List Int) (h' c' : Int) (st' blk' : List Int) : List Prop := [[h] = [h'], st = st' ∧ 190 = 190, blk = blk' ∧ 76 = 76, [c] = [c']]
def dgN (n : Nat) (r : List Prop) : List Prop := (n = n) :: ((n : Int) = n) :: r
theorem dg_0 (ds : List (List Int)) (h c i : Int) (st blk : List Int) (n : Nat) : toC 100 Tryz.f92.ntmps (cutT 100 (dgT ds)) [] (dgGs n i) (sgTb h c st blk) 104 [] [] (dgM ds (.go (codeOf Tryz.f92)) [] ((st0 (dgVs n) 100).hint [])) =
  some (.go (.loop dgLp), dgK, dgN n ((0 = i) :: dgO 0 0 D.h0 (List.replicate 64 0) h c st blk)) := by kernel_rfl
theorem dg_1 (ds : List (List Int)) (h c i j : Int) (st blk d : List Int) (n k : Nat) : toC 100 Tryz.f92.ntmps (cutT 100 (dgT ds)) [.alf 58] (dgGj n i k j) (dgTj h c st blk d) 105 [] [] (dgM ds (.go dgLp) [] ((stOf (dgGs n i) (sgTb h c st blk) 104 [] []).hint [true])) =
  some (.go (.loop dgLq), dgKq, [i.toNat < ds.length, 0 ≤ i ∧ i < n, decide (i < n) = true] ++ dgN n ([i = i, (ds.getD i.toNat []).length = k, ((ds.getD i.toNat []).length : Int) = k, 0 = j] ++ (dgO h c st blk h c st blk ++ [ds.getD i.toNat [] = d]))) := by kernel_rfl
theorem dg_2 (ds : List (List Int)) (h c j h' c' j' i : Int) (st blk st' blk' d : List Int) (n k : Nat) : toC 100 Tryz.f92.ntmps (cutT 100 (dgT ds)) [] (dgGj n i k j') (dgTj h' c' st' blk' d) 105 [] [] (dgM ds (.go dgLq) [] ((stOf (dgGj n i k j) (dgTj h c st blk d) 105 [] []).hint [true])) =
  some (.at .normal, [], [st.length = 8, blk.length = 64, 0 ≤ h ∧ h ≤ 64, 0 ≤ c ∧ c ≤ 1000000000000, d.getD j.toNat 0 = d.getD j.toNat 0] ++ (dgO h c st blk h c st blk ++ ([j.toNat < d.length, 0 ≤ j ∧ j < k, decide (j < k) = true] ++
   dgN n ([i = i, k = k, (k : Int) = k, IntKind.i64.wrap (j + 1) = j'] ++ (dgO (D.tkH h) (c + 1) (D.tkS h c st blk) (D.tkB h (d.getD j.toNat 0) blk) h' c' st' blk' ++ [d = d]))))) := by kernel_rfl
theorem dg_3 (ds : List (List Int)) (h c j i : Int) (st blk d : List Int) (n k : Nat) : toC 100 Tryz.f92.ntmps (cutT 100 (dgT ds)) [] (dgGs n i) (sgTb h c st blk) 104 [] [] (dgM ds (.go dgLq) [] ((stOf (dgGj n i k j) (dgTj h c st blk d) 105 [] []).hint [false])) =
  some (.at (.exit 2), [], (decide (j < k) = false) :: dgN n ((i = i) :: dgO h c st blk h c st blk)) := by kernel_rfl
theorem dg_4 (ds : List (List Int)) (h c i i' : Int) (st blk : List Int) (n : Nat) : toC 100 Tryz.f92.ntmps (cutT 100 (dgT ds)) [] (dgGs n i') (sgTb h c st blk) 104 [] [] (dgM ds (.at (.exit 2)) dgKq ((stOf (dgGs n i) (sgTb h c st blk) 104 [] []).hint [])) =
  some (.at .normal, [], dgN n ((IntKind.i64.wrap (i + 1) = i') :: dgO h c st blk h c st blk)) := by kernel_rfl
theorem dg_5 (ds : List (List Int)) (h c i : Int) (st blk : List Int) (n : Nat) : toC 100 Tryz.f92.ntmps (cutT 100 (dgT ds)) [] (dgGs n i) (sgTb h c st blk) 104 [] [] (dgM ds (.go dgLp) [] ((stOf (dgGs n i) (sgTb h c st blk) 104 [] []).hint [false])) =
  some (.at (.exit 0), [], (decide (i < n) = false) :: dgN n ((i = i) :: dgO h c st blk h c st blk)) := by kernel_rfl
theorem dg_6 (ds : List (List Int)) (h c i : Int) (st blk : List Int) (n : Nat) : endC ΓG (dgT ds) 100 100 Tryz.f92 [] (dgM ds (.at (.exit 0)) dgK ((stOf (dgGs n i) (sgTb h c st blk) 104 [] []).hint [])) =
  some { obl := eO c st blk, val := .tup [.slcR 100 0 32 0, .raw .nilIface], new := [.row 1 ((D.bytes (D.press st blk c 4294967295)).map (.int false .u8)) 5] } := by kernel_rfl
theorem dgO_ok (h c : Int) (st blk : List Int) : ∀ q ∈ dgO h c st blk h c st blk, q := mem1 rfl (mem1 ⟨rfl, rfl⟩ (mem1 ⟨rfl, rfl⟩ (mem1 rfl mem0)))
theorem dgO_eq {h c h' c' : Int} {st blk st' blk' : List Int} (h1 : h = h') (h2 : c = c') (h3 : st = st') (h4 : blk = blk') : ∀ q ∈ dgO h c st blk h' c' st' blk', q := by subst h1 h2 h3 h4; exact dgO_ok _ _ _ _
theorem dgN_ok {n : Nat} {r : List Prop} (h : ∀ q ∈ r, q) : ∀ q ∈ dgN n r, q := mem1 rfl (mem1 rfl h)
noncomputable def dgS (n : Nat) (i : Int) (ms : List Int) : St := stOf (dgGs n i) (sgTb (sH ms) (sC ms) (sS ms) (sB ms)) 104 [] []
noncomputable def dgSj (n : Nat) (i : Int) (d : List Int) (j : Int) (ms : List Int) : St := stOf (dgGj n i d.length j) (dgTj (sH ms) (sC ms) (sS ms) (sB ms) d) 105 [] []
theorem dg_piece {ds : List (List Int)} {n : Nat} {i : Int} {d ms : List Int} (hl : ms.length + d.length ≤ 1000000000000)
  {w0 : World} {M : Nat → Prop} {V0 : Val} {Q : Exit → Act → World → Prop} (hb : Base ΓG (cutT 100 (dgT ds)) 100 V0)
  (h : G Tryz.prog ΓG w0 M (cutT 100 (dgT ds)) Tryz.f92.ntmps 100 V0 (.at (.exit 2)) dgKq (dgS n i (ms ++ d)) Q) :
  G Tryz.prog ΓG w0 M (cutT 100 (dgT ds)) Tryz.f92.ntmps 100 V0 (.go (.loop dgLq)) dgKq (dgSj n i d 0 ms) Q := by
 have hty := ΓG_ty
 have hsum := ΓG_ok
 refine G.loop (fun r s => ∃ j : Nat, j ≤ d.length ∧ r = d.length - j ∧ s = dgSj n i d j (ms ++ d.take j)) (r0 := d.length) ⟨0, Nat.zero_le _, rfl, by rw [List.take_zero, List.append_nil]; rfl⟩ ?_
 rintro r s ⟨j, hj, rfl, rfl⟩
 by_cases hlt : j < d.length
 ·have et : d.take (j + 1) = d.take j ++ [d.getD j 0] := by rw [List.take_add_one]; simp [List.getD_eq_getElem?_getD, hlt]
  have hstep := s_step (ms ++ d.take j) (d.getD j 0)
  rw [List.append_assoc, ← et] at hstep
  obtain ⟨e1, e2, e3, e4⟩ := hstep
  have hC : 0 ≤ sC (ms ++ d.take j) ∧ sC (ms ++ d.take j) ≤ 1000000000000 := by unfold sC; simp only [List.length_append, List.length_take]; omega
  refine G.roundC hty hsum mix hb [true] (dg_2 ds _ _ _ (sH (ms ++ d.take (j + 1))) (sC (ms ++ d.take (j + 1))) ((j + 1 : Nat) : Int) i _ _ (sS (ms ++ d.take (j + 1))) (sB (ms ++ d.take (j + 1))) d n d.length) ?_ (d.length - (j + 1)) (by omega) ⟨j + 1, hlt, rfl, rfl⟩
  rw [Int.toNat_natCast]
  refine memA (of_allP ⟨sS_length _, sB_length _, sH_le _, hC, rfl, trivial⟩) (memA (dgO_ok _ _ _ _) (memA (of_allP ⟨hlt, by omega, decide_eq_true (by omega), trivial⟩) (dgN_ok (memA (of_allP ⟨rfl, rfl, rfl, ?_, trivial⟩) (memA (dgO_eq e1 e4 e2 e3) (mem1 rfl mem0))))))
  rw [IntWalk.i64_in _ (by unfold sC at hC; simp only [List.length_append] at hC; omega)]; omega
 ·have e : j = d.length := by omega
  subst e
  rw [List.take_length]
  exact G.toC hty hsum mix hb [false] (dg_3 ds _ _ _ i _ _ d n d.length) (mem1 (decide_eq_false (by omega)) (dgN_ok (mem1 rfl (dgO_ok _ _ _ _)))) (G.leave (by simp) h)
theorem dg_call (ds : List (List Int)) (hl : ds.flatten.length ≤ 100000000000) (hn : ds.length ≤ 1000000000) (Γ : Env) (hg : Γ.glob = globs) : CallOK Tryz.prog Γ 92 (dgVs ds.length) (dgT ds) 100 100 (sgRes ds.flatten) := by
 refine CallOK.words (Γ := ΓG) ?_ (by rw [hg]; rfl) (fun _ => rfl) (fun _ _ h => h) (fun _ => rfl) rfl rfl
 refine call_G ΓG_ty ΓG_ok Tryz.func92 (by kernel_rfl) rfl (Nat.le_of_ble_eq_true (by kernel_rfl)) rfl [] ?_
 intro w0 M V0 Q hb H
 have hty := ΓG_ty
 have hsum := ΓG_ok
 refine G.toC hty hsum mix hb [] (dg_0 ds (sH []) (sC []) 0 (sS []) (sB []) ds.length) (dgN_ok (mem1 rfl (dgO_eq rfl rfl rfl rfl))) ?_
 refine G.loop (fun r s => ∃ i : Nat, i ≤ ds.length ∧ r = ds.length - i ∧ s = dgS ds.length i (ds.take i).flatten) (r0 := ds.length) ⟨0, Nat.zero_le _, rfl, rfl⟩ ?_
 rintro r s ⟨i, hi, rfl, rfl⟩
 by_cases hlt : i < ds.length
 ·have hf := flat_len hlt
  refine G.toC hty hsum mix hb [true] (dg_1 ds _ _ i 0 _ _ (ds.getD i []) ds.length (ds.getD i []).length) ?_ (dg_piece (i := i) (ms := (ds.take i).flatten) (by omega) hb ?_)
  ·rw [Int.toNat_natCast]
   exact memA (of_allP ⟨hlt, by omega, decide_eq_true (by omega), trivial⟩) (dgN_ok (memA (of_allP ⟨rfl, rfl, rfl, rfl, trivial⟩) (memA (dgO_ok _ _ _ _) (mem1 rfl mem0))))
  ·rw [← flat_take hlt]
   refine G.roundC hty hsum mix hb [] (dg_4 ds _ _ i ((i + 1 : Nat) : Int) _ _ ds.length) (dgN_ok (mem1 ?_ (dgO_ok _ _ _ _))) (ds.length - (i + 1)) (by omega) ⟨i + 1, hlt, rfl, rfl⟩
   rw [IntWalk.i64_in _ (by omega)]; omega
 ·have e : i = ds.length := by omega
  subst e
  refine G.toC hty hsum mix hb [false] (dg_5 ds _ _ _ _ _ ds.length) (mem1 (decide_eq_false (by omega)) (dgN_ok (mem1 rfl (dgO_ok _ _ _ _)))) (G.leave (by simp) ?_)
  rw [List.take_length]
  exact G.finC (cl := []) hty hsum mix [] H (dg_6 ds _ _ _ _ _ _) (eO_ok _) rfl rfl rfl
def dgDec (vs : List SV) (T : Tab) : Option Canon := match vs with
 | [.int true .i64 n, .raw (.slice none 0 0), v] => match beqI n 32, lsIn T v with
   | true, some ds => some { vs0 := dgVs ds.length, T0 := dgL ds, vl := [(62, .lst 2)], e0 := sgRes ds.flatten, conds := [ds.flatten.length ≤ 100000000000, ds.length ≤ 1000000000] }
   | _, _ => none
 | _ => none
theorem dgd_ok (Γ : Env) (hg : Γ.glob = globs) : SumOK Tryz.prog Γ 92 (canonS globs 100 dgDec) := by
 refine canonS_ok hg fun vs T c hd hc => ?_
 unfold dgDec at hd
 split at hd
 case h_2 => cases hd
 split at hd
 case h_2 => cases hd
 cases hd
 exact dg_call _ (hc _ (by simp)) (hc _ (by simp)) Γ hg
noncomputable def exDg : Nat → Option Sum := addS exA 92 (canonS globs 100 dgDec)
theorem exDg_ok : ∀ f S, exDg f = some S → ∀ Γ : Env, Γ.glob = globs → SumOK Tryz.prog Γ f S := addS_ok (fun f S h Γ _ => exA_ok f S h Γ) 92 _ dgd_ok
theorem wl_0 (ds : List (List Int)) (n : Nat) : interp (env exDg 4) Tryz.f51 true [] 1500 [.rsl 62 n] (dgT ds) 100 100 =
  some { obl := [ds.flatten.length ≤ 100000000000, ds.length ≤ 1000000000, n = ds.length, ds = ds], val := .agg ((D.hash ds.flatten).map (.int false .u8)) } := by kernel_rfl
theorem wl_call (ds : List (List Int)) (hl : ds.flatten.length ≤ 100000000000) (hn : ds.length ≤ 1000000000) (Γ : Env) (hg : Γ.glob = globs) : CallOK Tryz.prog Γ 51 [.rsl 62 ds.length] (dgT ds) 100 100 { val := .ai .u8 (D.hash ds.flatten) } := by
 have hs : SumOK Tryz.prog (env exDg 4) 51 (interp (env exDg 4) Tryz.f51 true [] 1500) :=
  interp_ok (env_ty exDg 4) (env_ok exDg exDg_ok 4) mix Tryz.func51 (by kernel_rfl) true [] 1500
 refine (hs.call (wl_0 ds ds.length) (mem1 hl (mem1 hn (mem1 rfl (mem1 rfl mem0))))).words (by rw [hg]; rfl) (fun _ => rfl) (fun _ _ h => h) (fun V => ?_) rfl rfl
 show den V (.agg _) = den V (.ai _ _)
 simp only [den, denL_map_int]
 rfl
def wlDec (vs : List SV) (T : Tab) : Option Canon := match vs with
 | [v] => match lsIn T v with
   | some ds => some { vs0 := [.rsl 62 ds.length], T0 := dgL ds, vl := [(62, .lst 0)], e0 := { val := .ai .u8 (D.hash ds.flatten) }, conds := [ds.flatten.length ≤ 100000000000, ds.length ≤ 1000000000] }
   | none => none
 | _ => none
theorem wl_ok (Γ : Env) (hg : Γ.glob = globs) : SumOK Tryz.prog Γ 51 (canonS globs 100 wlDec) := by
 refine canonS_ok hg fun vs T c hd hc => ?_
 unfold wlDec at hd
 split at hd
 case h_2 => cases hd
 split at hd
 case h_2 => cases hd
 cases hd
 exact wl_call _ (hc _ (by simp)) (hc _ (by simp)) Γ hg
end Go.Proofs.YtdhombdiakjdhaaGreatDoor.Sx
end
