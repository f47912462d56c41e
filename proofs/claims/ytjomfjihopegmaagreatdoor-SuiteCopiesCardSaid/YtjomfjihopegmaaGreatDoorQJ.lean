/- pintleref8.press: contract. -/
import Derived.Test.YtjomfjihopegmaaGreatDoorQI
section
open Go
set_option maxRecDepth 100000
namespace Go.Proofs.YtjomfjihopegmaaGreatDoor.Sx
theorem mulN_eq {x : Int} (hx : Bt x) {k : Nat} (hk : k ≤ 3) : mulN k (IntKind.i64.wrap x) = x * R8.p256 k := by
 unfold Bt at hx
 have w : ∀ y : Int, 0 ≤ y ∧ y < 9223372036854775807 → IntKind.i64.wrap y = y := fun y hy => IntWalk.i64_in _ (by omega)
 rcases (by omega : k = 0 ∨ k = 1 ∨ k = 2 ∨ k = 3) with rfl | rfl | rfl | rfl
 ·simp only [mulN, R8.p256]; rw [w x (by omega)]; omega
 ·simp only [mulN, R8.p256]; rw [w x (by omega), w _ (by omega)]
 ·simp only [mulN, R8.p256]; rw [w x (by omega), w (x * 256) (by omega), w _ (by omega)]; omega
 ·simp only [mulN, R8.p256]; rw [w x (by omega), w (x * 256) (by omega), w (x * 256 * 256) (by omega), w _ (by omega)]; omega
theorem pt1_length (v m : List Int) (s : List Nat) : (R8.p1 v m s).length = v.length := by unfold R8.p1; rw [mix8_length]
theorem pt2_length (v m : List Int) (s : List Nat) : (R8.p2 v m s).length = v.length := by unfold R8.p2; rw [mix8_length, pt1_length]
theorem pt3_length (v m : List Int) (s : List Nat) : (R8.p3 v m s).length = v.length := by unfold R8.p3; rw [mix8_length, pt2_length]
theorem pt4_length (v m : List Int) (s : List Nat) : (R8.p4 v m s).length = v.length := by unfold R8.p4; rw [mix8_length, pt3_length]
theorem pt5_length (v m : List Int) (s : List Nat) : (R8.p5 v m s).length = v.length := by unfold R8.p5; rw [mix8_length, pt4_length]
theorem pt6_length (v m : List Int) (s : List Nat) : (R8.p6 v m s).length = v.length := by unfold R8.p6; rw [mix8_length, pt5_length]
theorem pt7_length (v m : List Int) (s : List Nat) : (R8.p7 v m s).length = v.length := by unfold R8.p7; rw [mix8_length, pt6_length]
theorem pt8_length (v m : List Int) (s : List Nat) : (R8.p8 v m s).length = v.length := by unfold R8.p8; rw [mix8_length, pt7_length]
theorem orders_lt : ∀ s ∈ D.orders, ∀ j, s.getD j 0 < 16 := by
 intro s hs j
 have h : ∀ s ∈ D.orders, ∀ x ∈ s, x < 16 := by decide
 rw [List.getD_eq_getElem?_getD]
 cases hj : s[j]? with
 | none => simp
 | some x => exact h s hs x (List.mem_of_getElem? hj)
theorem rdO_ok {v m v' : List Int} {s : List Nat} {e : Prop} (hv : v.length = 16) (hm : m.length = 16) (hs : s ∈ D.orders) (he : e) (h : R8.p8 v m s = v') : ∀ q ∈ rdO v m v' s e, q := by
 have hl := orders_lt s hs
 have l : ∀ j, s.getD j 0 + 1 ≤ m.length := fun j => by have := hl j; omega
 have l1 := (pt1_length v m s).trans hv
 have l2 := (pt2_length v m s).trans hv
 have l3 := (pt3_length v m s).trans hv
 have l4 := (pt4_length v m s).trans hv
 have l5 := (pt5_length v m s).trans hv
 have l6 := (pt6_length v m s).trans hv
 have l7 := (pt7_length v m s).trans hv
 have l8 := (pt8_length v m s).trans hv
 refine of_allP ?_
 exact ⟨⟨l8, l7⟩, l7, rfl, rfl, rfl, l7, l _, l _, ⟨l7, l6⟩, l6, rfl, rfl, rfl, l6, l _, l _, ⟨l6, l5⟩, l5, rfl, rfl, rfl, l5, l _, l _, ⟨l5, l4⟩, l4, rfl, rfl, rfl, l4, l _, l _,
  ⟨l4, l3⟩, l3, rfl, rfl, rfl, l3, l _, l _, ⟨l3, l2⟩, l2, rfl, rfl, rfl, l2, l _, l _, ⟨l2, l1⟩, l1, rfl, rfl, rfl, l1, l _, l _, ⟨l1, hv⟩, hv, rfl, rfl, rfl, hv, l _, l _, he, ⟨rfl, rfl⟩, ⟨h, rfl⟩, trivial⟩
theorem rd8_succ (v m : List Int) {r : Nat} (hr : r < 10) : R8.p8 (R8.rounds v m r) m (D.orders.getD r []) = R8.rounds v m (r + 1) := by
 unfold R8.rounds
 rw [R8.p8_eq]
 have h : ∀ r : Nat, r < 10 → D.orders.take (r + 1) = D.orders.take r ++ [D.orders.getD r []] := by decide
 rw [h r hr, List.foldl_append, List.foldl_cons, List.foldl_nil]
theorem round8_length (v m : List Int) (s : List Nat) : (R8.roundM v m s).length = v.length := by rw [← R8.p8_eq, pt8_length]
theorem rounds_len8 (v m : List Int) : ∀ r, (R8.rounds v m r).length = v.length := by
 intro r
 unfold R8.rounds
 generalize D.orders.take r = l
 induction l generalizing v with
 | nil => rfl
 | cons s l ih => rw [List.foldl_cons, ih, round8_length]
theorem pp_call {h d : List Int} {c : Int} {la : Bool} (hh : h.length = 8) (hd : Bts d) (hl : d.length ≤ 64) (Γ : Env) (hg : Γ.glob = globs) :
  CallOK Tryz.prog Γ 71 (ppVs h d.length c la) (ppT d) 100 100 { val := .ai .i64 (R8.press h d c (laI la)) } := by
 refine CallOK.words (Γ := ΓP) (e := { val := .agg ((R8.press h d c (laI la)).map (.int false .i64)) }) ?_ (by rw [hg]; rfl) (fun _ => rfl) (fun _ _ h => h) (fun V => den_agg_ai V _ _) rfl rfl
 refine call_G ΓP_ty ΓP_ok Tryz.func71 (by kernel_rfl) rfl (Nat.le_of_ble_eq_true (by kernel_rfl)) rfl [] ?_
 intro w0 M V0 Q hb H
 have hty := ΓP_ty
 have hsum := ΓP_ok
 refine G.toC hty hsum mix hb [] (pp_0 h (R8.words d 0) d d.length c 0 la) (mem1 rfl (mem1 rfl (mem1 rfl (mem1 ⟨rfl, rfl⟩ (mem1 ⟨(R8.words_zero d).symm, rfl⟩ mem0))))) ?_
 refine G.loop (fun r s => ∃ i : Nat, i ≤ d.length ∧ r = d.length - i ∧ s = stOf (ppGs d.length c la i) (ppTb h (R8.words d i)) 103 [] []) (r0 := d.length) ⟨0, Nat.zero_le _, rfl, rfl⟩ ?_
 rintro r s ⟨i, hi, rfl, rfl⟩
 by_cases hlt : i < d.length
 ·have hq : pq (i : Int) = ((i / 4 : Nat) : Int) := by
   unfold pq
   rw [Int.tdiv_eq_ediv_of_nonneg (by omega), IntWalk.i64_in _ (by omega)]
   rfl
  have hm : (i : Int).tmod 4 = ((i % 4 : Nat) : Int) := by rw [Int.tmod_eq_emod_of_nonneg (by omega)]; rfl
  have hwl := R8.words_length d i
  have hq2 : 0 + (pq (i : Int)).toNat * 1 = i / 4 := by rw [hq]; omega
  refine G.roundC hty hsum mix hb ([true, true] ++ (List.replicate (i % 4) true ++ [false])) (pp_r h (R8.words d i) d (R8.words d (i + 1)) d.length c i ((i + 1 : Nat) : Int) la (i % 4) (by omega)) ?_ (d.length - (i + 1)) (by omega) ⟨i + 1, hlt, rfl, rfl⟩
  refine memA (mem1 (by rw [hq2]; omega) (mem1 (by rw [hq]; omega) (mem1 (by rw [hq2]; omega) (mem1 (by rw [hq]; omega) (mem1 (by rw [hm]; exact decide_eq_false (by omega)) mem0))))) (memA (fun q hq0 => ?_) (mem1 (by omega) (mem1 (by omega) (mem1 (decide_eq_true (by omega)) (mem1 (decide_eq_true (by omega)) (mem1 rfl (mem1 rfl (mem1 ?_ (mem1 ⟨rfl, rfl⟩ (mem1 ⟨?_, rfl⟩ mem0))))))))))
  ·simp only [List.mem_map, List.mem_reverse, List.mem_range] at hq0
   obtain ⟨j, hj, rfl⟩ := hq0
   rw [hm]
   exact decide_eq_true (by omega)
  ·rw [IntWalk.i64_in _ (by omega)]; omega
  ·rw [hq2, Nat.add_zero, Int.toNat_natCast, mulN_eq (hd.get i) (by omega)]
   exact R8.words_succ hd (by omega)
 have hil : i = d.length := by omega
 subst hil
 refine G.toC hty hsum mix hb [false] (pp_3 h _ d d.length c _ la) (mem1 (decide_eq_false (by omega)) (mem1 rfl (mem1 rfl (mem1 rfl (mem1 ⟨rfl, rfl⟩ (mem1 ⟨rfl, rfl⟩ mem0)))))) (G.leave (by simp) ?_)
 have hml := R8.words_length d d.length
 have hsl : (R8.start h c (laI la)).length = 16 := by simp [R8.start, bytesI]
 refine G.toC hty hsum mix hb [] (pp_4 h _ (R8.start h c (laI la)) d d.length c _ la) ?_ ?_
 ·exact of_allP ⟨by omega, by omega, by omega, by omega, by omega, by omega, by omega, by omega, ⟨(bytesI_eq hh).symm, rfl⟩, ⟨rfl, rfl⟩, ⟨rfl, rfl⟩, trivial⟩
 refine G.loop (fun r s => ∃ k : Nat, k ≤ 10 ∧ r = 10 - k ∧ s = stOf (ppGs2 k) (ppTb2 h (R8.words d d.length) (R8.rounds (R8.start h c (laI la)) (R8.words d d.length) k)) 104 [] []) (r0 := 10) ⟨0, by omega, rfl, rfl⟩ ?_
 rintro r s ⟨k, hk, rfl, rfl⟩
 have hvl : (R8.rounds (R8.start h c (laI la)) (R8.words d d.length) k).length = 16 := by rw [rounds_len8, hsl]
 by_cases hlt : k < 10
 ·have hs : D.orders.getD k [] ∈ D.orders := by
   have hl : k < D.orders.length := hlt
   rw [List.getD_eq_getElem?_getD, List.getElem?_eq_getElem hl]
   exact List.getElem_mem hl
  have hob := rdO_ok (v' := R8.rounds (R8.start h c (laI la)) (R8.words d d.length) (k + 1)) (e := bytesI 8 h = bytesI 8 h) hvl hml hs rfl (rd8_succ _ _ hlt)
  have nx : ∃ k', k' ≤ 10 ∧ 10 - (k + 1) = 10 - k' ∧ stOf (ppGs2 (k + 1)) (ppTb2 h (R8.words d d.length) (R8.rounds (R8.start h c (laI la)) (R8.words d d.length) (k + 1))) 104 [] [] = stOf (ppGs2 k') (ppTb2 h (R8.words d d.length) (R8.rounds (R8.start h c (laI la)) (R8.words d d.length) k')) 104 [] [] := ⟨k + 1, hlt, rfl, rfl⟩
  rcases (by omega : k = 0 ∨ k = 1 ∨ k = 2 ∨ k = 3 ∨ k = 4 ∨ k = 5 ∨ k = 6 ∨ k = 7 ∨ k = 8 ∨ k = 9) with rfl | rfl | rfl | rfl | rfl | rfl | rfl | rfl | rfl | rfl
  ·exact G.roundC hty hsum mix hb [] (pp_50 h _ _ _ d) hob _ (by omega) nx
  ·exact G.roundC hty hsum mix hb [] (pp_51 h _ _ _ d) hob _ (by omega) nx
  ·exact G.roundC hty hsum mix hb [] (pp_52 h _ _ _ d) hob _ (by omega) nx
  ·exact G.roundC hty hsum mix hb [] (pp_53 h _ _ _ d) hob _ (by omega) nx
  ·exact G.roundC hty hsum mix hb [] (pp_54 h _ _ _ d) hob _ (by omega) nx
  ·exact G.roundC hty hsum mix hb [] (pp_55 h _ _ _ d) hob _ (by omega) nx
  ·exact G.roundC hty hsum mix hb [] (pp_56 h _ _ _ d) hob _ (by omega) nx
  ·exact G.roundC hty hsum mix hb [] (pp_57 h _ _ _ d) hob _ (by omega) nx
  ·exact G.roundC hty hsum mix hb [] (pp_58 h _ _ _ d) hob _ (by omega) nx
  ·exact G.roundC hty hsum mix hb [] (pp_59 h _ _ _ d) hob _ (by omega) nx
 have hk10 : k = 10 := by omega
 subst hk10
 refine G.toC hty hsum mix hb [] (pp_6 h _ _ d) (mem1 rfl (mem1 ⟨rfl, rfl⟩ (mem1 ⟨(bytesI_eq hvl).symm, rfl⟩ mem0))) (G.leave (by simp) ?_)
 exact G.finC (cl := []) hty hsum mix [] H (pp_7 h _ _ d) mem0 rfl rfl rfl
def ppDec (vs : List SV) (T : Tab) : Option Canon := match vs with
 | [hv, p, .int _ .i64 c, .bool true la] => match intsOf hv, seqRo T .u8 p with
   | some (.i64, h), some (ob, d) => some { vs0 := ppVs h d.length c la, T0 := [(61, .rov .u8 d)], vl := [(61, .arg 1)], e0 := { val := .ai .i64 (R8.press h d c (laI la)) }, conds := [h.length = 8, Bts d, d.length ≤ 64] ++ ob }
   | _, _ => none
 | _ => none
theorem pp_ok (Γ : Env) (hg : Γ.glob = globs) : SumOK Tryz.prog Γ 71 (canonS globs 100 ppDec) := by
 refine canonS_ok hg fun vs T c hd hc => ?_
 unfold ppDec at hd
 split at hd
 case h_2 => cases hd
 split at hd
 case h_2 => cases hd
 cases hd
 exact pp_call (hc _ (by simp)) (hc _ (by simp)) (hc _ (by simp)) Γ hg
end Go.Proofs.YtjomfjihopegmaaGreatDoor.Sx
end
section
open Go
set_option maxRecDepth 100000
namespace Go.Proofs.YtjomfjihopegmaaGreatDoor.Sx
noncomputable def exP : Nat → Option Sum := addS exA 71 (canonS globs 100 ppDec)
theorem exP_ok : ∀ f S, exP f = some S → ∀ Γ : Env, Γ.glob = globs → SumOK Tryz.prog Γ f S := addS_ok (fun f S h Γ _ => exA_ok f S h Γ) 71 _ pp_ok
noncomputable def ΓS : Env := env exP 3
theorem ΓS_ty : TyOK Tryz.prog ΓS := env_ty exP 3
theorem ΓS_ok : SumsOK Tryz.prog ΓS := env_ok exP exP_ok 3
def rsVs (n : Nat) : List SV := [.int true .i64 32, .raw (.slice none 0 0), .ros 61 n]
def rsT (d : List Int) : Tab := fun l => look l [(61, .rov .u8 d)]
noncomputable def rsM (d : List Int) (cf : Cf) (K : List Fr) (s : St) : Option Cfg := mrun ΓS (cutT 100 (rsT d)) 100 Tryz.f33.ntmps [12, 18] 400 2000 cf K s
def rsGs (at' : Int) : List (Nat × SV) := [(0, .int true .i64 32), (8, .buf 100), (9, .ptr 101 true 0), (10, .int false .i64 at')]
def rsTb (d h : List Int) : List (Nat × SB) := [(100, .rowi .u8 d 5), (101, .ints .i64 h 125)]
noncomputable def rsR : Option Cfg := rsM [] (.go (codeOf Tryz.f33)) [] ((st0 (rsVs 0) 100).hint [])
noncomputable def rsL : Code := cfgC rsR
noncomputable def rsK : List Fr := cfgF rsR
def rsGs2 : List (Nat × SV) := [(0, .int true .i64 32), (9, .ptr 100 true 0), (11, .raw (.slice none 0 0)), (12, .int true .i64 0)]
def rsTb2 (h : List Int) : List (Nat × SB) := [(100, .own (intsV .i64 8 h) 125)]
theorem rs_0 (d d' h : List Int) (n : Nat) (i : Int) :
 (toC 100 Tryz.f33.ntmps (cutT 100 (rsT d)) [] (rsGs i) (rsTb d' h) 102 [] [] (rsM d (.go (codeOf Tryz.f33)) [] ((st0 (rsVs n) 100).hint []))) =
 some (.go (.loop rsL), rsK,
  [((0 : Nat) + d.length) * (1 : Nat) ≤ (140737488355328 : Nat), (0 : Int) = i, [] ++ d = d',
  [(1795745351 : Int), (3144134277 : Int), (1013904242 : Int), (2773480762 : Int), (1359893119 : Int), (2600822924 : Int), (528734635 : Int), (1541459225 : Int)] = h ∧ (125 : Nat) = (125 : TypeId)]) := by kernel_rfl
theorem rs_1 (d d0 h h' : List Int) (i i' : Int) :
 toC 100 Tryz.f33.ntmps (cutT 100 (rsT d0)) [] (rsGs i') (rsTb d h') 102 [] [] (rsM d0 (.go rsL) [] ((stOf (rsGs i) (rsTb d h) 102 [] []).hint [true])) =
 some
 (Cf.at Ex.normal, [],
  [(R8.press h (List.take ((IntKind.i64.wrap (i + (64 : Int))).toNat - i.toNat) (List.drop i.toNat d)) (IntKind.i64.wrap (i + (64 : Int))) (0 : Int)).length = (8 : Nat) ∧ h.length = (8 : Nat),
   h.length = (8 : Nat), Bts (List.take ((IntKind.i64.wrap (i + (64 : Int))).toNat - i.toNat) (List.drop i.toNat d)),
   (List.take ((IntKind.i64.wrap (i + (64 : Int))).toNat - i.toNat) (List.drop i.toNat d)).length ≤ (64 : Nat),
   i.toNat ≤ (IntKind.i64.wrap (i + (64 : Int))).toNat ∧ (IntKind.i64.wrap (i + (64 : Int))).toNat ≤ d.length, h = h,
   i.toNat = i.toNat ∧ (IntKind.i64.wrap (i + (64 : Int))).toNat = (IntKind.i64.wrap (i + (64 : Int))).toNat,
   i.toNat ≤ (IntKind.i64.wrap (i + (64 : Int))).toNat ∧ (IntKind.i64.wrap (i + (64 : Int))).toNat ≤ d.length,
   (List.take ((IntKind.i64.wrap (i + (64 : Int))).toNat - i.toNat) (List.drop i.toNat d)).length = (List.take ((IntKind.i64.wrap (i + (64 : Int))).toNat - i.toNat) (List.drop i.toNat d)).length,
   IntKind.i64.wrap (i + (64 : Int)) = IntKind.i64.wrap (i + (64 : Int)),
   List.take ((IntKind.i64.wrap (i + (64 : Int))).toNat - i.toNat) (List.drop i.toNat d) = List.take ((IntKind.i64.wrap (i + (64 : Int))).toNat - i.toNat) (List.drop i.toNat d),
   i.toNat ≤ (IntKind.i64.wrap (i + (64 : Int))).toNat ∧ (IntKind.i64.wrap (i + (64 : Int))).toNat ≤ d.length,
   (0 : Int) ≤ i ∧ i ≤ IntKind.i64.wrap (i + (64 : Int)) ∧ IntKind.i64.wrap (i + (64 : Int)) ≤ (↑d.length : Int), h.length = (8 : Nat),
   decide (IntKind.i64.wrap ((↑d.length : Int) - i) > (64 : Int)) = true, IntKind.i64.wrap (i + (64 : Int)) = i', d = d,
   R8.press h (List.take ((IntKind.i64.wrap (i + (64 : Int))).toNat - i.toNat) (List.drop i.toNat d)) (IntKind.i64.wrap (i + (64 : Int))) (0 : Int) = h' ∧ (125 : TypeId) = (125 : TypeId)]) := by kernel_rfl
theorem rs_2 (d d0 h : List Int) (i : Int) :
 toC 100 Tryz.f33.ntmps (cutT 100 (rsT d0)) [] (rsGs i) (rsTb d h) 102 [] [] (rsM d0 (.go rsL) [] ((stOf (rsGs i) (rsTb d h) 102 [] []).hint [false])) =
 some (Cf.at (Ex.exit 2), [], [decide (IntKind.i64.wrap ((↑d.length : Int) - i) > (64 : Int)) = false, i = i, d = d, h = h ∧ (125 : TypeId) = (125 : TypeId)]) := by kernel_rfl
noncomputable def rsR2 : Option Cfg := rsM [] (.at (.exit 2)) rsK ((stOf (rsGs 0) (rsTb [] []) 102 [] []).hint [])
noncomputable def rsL2 : Code := cfgC rsR2
noncomputable def rsK2 : List Fr := cfgF rsR2
theorem rs_3 (d d0 h h' : List Int) (i : Int) :
 (toC 100 Tryz.f33.ntmps (cutT 100 (rsT d0)) [] rsGs2 (rsTb2 h') 101 [] [] (rsM d0 (.at (.exit 2)) rsK ((stOf (rsGs i) (rsTb d h) 102 [] []).hint []))) =
 some (.go (.loop rsL2), rsK2,
  [(R8.press h (List.take ((↑d.length : Int).toNat - i.toNat) (List.drop i.toNat d)) (↑d.length : Int) (4294967295 : Int)).length = (8 : Nat) ∧ h.length = (8 : Nat), h.length = (8 : Nat),
  Bts (List.take ((↑d.length : Int).toNat - i.toNat) (List.drop i.toNat d)), (List.take ((↑d.length : Int).toNat - i.toNat) (List.drop i.toNat d)).length ≤ (64 : Nat),
  i.toNat ≤ (↑d.length : Int).toNat ∧ (↑d.length : Int).toNat ≤ d.length, h = h, i.toNat = i.toNat ∧ (↑d.length : Int).toNat = (↑d.length : Int).toNat,
  i.toNat ≤ (↑d.length : Int).toNat ∧ (↑d.length : Int).toNat ≤ d.length,
  (List.take ((↑d.length : Int).toNat - i.toNat) (List.drop i.toNat d)).length = (List.take ((↑d.length : Int).toNat - i.toNat) (List.drop i.toNat d)).length, (↑d.length : Int) = (↑d.length : Int),
  List.take ((↑d.length : Int).toNat - i.toNat) (List.drop i.toNat d) = List.take ((↑d.length : Int).toNat - i.toNat) (List.drop i.toNat d),
  i.toNat ≤ (↑d.length : Int).toNat ∧ (↑d.length : Int).toNat ≤ d.length, (0 : Int) ≤ i ∧ i ≤ (↑d.length : Int) ∧ (↑d.length : Int) ≤ (↑d.length : Int), h.length = (8 : Nat),
  R8.press h (List.take ((↑d.length : Int).toNat - i.toNat) (List.drop i.toNat d)) (↑d.length : Int) (4294967295 : Int) =
    [h'.getD 0 (0 : Int), h'.getD 1 (0 : Int), h'.getD 2 (0 : Int), h'.getD 3 (0 : Int), h'.getD 4 (0 : Int), h'.getD 5 (0 : Int),
     h'.getD 6 (0 : Int), h'.getD 7 (0 : Int)] ∧
   (125 : TypeId) = (125 : TypeId)]) := by kernel_rfl
end Go.Proofs.YtjomfjihopegmaaGreatDoor.Sx
end
section
open Go
set_option maxRecDepth 100000
namespace Go.Proofs.YtjomfjihopegmaaGreatDoor.Sx
theorem rs_4 (h d0 : List Int) : endC ΓS (rsT d0) 100 100 Tryz.f33 [] (mrun ΓS (cutT 100 (rsT d0)) 100 Tryz.f33.ntmps [12] 400 3000 (.go (.loop rsL2)) rsK2 ((stOf rsGs2 (rsTb2 h) 101 [] []).hint [])) =
  some { val := .tup [.slcR 100 0 32 0, .int true .i64 0], new := [.row 1 ((R8.bytes h).map (.int false .u8)) 5] } := by kernel_rfl
theorem r8press_length (h d : List Int) (c la : Int) : (R8.press h d c la).length = 8 := by simp [R8.press]
theorem rs_call {d : List Int} (hd : Bts d) (hl : d.length ≤ 1000000000) (Γ : Env) (hg : Γ.glob = globs) :
  CallOK Tryz.prog Γ 33 (rsVs d.length) (rsT d) 100 100 { val := .tup [.slcR 100 0 32 0, .int true .i64 0], new := [.row 1 ((D.hash d).map (.int false .u8)) 5] } := by
 have hfin := fin_step hd (by omega)
 have hbw := bytes_W hfin.2
 have ehash : (R8.bytes (D.fin d)) = D.hash d := hbw.1
 rw [← ehash]
 refine CallOK.words (Γ := ΓS) ?_ (by rw [hg]; rfl) (fun _ => rfl) (fun _ _ h => h) (fun _ => rfl) rfl rfl
 refine call_G ΓS_ty ΓS_ok Tryz.func33 (by kernel_rfl) rfl (Nat.le_of_ble_eq_true (by kernel_rfl)) rfl [] ?_
 intro w0 M V0 Q hb H
 have hty := ΓS_ty
 have hsum := ΓS_ok
 refine G.toC hty hsum mix hb [] (rs_0 d d D.h0 d.length 0) (mem1 (by omega) (mem1 rfl (mem1 rfl (mem1 ⟨rfl, rfl⟩ mem0)))) ?_
 refine G.loop (fun r s => ∃ b : Nat, b ≤ D.nb d.length ∧ r = d.length - 64 * b ∧ s = stOf (rsGs ((64 * b : Nat) : Int)) (rsTb d (D.hs d b)) 102 [] []) (r0 := d.length) ⟨0, Nat.zero_le _, rfl, rfl⟩ ?_
 rintro r s ⟨b, hb1, rfl, rfl⟩
 have hwd : IntKind.i64.wrap ((d.length : Int) - ((64 * b : Nat) : Int)) = (d.length : Int) - ((64 * b : Nat) : Int) := IntWalk.i64_in _ (by unfold D.nb at hb1; omega)
 have h8 := D.hs_length d b
 have hW := hs_W hd b (by unfold D.nb at hb1; omega)
 by_cases hlt : 64 < d.length - 64 * b
 ·have hst := hs_step hd b (by omega) hW
  have e1 : IntKind.i64.wrap (((64 * b : Nat) : Int) + 64) = ((64 * (b + 1) : Nat) : Int) := by rw [IntWalk.i64_in _ (by omega)]; omega
  have e2 : (((64 * (b + 1) : Nat) : Int)).toNat - (((64 * b : Nat) : Int)).toNat = 64 := by omega
  refine G.roundC hty hsum mix hb [true] (rs_1 d d (D.hs d b) (D.hs d (b + 1)) ((64 * b : Nat) : Int) ((64 * (b + 1) : Nat) : Int)) ?_ (d.length - 64 * (b + 1)) (by omega) ⟨b + 1, by unfold D.nb; omega, rfl, rfl⟩
  rw [e1, e2, Int.toNat_natCast, Int.toNat_natCast]
  have hx : 64 * b ≤ 64 * (b + 1) ∧ 64 * (b + 1) ≤ d.length := by omega
  refine of_allP ⟨⟨r8press_length _ _ _ _, h8⟩, h8, (hd.drop _).take _, by simp; omega, hx, rfl, ⟨rfl, rfl⟩, hx, rfl, rfl, rfl, hx, by omega, h8, ?_, rfl, rfl, ⟨hst.1, rfl⟩, trivial⟩
  rw [hwd]; exact decide_eq_true (by omega)
 have hbn : b = D.nb d.length := by unfold D.nb at *; omega
 subst hbn
 refine G.toC hty hsum mix hb [false] (rs_2 d d _ _) (mem1 (by rw [hwd]; exact decide_eq_false (by unfold D.nb; omega)) (mem1 rfl (mem1 rfl (mem1 ⟨rfl, rfl⟩ mem0)))) (G.leave (by simp) ?_)
 have e2 : ((d.length : Int)).toNat - (((64 * D.nb d.length : Nat) : Int)).toNat = d.length - 64 * D.nb d.length := by omega
 have e3 : (d.drop (64 * D.nb d.length)).take (d.length - 64 * D.nb d.length) = d.drop (64 * D.nb d.length) := List.take_of_length_le (by simp)
 refine G.toC hty hsum mix hb [] (rs_3 d d _ (D.fin d) _) ?_ ?_
 ·rw [e2, Int.toNat_natCast, Int.toNat_natCast, e3]
  have hx : 64 * D.nb d.length ≤ d.length ∧ d.length ≤ d.length := by unfold D.nb; omega
  have h8f : (D.fin d).length = 8 := D.press_length _ _ _ _
  refine of_allP ⟨⟨r8press_length _ _ _ _, h8⟩, h8, hd.drop _, by simp [D.nb]; omega, hx, rfl, ⟨rfl, rfl⟩, hx, rfl, rfl, rfl, hx, by omega, h8, ⟨?_, rfl⟩, trivial⟩
  rw [hfin.1]
  exact (bytesI_eq h8f).symm
 exact G.finC (cl := []) hty hsum mix [] H (rs_4 (D.fin d) d) mem0 rfl rfl rfl
def rsDec (vs : List SV) (T : Tab) : Option Canon := match vs with
 | [.int true .i64 k, .raw (.slice none 0 0), p] => match beqI k 32, seqRo T .u8 p with
   | true, some (ob, d) => some { vs0 := rsVs d.length, T0 := [(61, .rov .u8 d)], vl := [(61, .arg 2)], e0 := { val := .tup [.slcR 100 0 32 0, .int true .i64 0], new := [.row 1 ((D.hash d).map (.int false .u8)) 5] }, conds := [Bts d, d.length ≤ 1000000000] ++ ob }
   | _, _ => none
 | _ => none
theorem rs_ok (Γ : Env) (hg : Γ.glob = globs) : SumOK Tryz.prog Γ 33 (canonS globs 100 rsDec) := by
 refine canonS_ok hg fun vs T c hd hc => ?_
 unfold rsDec at hd
 split at hd
 case h_2 => cases hd
 split at hd
 case h_2 => cases hd
 cases hd
 exact rs_call (hc _ (by simp)) (hc _ (by simp)) Γ hg
noncomputable def exRs : Nat → Option Sum := addS exA 33 (canonS globs 100 rsDec)
theorem exRs_ok : ∀ f S, exRs f = some S → ∀ Γ : Env, Γ.glob = globs → SumOK Tryz.prog Γ f S := addS_ok (fun f S h Γ _ => exA_ok f S h Γ) 33 _ rs_ok
end Go.Proofs.YtjomfjihopegmaaGreatDoor.Sx
end
section
open Go
set_option maxRecDepth 100000
namespace Go.Proofs.YtjomfjihopegmaaGreatDoor.Sx
theorem h8_run (d : List Int) (n : Nat) : interp (env exRs 3) Tryz.f12 true [] 1500 [.ros 61 n] (rsT d) 100 100 = some { obl := [Bts d, d.length ≤ 1000000000, n = n, d.length = d.length, d = d], val := .agg ((D.hash d).map (.int false .u8)) } := by kernel_rfl
theorem h8_call {d : List Int} (hd : Bts d) (hl : d.length ≤ 1000000000) (Γ : Env) (hg : Γ.glob = globs) : CallOK Tryz.prog Γ 12 [.ros 61 d.length] (rsT d) 100 100 { val := .ai .u8 (D.hash d) } := by
 have hs : SumOK Tryz.prog (env exRs 3) 12 (interp (env exRs 3) Tryz.f12 true [] 1500) :=
  interp_ok (env_ty exRs 3) (env_ok exRs exRs_ok 3) mix Tryz.func12 (by kernel_rfl) true [] 1500
 exact (hs.call (h8_run d d.length) (mem1 hd (mem1 hl (mem1 rfl (mem1 rfl (mem1 rfl mem0)))))).words (by rw [hg]; rfl) (fun _ => rfl) (fun _ _ h => h) (fun V => den_agg_ai V _ _) rfl rfl
def h8Dec (vs : List SV) (T : Tab) : Option Canon := match vs with
 | [p] => match seqRo T .u8 p with
   | some (ob, d) => some { vs0 := [.ros 61 d.length], T0 := [(61, .rov .u8 d)], vl := [(61, .arg 0)], e0 := { val := .ai .u8 (D.hash d) }, conds := [Bts d, d.length ≤ 1000000000] ++ ob }
   | _ => none
 | _ => none
theorem h8_ok (Γ : Env) (hg : Γ.glob = globs) : SumOK Tryz.prog Γ 12 (canonS globs 100 h8Dec) := by
 refine canonS_ok hg fun vs T c hd hc => ?_
 unfold h8Dec at hd
 split at hd
 case h_2 => cases hd
 split at hd
 case h_2 => cases hd
 cases hd
 exact h8_call (hc _ (by simp)) (hc _ (by simp)) Γ hg
end Go.Proofs.YtjomfjihopegmaaGreatDoor.Sx
end
