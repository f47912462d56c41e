/- slow.press: contract. -/
import Derived.Test.YtjomfjihopegmaaGreatDoorQG
section
open Go
set_option maxRecDepth 100000
namespace Go.Proofs.YtjomfjihopegmaaGreatDoor.Sx
def rdsN (v m : List Int) (k : Nat) : List Int := (D.orders.take k).foldl (fun v s => D.roundM v m s) v
theorem rdsN_length (v m : List Int) (k : Nat) : (rdsN v m k).length = v.length := by
 unfold rdsN
 generalize D.orders.take k = l
 induction l generalizing v with
 | nil => rfl
 | cons s l ih => rw [List.foldl_cons, ih, round_length]
theorem rdsN_succ (v m : List Int) {r : Nat} (hr : r < 10) : D.roundM (rdsN v m r) m (D.orders.getD r []) = rdsN v m (r + 1) := by
 unfold rdsN
 have h : ∀ r : Nat, r < 10 → D.orders.take (r + 1) = D.orders.take r ++ [D.orders.getD r []] := by decide
 rw [h r hr, List.foldl_append, List.foldl_cons, List.foldl_nil]
theorem rdsN_all (v m : List Int) : rdsN v m 10 = D.rounds v m := rfl
def laU (la : Bool) : Int := match la with
 | true => 4294967295
 | false => 0
theorem sw_call (st blk : List Int) (c : Int) (la : Bool) : CallOK Tryz.prog ΓA 114 (swVs c la) (swT st blk) 100 100 { val := .tup [], wr := [(60, .own ((D.press st blk c (laU la)).map (.int false .u32)) 156)] } := by
 have hty : TyOK Tryz.prog ΓA := env_ty exA 3
 have hsum : SumsOK Tryz.prog ΓA := exA_sums 3
 refine call_G hty hsum Tryz.func114 (by kernel_rfl) rfl (Nat.le_of_ble_eq_true (by kernel_rfl)) rfl [] ?_
 intro w0 M V0 Q hb H
 have hsl : (D.start st c (laU la)).length = 16 := by simp [D.start, bytesI]
 refine G.toC hty hsum mix hb [] (sw_0 st blk (D.start st c (laU la)) c la) (mem1 (bytesI_eq hsl).symm mem0) ?_
 refine G.loop (fun r s => ∃ k : Nat, k ≤ 10 ∧ r = 10 - k ∧ s = stOf (swGs k) (swTb (rdsN (D.start st c (laU la)) (D.words blk) k)) 101 [] []) (r0 := 10) ⟨0, by omega, rfl, rfl⟩ ?_
 rintro r s ⟨k, hk, rfl, rfl⟩
 have hvl : (rdsN (D.start st c (laU la)) (D.words blk) k).length = 16 := by rw [rdsN_length, hsl]
 have hvl2 : (rdsN (D.start st c (laU la)) (D.words blk) (k + 1)).length = 16 := by rw [rdsN_length, hsl]
 by_cases hlt : k < 10
 ·have hob : D.roundM (bytesI 16 (rdsN (D.start st c (laU la)) (D.words blk) k)) (D.words blk) (D.orders.getD k []) = bytesI 16 (rdsN (D.start st c (laU la)) (D.words blk) (k + 1)) := by
   rw [bytesI_eq hvl, bytesI_eq hvl2, rdsN_succ _ _ hlt]
  have hob := mem1 hob mem0
  have nx : ∃ k', k' ≤ 10 ∧ 10 - (k + 1) = 10 - k' ∧ stOf (swGs (k + 1)) (swTb (rdsN (D.start st c (laU la)) (D.words blk) (k + 1))) 101 [] [] = stOf (swGs k') (swTb (rdsN (D.start st c (laU la)) (D.words blk) k')) 101 [] [] := ⟨k + 1, hlt, rfl, rfl⟩
  rcases (by omega : k = 0 ∨ k = 1 ∨ k = 2 ∨ k = 3 ∨ k = 4 ∨ k = 5 ∨ k = 6 ∨ k = 7 ∨ k = 8 ∨ k = 9) with rfl | rfl | rfl | rfl | rfl | rfl | rfl | rfl | rfl | rfl
  ·exact G.roundC hty hsum mix hb [] (sw_10 st blk _ _) hob _ (by omega) nx
  ·exact G.roundC hty hsum mix hb [] (sw_11 st blk _ _) hob _ (by omega) nx
  ·exact G.roundC hty hsum mix hb [] (sw_12 st blk _ _) hob _ (by omega) nx
  ·exact G.roundC hty hsum mix hb [] (sw_13 st blk _ _) hob _ (by omega) nx
  ·exact G.roundC hty hsum mix hb [] (sw_14 st blk _ _) hob _ (by omega) nx
  ·exact G.roundC hty hsum mix hb [] (sw_15 st blk _ _) hob _ (by omega) nx
  ·exact G.roundC hty hsum mix hb [] (sw_16 st blk _ _) hob _ (by omega) nx
  ·exact G.roundC hty hsum mix hb [] (sw_17 st blk _ _) hob _ (by omega) nx
  ·exact G.roundC hty hsum mix hb [] (sw_18 st blk _ _) hob _ (by omega) nx
  ·exact G.roundC hty hsum mix hb [] (sw_19 st blk _ _) hob _ (by omega) nx
 have hk10 : k = 10 := by omega
 subst hk10
 refine G.toC hty hsum mix hb [] (sw_2 st blk _) (mem1 rfl mem0) (G.leave (by simp) ?_)
 exact G.finC (cl := []) hty hsum mix [] H (sw_3 st blk _) mem0 rfl rfl rfl
theorem swi_call {st blk : List Int} {c : Int} {la : Bool} (hs : st.length = 8) (hb : blk.length = 64) (Γ : Env) (hg : Γ.glob = globs) :
  CallOK Tryz.prog Γ 114 (swVs c la) (fun l => look l ((60, .ints .u32 st 156) :: (61, .roi .u8 blk) :: glB)) 100 100 { val := .tup [], wr := [(60, .ints .u32 (D.press st blk c (laU la)) 156)] } := by
 have h2 := (sw_call st blk c la).whole (C := .ints .u32 st 156) (C' := .ints .u32 (D.press st blk c (laU la)) 156) (o' := []) rfl rfl (fun V => (intsV_ok hs).symm) rfl rfl (fun V => denL_map_int V _ _)
 have h3 := h2.words (Γ' := Γ) (vs' := swVs c la) (T' := fun l => look l ((61, .roc (intsV .u8 64 blk)) :: (60, .ints .u32 st 156) :: glB)) (by rw [hg]; rfl) (fun _ => rfl) (fun l B h => by rw [look_swap (by decide)]; exact h) (fun _ => rfl) rfl rfl
 have h4 := h3.wholeR (C := .roi .u8 blk) rfl rfl (fun V => (intsV_ok hb).symm) rfl
 exact h4.words rfl (fun _ => rfl) (fun l B h => by rw [look_swap (by decide)]; exact h) (fun _ => rfl) rfl rfl
def swDec (vs : List SV) (T : Tab) : Option Canon := match vs with
 | [.ptr l _ _, .ptr l2 _ _, .int _ .u64 c, .bool true la] => match T l, T l2 with
   | some B, some B2 => match intsB B, intsB B2 with
     | some (.u32, st, ty), some (.u8, blk, _) => match Nat.beq ty 156 with
       | true => some { vs0 := swVs c la, T0 := (60, .ints .u32 st 156) :: (61, .roi .u8 blk) :: glB, vl := [(60, .lab l 0), (61, .lab l2 0)], e0 := { val := .tup [], wr := [(60, .ints .u32 (D.press st blk c (laU la)) 156)] }, conds := [st.length = 8, blk.length = 64] }
       | false => none
     | _, _ => none
   | _, _ => none
 | _ => none
theorem sw_ok (Γ : Env) (hg : Γ.glob = globs) : SumOK Tryz.prog Γ 114 (canonS globs 100 swDec) := by
 refine canonS_ok hg fun vs T c hd hc => ?_
 unfold swDec at hd
 split at hd
 case h_2 => cases hd
 split at hd
 case h_2 => cases hd
 split at hd
 case h_2 => cases hd
 split at hd
 case h_2 => cases hd
 cases hd
 exact swi_call (hc _ (by simp)) (hc _ (by simp)) Γ hg
noncomputable def exSw : Nat → Option Sum := addS exA 114 (canonS globs 100 swDec)
theorem exSw_ok : ∀ f S, exSw f = some S → ∀ Γ : Env, Γ.glob = globs → SumOK Tryz.prog Γ f S := addS_ok (fun f S h Γ _ => exA_ok f S h Γ) 114 _ sw_ok
end Go.Proofs.YtjomfjihopegmaaGreatDoor.Sx
end
section
open Go
set_option maxRecDepth 100000
namespace Go.Proofs.YtjomfjihopegmaaGreatDoor.Sx
noncomputable def ΓG0 : Env := env exSw 3
def tkVs (x : Int) : List SV := [.int false .u8 x, .ptr 60 true 0, .ptr 61 true 0, .ptr 62 true 0, .ptr 63 true 0]
def tkL (h c : Int) (st blk : List Int) : List (Nat × SB) := (60, .own [.int false .i64 h] 3) :: (61, .ints .u32 st 156) :: (62, .ints .u8 blk 90) :: (63, .own [.int false .u64 c] 68) :: glB
def clB (blk : List Int) : List Int := blk.take 0 ++ List.replicate 64 0 ++ blk.drop 64
theorem tk_1 (x h c : Int) (st blk : List Int) : interp ΓG0 Tryz.f113 true [true] 400 (tkVs x) (fun l => look l (tkL h c st blk)) 100 100 =
  some { obl := [0 < (clB blk).length, 64 ≤ blk.length, st.length = 8, blk.length = 64, c = c, st = st ∧ 156 = 156, blk = blk, (h == 64) = true], val := .tup [], wr := [(63, .own [.int false .u64 (IntKind.u64.wrap (c + 1))] 68), (60, .own [.int true .i64 1] 3), (62, .ints .u8 ((clB blk).set 0 x) 90), (61, .ints .u32 (D.press st blk c 0) 156)] } := by kernel_rfl
theorem tk_2 (x h c : Int) (st blk : List Int) : interp ΓG0 Tryz.f113 true [false] 400 (tkVs x) (fun l => look l (tkL h c st blk)) 100 100 =
  some { obl := [0 + h.toNat * 1 < blk.length, 0 ≤ h ∧ h < 64, (h == 64) = false], val := .tup [], wr := [(63, .own [.int false .u64 (IntKind.u64.wrap (c + 1))] 68), (60, .own [.int false .i64 (IntKind.i64.wrap (h + 1))] 3), (62, .ints .u8 (blk.set (0 + h.toNat * 1) x) 90)] } := by kernel_rfl
theorem look_congr {α : Type} {a : Nat} {x : α} {r s : List (Nat × α)} {l : Nat} (h : look l r = look l s) : look l ((a, x) :: r) = look l ((a, x) :: s) := by simp only [look, h]
theorem CallOK.order {P : Program} {Γ : Env} {f : FuncId} {vs : List SV} {T : Tab} {lab F : Nat} {v : SV} {n : List SB} {wr wr' : List (Nat × SB)} {o o' : List Prop} (h : CallOK P Γ f vs T lab F { obl := o, val := v, new := n, wr := wr }) (hw : ∀ l, look l wr' = look l wr) :
  CallOK P Γ f vs T lab F { obl := o', val := v, new := n, wr := wr' } := by
 intro w0 M V T2 w ys hsub hT1 hg hf hF hx op a K Q hK
 refine h w0 M V T2 w ys hsub hT1 hg hf hF hx op a K Q fun V' x w' h1 h2 h3 => hK V' x w' h1 h2 ?_
 have e1 : upd T2 lab { obl := o', val := v, new := n, wr := wr' } = upd T2 lab { obl := o, val := v, new := n, wr := wr } := by
  funext l
  simp only [upd, Eff.tab]
  rw [look_append, look_append, hw l]
 rw [e1]
 exact h3
def D.tkH (h : Int) : Int := if h = 64 then 1 else h + 1
def D.tkB (h x : Int) (blk : List Int) : List Int := if h = 64 then (List.replicate 64 0).set 0 x else blk.set h.toNat x
def D.tkS (h c : Int) (st blk : List Int) : List Int := if h = 64 then D.press st blk c 0 else st
def tkE (h c x : Int) (st blk : List Int) : Eff := { val := .tup [], wr := [(61, .ints .u32 (D.tkS h c st blk) 156), (60, .own [.int false .i64 (D.tkH h)] 3), (63, .own [.int false .u64 (c + 1)] 68), (62, .ints .u8 (D.tkB h x blk) 90)] }
theorem tk_call {x h c : Int} {st blk : List Int} (hs : st.length = 8) (hb : blk.length = 64) (hh : 0 ≤ h ∧ h ≤ 64) (hc : 0 ≤ c ∧ c ≤ 1000000000000) (Γ : Env) (hg : Γ.glob = globs) :
  CallOK Tryz.prog Γ 113 (tkVs x) (fun l => look l (tkL h c st blk)) 100 100 (tkE h c x st blk) := by
 have hi : ∀ hints, SumOK Tryz.prog ΓG0 113 (interp ΓG0 Tryz.f113 true hints 400) := fun hints =>
  interp_ok (env_ty exSw 3) (env_ok exSw exSw_ok 3) mix Tryz.func113 (by kernel_rfl) true hints 400
 have hcw : IntKind.u64.wrap (c + 1) = c + 1 := IntWalk.u64_in _ (by omega)
 by_cases h64 : h = 64
 ·subst h64
  have hcl : clB blk = List.replicate 64 0 := by unfold clB; rw [List.take_zero, ← hb, List.drop_length]; simp
  have h1 := (hi [true]).call (tk_1 x 64 c st blk) (of_allP ⟨by rw [hcl]; simp, by omega, hs, hb, rfl, ⟨rfl, rfl⟩, rfl, by decide, trivial⟩)
  rw [hcw, hcl] at h1
  have h2 := h1.order (o' := []) (wr' := [(60, .own [.int true .i64 1] 3), (63, .own [.int false .u64 (c + 1)] 68), (62, .ints .u8 ((List.replicate 64 0).set 0 x) 90), (61, .ints .u32 (D.press st blk c 0) 156)]) (fun l => look_swap (by decide) _ _ _ _)
  have h3 := h2.whole (C := .own [.int false .i64 64] 3) (C' := .own [.int false .i64 1] 3) (o' := []) rfl rfl (fun _ => rfl) rfl rfl (fun _ => rfl)
  refine (h3.order (o' := []) (wr' := [(61, .ints .u32 (D.press st blk c 0) 156), (60, .own [.int false .i64 1] 3), (63, .own [.int false .u64 (c + 1)] 68), (62, .ints .u8 ((List.replicate 64 0).set 0 x) 90)]) (fun l => ?_)).words (by rw [hg]; rfl) (fun _ => rfl) (fun _ _ h => h) (fun _ => rfl) rfl ?_
  ·rw [look_swap (by decide)]
   refine look_congr ?_
   rw [look_swap (by decide)]
   refine look_congr ?_
   exact look_swap (by decide) _ _ _ _
  ·simp only [tkE, D.tkS, D.tkH, D.tkB, if_pos]
 ·have h1 := (hi [false]).call (tk_2 x h c st blk) (of_allP ⟨by omega, by omega, by simpa using h64, trivial⟩)
  have hhw : IntKind.i64.wrap (h + 1) = h + 1 := IntWalk.i64_in _ (by omega)
  rw [hcw, hhw, show 0 + h.toNat * 1 = h.toNat from by omega] at h1
  have h2 := h1.order (o' := []) (wr' := [(60, .own [.int false .i64 (h + 1)] 3), (63, .own [.int false .u64 (c + 1)] 68), (62, .ints .u8 (blk.set h.toNat x) 90)]) (fun l => look_swap (by decide) _ _ _ _)
  have h3 := h2.same (l0 := 61) (B := .ints .u32 st 156) (by simp only [tkL]; rw [look_cons_ne (by decide), look_cons_eq]) rfl
  refine h3.words (by rw [hg]; rfl) (fun _ => rfl) (fun _ _ h => h) (fun _ => rfl) rfl ?_
  simp only [tkE, D.tkS, D.tkH, D.tkB, if_neg h64]
def oneI : SB → Option (IntKind × Int × Nat)
 | .own [.int _ k n] ty => some (k, n, ty)
 | _ => none
def tkDec (vs : List SV) (T : Tab) : Option Canon := match vs with
 | [.int _ .u8 x, .ptr l0 _ _, .ptr l1 _ _, .ptr l2 _ _, .ptr l3 _ _] => match T l0, T l1, T l2, T l3 with
   | some B0, some B1, some B2, some B3 => match oneI B0, intsB B1, intsB B2, oneI B3 with
     | some (.i64, h, _), some (.u32, st, _), some (.u8, blk, _), some (.u64, c, _) => some { vs0 := tkVs x, T0 := tkL h c st blk, vl := [(60, .lab l0 0), (61, .lab l1 0), (62, .lab l2 0), (63, .lab l3 0)], e0 := tkE h c x st blk, conds := [st.length = 8, blk.length = 64, 0 ≤ h ∧ h ≤ 64, 0 ≤ c ∧ c ≤ 1000000000000] }
     | _, _, _, _ => none
   | _, _, _, _ => none
 | _ => none
theorem tk_ok (Γ : Env) (hg : Γ.glob = globs) : SumOK Tryz.prog Γ 113 (canonS globs 100 tkDec) := by
 refine canonS_ok hg fun vs T c hd hc => ?_
 unfold tkDec at hd
 split at hd
 case h_2 => cases hd
 split at hd
 case h_2 => cases hd
 split at hd
 case h_2 => cases hd
 cases hd
 exact tk_call (hc _ (by simp)) (hc _ (by simp)) (hc _ (by simp)) (hc _ (by simp)) Γ hg
noncomputable def exTk : Nat → Option Sum := addS exSw 113 (canonS globs 100 tkDec)
theorem exTk_ok : ∀ f S, exTk f = some S → ∀ Γ : Env, Γ.glob = globs → SumOK Tryz.prog Γ f S := addS_ok exSw_ok 113 _ tk_ok
end Go.Proofs.YtjomfjihopegmaaGreatDoor.Sx
end
section
open Go
set_option maxRecDepth 100000
namespace Go.Proofs.YtjomfjihopegmaaGreatDoor.Sx
def mxVs (v : List Int) (a b c d : Int) (x y : Int) : List SV := [.agg (intsV .i64 16 v), .int true .i64 a, .int true .i64 b, .int true .i64 c, .int true .i64 d, .int false .i64 x, .int false .i64 y]
theorem mx_run (v : List Int) (x y : Int) (a b c d : Nat) (h : (a, b, c, d) = (0, 4, 8, 12) ∨ (a, b, c, d) = (1, 5, 9, 13) ∨ (a, b, c, d) = (2, 6, 10, 14) ∨ (a, b, c, d) = (3, 7, 11, 15) ∨ (a, b, c, d) = (0, 5, 10, 15) ∨ (a, b, c, d) = (1, 6, 11, 12) ∨ (a, b, c, d) = (2, 7, 8, 13) ∨ (a, b, c, d) = (3, 4, 9, 14)) :
  interp (env exA 3) Tryz.f117 true [] 400 (mxVs v a b c d x y) (fun _ => none) 100 100 = some { val := .agg ((R8.mix (bytesI 16 v) a b c d x y).map (.int false .i64)) } := by
 rcases h with h | h | h | h | h | h | h | h <;> (cases h; kernel_rfl)
theorem mx_call (v : List Int) (x y : Int) (a b c d : Nat) (hv : v.length = 16) (h : (a, b, c, d) = (0, 4, 8, 12) ∨ (a, b, c, d) = (1, 5, 9, 13) ∨ (a, b, c, d) = (2, 6, 10, 14) ∨ (a, b, c, d) = (3, 7, 11, 15) ∨ (a, b, c, d) = (0, 5, 10, 15) ∨ (a, b, c, d) = (1, 6, 11, 12) ∨ (a, b, c, d) = (2, 7, 8, 13) ∨ (a, b, c, d) = (3, 4, 9, 14))
  (Γ : Env) (hg : Γ.glob = globs) : CallOK Tryz.prog Γ 117 [.ai .i64 v, .int true .i64 a, .int true .i64 b, .int true .i64 c, .int true .i64 d, .int false .i64 x, .int false .i64 y] (fun l => look l []) 100 100 { val := .ai .i64 (R8.mix v a b c d x y) } := by
 have hs : SumOK Tryz.prog (env exA 3) 117 (interp (env exA 3) Tryz.f117 true [] 400) :=
  interp_ok (env_ty exA 3) (exA_sums 3) mix Tryz.func117 (by kernel_rfl) true [] 400
 have h1 := mx_run v x y a b c d h
 rw [bytesI_eq hv] at h1
 refine (hs.call h1 (by simp)).words (by rw [hg]; rfl) (fun V => ?_) (fun _ _ h => by cases h) (fun V => den_agg_ai V _ _) rfl rfl
 simp only [mxVs, denL, den_intsV_ai V hv]
def mxDec (vs : List SV) (_ : Tab) : Option Canon := match vs with
 | [v, .int true .i64 a, .int true .i64 _, .int true .i64 c, .int true .i64 _, .int _ .i64 x, .int _ .i64 y] => match intsOf v with
   | some (.i64, xs) =>
     let at4 (a b c d : Nat) : Canon := { vs0 := [.ai .i64 xs, .int true .i64 a, .int true .i64 b, .int true .i64 c, .int true .i64 d, .int false .i64 x, .int false .i64 y], T0 := [], vl := [], e0 := { val := .ai .i64 (R8.mix xs a b c d x y) }, conds := [xs.length = 16] }
     match beqI a 0, beqI a 1, beqI a 2, beqI a 3, beqI (c - a) 8 with
     | true, _, _, _, true => some (at4 0 4 8 12)
     | true, _, _, _, false => some (at4 0 5 10 15)
     | _, true, _, _, true => some (at4 1 5 9 13)
     | _, true, _, _, false => some (at4 1 6 11 12)
     | _, _, true, _, true => some (at4 2 6 10 14)
     | _, _, true, _, false => some (at4 2 7 8 13)
     | _, _, _, true, true => some (at4 3 7 11 15)
     | _, _, _, true, false => some (at4 3 4 9 14)
     | _, _, _, _, _ => none
   | _ => none
 | _ => none
theorem mx_ok (Γ : Env) (hg : Γ.glob = globs) : SumOK Tryz.prog Γ 117 (canonS globs 100 mxDec) := by
 refine canonS_ok hg fun vs T c hd hc => ?_
 unfold mxDec at hd
 split at hd
 case h_2 => cases hd
 split at hd
 case h_2 => cases hd
 split at hd
 all_goals first | (cases hd; done) | skip
 all_goals (cases hd; exact mx_call _ _ _ _ _ _ _ (hc _ (by simp)) (by decide) Γ hg)
noncomputable def exM : Nat → Option Sum := addS exA 117 (canonS globs 100 mxDec)
theorem exM_ok : ∀ f S, exM f = some S → ∀ Γ : Env, Γ.glob = globs → SumOK Tryz.prog Γ f S := addS_ok (fun f S h Γ _ => exA_ok f S h Γ) 117 _ mx_ok
end Go.Proofs.YtjomfjihopegmaaGreatDoor.Sx
end
