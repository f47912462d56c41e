/- slow.Digest: contract, for one to four pieces. -/
import Derived.Test.YtjomfjihopegmaaGreatDoorCards
import Derived.Test.YtjomfjihopegmaaGreatDoorTie
import Derived.ProofKit
import Derived.OpenShut
import Derived.Below
import Derived.Carry
import Derived.LaidLaws
import Derived.Lay
import Derived.MakeChecks
import Derived.Deep.DeepHandedRow
import Derived.Deep.DeepWitnessRowRef
import Derived.Lib.LaidTab
import Derived.Stop.ErrReads
import Derived.Test.YtjomfjihopegmaaGreatDoorQK
section
open Go
set_option maxRecDepth 100000
namespace Go.Proofs.YtjomfjihopegmaaGreatDoor.Sx
def sH (ms : List Int) : Int := ((ms.length - 64 * D.nb ms.length : Nat) : Int)
def sS (ms : List Int) : List Int := D.hs ms (D.nb ms.length)
def sB (ms : List Int) : List Int := bytesI 64 (ms.drop (64 * D.nb ms.length))
def sC (ms : List Int) : Int := (ms.length : Int)
theorem sS_length (ms : List Int) : (sS ms).length = 8 := D.hs_length _ _
theorem sB_length (ms : List Int) : (sB ms).length = 64 := by simp [sB, bytesI]
theorem sH_le (ms : List Int) : 0 ≤ sH ms ∧ sH ms ≤ 64 := by unfold sH D.nb; omega
theorem s_step (ms : List Int) (x : Int) : D.tkH (sH ms) = sH (ms ++ [x]) ∧ D.tkS (sH ms) (sC ms) (sS ms) (sB ms) = sS (ms ++ [x]) ∧ D.tkB (sH ms) x (sB ms) = sB (ms ++ [x]) ∧ sC ms + 1 = sC (ms ++ [x]) := by
 have hn : (ms ++ [x]).length = ms.length + 1 := by simp
 have hC : sC ms + 1 = sC (ms ++ [x]) := by unfold sC; rw [hn]; omega
 unfold D.tkH D.tkS D.tkB
 by_cases h : sH ms = 64
 ·have h' : ms.length - 64 * D.nb ms.length = 64 := by unfold sH at h; omega
  have e : D.nb (ms.length + 1) = D.nb ms.length + 1 := by unfold D.nb at *; omega
  have hl : ms.length = 64 * (D.nb ms.length + 1) := by unfold D.nb at *; omega
  rw [if_pos h, if_pos h, if_pos h]
  refine ⟨?_, ?_, ?_, hC⟩
  ·unfold sH; rw [hn, e]; omega
  ·unfold sS sB sC
   rw [hn, e]
   simp only [D.hs]
   rw [D.hs_append ms [x] _ (by omega)]
   congr 1
   ·unfold bytesI
    refine List.map_congr_left fun j hj => ?_
    have hj : j < 64 := by simpa using hj
    simp only [List.getD_eq_getElem?_getD, List.getElem?_drop]
    rw [List.getElem?_append_left (by omega)]
   ·omega
  ·unfold sB
   rw [hn, e]
   have ed : (ms ++ [x]).drop (64 * (D.nb ms.length + 1)) = [x] := by rw [← hl]; simp
   rw [ed]
   rfl
 ·have hlt : ms.length - 64 * D.nb ms.length < 64 := by
   have := sH_le ms
   unfold sH at h this
   omega
  have e : D.nb (ms.length + 1) = D.nb ms.length := by unfold D.nb at *; omega
  rw [if_neg h, if_neg h, if_neg h]
  refine ⟨?_, ?_, ?_, hC⟩
  ·unfold sH; rw [hn, e]; unfold D.nb at *; omega
  ·unfold sS
   rw [hn, e, D.hs_append ms [x] _ (by unfold D.nb at *; omega)]
  ·unfold sB sH
   rw [hn, e, Int.toNat_natCast]
   have hle : 64 * D.nb ms.length ≤ ms.length := by unfold D.nb; omega
   generalize D.nb ms.length = b at *
   unfold bytesI
   apply List.ext_getElem
   ·simp
   ·intro i h1 h2
    have hi : i < 64 := by simpa using h2
    rw [List.getElem_set]
    simp only [List.getElem_map, List.getElem_range, List.getD_eq_getElem?_getD, List.getElem?_drop]
    split
    ·rename_i q
     rw [List.getElem?_append_right (by omega), show 64 * b + i - ms.length = 0 from by omega]
     rfl
    ·rename_i q
     by_cases hx : 64 * b + i < ms.length
     ·rw [List.getElem?_append_left hx]
     ·rw [List.getElem?_append_right (by omega), List.getElem?_eq_none (Nat.le_of_not_lt hx), List.getElem?_eq_none (by simp only [List.length_cons, List.length_nil]; omega)]
theorem sg_piece {f : Bool} {ps : List (List Int)} {n i : Nat} {d : List Int} (ms : List Int) (hl : ms.length + d.length ≤ 1000000000000)
  (hr : ∀ (h c j h' c' j' : Int) (st blk st' blk' : List Int) (k : Nat), toC 100 Tryz.f69.ntmps (cutT 100 (sgT f ps)) [] (sgGs f n i k j') (sgTb h' c' st' blk') 104 [] [] (sgM f ps (.go sgLp) [] ((sgS f n i k j h c st blk).hint [true])) = some (.at .normal, [], bO f n d h c j h' c' j' st blk st' blk' k))
  (hx : ∀ (h c j : Int) (st blk : List Int) (k : Nat), toC 100 Tryz.f69.ntmps (cutT 100 (sgT f ps)) [] (sgGs f n i k j) (sgTb h c st blk) 104 [] [] (sgM f ps (.go sgLp) [] ((sgS f n i k j h c st blk).hint [false])) = some (.at (.exit 2), [], xO f n h c j st blk k))
  {w0 : World} {M : Nat → Prop} {V0 : Val} {Q : Exit → Act → World → Prop} (hb : Base ΓG (cutT 100 (sgT f ps)) 100 V0) {K : List Fr}
  (h : G Tryz.prog ΓG w0 M (cutT 100 (sgT f ps)) Tryz.f69.ntmps 100 V0 (.at (.exit 2)) K (sgS f n i d.length d.length (sH (ms ++ d)) (sC (ms ++ d)) (sS (ms ++ d)) (sB (ms ++ d))) Q) :
  G Tryz.prog ΓG w0 M (cutT 100 (sgT f ps)) Tryz.f69.ntmps 100 V0 (.go (.loop sgLp)) K (sgS f n i d.length 0 (sH ms) (sC ms) (sS ms) (sB ms)) Q := by
 have hty := ΓG_ty
 have hsum := ΓG_ok
 refine G.loop (fun r s => ∃ j : Nat, j ≤ d.length ∧ r = d.length - j ∧ s = sgS f n i d.length j (sH (ms ++ d.take j)) (sC (ms ++ d.take j)) (sS (ms ++ d.take j)) (sB (ms ++ d.take j))) (r0 := d.length)
  ⟨0, Nat.zero_le _, rfl, by rw [List.take_zero, List.append_nil]; rfl⟩ ?_
 rintro r s ⟨j, hj, rfl, rfl⟩
 by_cases hlt : j < d.length
 ·have et : d.take (j + 1) = d.take j ++ [d.getD j 0] := by rw [List.take_add_one]; simp [List.getD_eq_getElem?_getD, hlt]
  have hstep := s_step (ms ++ d.take j) (d.getD j 0)
  rw [List.append_assoc, ← et] at hstep
  obtain ⟨e1, e2, e3, e4⟩ := hstep
  have hC : 0 ≤ sC (ms ++ d.take j) ∧ sC (ms ++ d.take j) ≤ 1000000000000 := by unfold sC; simp only [List.length_append, List.length_take]; omega
  refine G.roundC hty hsum mix hb [true] (hr _ _ _ (sH (ms ++ d.take (j + 1))) (sC (ms ++ d.take (j + 1))) ((j + 1 : Nat) : Int) _ _ (sS (ms ++ d.take (j + 1))) (sB (ms ++ d.take (j + 1))) d.length) ?_ (d.length - (j + 1)) (by omega) ⟨j + 1, hlt, rfl, rfl⟩
  unfold bO
  rw [Int.toNat_natCast, e1, e2, e3, e4]
  refine memA (of_allP ⟨sS_length _, sB_length _, sH_le _, hC, rfl, rfl, ⟨rfl, rfl⟩, ⟨rfl, rfl⟩, rfl, hlt, by omega, decide_eq_true (by omega), trivial⟩) (pO_ok (of_allP ⟨rfl, rfl, ?_, rfl, ⟨rfl, rfl⟩, ⟨rfl, rfl⟩, rfl, trivial⟩))
  rw [IntWalk.i64_in _ (by unfold sC at hC; simp only [List.length_append] at hC; omega)]; omega
 ·have e : j = d.length := by omega
  subst e
  rw [List.take_length]
  refine G.toC hty hsum mix hb [false] (hx _ _ _ _ _ d.length) ?_ (G.leave (by simp) h)
  exact mem1 (decide_eq_false (by omega)) (pO_ok (of_allP ⟨rfl, rfl, rfl, rfl, ⟨rfl, rfl⟩, ⟨rfl, rfl⟩, rfl, trivial⟩))
theorem nO_ok (f : Bool) (n : Nat) (d ms : List Int) : ∀ q ∈ nO f n d d.length 0 (sH ms) (sC ms) (sH ms) (sC ms) (sS ms) (sB ms) (sS ms) (sB ms), q :=
 pO_ok (of_allP ⟨rfl, rfl, rfl, rfl, ⟨rfl, rfl⟩, ⟨rfl, rfl⟩, rfl, trivial⟩)
theorem nO_0 (f : Bool) (n : Nat) (d : List Int) : ∀ q ∈ nO f n d d.length 0 0 0 (sH []) (sC []) D.h0 (List.replicate 64 0) (sS []) (sB []), q :=
 pO_ok (of_allP ⟨rfl, rfl, rfl, rfl, ⟨rfl, rfl⟩, ⟨rfl, rfl⟩, rfl, trivial⟩)
theorem eO_ok (ms : List Int) : ∀ q ∈ eO (sC ms) (sS ms) (sB ms), q := by
 have hl : (D.press (sS ms) (sB ms) (sC ms) 4294967295).length = 8 := D.press_length _ _ _ _
 unfold eO
 rw [hl]
 exact of_allP ⟨by omega, by omega, by omega, by omega, by omega, by omega, by omega, by omega, rfl, sS_length _, sB_length _, rfl, ⟨rfl, rfl⟩, rfl, trivial⟩
theorem s_end (ms : List Int) : D.bytes (D.press (sS ms) (sB ms) (sC ms) 4294967295) = D.hash ms := rfl
def sgRes (ms : List Int) : Eff := { val := .tup [.slcR 100 0 32 0, .raw .nilIface], new := [.row 1 ((D.hash ms).map (.int false .u8)) 5] }
theorem sg1_call (f : Bool) (d0 : List Int) (hl : d0.length ≤ 1000000000) (Γ : Env) (hg : Γ.glob = globs) : CallOK Tryz.prog Γ 69 (sgVs f 1) (sgT f [d0]) 100 100 (sgRes (d0)) := by
 refine CallOK.words (Γ := ΓG) ?_ (by rw [hg]; rfl) (fun _ => rfl) (fun _ _ h => h) (fun _ => rfl) rfl rfl
 refine call_G ΓG_ty ΓG_ok Tryz.func69 (by kernel_rfl) rfl (Nat.le_of_ble_eq_true (by kernel_rfl)) rfl [] ?_
 intro w0 M V0 Q hb H
 have hty := ΓG_ty
 have hsum := ΓG_ok
 refine G.toC hty hsum mix hb [] (sg1_s f d0 _ _ _ _ _ d0.length) (nO_0 f _ d0) ?_
 refine sg_piece [] (by simp only [List.length_append, List.length_nil]; omega) (sg1_r0 f d0) (sg1_x0 f d0) hb ?_
 have e : ([] ++ d0) = d0 := by simp
 rw [e]
 exact G.finC (cl := []) hty hsum mix [] H (sg1_e f d0 _ _ _ _ _ _) (eO_ok _) rfl rfl rfl
theorem sg2_call (f : Bool) (d0 d1 : List Int) (hl : d0.length + d1.length ≤ 1000000000) (Γ : Env) (hg : Γ.glob = globs) : CallOK Tryz.prog Γ 69 (sgVs f 2) (sgT f [d0, d1]) 100 100 (sgRes (d0 ++ d1)) := by
 refine CallOK.words (Γ := ΓG) ?_ (by rw [hg]; rfl) (fun _ => rfl) (fun _ _ h => h) (fun _ => rfl) rfl rfl
 refine call_G ΓG_ty ΓG_ok Tryz.func69 (by kernel_rfl) rfl (Nat.le_of_ble_eq_true (by kernel_rfl)) rfl [] ?_
 intro w0 M V0 Q hb H
 have hty := ΓG_ty
 have hsum := ΓG_ok
 refine G.toC hty hsum mix hb [] (sg2_s f d0 d1 _ _ _ _ _ d0.length) (nO_0 f _ d0) ?_
 refine sg_piece [] (by simp only [List.length_append, List.length_nil]; omega) (sg2_r0 f d0 d1) (sg2_x0 f d0 d1) hb ?_
 refine G.toC hty hsum mix hb [] (sg2_n1 f d0 d1 _ _ _ _ _ _ _ _ _ _ _ d1.length) (nO_ok f _ d1 ([] ++ d0)) ?_
 refine sg_piece ([] ++ d0) (by simp only [List.length_append, List.length_nil]; omega) (sg2_r1 f d0 d1) (sg2_x1 f d0 d1) hb ?_
 have e : (([] ++ d0) ++ d1) = d0 ++ d1 := by simp
 rw [e]
 exact G.finC (cl := []) hty hsum mix [] H (sg2_e f d0 d1 _ _ _ _ _ _) (eO_ok _) rfl rfl rfl
theorem sg3_call (f : Bool) (d0 d1 d2 : List Int) (hl : d0.length + d1.length + d2.length ≤ 1000000000) (Γ : Env) (hg : Γ.glob = globs) : CallOK Tryz.prog Γ 69 (sgVs f 3) (sgT f [d0, d1, d2]) 100 100 (sgRes (d0 ++ d1 ++ d2)) := by
 refine CallOK.words (Γ := ΓG) ?_ (by rw [hg]; rfl) (fun _ => rfl) (fun _ _ h => h) (fun _ => rfl) rfl rfl
 refine call_G ΓG_ty ΓG_ok Tryz.func69 (by kernel_rfl) rfl (Nat.le_of_ble_eq_true (by kernel_rfl)) rfl [] ?_
 intro w0 M V0 Q hb H
 have hty := ΓG_ty
 have hsum := ΓG_ok
 refine G.toC hty hsum mix hb [] (sg3_s f d0 d1 d2 _ _ _ _ _ d0.length) (nO_0 f _ d0) ?_
 refine sg_piece [] (by simp only [List.length_append, List.length_nil]; omega) (sg3_r0 f d0 d1 d2) (sg3_x0 f d0 d1 d2) hb ?_
 refine G.toC hty hsum mix hb [] (sg3_n1 f d0 d1 d2 _ _ _ _ _ _ _ _ _ _ _ d1.length) (nO_ok f _ d1 ([] ++ d0)) ?_
 refine sg_piece ([] ++ d0) (by simp only [List.length_append, List.length_nil]; omega) (sg3_r1 f d0 d1 d2) (sg3_x1 f d0 d1 d2) hb ?_
 refine G.toC hty hsum mix hb [] (sg3_n2 f d0 d1 d2 _ _ _ _ _ _ _ _ _ _ _ d2.length) (nO_ok f _ d2 (([] ++ d0) ++ d1)) ?_
 refine sg_piece (([] ++ d0) ++ d1) (by simp only [List.length_append, List.length_nil]; omega) (sg3_r2 f d0 d1 d2) (sg3_x2 f d0 d1 d2) hb ?_
 have e : ((([] ++ d0) ++ d1) ++ d2) = d0 ++ d1 ++ d2 := by simp
 rw [e]
 exact G.finC (cl := []) hty hsum mix [] H (sg3_e f d0 d1 d2 _ _ _ _ _ _) (eO_ok _) rfl rfl rfl
theorem sg4_call (f : Bool) (d0 d1 d2 d3 : List Int) (hl : d0.length + d1.length + d2.length + d3.length ≤ 1000000000) (Γ : Env) (hg : Γ.glob = globs) : CallOK Tryz.prog Γ 69 (sgVs f 4) (sgT f [d0, d1, d2, d3]) 100 100 (sgRes (d0 ++ d1 ++ d2 ++ d3)) := by
 refine CallOK.words (Γ := ΓG) ?_ (by rw [hg]; rfl) (fun _ => rfl) (fun _ _ h => h) (fun _ => rfl) rfl rfl
 refine call_G ΓG_ty ΓG_ok Tryz.func69 (by kernel_rfl) rfl (Nat.le_of_ble_eq_true (by kernel_rfl)) rfl [] ?_
 intro w0 M V0 Q hb H
 have hty := ΓG_ty
 have hsum := ΓG_ok
 refine G.toC hty hsum mix hb [] (sg4_s f d0 d1 d2 d3 _ _ _ _ _ d0.length) (nO_0 f _ d0) ?_
 refine sg_piece [] (by simp only [List.length_append, List.length_nil]; omega) (sg4_r0 f d0 d1 d2 d3) (sg4_x0 f d0 d1 d2 d3) hb ?_
 refine G.toC hty hsum mix hb [] (sg4_n1 f d0 d1 d2 d3 _ _ _ _ _ _ _ _ _ _ _ d1.length) (nO_ok f _ d1 ([] ++ d0)) ?_
 refine sg_piece ([] ++ d0) (by simp only [List.length_append, List.length_nil]; omega) (sg4_r1 f d0 d1 d2 d3) (sg4_x1 f d0 d1 d2 d3) hb ?_
 refine G.toC hty hsum mix hb [] (sg4_n2 f d0 d1 d2 d3 _ _ _ _ _ _ _ _ _ _ _ d2.length) (nO_ok f _ d2 (([] ++ d0) ++ d1)) ?_
 refine sg_piece (([] ++ d0) ++ d1) (by simp only [List.length_append, List.length_nil]; omega) (sg4_r2 f d0 d1 d2 d3) (sg4_x2 f d0 d1 d2 d3) hb ?_
 refine G.toC hty hsum mix hb [] (sg4_n3 f d0 d1 d2 d3 _ _ _ _ _ _ _ _ _ _ _ d3.length) (nO_ok f _ d3 ((([] ++ d0) ++ d1) ++ d2)) ?_
 refine sg_piece ((([] ++ d0) ++ d1) ++ d2) (by simp only [List.length_append, List.length_nil]; omega) (sg4_r3 f d0 d1 d2 d3) (sg4_x3 f d0 d1 d2 d3) hb ?_
 have e : (((([] ++ d0) ++ d1) ++ d2) ++ d3) = d0 ++ d1 ++ d2 ++ d3 := by simp
 rw [e]
 exact G.finC (cl := []) hty hsum mix [] H (sg4_e f d0 d1 d2 d3 _ _ _ _ _ _) (eO_ok _) rfl rfl rfl
end Go.Proofs.YtjomfjihopegmaaGreatDoor.Sx
end
section
open Go
set_option maxRecDepth 100000
namespace Go.Proofs.YtjomfjihopegmaaGreatDoor.Sx
theorem TabOK.goneL {w0 w : World} {M : Nat → Prop} {V : Val} {T : Tab} (h : TabOK w0 M V T w) (l0 : Nat) : TabOK w0 M V (fun l => if l = l0 then some .gone else T l) w where
 ok := fun l B hl => by
  by_cases e : l = l0
  ·rw [if_pos e] at hl; cases hl; exact ⟨[], rfl, trivial⟩
  ·rw [if_neg e] at hl; exact h.ok l B hl
 dist := fun l B l' B' n hne hl hl' ho hb => by
  by_cases e : l = l0
  ·rw [if_pos e] at hl; cases hl; cases ho
  ·rw [if_neg e] at hl
   by_cases e' : l' = l0
   ·rw [if_pos e'] at hl'; cases hl'; intro q; cases q
   ·rw [if_neg e'] at hl'; exact h.dist l B l' B' n hne hl hl' ho hb
 perm := fun l B n hl ho hb => by
  by_cases e : l = l0
  ·rw [if_pos e] at hl; cases hl; cases ho
  ·rw [if_neg e] at hl; exact h.perm l B n hl ho hb
 frame := h.frame
 fro := fun l B hl => by
  by_cases e : l = l0
  ·rw [if_pos e] at hl; cases hl; trivial
  ·rw [if_neg e] at hl; exact h.fro l B hl
theorem CallOK.gone {P : Program} {Γ : Env} {f : FuncId} {vs : List SV} {T : Tab} {lab F l0 : Nat} {e : Eff} (h : CallOK P Γ f vs T lab F e) (hn : look l0 (e.tab lab) = none) :
  CallOK P Γ f vs T lab F { e with wr := (l0, .gone) :: e.wr } := by
 intro w0 M V T2 w ys hsub hT1 hg hf hF hx op a K Q hK
 refine h w0 M V T2 w ys hsub hT1 hg hf hF hx op a K Q fun V' x w' h1 h2 h3 => hK V' x w' h1 h2 ?_
 have e1 : upd T2 lab { e with wr := (l0, .gone) :: e.wr } = fun l => if l = l0 then some .gone else upd T2 lab e l := by
  funext l
  simp only [upd, Eff.tab, List.cons_append] at hn ⊢
  by_cases q : l = l0
  ·subst q; rw [look_cons_eq, if_pos rfl]
  ·rw [look_cons_ne (fun r => q r.symm), if_neg q]
 rw [e1]
 exact h3.goneL l0
def pcC : SB → Option (List SV)
 | .own cs _ => some cs
 | .roc cs => some cs
 | _ => none
def vlP (l : Nat) : Nat → Nat → List (Nat × Src0)
 | 0, _ => []
 | n + 1, i => (63 + i, .cell l i) :: vlP l n (i + 1)
def pcs (T : Tab) : SV → Option (Bool × Nat × List SV)
 | .slc l true 0 _ _ => match T l with
   | some B => (pcC B).map fun cs => (false, l, cs)
   | none => none
 | .slcR l 0 _ 0 => match T l with
   | some (.row sz cs ty) => match Nat.beq sz 1 && Nat.beq ty 49 with
     | true => some (true, l, cs)
     | false => none
   | _ => none
 | _ => none
def sgE (f : Bool) (ps : List (List Int)) : Eff := match f with
 | true => { val := .tup [.slcR 100 0 32 0, .raw .nilIface], new := [.row 1 ((D.hash ps.flatten).map (.int false .u8)) 5], wr := [(62, .gone)] }
 | false => { val := .tup [.slcR 100 0 32 0, .raw .nilIface], new := [.row 1 ((D.hash ps.flatten).map (.int false .u8)) 5] }
def sgDec (vs : List SV) (T : Tab) : Option Canon := match vs with
 | [.int true .i64 n, .raw (.slice none 0 0), v] => match beqI n 32, pcs T v with
   | true, some (f, l, cs) => match rdP T cs with
     | some (ob, ps) => some { vs0 := sgVs f ps.length, T0 := sgL f ps, vl := (62, .lab l 0) :: vlP l ps.length 0, e0 := sgE f ps, conds := [ps.flatten.length ≤ 1000000000, 1 ≤ ps.length ∧ ps.length ≤ 4] ++ ob }
     | none => none
   | _, _ => none
 | _ => none
theorem sg_call (f : Bool) (ps : List (List Int)) (hl : ps.flatten.length ≤ 1000000000) (hn : 1 ≤ ps.length ∧ ps.length ≤ 4) (Γ : Env) (hg : Γ.glob = globs) : CallOK Tryz.prog Γ 69 (sgVs f ps.length) (sgT f ps) 100 100 (sgE f ps) := by
 have h : CallOK Tryz.prog Γ 69 (sgVs f ps.length) (sgT f ps) 100 100 (sgRes ps.flatten) := by
  match ps, hn with
  | [a], _ =>
    have h := sg1_call f a (by simpa using hl) Γ hg
    rw [show [a].flatten = a by simp]
    exact h
  | [a, b], _ =>
    have h := sg2_call f a b (by simpa using hl) Γ hg
    rw [show [a, b].flatten = a ++ b by simp]
    exact h
  | [a, b, c], _ =>
    have h := sg3_call f a b c (by simpa [Nat.add_assoc] using hl) Γ hg
    rw [show [a, b, c].flatten = a ++ b ++ c by simp]
    exact h
  | [a, b, c, d], _ =>
    have h := sg4_call f a b c d (by simpa [Nat.add_assoc] using hl) Γ hg
    rw [show [a, b, c, d].flatten = a ++ b ++ c ++ d by simp]
    exact h
  | [], hn => simp at hn
  | _ :: _ :: _ :: _ :: _ :: _, hn => simp at hn
 cases f with
 | false => exact h
 | true => exact h.gone (l0 := 62) rfl
theorem sg_ok (Γ : Env) (hg : Γ.glob = globs) : SumOK Tryz.prog Γ 69 (canonS globs 100 sgDec) := by
 refine canonS_ok hg fun vs T c hd hc => ?_
 unfold sgDec at hd
 split at hd
 case h_2 => cases hd
 split at hd
 case h_2 => cases hd
 split at hd
 case h_2 => cases hd
 cases hd
 exact sg_call _ _ (hc _ (by simp)) (hc _ (by simp)) Γ hg
noncomputable def exSg : Nat → Option Sum := addS exA 69 (canonS globs 100 sgDec)
theorem exSg_ok : ∀ f S, exSg f = some S → ∀ Γ : Env, Γ.glob = globs → SumOK Tryz.prog Γ f S := addS_ok (fun f S h Γ _ => exA_ok f S h Γ) 69 _ sg_ok
end Go.Proofs.YtjomfjihopegmaaGreatDoor.Sx
end
section
open Go
set_option maxRecDepth 100000
namespace Go.Proofs.YtjomfjihopegmaaGreatDoor.Sx
def lenO : List (List Int) → List Prop
 | [] => []
 | d :: r => (d.length = d.length) :: (d.length = d.length) :: lenO r
def sameO : List (List Int) → List Prop
 | [] => []
 | d :: r => (d = d) :: sameO r
theorem lenO_ok : ∀ ps, ∀ q ∈ lenO ps, q
 | [] => mem0
 | _ :: r => mem1 rfl (mem1 rfl (lenO_ok r))
theorem sameO_ok : ∀ ps, ∀ q ∈ sameO ps, q
 | [] => mem0
 | _ :: r => mem1 rfl (sameO_ok r)
def whO (f : Bool) (ps : List (List Int)) : List Prop := (ps.flatten.length ≤ 1000000000) :: (1 ≤ ps.length ∧ ps.length ≤ 4) :: pO f ps.length (lenO ps ++ sameO ps)
def goneW : Bool → List (Nat × SB)
 | true => [(62, .gone)]
 | false => []
def whR (f : Bool) (ps : List (List Int)) : Eff := { obl := whO f ps, val := .agg ((D.hash ps.flatten).map (.int false .u8)), wr := goneW f }
theorem wh1 (f : Bool) (a : List Int) : interp (env exSg 4) Tryz.f32 true [] 1500 [pv f 1] (sgT f [a]) 100 100 = some (whR f [a]) := by cases f <;> kernel_rfl
theorem wh2 (f : Bool) (a b : List Int) : interp (env exSg 4) Tryz.f32 true [] 1500 [pv f 2] (sgT f [a, b]) 100 100 = some (whR f [a, b]) := by cases f <;> kernel_rfl
theorem wh3 (f : Bool) (a b c : List Int) : interp (env exSg 4) Tryz.f32 true [] 1500 [pv f 3] (sgT f [a, b, c]) 100 100 = some (whR f [a, b, c]) := by cases f <;> kernel_rfl
theorem wh4 (f : Bool) (a b c d : List Int) : interp (env exSg 4) Tryz.f32 true [] 1500 [pv f 4] (sgT f [a, b, c, d]) 100 100 = some (whR f [a, b, c, d]) := by cases f <;> kernel_rfl
theorem wh_call (f : Bool) (ps : List (List Int)) (hl : ps.flatten.length ≤ 1000000000) (hn : 1 ≤ ps.length ∧ ps.length ≤ 4) (Γ : Env) (hg : Γ.glob = globs) :
  CallOK Tryz.prog Γ 32 [pv f ps.length] (sgT f ps) 100 100 { val := .ai .u8 (D.hash ps.flatten), wr := goneW f } := by
 have hs : SumOK Tryz.prog (env exSg 4) 32 (interp (env exSg 4) Tryz.f32 true [] 1500) :=
  interp_ok (env_ty exSg 4) (env_ok exSg exSg_ok 4) mix Tryz.func32 (by kernel_rfl) true [] 1500
 have hr : interp (env exSg 4) Tryz.f32 true [] 1500 [pv f ps.length] (sgT f ps) 100 100 = some (whR f ps) := by
  match ps, hn with
  | [a], _ => exact wh1 f a
  | [a, b], _ => exact wh2 f a b
  | [a, b, c], _ => exact wh3 f a b c
  | [a, b, c, d], _ => exact wh4 f a b c d
  | [], hn => simp at hn
  | _ :: _ :: _ :: _ :: _ :: _, hn => simp at hn
 have ho : ∀ q ∈ whO f ps, q := mem1 hl (mem1 hn (pO_ok (memA (lenO_ok ps) (sameO_ok ps))))
 refine (hs.call hr ho).words (by rw [hg]; rfl) (fun _ => rfl) (fun _ _ h => h) (fun V => ?_) rfl rfl
 show den V (.agg _) = den V (.ai _ _)
 simp only [den, denL_map_int]
 rfl
def whDec (vs : List SV) (T : Tab) : Option Canon := match vs with
 | [v] => match pcs T v with
   | some (f, l, cs) => match rdP T cs with
     | some (ob, ps) => some { vs0 := [pv f ps.length], T0 := sgL f ps, vl := (62, .lab l 0) :: vlP l ps.length 0, e0 := { val := .ai .u8 (D.hash ps.flatten), wr := goneW f }, conds := [ps.flatten.length ≤ 1000000000, 1 ≤ ps.length ∧ ps.length ≤ 4] ++ ob }
     | none => none
   | none => none
 | _ => none
theorem wh_ok (Γ : Env) (hg : Γ.glob = globs) : SumOK Tryz.prog Γ 32 (canonS globs 100 whDec) := by
 refine canonS_ok hg fun vs T c hd hc => ?_
 unfold whDec at hd
 split at hd
 case h_2 => cases hd
 split at hd
 case h_2 => cases hd
 split at hd
 case h_2 => cases hd
 cases hd
 exact wh_call _ _ (hc _ (by simp)) (hc _ (by simp)) Γ hg
noncomputable def exWh : Nat → Option Sum := addS exA 32 (canonS globs 100 whDec)
theorem exWh_ok : ∀ f S, exWh f = some S → ∀ Γ : Env, Γ.glob = globs → SumOK Tryz.prog Γ f S := addS_ok (fun f S h Γ _ => exA_ok f S h Γ) 32 _ wh_ok
end Go.Proofs.YtjomfjihopegmaaGreatDoor.Sx
end
section
open Go
set_option maxRecDepth 100000
namespace Go.Proofs.YtjomfjihopegmaaGreatDoor.Sx
noncomputable def exAw : Nat → Option Sum := addS (addS exD 32 (canonS globs 100 whDec)) 12 (canonS globs 100 h8Dec)
theorem exAw_ok : ∀ f S, exAw f = some S → ∀ Γ : Env, Γ.glob = globs → SumOK Tryz.prog Γ f S := addS_ok (addS_ok exD_ok 32 _ wh_ok) 12 _ h8_ok
theorem aw_0 :
 interp (env exAw 6) Tryz.f5 true [true, true] 1500 [] (fun l => look l glB) 100 100 =
 some
 {
  obl :=
   [(32 : Nat) = (32 : Nat) ∧ (32 : Nat) = (32 : Nat), Bts (List.take (5 : Nat) (List.drop (0 : Nat) [(97 : Int), (119 : Int), (97 : Int), (107 : Int), (101 : Int)])),
    (5 : Nat) ≤ (1000000000 : Nat), (5 : Nat) ≤ (5 : Nat) ∧ (5 : Nat) ≤ (5 : Nat), (5 : Nat) ≤ (5 : Nat) ∧ (5 : Nat) ≤ (5 : Nat), (5 : Nat) = (5 : Nat),
    List.take (5 : Nat) (List.drop (0 : Nat) [(97 : Int), (119 : Int), (97 : Int), (107 : Int), (101 : Int)]) =
     List.take (5 : Nat) (List.drop (0 : Nat) [(97 : Int), (119 : Int), (97 : Int), (107 : Int), (101 : Int)]),
    (5 : Nat) ≤ (5 : Nat) ∧ (5 : Nat) ≤ (5 : Nat), (32 : Nat) = (32 : Nat), true = true, (32 : Nat) = (32 : Nat) ∧ (32 : Nat) = (32 : Nat), (32 : Nat) = (32 : Nat), (32 : Nat) = (32 : Nat),
    (32 : Nat) = (32 : Nat), (32 : Nat) = (32 : Nat), (32 : Nat) = (32 : Nat), (5 : Nat) ≤ (1000000000 : Nat), (1 : Nat) ≤ (1 : Nat) ∧ (1 : Nat) ≤ (4 : Nat),
    (5 : Nat) ≤ (5 : Nat) ∧ (5 : Nat) ≤ (5 : Nat), (5 : Nat) ≤ (5 : Nat) ∧ (5 : Nat) ≤ (5 : Nat), (5 : Nat) = (5 : Nat),
    List.take (5 : Nat) (List.drop (0 : Nat) [(97 : Int), (119 : Int), (97 : Int), (107 : Int), (101 : Int)]) =
     List.take (5 : Nat) (List.drop (0 : Nat) [(97 : Int), (119 : Int), (97 : Int), (107 : Int), (101 : Int)]),
    (5 : Nat) ≤ (5 : Nat) ∧ (5 : Nat) ≤ (5 : Nat), (32 : Nat) = (32 : Nat), (32 : Nat) = (32 : Nat), (32 : Nat) = (32 : Nat), (32 : Nat) = (32 : Nat), (32 : Nat) = (32 : Nat),
    (32 : Nat) = (32 : Nat), (32 : Nat) = (32 : Nat), (32 : Nat) = (32 : Nat), (0 : Nat) ≤ (0 : Nat) ∧ (32 : Nat) ≤ (32 : Nat), (32 : Nat) ≤ (32 : Nat),
    D.okV (D.wrV D.v0 (List.take (5 : Nat) (List.drop (0 : Nat) [(97 : Int), (119 : Int), (97 : Int), (107 : Int), (101 : Int)]))) (0 : Nat),
    D.wrV D.v0 (List.take (5 : Nat) (List.drop (0 : Nat) [(97 : Int), (119 : Int), (97 : Int), (107 : Int), (101 : Int)])) =
     D.wrV D.v0 (List.take (5 : Nat) (List.drop (0 : Nat) [(97 : Int), (119 : Int), (97 : Int), (107 : Int), (101 : Int)])),
    D.okV D.v0 (5 : Nat), (5 : Nat) ≤ (5 : Nat) ∧ (5 : Nat) ≤ (5 : Nat), (5 : Nat) ≤ (5 : Nat) ∧ (5 : Nat) ≤ (5 : Nat), (5 : Nat) = (5 : Nat),
    ∀ (V : Val),
      denL V
        [SV.raw (Value.pointer none), SV.int true IntKind.i64 (32 : Int), SV.int true IntKind.u32 (1795745351 : Int), SV.int true IntKind.u32 (3144134277 : Int),
         SV.int true IntKind.u32 (1013904242 : Int), SV.int true IntKind.u32 (2773480762 : Int), SV.int true IntKind.u32 (1359893119 : Int), SV.int true IntKind.u32 (2600822924 : Int),
         SV.int true IntKind.u32 (528734635 : Int), SV.int true IntKind.u32 (1541459225 : Int), SV.int true IntKind.u64 (0 : Int), SV.int true IntKind.u8 (0 : Int),
         SV.int true IntKind.u8 (0 : Int), SV.int true IntKind.u8 (0 : Int), SV.int true IntKind.u8 (0 : Int), SV.int true IntKind.u8 (0 : Int), SV.int true IntKind.u8 (0 : Int),
         SV.int true IntKind.u8 (0 : Int), SV.int true IntKind.u8 (0 : Int), SV.int true IntKind.u8 (0 : Int), SV.int true IntKind.u8 (0 : Int), SV.int true IntKind.u8 (0 : Int),
         SV.int true IntKind.u8 (0 : Int), SV.int true IntKind.u8 (0 : Int), SV.int true IntKind.u8 (0 : Int), SV.int true IntKind.u8 (0 : Int), SV.int true IntKind.u8 (0 : Int),
         SV.int true IntKind.u8 (0 : Int), SV.int true IntKind.u8 (0 : Int), SV.int true IntKind.u8 (0 : Int), SV.int true IntKind.u8 (0 : Int), SV.int true IntKind.u8 (0 : Int),
         SV.int true IntKind.u8 (0 : Int), SV.int true IntKind.u8 (0 : Int), SV.int true IntKind.u8 (0 : Int), SV.int true IntKind.u8 (0 : Int), SV.int true IntKind.u8 (0 : Int),
         SV.int true IntKind.u8 (0 : Int), SV.int true IntKind.u8 (0 : Int), SV.int true IntKind.u8 (0 : Int), SV.int true IntKind.u8 (0 : Int), SV.int true IntKind.u8 (0 : Int),
         SV.int true IntKind.u8 (0 : Int), SV.int true IntKind.u8 (0 : Int), SV.int true IntKind.u8 (0 : Int), SV.int true IntKind.u8 (0 : Int), SV.int true IntKind.u8 (0 : Int),
         SV.int true IntKind.u8 (0 : Int), SV.int true IntKind.u8 (0 : Int), SV.int true IntKind.u8 (0 : Int), SV.int true IntKind.u8 (0 : Int), SV.int true IntKind.u8 (0 : Int),
         SV.int true IntKind.u8 (0 : Int), SV.int true IntKind.u8 (0 : Int), SV.int true IntKind.u8 (0 : Int), SV.int true IntKind.u8 (0 : Int), SV.int true IntKind.u8 (0 : Int),
         SV.int true IntKind.u8 (0 : Int), SV.int true IntKind.u8 (0 : Int), SV.int true IntKind.u8 (0 : Int), SV.int true IntKind.u8 (0 : Int), SV.int true IntKind.u8 (0 : Int),
         SV.int true IntKind.u8 (0 : Int), SV.int true IntKind.u8 (0 : Int), SV.int true IntKind.u8 (0 : Int), SV.int true IntKind.u8 (0 : Int), SV.int true IntKind.u8 (0 : Int),
         SV.int true IntKind.u8 (0 : Int), SV.int true IntKind.u8 (0 : Int), SV.int true IntKind.u8 (0 : Int), SV.int true IntKind.u8 (0 : Int), SV.int true IntKind.u8 (0 : Int),
         SV.int true IntKind.u8 (0 : Int), SV.int true IntKind.u8 (0 : Int), SV.int true IntKind.u8 (0 : Int), SV.int true IntKind.i64 (0 : Int)] =
       some D.v0,
    List.take (5 : Nat) (List.drop (0 : Nat) [(97 : Int), (119 : Int), (97 : Int), (107 : Int), (101 : Int)]) =
     List.take (5 : Nat) (List.drop (0 : Nat) [(97 : Int), (119 : Int), (97 : Int), (107 : Int), (101 : Int)]),
    (5 : Nat) ≤ (5 : Nat) ∧ (5 : Nat) ≤ (5 : Nat)],
  val := SV.bool false true } := by kernel_rfl
def glT : Tab := fun l => look l glB
theorem aw_call (Γ : Env) (hg : Γ.glob = globs) : CallOK Tryz.prog Γ 5 [] glT 100 100 { val := .bool true true } := by
 have hs : SumOK Tryz.prog (env exAw 6) 5 (interp (env exAw 6) Tryz.f5 true [true, true] 1500) := interp_ok (env_ty exAw 6) (env_ok exAw exAw_ok 6) mix Tryz.func5 (by kernel_rfl) true [true, true] 1500
 refine (hs.call (aw_0) (of_allP ?_)).words (by rw [hg]; rfl) (fun _ => rfl) (fun _ _ h => h) (fun _ => rfl) rfl rfl
 have hB : Bts [97, 119, 97, 107, 101] := by
  intro x hx
  simp only [List.mem_cons, List.not_mem_nil, or_false] at hx
  unfold Bt
  omega
 have h1 : D.okV (D.wrV D.v0 [97, 119, 97, 107, 101]) 0 := by rw [v0_eq, wrV_st]; exact okV_st _ (by decide)
 have h2 : D.okV D.v0 5 := by rw [v0_eq]; exact okV_st [] (by decide)
 simp only [allP]
 repeat' (first | exact h1 | exact h2 | exact hB | exact fO_ok | with_reducible apply And.intro)
 all_goals first | trivial | rfl | decide
def awDec (vs : List SV) (_ : Tab) : Option Canon := match vs with
 | [] => some { vs0 := [], T0 := glB, vl := [], e0 := { val := .bool true true } }
 | _ => none
theorem aw_ok (Γ : Env) (hg : Γ.glob = globs) : SumOK Tryz.prog Γ 5 (canonS globs 100 awDec) := by
 refine canonS_ok hg fun vs T c hd hc => ?_
 unfold awDec at hd
 split at hd
 case h_2 => cases hd
 cases hd
 exact aw_call Γ hg
end Go.Proofs.YtjomfjihopegmaaGreatDoor.Sx
end
section
open Go
set_option maxRecDepth 100000
namespace Go.Proofs.YtjomfjihopegmaaGreatDoor.Sx
def noL : Tab := fun l => look l []
/-! ### a Recorder that is there or not -/
theorem at_n (i : Int) : interp (env exAt 4) Tryz.f43 true [] 600 [.raw (.pointer none), .int false .i64 i] noL 100 100 = some { val := .int false .i64 i } := by kernel_rfl
theorem op_n (i : Int) : interp (env exAt 4) Tryz.f44 true [] 600 [.raw (.pointer none), .int false .i64 i] noL 100 100 = some { val := .tup [] } := by kernel_rfl
theorem atN_call (s : Bool) (i : Int) (Γ : Env) (hg : Γ.glob = globs) : CallOK Tryz.prog Γ 43 [.raw (.pointer none), .int s .i64 i] noL 100 100 { val := .int s .i64 i } := by
 have hs : SumOK Tryz.prog (env exAt 4) 43 (interp (env exAt 4) Tryz.f43 true [] 600) := interp_ok (env_ty exAt 4) (env_ok exAt exAt_ok 4) mix Tryz.func43 (by kernel_rfl) true [] 600
 exact (hs.call (at_n i) (by simp)).words (by rw [hg]; rfl) (fun _ => rfl) (fun _ _ h => h) (fun _ => rfl) rfl rfl
theorem opN_call (s : Bool) (i : Int) (Γ : Env) (hg : Γ.glob = globs) : CallOK Tryz.prog Γ 44 [.raw (.pointer none), .int s .i64 i] noL 100 100 { val := .tup [] } := by
 have hs : SumOK Tryz.prog (env exAt 4) 44 (interp (env exAt 4) Tryz.f44 true [] 600) := interp_ok (env_ty exAt 4) (env_ok exAt exAt_ok 4) mix Tryz.func44 (by kernel_rfl) true [] 600
 exact (hs.call (op_n i) (by simp)).words (by rw [hg]; rfl) (fun _ => rfl) (fun _ _ h => h) (fun _ => rfl) rfl rfl
def atXDec (vs : List SV) (T : Tab) : Option Canon := match vs with
 | [.raw (.pointer none), .int s .i64 i] => some { vs0 := [.raw (.pointer none), .int s .i64 i], T0 := [], vl := [], e0 := { val := .int s .i64 i } }
 | [.ptr L _ _, .int s .i64 i] => lgCan [.ptr 57 true 0, .int s .i64 i] (.int s .i64 i) (2, i) T L
 | _ => none
def opXDec (vs : List SV) (T : Tab) : Option Canon := match vs with
 | [.raw (.pointer none), .int s .i64 i] => some { vs0 := [.raw (.pointer none), .int s .i64 i], T0 := [], vl := [], e0 := { val := .tup [] } }
 | [.ptr L _ _, .int s .i64 i] => lgCan [.ptr 57 true 0, .int s .i64 i] (.tup []) (3, i) T L
 | _ => none
theorem atX_ok (Γ : Env) (hg : Γ.glob = globs) : SumOK Tryz.prog Γ 43 (canonS globs 100 atXDec) := by
 refine canonS_ok hg fun vs T c hd hc => ?_
 unfold atXDec at hd
 split at hd
 ·cases hd; exact atN_call _ _ Γ hg
 ·unfold lgCan at hd
  split at hd
  case h_2 => cases hd
  cases hd
  exact atL_call _ _ (hc _ (by simp)) Γ hg
 ·cases hd
theorem opX_ok (Γ : Env) (hg : Γ.glob = globs) : SumOK Tryz.prog Γ 44 (canonS globs 100 opXDec) := by
 refine canonS_ok hg fun vs T c hd hc => ?_
 unfold opXDec at hd
 split at hd
 ·cases hd; exact opN_call _ _ Γ hg
 ·unfold lgCan at hd
  split at hd
  case h_2 => cases hd
  cases hd
  exact opL_call _ _ (hc _ (by simp)) Γ hg
 ·cases hd
noncomputable def exX : Nat → Option Sum := addS (addS (addS exAt 42 (canonS globs 100 ifLDec)) 43 (canonS globs 100 atXDec)) 44 (canonS globs 100 opXDec)
theorem exX_ok : ∀ f S, exX f = some S → ∀ Γ : Env, Γ.glob = globs → SumOK Tryz.prog Γ f S := addS_ok (addS_ok (addS_ok exAt_ok 42 _ ifL_ok) 43 _ atX_ok) 44 _ opX_ok
namespace P
def W (n : Int) : Int := IntKind.u64.wrap n
def sh (n : Int) : Int := shrI .u64 n 26
def lo (n : Int) : Int := bAnd .u64 n 67108863
def c1 (x : List Int) : Int := W (x.getD 1 0 + sh (x.getD 0 0))
def c2 (x : List Int) : Int := W (x.getD 2 0 + sh (c1 x))
def c3 (x : List Int) : Int := W (x.getD 3 0 + sh (c2 x))
def c4 (x : List Int) : Int := W (x.getD 4 0 + sh (c3 x))
def pass (x : List Int) : List Int := [W (lo (x.getD 0 0) + W (5 * sh (c4 x))), lo (c1 x), lo (c2 x), lo (c3 x), lo (c4 x)]
def settled (x : List Int) : List Int := pass (pass x)
theorem settled_length (x : List Int) : (settled x).length = 5 := rfl
def word (a b c d : Int) : Int := bOr .u64 (bOr .u64 (bOr .u64 (W a) (shlI .u64 (W b) 8)) (shlI .u64 (W c) 16)) (shlI .u64 (W d) 24)
def limbs (b : List Int) : List Int := [lo (word (b.getD 0 0) (b.getD 1 0) (b.getD 2 0) (b.getD 3 0)), lo (shrI .u64 (word (b.getD 3 0) (b.getD 4 0) (b.getD 5 0) (b.getD 6 0)) 2),
 lo (shrI .u64 (word (b.getD 6 0) (b.getD 7 0) (b.getD 8 0) (b.getD 9 0)) 4), shrI .u64 (word (b.getD 9 0) (b.getD 10 0) (b.getD 11 0) (b.getD 12 0)) 6, word (b.getD 13 0) (b.getD 14 0) (b.getD 15 0) (b.getD 16 0)]
def num (b : List Int) : List Int := settled (limbs b)
def clampV (b : List Int) (i : Nat) : Int := match i % 4 with
 | 3 => bAnd .u8 (b.getD i 0) 15
 | 0 => match i with
   | 0 => b.getD i 0
   | _ => bAnd .u8 (b.getD i 0) 252
 | _ => b.getD i 0
def clampB (b : List Int) : List Int := (List.range 16).map (clampV b) ++ [0]
def addL (a b : List Int) : List Int := (List.range 5).map fun j => W (a.getD j 0 + b.getD j 0)
def add (a b : List Int) : List Int := settled (addL a b)
def mulRow (a b : List Int) (i : Nat) : Nat → List Int → List Int
 | 0, d => d
 | k + 1, d => (mulRow a b i k d).set (i + k) (W ((mulRow a b i k d).getD (i + k) 0 + W (a.getD i 0 * b.getD k 0)))
def mulW (a b : List Int) : Nat → List Int
 | 0 => List.replicate 10 0
 | i + 1 => mulRow a b i 5 (mulW a b i)
def mulL (a b : List Int) : List Int := (List.range 5).map fun j => W ((mulW a b 5).getD j 0 + W (5 * (mulW a b 5).getD (j + 5) 0))
def mul (a b : List Int) : List Int := settled (mulL a b)
end P
theorem st_0 (x : List Int) : interp (env exA 3) Tryz.f154 true [] 1500 [.agg (intsV .u64 5 x)] noL 100 100 = some { val := .agg ((P.settled x).map (.int false .u64)) } := by kernel_rfl
theorem st_call (x : List Int) (hl : x.length = 5) (Γ : Env) (hg : Γ.glob = globs) : CallOK Tryz.prog Γ 154 [.ai .u64 x] noL 100 100 { val := .agg (intsV .u64 5 (P.settled x)) } := by
 have hs : SumOK Tryz.prog (env exA 3) 154 (interp (env exA 3) Tryz.f154 true [] 1500) := interp_ok (env_ty exA 3) (env_ok exA (fun f S h Γ _ => exA_ok f S h Γ) 3) mix Tryz.func154 (by kernel_rfl) true [] 1500
 refine (hs.call (st_0 x) (by simp)).words (by rw [hg]; rfl) (fun V => ?_) (fun _ _ h => h) (fun V => (den_agg_ai V _ _).trans (den_intsV_ai V rfl).symm) rfl rfl
 simp only [denL, den_intsV_ai V hl]
def stDec (phi : List Int → List Int) (vs : List SV) (_ : Tab) : Option Canon := match vs with
 | [v] => match intsOf v with
   | some (.u64, x) => some { vs0 := [.ai .u64 x], T0 := [], vl := [], e0 := { val := .agg (intsV .u64 5 (phi x)) }, conds := [x.length = 5, phi x = P.settled x] }
   | _ => none
 | _ => none
theorem std_ok (phi : List Int → List Int) (Γ : Env) (hg : Γ.glob = globs) : SumOK Tryz.prog Γ 154 (canonS globs 100 (stDec phi)) := by
 refine canonS_ok hg fun vs T c hd hc => ?_
 unfold stDec at hd
 split at hd
 case h_2 => cases hd
 split at hd
 case h_2 => cases hd
 cases hd
 have e := hc _ (List.mem_cons_of_mem _ List.mem_cons_self)
 have h := st_call _ (hc _ List.mem_cons_self) Γ hg
 rw [← e] at h
 exact h
noncomputable def exP0 (phi : List Int → List Int) : Nat → Option Sum := addS exX 154 (canonS globs 100 (stDec phi))
theorem exP0_ok (phi : List Int → List Int) : ∀ f S, exP0 phi f = some S → ∀ Γ : Env, Γ.glob = globs → SumOK Tryz.prog Γ f S := addS_ok exX_ok 154 _ (std_ok phi)
def pOb (phi : List Int → List Int) (Y : List Int) : List Prop := [Y.length = 5, phi Y = P.settled Y, Y = Y]
def pV (phi : List Int → List Int) (Y : List Int) : SV := .agg (intsV .u64 5 (phi Y))
theorem bl_0 (phi : List Int → List Int) (b : List Int) : interp (env (exP0 phi) 4) Tryz.f126 true [] 1500 [.agg (intsV .u8 17 b)] noL 100 100 = some { obl := pOb phi (P.limbs b), val := pV phi (P.limbs b) } := by kernel_rfl
theorem cl_p (phi : List Int → List Int) (b : List Int) : interp (env (exP0 phi) 4) Tryz.f84 true [] 1500 [.agg (intsV .u8 16 b)] noL 100 100 = some { obl := pOb phi (P.limbs (P.clampB b)), val := pV phi (P.limbs (P.clampB b)) } := by kernel_rfl
theorem pa_0 (phi : List Int → List Int) (a b : List Int) : interp (env (exP0 phi) 4) Tryz.f125 true [] 1500 [.raw (.pointer none), .agg (intsV .u64 5 a), .agg (intsV .u64 5 b)] noL 100 100 = some { obl := pOb phi (P.addL a b), val := pV phi (P.addL a b) } := by kernel_rfl
theorem pm_0 (phi : List Int → List Int) (a b : List Int) : interp (env (exP0 phi) 4) Tryz.f124 true [] 1500 [.raw (.pointer none), .agg (intsV .u64 5 a), .agg (intsV .u64 5 b)] noL 100 100 = some { obl := pOb phi (P.mulL a b), val := pV phi (P.mulL a b) } := by kernel_rfl
def eOb (evs : List (Int × Int)) : List Prop := [evs.length ≤ 1000000000000, (evs.length : Int) = (evs.length : Int), evs = evs]
theorem pa_l (phi : List Int → List Int) (a b : List Int) (evs : List (Int × Int)) : interp (env (exP0 phi) 4) Tryz.f125 true [] 1500 [.ptr 57 true 0, .agg (intsV .u64 5 a), .agg (intsV .u64 5 b)] (lgT evs) 100 100 = some { lgE (pV phi (P.addL a b)) (evs ++ [(3, 11)]) with obl := pOb phi (P.addL a b) ++ eOb evs } := by kernel_rfl
theorem pm_l (phi : List Int → List Int) (a b : List Int) (evs : List (Int × Int)) : interp (env (exP0 phi) 4) Tryz.f124 true [] 1500 [.ptr 57 true 0, .agg (intsV .u64 5 a), .agg (intsV .u64 5 b)] (lgT evs) 100 100 = some { lgE (pV phi (P.mulL a b)) (evs ++ [(3, 12)]) with obl := pOb phi (P.mulL a b) ++ eOb evs } := by kernel_rfl
end Go.Proofs.YtjomfjihopegmaaGreatDoor.Sx
end
section
open Go
set_option maxRecDepth 100000
namespace Go.Proofs.YtjomfjihopegmaaGreatDoor.Sx
theorem pOb_ok {Y : List Int} (h : Y.length = 5) : ∀ q ∈ pOb P.settled Y, q := of_allP (l := pOb P.settled Y) (show _ ∧ _ ∧ _ ∧ True from ⟨h, rfl, rfl, trivial⟩)
theorem eOb_ok {evs : List (Int × Int)} (h : evs.length ≤ 1000000000000) : ∀ q ∈ eOb evs, q := of_allP (l := eOb evs) (show _ ∧ _ ∧ _ ∧ True from ⟨h, rfl, rfl, trivial⟩)
theorem pV_ai (V : Val) (Y : List Int) : den V (pV P.settled Y) = den V (.ai .u64 (P.settled Y)) := den_intsV_ai V rfl
noncomputable def ΓP0 : Env := env (exP0 P.settled) 4
theorem ΓP0_ok : SumsOK Tryz.prog ΓP0 := env_ok _ (exP0_ok _) 4
theorem ΓP0_ty : TyOK Tryz.prog ΓP0 := env_ty _ 4
theorem bl_call (b : List Int) (hl : b.length = 17) (Γ : Env) (hg : Γ.glob = globs) : CallOK Tryz.prog Γ 126 [.ai .u8 b] noL 100 100 { val := .ai .u64 (P.num b) } := by
 have hs : SumOK Tryz.prog ΓP0 126 (interp ΓP0 Tryz.f126 true [] 1500) := interp_ok ΓP0_ty ΓP0_ok mix Tryz.func126 (by kernel_rfl) true [] 1500
 refine (hs.call (bl_0 _ b) (pOb_ok rfl)).words (by rw [hg]; rfl) (fun V => ?_) (fun _ _ h => h) (fun V => pV_ai V _) rfl rfl
 simp only [denL, den_intsV_ai V hl]
theorem clp_call (b : List Int) (hl : b.length = 16) (Γ : Env) (hg : Γ.glob = globs) : CallOK Tryz.prog Γ 84 [.ai .u8 b] noL 100 100 { val := .ai .u64 (P.num (P.clampB b)) } := by
 have hs : SumOK Tryz.prog ΓP0 84 (interp ΓP0 Tryz.f84 true [] 1500) := interp_ok ΓP0_ty ΓP0_ok mix Tryz.func84 (by kernel_rfl) true [] 1500
 refine (hs.call (cl_p _ b) (pOb_ok rfl)).words (by rw [hg]; rfl) (fun V => ?_) (fun _ _ h => h) (fun V => pV_ai V _) rfl rfl
 simp only [denL, den_intsV_ai V hl]
theorem paN_call (a b : List Int) (ha : a.length = 5) (hb : b.length = 5) (Γ : Env) (hg : Γ.glob = globs) : CallOK Tryz.prog Γ 125 [.raw (.pointer none), .ai .u64 a, .ai .u64 b] noL 100 100 { val := .ai .u64 (P.add a b) } := by
 have hs : SumOK Tryz.prog ΓP0 125 (interp ΓP0 Tryz.f125 true [] 1500) := interp_ok ΓP0_ty ΓP0_ok mix Tryz.func125 (by kernel_rfl) true [] 1500
 refine (hs.call (pa_0 _ a b) (pOb_ok rfl)).words (by rw [hg]; rfl) (fun V => ?_) (fun _ _ h => h) (fun V => pV_ai V _) rfl rfl
 simp only [denL, den_intsV_ai V ha, den_intsV_ai V hb]
theorem pmN_call (a b : List Int) (ha : a.length = 5) (hb : b.length = 5) (Γ : Env) (hg : Γ.glob = globs) : CallOK Tryz.prog Γ 124 [.raw (.pointer none), .ai .u64 a, .ai .u64 b] noL 100 100 { val := .ai .u64 (P.mul a b) } := by
 have hs : SumOK Tryz.prog ΓP0 124 (interp ΓP0 Tryz.f124 true [] 1500) := interp_ok ΓP0_ty ΓP0_ok mix Tryz.func124 (by kernel_rfl) true [] 1500
 refine (hs.call (pm_0 _ a b) (pOb_ok rfl)).words (by rw [hg]; rfl) (fun V => ?_) (fun _ _ h => h) (fun V => pV_ai V _) rfl rfl
 simp only [denL, den_intsV_ai V ha, den_intsV_ai V hb]
theorem paL_call (a b : List Int) (evs : List (Int × Int)) (ha : a.length = 5) (hb : b.length = 5) (he : evs.length ≤ 1000000000000) (Γ : Env) (hg : Γ.glob = globs) : CallOK Tryz.prog Γ 125 [.ptr 57 true 0, .ai .u64 a, .ai .u64 b] (lgT evs) 100 100 (lgE (.ai .u64 (P.add a b)) (evs ++ [(3, 11)])) := by
 have hs : SumOK Tryz.prog ΓP0 125 (interp ΓP0 Tryz.f125 true [] 1500) := interp_ok ΓP0_ty ΓP0_ok mix Tryz.func125 (by kernel_rfl) true [] 1500
 refine (hs.call (pa_l _ a b evs) (fun q hq => (List.mem_append.1 hq).elim (pOb_ok rfl q) (eOb_ok he q))).words (by rw [hg]; rfl) (fun V => ?_) (fun _ _ h => h) (fun V => pV_ai V _) rfl rfl
 simp only [denL, den_intsV_ai V ha, den_intsV_ai V hb]
theorem pmL_call (a b : List Int) (evs : List (Int × Int)) (ha : a.length = 5) (hb : b.length = 5) (he : evs.length ≤ 1000000000000) (Γ : Env) (hg : Γ.glob = globs) : CallOK Tryz.prog Γ 124 [.ptr 57 true 0, .ai .u64 a, .ai .u64 b] (lgT evs) 100 100 (lgE (.ai .u64 (P.mul a b)) (evs ++ [(3, 12)])) := by
 have hs : SumOK Tryz.prog ΓP0 124 (interp ΓP0 Tryz.f124 true [] 1500) := interp_ok ΓP0_ty ΓP0_ok mix Tryz.func124 (by kernel_rfl) true [] 1500
 refine (hs.call (pm_l _ a b evs) (fun q hq => (List.mem_append.1 hq).elim (pOb_ok rfl q) (eOb_ok he q))).words (by rw [hg]; rfl) (fun V => ?_) (fun _ _ h => h) (fun V => pV_ai V _) rfl rfl
 simp only [denL, den_intsV_ai V ha, den_intsV_ai V hb]
def agV (x : List Int) : SV := .agg (intsV .u64 5 x)
def aiV (x : List Int) : SV := .ai .u64 x
/-! ### be, al, mu stand for what Block, Add, Mul answer (so that the kernel never looks into it) -/
def blDec (be : List Int → List Int) (vs : List SV) (_ : Tab) : Option Canon := match vs with
 | [v] => match intsOf v with
   | some (.u8, b) => some { vs0 := [.ai .u8 b], T0 := [], vl := [], e0 := { val := .ai .u64 (be b) }, conds := [b.length = 17, be b = P.num b] }
   | _ => none
 | _ => none
def cpDec (cp : List Int → List Int) (vs : List SV) (_ : Tab) : Option Canon := match vs with
 | [v] => match intsOf v with
   | some (.u8, b) => some { vs0 := [.ai .u8 b], T0 := [], vl := [], e0 := { val := agV (cp b) }, conds := [b.length = 16, cp b = P.num (P.clampB b)] }
   | _ => none
 | _ => none
def p2Dec (wv : List Int → SV) (g g' : List Int → List Int → List Int) (op : Int) (vs : List SV) (T : Tab) : Option Canon := match vs with
 | [.raw (.pointer none), v, u] => match intsOf v, intsOf u with
   | some (.u64, a), some (.u64, b) => some { vs0 := [.raw (.pointer none), .ai .u64 a, .ai .u64 b], T0 := [], vl := [], e0 := { val := wv (g a b) }, conds := [a.length = 5, b.length = 5, g a b = g' a b] }
   | _, _ => none
 | [.ptr L _ _, v, u] => match intsOf v, intsOf u with
   | some (.u64, a), some (.u64, b) => match lgIn T L with
     | some (l2, evs) => some { vs0 := [.ptr 57 true 0, .ai .u64 a, .ai .u64 b], T0 := lgL evs, vl := lgVl L l2, e0 := lgE (wv (g a b)) (evs ++ [(3, op)]), conds := [a.length = 5, b.length = 5, g a b = g' a b, evs.length ≤ 1000000000000] }
     | none => none
   | _, _ => none
 | _ => none
theorem bld_ok (be : List Int → List Int) (Γ : Env) (hg : Γ.glob = globs) : SumOK Tryz.prog Γ 126 (canonS globs 100 (blDec be)) := by
 refine canonS_ok hg fun vs T c hd hc => ?_
 unfold blDec at hd
 split at hd
 case h_2 => cases hd
 split at hd
 case h_2 => cases hd
 cases hd
 have e := hc _ (List.mem_cons_of_mem _ List.mem_cons_self)
 have h := bl_call _ (hc _ List.mem_cons_self) Γ hg
 rw [← e] at h
 exact h
theorem cpd_ok (cp : List Int → List Int) (Γ : Env) (hg : Γ.glob = globs) : SumOK Tryz.prog Γ 84 (canonS globs 100 (cpDec cp)) := by
 refine canonS_ok hg fun vs T c hd hc => ?_
 unfold cpDec at hd
 split at hd
 case h_2 => cases hd
 split at hd
 case h_2 => cases hd
 cases hd
 have e := hc _ (List.mem_cons_of_mem _ List.mem_cons_self)
 have h := (clp_call _ (hc _ List.mem_cons_self) Γ hg).words (e' := { val := agV (P.num (P.clampB _)) }) rfl (fun _ => rfl) (fun _ _ h => h) (fun V => (den_intsV_ai V (P.settled_length _)).symm) rfl rfl
 rw [← e] at h
 exact h
theorem p2_ok {wv : List Int → SV} {g' : List Int → List Int → List Int} {op : Int} {f : Nat} (hw : ∀ (V : Val) (a b : List Int), den V (.ai .u64 (g' a b)) = den V (wv (g' a b))) (g : List Int → List Int → List Int)
  (hN : ∀ (a b : List Int), a.length = 5 → b.length = 5 → ∀ (Γ : Env), Γ.glob = globs → CallOK Tryz.prog Γ f [.raw (.pointer none), .ai .u64 a, .ai .u64 b] noL 100 100 { val := .ai .u64 (g' a b) })
  (hL : ∀ (a b : List Int) (evs : List (Int × Int)), a.length = 5 → b.length = 5 → evs.length ≤ 1000000000000 → ∀ (Γ : Env), Γ.glob = globs → CallOK Tryz.prog Γ f [.ptr 57 true 0, .ai .u64 a, .ai .u64 b] (lgT evs) 100 100 (lgE (.ai .u64 (g' a b)) (evs ++ [(3, op)])))
  (Γ : Env) (hg : Γ.glob = globs) : SumOK Tryz.prog Γ f (canonS globs 100 (p2Dec wv g g' op)) := by
 refine canonS_ok hg fun vs T c hd hc => ?_
 unfold p2Dec at hd
 split at hd
 ·split at hd
  case h_2 => cases hd
  cases hd
  have e := hc _ (List.mem_cons_of_mem _ (List.mem_cons_of_mem _ List.mem_cons_self))
  have h := (hN _ _ (hc _ List.mem_cons_self) (hc _ (List.mem_cons_of_mem _ List.mem_cons_self)) Γ hg).words (e' := { val := wv (g' _ _) }) rfl (fun _ => rfl) (fun _ _ h => h) (fun V => hw V _ _) rfl rfl
  rw [← e] at h
  exact h
 ·split at hd
  case h_2 => cases hd
  split at hd
  case h_2 => cases hd
  cases hd
  have e := hc _ (List.mem_cons_of_mem _ (List.mem_cons_of_mem _ List.mem_cons_self))
  have h := hL _ _ _ (hc _ List.mem_cons_self) (hc _ (List.mem_cons_of_mem _ List.mem_cons_self)) (hc _ (List.mem_cons_of_mem _ (List.mem_cons_of_mem _ (List.mem_cons_of_mem _ List.mem_cons_self)))) Γ hg
  have h := h.words (e' := lgE (wv (g' _ _)) _) rfl (fun _ => rfl) (fun _ _ h => h) (fun V => hw V _ _) rfl rfl
  rw [← e] at h
  exact h
 ·cases hd
noncomputable def exP1 (be : List Int → List Int) (al mu : List Int → List Int → List Int) : Nat → Option Sum := addS (addS (addS (addS exX 126 (canonS globs 100 (blDec be))) 84 (canonS globs 100 (cpDec fun b => P.num (P.clampB b)))) 125 (canonS globs 100 (p2Dec aiV al P.add 11))) 124 (canonS globs 100 (p2Dec agV mu P.mul 12))
theorem exP1_ok (be : List Int → List Int) (al mu : List Int → List Int → List Int) : ∀ f S, exP1 be al mu f = some S → ∀ Γ : Env, Γ.glob = globs → SumOK Tryz.prog Γ f S :=
 addS_ok (addS_ok (addS_ok (addS_ok exX_ok 126 _ (bld_ok be)) 84 _ (cpd_ok _)) 125 _ (p2_ok (fun _ _ _ => rfl) al paN_call paL_call)) 124 _ (p2_ok (fun V a b => (den_intsV_ai V (P.settled_length _)).symm) mu pmN_call pmL_call)
end Go.Proofs.YtjomfjihopegmaaGreatDoor.Sx
end
section
open Go
set_option maxRecDepth 100000
namespace Go.Proofs.YtjomfjihopegmaaGreatDoor.Sx
namespace P
def g0 (t : List Int) : Int := W (t.getD 0 0 + 5)
def g1 (t : List Int) : Int := W (t.getD 1 0 + sh (g0 t))
def g2 (t : List Int) : Int := W (t.getD 2 0 + sh (g1 t))
def g3 (t : List Int) : Int := W (t.getD 3 0 + sh (g2 t))
def g4 (t : List Int) : Int := W (t.getD 4 0 + sh (g3 t))
def pick (x a b : Int) : Int := bXor .u64 b (bAnd .u64 (W (0 - bAnd .u64 x 1)) (bXor .u64 a b))
def leastT (t : List Int) : List Int := [pick (sh (g4 t)) (lo (g0 t)) (t.getD 0 0), pick (sh (g4 t)) (lo (g1 t)) (t.getD 1 0), pick (sh (g4 t)) (lo (g2 t)) (t.getD 2 0), pick (sh (g4 t)) (lo (g3 t)) (t.getD 3 0), pick (sh (g4 t)) (lo (g4 t)) (t.getD 4 0)]
def least (a : List Int) : List Int := leastT (settled a)
def low (t : List Int) : Int := bOr .u64 (bOr .u64 (t.getD 0 0) (shlI .u64 (t.getD 1 0) 26)) (shlI .u64 (t.getD 2 0) 52)
def high (t : List Int) : Int := bOr .u64 (bOr .u64 (shrI .u64 (t.getD 2 0) 12) (shlI .u64 (t.getD 3 0) 14)) (shlI .u64 (t.getD 4 0) 40)
def byteOf (x : Int) (i : Nat) : Int := IntKind.u8.wrap (shrI .u64 x (8 * (i : Int)))
def bytesT (t : List Int) : List Int := (List.range 8).map (byteOf (low t)) ++ ((List.range 8).map (byteOf (high t)) ++ [IntKind.u8.wrap (shrI .u64 (t.getD 4 0) 24)])
def acc (b : List Int) (k : Nat) : Nat → Int
 | 0 => 0
 | i + 1 => bOr .u64 (acc b k i) (shlI .u64 (W (b.getD (k + i) 0)) (8 * (i : Int)))
def tagLo (b s : List Int) : Int := (acc b 0 8 + acc s 0 8 + 0) % 18446744073709551616
def tagHi (b s : List Int) : Int := (acc b 8 8 + acc s 8 8 + (acc b 0 8 + acc s 0 8 + 0) / 18446744073709551616) % 18446744073709551616
def tagL (b s : List Int) : List Int := (List.range 8).map (byteOf (tagLo b s)) ++ (List.range 8).map (byteOf (tagHi b s))
end P
theorem le_0 (phi : List Int → List Int) (a : List Int) : interp (env (exP0 phi) 4) Tryz.f156 true [] 1500 [.agg (intsV .u64 5 a)] noL 100 100 = some { obl := pOb phi ((List.range 5).map fun j => a.getD j 0), val := .agg ((P.leastT (phi ((List.range 5).map fun j => a.getD j 0))).map (.int false .u64)) } := by kernel_rfl
theorem le_call (a : List Int) (ha : a.length = 5) (Γ : Env) (hg : Γ.glob = globs) : CallOK Tryz.prog Γ 156 [.ai .u64 a] noL 100 100 { val := .agg (intsV .u64 5 (P.least a)) } := by
 have hs : SumOK Tryz.prog ΓP0 156 (interp ΓP0 Tryz.f156 true [] 1500) := interp_ok ΓP0_ty ΓP0_ok mix Tryz.func156 (by kernel_rfl) true [] 1500
 have e : (List.range 5).map (fun j => a.getD j 0) = a := by
  match a, ha with
  | [_, _, _, _, _], _ => rfl
 have h := le_0 P.settled a
 rw [e] at h
 refine (hs.call h (pOb_ok ha)).words (by rw [hg]; rfl) (fun V => ?_) (fun _ _ h => h) (fun V => (den_agg_ai V _ _).trans (den_intsV_ai V rfl).symm) rfl rfl
 simp only [denL, den_intsV_ai V ha]
def leDecP (psi : List Int → List Int) (vs : List SV) (_ : Tab) : Option Canon := match vs with
 | [v] => match intsOf v with
   | some (.u64, a) => some { vs0 := [.ai .u64 a], T0 := [], vl := [], e0 := { val := .agg (intsV .u64 5 (psi a)) }, conds := [a.length = 5, psi a = P.least a] }
   | _ => none
 | _ => none
theorem led_ok (psi : List Int → List Int) (Γ : Env) (hg : Γ.glob = globs) : SumOK Tryz.prog Γ 156 (canonS globs 100 (leDecP psi)) := by
 refine canonS_ok hg fun vs T c hd hc => ?_
 unfold leDecP at hd
 split at hd
 case h_2 => cases hd
 split at hd
 case h_2 => cases hd
 cases hd
 have e := hc _ (List.mem_cons_of_mem _ List.mem_cons_self)
 have h := le_call _ (hc _ List.mem_cons_self) Γ hg
 rw [← e] at h
 exact h
theorem add159 (Γ : Env) : SumOK Tryz.prog Γ 128 (carryS false) := carryS_ok false fun args w => by
 rw [run_callFunc_extern Tryz.func128 (by kernel_rfl) (by kernel_rfl) (by kernel_rfl) (e := add64Entry) (by kernel_rfl)]
 simp only [Sem.run_bind, Sem.run_pure]
noncomputable def exP2 (psi : List Int → List Int) : Nat → Option Sum := addS (addS exX 156 (canonS globs 100 (leDecP psi))) 128 (carryS false)
theorem exP2_ok (psi : List Int → List Int) : ∀ f S, exP2 psi f = some S → ∀ Γ : Env, Γ.glob = globs → SumOK Tryz.prog Γ f S := addS_ok (addS_ok exX_ok 156 _ (led_ok psi)) 128 _ fun Γ _ => add159 Γ
def smOb (b s : List Int) : List Prop := [0 ≤ P.acc b 8 8 ∧ 0 ≤ P.acc s 8 8 ∧ 0 ≤ (P.acc b 0 8 + P.acc s 0 8 + 0) / 18446744073709551616 ∧ (P.acc b 0 8 + P.acc s 0 8 + 0) / 18446744073709551616 ≤ 1, 0 ≤ P.acc b 0 8 ∧ 0 ≤ P.acc s 0 8 ∧ (0 : Int) ≤ 0 ∧ (0 : Int) ≤ 1]
def c5 (a : List Int) : List Int := (List.range 5).map fun j => a.getD j 0
theorem sm_0 (psi : List Int → List Int) (a s : List Int) : interp (env (exP2 psi) 4) Tryz.f87 true [] 3000 [.agg (intsV .u64 5 a), .agg (intsV .u8 16 s)] noL 100 100 =
  some { obl := smOb (P.bytesT (psi (c5 a))) s ++ [(c5 a).length = 5, psi (c5 a) = P.least (c5 a), c5 a = c5 a], val := .agg ((P.tagL (P.bytesT (psi (c5 a))) s).map (.int false .u8)) } := by kernel_rfl
theorem P.W_rng (n : Int) : 0 ≤ IntKind.u64.wrap n ∧ IntKind.u64.wrap n < 18446744073709551616 := by
 have e : IntKind.u64.wrap n = n % 18446744073709551616 := rfl
 rw [e]; omega
theorem P.acc_rng (b : List Int) (k : Nat) : ∀ n, 0 ≤ P.acc b k n ∧ P.acc b k n < 18446744073709551616
 | 0 => ⟨Int.le_refl 0, (by decide : (0 : Int) < 18446744073709551616)⟩
 | _ + 1 => P.W_rng _
theorem smOb_ok (b s : List Int) : ∀ q ∈ smOb b s, q := by
 have h1 := P.acc_rng b 0 8
 have h2 := P.acc_rng s 0 8
 have h3 := P.acc_rng b 8 8
 have h4 := P.acc_rng s 8 8
 refine of_allP (l := smOb b s) (show _ ∧ _ ∧ True from ⟨⟨h3.1, h4.1, ?_, ?_⟩, ⟨h1.1, h2.1, Int.le_refl 0, by decide⟩, trivial⟩)
 ·omega
 ·omega
def P.tag (a s : List Int) : List Int := P.tagL (P.bytesT (P.least a)) s
theorem P.tag_length (a s : List Int) : (P.tag a s).length = 16 := rfl
theorem sm_call (a s : List Int) (ha : a.length = 5) (hs' : s.length = 16) (Γ : Env) (hg : Γ.glob = globs) : CallOK Tryz.prog Γ 87 [.ai .u64 a, .ai .u8 s] noL 100 100 { val := .agg (intsV .u8 16 (P.tag a s)) } := by
 have hs : SumOK Tryz.prog (env (exP2 P.least) 4) 87 (interp (env (exP2 P.least) 4) Tryz.f87 true [] 3000) := interp_ok (env_ty _ 4) (env_ok _ (exP2_ok _) 4) mix Tryz.func87 (by kernel_rfl) true [] 3000
 have e : c5 a = a := by
  match a, ha with
  | [_, _, _, _, _], _ => rfl
 have h := sm_0 P.least a s
 rw [e] at h
 refine (hs.call h (fun q hq => (List.mem_append.1 hq).elim (smOb_ok _ _ q) (of_allP (l := [a.length = 5, P.least a = P.least a, a = a]) (show _ ∧ _ ∧ _ ∧ True from ⟨ha, rfl, rfl, trivial⟩) q))).words (by rw [hg]; rfl) (fun V => ?_) (fun _ _ h => h) (fun V => (den_agg_ai V _ _).trans (den_intsV_ai V (k := .u8) (n := 16) (xs := P.tag a s) rfl).symm) rfl rfl
 simp only [denL, den_intsV_ai V ha, den_intsV_ai V hs']
def smDec (vs : List SV) (_ : Tab) : Option Canon := match vs with
 | [v, u] => match intsOf v, intsOf u with
   | some (.u64, a), some (.u8, s) => some { vs0 := [.ai .u64 a, .ai .u8 s], T0 := [], vl := [], e0 := { val := .agg (intsV .u8 16 (P.tag a s)) }, conds := [a.length = 5, s.length = 16] }
   | _, _ => none
 | _ => none
theorem smd_ok (Γ : Env) (hg : Γ.glob = globs) : SumOK Tryz.prog Γ 87 (canonS globs 100 smDec) := by
 refine canonS_ok hg fun vs T c hd hc => ?_
 unfold smDec at hd
 split at hd
 case h_2 => cases hd
 split at hd
 case h_2 => cases hd
 cases hd
 exact sm_call _ _ (hc _ (by simp)) (hc _ (by simp)) Γ hg
noncomputable def exMac (be : List Int → List Int) (al mu : List Int → List Int → List Int) : Nat → Option Sum := addS (exP1 be al mu) 87 (canonS globs 100 smDec)
theorem exMac_ok (be : List Int → List Int) (al mu : List Int → List Int → List Int) : ∀ f S, exMac be al mu f = some S → ∀ Γ : Env, Γ.glob = globs → SumOK Tryz.prog Γ f S := addS_ok (exP1_ok be al mu) 87 _ smd_ok
end Go.Proofs.YtjomfjihopegmaaGreatDoor.Sx
end
section
open Go
set_option maxRecDepth 100000
namespace Go.Proofs.YtjomfjihopegmaaGreatDoor.Sx
structure P.MS where
 by_ : List Int
 sum : List Int
 mask : List Int
 blk : List Int
 held : Nat
noncomputable def ΓML (be : List Int → List Int) (al mu : List Int → List Int → List Int) : Env := env (exMac be al mu) 4
theorem ΓML_ty (be : List Int → List Int) (al mu : List Int → List Int → List Int) : TyOK Tryz.prog (ΓML be al mu) := env_ty _ 4
theorem ΓML_ok (be : List Int → List Int) (al mu : List Int → List Int → List Int) : SumsOK Tryz.prog (ΓML be al mu) := env_ok _ (exMac_ok be al mu) 4
def mL (S : P.MS) : List SV := .ptr 57 true 0 :: (intsV .u64 5 S.by_ ++ (intsV .u64 5 S.sum ++ (intsV .u8 16 S.mask ++ (intsV .u8 16 S.blk ++ [.int false .i64 (S.held : Int)]))))
def mpL (S : P.MS) (evs : List (Int × Int)) : List (Nat × SB) := (60, .own (mL S) 149) :: lgL evs
def mpT (S : P.MS) (evs : List (Int × Int)) : Tab := fun l => look l (mpL S evs)
def mtL (S : P.MS) (d : List Int) (evs : List (Int × Int)) : List (Nat × SB) := (60, .own (mL S) 149) :: (61, .rov .u8 d) :: lgL evs
def mtT (S : P.MS) (d : List Int) (evs : List (Int × Int)) : Tab := fun l => look l (mtL S d evs)
def blO (be : List Int → List Int) (b : List Int) : List Prop := [b.length = 17, be b = P.num b, b = b]
def c17 (b : List Int) : List Int := (List.range 17).map fun j => b.getD j 0
def plX (be : List Int → List Int) (al mu : List Int → List Int → List Int) (S : P.MS) (s b : List Int) : List Int := mu (al (c5 s) (be (c17 b))) (c5 S.by_)
def plO (be : List Int → List Int) (al mu : List Int → List Int → List Int) (S : P.MS) (s b : List Int) (evs : List (Int × Int)) : List Prop :=
 let A := al (c5 s) (be (c17 b)); let e1 := evs ++ [((3 : Int), (11 : Int))]
 [A.length = 5, (c5 S.by_).length = 5, mu A (c5 S.by_) = P.mul A (c5 S.by_), e1.length ≤ 1000000000000, A = A, c5 S.by_ = c5 S.by_, (e1.length : Int) = (e1.length : Int), e1 = e1,
  (c5 s).length = 5, (be (c17 b)).length = 5, al (c5 s) (be (c17 b)) = P.add (c5 s) (be (c17 b)), evs.length ≤ 1000000000000, c5 s = c5 s, be (c17 b) = be (c17 b), (evs.length : Int) = (evs.length : Int), evs = evs,
  (c17 b).length = 17, be (c17 b) = P.num (c17 b), c17 b = c17 b]
theorem pl_0 (be : List Int → List Int) (al mu : List Int → List Int → List Int) (S : P.MS) (s b : List Int) (evs : List (Int × Int)) : interp (ΓML be al mu) Tryz.f86 true [] 1500 [.ptr 60 true 0, .agg (intsV .u64 5 s), .agg (intsV .u8 17 b)] (mpT S evs) 100 100 =
  some { lgE (agV (plX be al mu S s b)) ((evs ++ [(3, 11)]) ++ [(3, 12)]) with obl := plO be al mu S s b evs } := by kernel_rfl
def P.plus (s b y : List Int) : List Int := P.mul (P.add s (P.num b)) y
theorem c5_eq {a : List Int} (ha : a.length = 5) : c5 a = a := by
 match a, ha with
 | [_, _, _, _, _], _ => rfl
theorem c17_eq {a : List Int} (ha : a.length = 17) : c17 a = a := by
 match a, ha with
 | [_, _, _, _, _, _, _, _, _, _, _, _, _, _, _, _, _], _ => rfl
theorem P.num_length (b : List Int) : (P.num b).length = 5 := rfl
theorem P.add_length (a b : List Int) : (P.add a b).length = 5 := rfl
theorem P.mul_length (a b : List Int) : (P.mul a b).length = 5 := rfl
theorem P.plus_length (s b y : List Int) : (P.plus s b y).length = 5 := rfl
def P.plE : List (Int × Int) := [(3, 11), (3, 12)]
def mpE (x : SV) (S : P.MS) (evs : List (Int × Int)) : Eff := { val := x, new := [.rowp evs 192], wr := [(60, .own (mL S) 149), (57, .own (lgC evs.length 100) 58), (58, .gone)] }
theorem pl_call (S : P.MS) (s b : List Int) (evs : List (Int × Int)) (hS : S.by_.length = 5) (hs5 : s.length = 5) (hb : b.length = 17) (he : evs.length + 5 ≤ 1000000000000) (Γ : Env) (hg : Γ.glob = globs) :
  CallOK Tryz.prog Γ 86 [.ptr 60 true 0, .ai .u64 s, .ai .u8 b] (mpT S evs) 100 100 (mpE (agV (P.plus s b S.by_)) S (evs ++ P.plE)) := by
 have hs : SumOK Tryz.prog (ΓML P.num P.add P.mul) 86 (interp (ΓML P.num P.add P.mul) Tryz.f86 true [] 1500) := interp_ok (ΓML_ty _ _ _) (ΓML_ok _ _ _) mix Tryz.func86 (by kernel_rfl) true [] 1500
 have h := hs.call (pl_0 P.num P.add P.mul S s b evs) (by
  rw [plO, c5_eq hS, c5_eq hs5, c17_eq hb]
  refine of_allP (show _ ∧ _ ∧ _ ∧ _ ∧ _ ∧ _ ∧ _ ∧ _ ∧ _ ∧ _ ∧ _ ∧ _ ∧ _ ∧ _ ∧ _ ∧ _ ∧ _ ∧ _ ∧ _ ∧ True from
   ⟨rfl, hS, rfl, by rw [List.length_append]; exact Nat.le_trans (Nat.add_le_add_left (by decide : 1 ≤ 5) _) he, rfl, rfl, rfl, rfl, hs5, rfl, rfl, by omega, rfl, rfl, rfl, rfl, hb, rfl, rfl, trivial⟩))
 rw [plX, c5_eq hS, c5_eq hs5, c17_eq hb, List.append_assoc] at h
 refine (h.same (l0 := 60) (by simp only [mpT, mpL, look_cons_eq]) rfl).words (by rw [hg]; rfl) (fun V => ?_) (fun _ _ h => h) (fun V => rfl) rfl rfl
 simp only [denL, den_intsV_ai V hs5, den_intsV_ai V hb]
def msL (cs : List SV) : Option (Nat × P.MS) := match cs with
 | .ptr L true 0 :: r => match intsK .u64 (r.take 5), intsK .u64 ((r.drop 5).take 5), intsK .u8 ((r.drop 10).take 16), intsK .u8 ((r.drop 26).take 16), r.drop 42 with
   | some b, some s, some m, some k, [.int _ .i64 h] => some (L, ⟨b, s, m, k, h.toNat⟩)
   | _, _, _, _, _ => none
 | _ => none
def P.nf (S : P.MS) : P.MS := ⟨c5 S.by_, c5 S.sum, bytesI 16 S.mask, bytesI 16 S.blk, (S.held : Int).toNat⟩
theorem msL_mL (S : P.MS) : msL (mL S) = some (57, P.nf S) := by kernel_rfl
def plDec (pl : List Int → List Int → List Int → List Int) (vs : List SV) (T : Tab) : Option Canon := match vs with
 | [.ptr l _ _, v, u] => match T l, intsOf v, intsOf u with
   | some (.own cs ty), some (.u64, s), some (.u8, b) => match Nat.beq ty 149, msL cs with
     | true, some (L, S) => match lgIn T L with
       | some (l2, evs) => some { vs0 := [.ptr 60 true 0, .ai .u64 s, .ai .u8 b], T0 := mpL S evs, vl := (60, .lab l 0) :: lgVl L l2, e0 := mpE (agV (pl s b S.by_)) S (evs ++ P.plE) , conds := [pl s b S.by_ = P.plus s b S.by_, S.by_.length = 5, s.length = 5, b.length = 17, evs.length + 5 ≤ 1000000000000] }
       | none => none
     | _, _ => none
   | _, _, _ => none
 | _ => none
theorem pld_ok (pl : List Int → List Int → List Int → List Int) (Γ : Env) (hg : Γ.glob = globs) : SumOK Tryz.prog Γ 86 (canonS globs 100 (plDec pl)) := by
 refine canonS_ok hg fun vs T c hd hc => ?_
 unfold plDec at hd
 split at hd
 case h_2 => cases hd
 split at hd
 case h_2 => cases hd
 split at hd
 case h_2 => cases hd
 split at hd
 case h_2 => cases hd
 cases hd
 have e := hc _ List.mem_cons_self
 have h := pl_call _ _ _ _ (hc _ (List.mem_cons_of_mem _ List.mem_cons_self)) (hc _ (List.mem_cons_of_mem _ (List.mem_cons_of_mem _ List.mem_cons_self))) (hc _ (List.mem_cons_of_mem _ (List.mem_cons_of_mem _ (List.mem_cons_of_mem _ List.mem_cons_self)))) (hc _ (List.mem_cons_of_mem _ (List.mem_cons_of_mem _ (List.mem_cons_of_mem _ (List.mem_cons_of_mem _ List.mem_cons_self))))) Γ hg
 rw [← e] at h
 exact h
noncomputable def exPl (pl : List Int → List Int → List Int → List Int) : Nat → Option Sum := addS exX 86 (canonS globs 100 (plDec pl))
theorem exPl_ok (pl : List Int → List Int → List Int → List Int) : ∀ f S, exPl pl f = some S → ∀ Γ : Env, Γ.glob = globs → SumOK Tryz.prog Γ f S := addS_ok exX_ok 86 _ (pld_ok pl)
def qM (b s : List Int) (mk bk : Nat → Int) (h : Int) (S' : P.MS) : List Prop :=
 ((List.range 5).map fun j => b.getD j 0 = S'.by_.getD j 0) ++ (((List.range 5).map fun j => s.getD j 0 = S'.sum.getD j 0) ++ (((List.range 16).map fun j => mk j = S'.mask.getD j 0) ++ (((List.range 16).map fun j => bk j = S'.blk.getD j 0) ++ [h = (S'.held : Int)])))
def qMS (S S' : P.MS) : List Prop := qM S.by_ S.sum (S.mask.getD · 0) (S.blk.getD · 0) S.held S'
def tkO (pl : List Int → List Int → List Int → List Int) (S : P.MS) (b : List Int) (evs : List (Int × Int)) (r : List Prop) : List Prop :=
 (pl (c5 S.sum) b (c5 S.by_) = P.plus (c5 S.sum) b (c5 S.by_)) :: ((c5 S.by_).length = 5) :: ((c5 S.sum).length = 5) :: (b.length = 17) :: (evs.length + 5 ≤ 1000000000000) :: (c5 S.sum = c5 S.sum) :: (b = b) :: (qMS S (P.nf S) ++ ((evs.length : Int) = (evs.length : Int)) :: (evs = evs) :: r)
def tkS (pl : List Int → List Int → List Int → List Int) (S : P.MS) (b : List Int) : P.MS := { P.nf S with sum := pl (c5 S.sum) b (c5 S.by_) }
theorem tk_b (pl : List Int → List Int → List Int → List Int) (S : P.MS) (evs : List (Int × Int)) : interp (env (exPl pl) 4) Tryz.f85 true [] 1500 [.ptr 60 true 0, .ptr 60 true 27] (mpT S evs) 100 100 =
  some { mpE (.tup []) (tkS pl S (bytesI 16 S.blk ++ [1])) (evs ++ P.plE) with obl := tkO pl S (bytesI 16 S.blk ++ [1]) evs [] } := by kernel_rfl
def tkD (d : List Int) : List Int := (d.take 16).take ((d.take 16).length.min 16)
def tkL0 (d : List Int) : List Int := (List.replicate 17 0).take 0 ++ tkD d ++ (List.replicate 17 0).drop (0 + (tkD d).length)
def tqL (d : List Int) : List Int := (tkL0 d).set 16 1
theorem tk_a (pl : List Int → List Int → List Int → List Int) (S : P.MS) (d : List Int) (evs : List (Int × Int)) : interp (env (exPl pl) 4) Tryz.f85 true [] 1500 [.ptr 60 true 0, .bptr 61 0] (mtT S d evs) 100 100 =
  some { mpE (.tup []) (tkS pl S (tqL d)) (evs ++ P.plE) with obl := tkO pl S (tqL d) evs [(tqL d).length = 17, 16 < (tkL0 d).length, (0 : Nat) ≤ 0 ∧ 0 + (tkD d).length ≤ 17, 16 ≤ d.length] } := by kernel_rfl
end Go.Proofs.YtjomfjihopegmaaGreatDoor.Sx
end
section
open Go
set_option maxRecDepth 100000
namespace Go.Proofs.YtjomfjihopegmaaGreatDoor.Sx
noncomputable def ΓMW (pl : List Int → List Int → List Int → List Int) : Env := env (exPl pl) 4
theorem ΓMW_ty (pl : List Int → List Int → List Int → List Int) : TyOK Tryz.prog (ΓMW pl) := env_ty _ 4
theorem ΓMW_ok (pl : List Int → List Int → List Int → List Int) : SumsOK Tryz.prog (ΓMW pl) := env_ok _ (exPl_ok pl) 4
def mwL (S : P.MS) (d : List Int) (evs : List (Int × Int)) : List (Nat × SB) := (60, .own (mL S) 149) :: (61, .rov .u8 d) :: lgL evs
def mwT (S : P.MS) (d : List Int) (evs : List (Int × Int)) : Tab := fun l => look l (mwL S d evs)
noncomputable def mwM (pl : List Int → List Int → List Int → List Int) (S : P.MS) (d : List Int) (evs : List (Int × Int)) (cf : Cf) (K : List Fr) (s : St) : Option Cfg := mrun (ΓMW pl) (cutT 100 (mwT S d evs)) 100 Tryz.f49.ntmps [8] 400 3000 cf K s
def mwTb (S : P.MS) (d : List Int) (evs : List (Int × Int)) : List (Nat × SB) := [(60, .own (mL S) 149), (57, .own (lgC evs.length 101) 58), (58, .gone), (100, .rov .u8 d), (101, .rowp evs 192)]
noncomputable def mwR : Option Cfg := mwM (fun a _ _ => a) ⟨[], [], [], [], 0⟩ [] [] (.go (codeOf Tryz.f49)) [] ((st0 (wrVs 0) 100).hint [false])
noncomputable def mwLp : Code := cfgC mwR
noncomputable def mwK : List Fr := cfgF mwR
def gT (h : Nat) : Bool := decide ((h : Int) > 0)
def me1 (h : Nat) (evs : List (Int × Int)) : List (Int × Int) := evs ++ [iE (gT h)]
def me2 (h : Nat) (evs : List (Int × Int)) : List (Int × Int) := me1 h evs ++ [(2, (h : Int))]
def mM (d : List Int) (h : Nat) : Nat := d.length.min (16 - (h : Int).toNat)
def me3 (h m : Nat) (evs : List (Int × Int)) : List (Int × Int) := me2 h evs ++ [(2, (m : Int))]
def hq (h m : Nat) : Int := IntKind.i64.wrap ((h : Int) + (m : Int))
def me4 (h m : Nat) (evs : List (Int × Int)) : List (Int × Int) := me3 h m evs ++ [iE (hq h m == 16)]
def oM (h : Nat) : Nat := if (16 : Int) = (h : Int) then 27 else 27 + (h : Int).toNat * 1
def spM (S : P.MS) (d : List Int) (o m : Nat) : List Int := (bytesI 16 S.mask ++ bytesI 16 S.blk).take (o - 11) ++ d.take m ++ (bytesI 16 S.mask ++ bytesI 16 S.blk).drop (o - 11 + (d.take m).length)
def mcO (h n m : Nat) (d : List Int) (evs : List (Int × Int)) (r : List Prop) : List Prop :=
 (0 ≤ (m : Int) ∧ (m : Int) ≤ (n : Int) ∧ (n : Int) ≤ (n : Int)) :: lgO ((m : Int) = (m : Int)) (me2 h evs) ((11 ≤ oM h ∧ oM h + (d.take m).length ≤ 11 + 32) :: ((0 : Int) ≤ 16 ∧ (16 : Int) ≤ (16 : Nat) ∧ (0 : Int) ≤ 16 ∧ (16 : Int) ≤ 16 ∧ 0 ≤ (h : Int) ∧ (h : Int) ≤ 16) ::
  lgO ((h : Int) = (h : Int)) (me1 h evs) ((gT h = true) :: lgO (gT h = gT h) evs r))
theorem m_0 (pl : List Int → List Int → List Int → List Int) (S S' : P.MS) (d d' : List Int) (n n' : Nat) (evs evs' : List (Int × Int)) : toC 100 Tryz.f49.ntmps (cutT 100 (mwT S d evs)) [.ali 1, .mvb 57 1] (wrGs n') (mwTb S' d' evs') 102 [60, 57, 58] [] (mwM pl S d evs (.go (codeOf Tryz.f49)) [] ((st0 (wrVs n) 100).hint [false])) =
  some (.go (.loop mwLp), mwK, (gT S.held = false) :: lgO (gT S.held = gT S.held) evs ((n = n') :: (qMS S S' ++ [((me1 S.held evs).length : Int) = (evs'.length : Int), d = d', me1 S.held evs = evs']))) := by kernel_rfl
theorem m_1 (pl : List Int → List Int → List Int → List Int) (S S' : P.MS) (d d' : List Int) (n n' : Nat) (evs evs' : List (Int × Int)) : toC 100 Tryz.f49.ntmps (cutT 100 (mwT S d evs)) [.ali 1, .mvb 57 1] (wrGs n') (mwTb S' d' evs') 102 [60, 57, 58] [] (mwM pl S d evs (.go (codeOf Tryz.f49)) [] ((st0 (wrVs n) 100).hint [true, false])) =
  some (.go (.loop mwLp), mwK, ((hq S.held (mM d S.held) == 16) = false) :: lgO ((hq S.held (mM d S.held) == 16) = (hq S.held (mM d S.held) == 16)) (me3 S.held (mM d S.held) evs) (mcO S.held n (mM d S.held) d evs (((n : Int).toNat - (mM d S.held : Int).toNat = n') ::
   (qM S.by_ S.sum (fun j => (spM S d (oM S.held) (mM d S.held)).getD j 0) (fun j => (spM S d (oM S.held) (mM d S.held)).getD (16 + j) 0) (hq S.held (mM d S.held)) S' ++
    [((me4 S.held (mM d S.held) evs).length : Int) = (evs'.length : Int), (d.drop (mM d S.held : Int).toNat).take ((n : Int).toNat - (mM d S.held : Int).toNat) = d', me4 S.held (mM d S.held) evs = evs'])))) := by kernel_rfl
def tkG (pl : List Int → List Int → List Int → List Int) (y s : List Int) (mk bk : Nat → Int) (h : Int) (N : P.MS) (b : List Int) (ev : List (Int × Int)) (r : List Prop) : List Prop :=
 (pl (c5 s) b (c5 y) = P.plus (c5 s) b (c5 y)) :: ((c5 y).length = 5) :: ((c5 s).length = 5) :: (b.length = 17) :: (ev.length + 5 ≤ 1000000000000) :: (c5 s = c5 s) :: (b = b) :: (qM y s mk bk h N ++ ((ev.length : Int) = (ev.length : Int)) :: (ev = ev) :: r)
def r16 (f : Nat → Int) : List Int := (List.range 16).map f
def spJ (S : P.MS) (d : List Int) (j : Nat) : Int := (spM S d (oM S.held) (mM d S.held)).getD j 0
def spN (S : P.MS) (d : List Int) : P.MS := ⟨c5 S.by_, c5 S.sum, r16 (spJ S d), r16 fun j => spJ S d (16 + j), (hq S.held (mM d S.held)).toNat⟩
def spB' (S : P.MS) (d : List Int) : List Int := r16 (fun j => spJ S d (16 + j)) ++ [1]
theorem m_2 (pl : List Int → List Int → List Int → List Int) (S S' : P.MS) (d d' : List Int) (n n' : Nat) (evs evs' : List (Int × Int)) : toC 100 Tryz.f49.ntmps (cutT 100 (mwT S d evs)) [.ali 1, .mvb 57 1] (wrGs n') (mwTb S' d' evs') 102 [60, 57, 58] [] (mwM pl S d evs (.go (codeOf Tryz.f49)) [] ((st0 (wrVs n) 100).hint [true, true])) =
  some (.go (.loop mwLp), mwK, tkG pl S.by_ S.sum (spJ S d) (fun j => spJ S d (16 + j)) (hq S.held (mM d S.held)) (spN S d) (spB' S d) (me4 S.held (mM d S.held) evs) (((hq S.held (mM d S.held) == 16) = true) :: lgO ((hq S.held (mM d S.held) == 16) = (hq S.held (mM d S.held) == 16)) (me3 S.held (mM d S.held) evs) (mcO S.held n (mM d S.held) d evs (((n : Int).toNat - (mM d S.held : Int).toNat = n') ::
   (qM S.by_ (pl (c5 S.sum) (spB' S d) (c5 S.by_)) (spJ S d) (fun _ => 0) 0 S' ++
    [((me4 S.held (mM d S.held) evs ++ P.plE).length : Int) = (evs'.length : Int), (d.drop (mM d S.held : Int).toNat).take ((n : Int).toNat - (mM d S.held : Int).toNat) = d', me4 S.held (mM d S.held) evs ++ P.plE = evs']))))) := by kernel_rfl
def lT (n : Nat) : Bool := decide ((n : Int) ≥ 16)
def le1 (n : Nat) (evs : List (Int × Int)) : List (Int × Int) := evs ++ [iE (lT n)]
def d16 (d : List Int) (n : Nat) : List Int := (d.drop (0 : Int).toNat).take ((16 : Int).toNat - (0 : Int).toNat)
theorem m_4 (pl : List Int → List Int → List Int → List Int) (S0 S S' : P.MS) (d0 d d' : List Int) (n n' : Nat) (evs0 evs evs' : List (Int × Int)) : toC 100 Tryz.f49.ntmps (cutT 100 (mwT S0 d0 evs0)) [] (wrGs n') (mwTb S' d' evs') 102 [60, 57, 58] [] (mwM pl S0 d0 evs0 (.go mwLp) [] ((stOf (wrGs n) (mwTb S d evs) 102 [60, 57, 58] []).hint [false])) =
  some (.at (.exit 0), [], (lT n = false) :: lgO (lT n = lT n) evs ((n = n') :: (qMS S S' ++ [((le1 n evs).length : Int) = (evs'.length : Int), d = d', le1 n evs = evs']))) := by kernel_rfl
theorem m_3 (pl : List Int → List Int → List Int → List Int) (S0 S S' : P.MS) (d0 d d' : List Int) (n n' : Nat) (evs0 evs evs' : List (Int × Int)) : toC 100 Tryz.f49.ntmps (cutT 100 (mwT S0 d0 evs0)) [] (wrGs n') (mwTb S' d' evs') 102 [60, 57, 58] [] (mwM pl S0 d0 evs0 (.go mwLp) [] ((stOf (wrGs n) (mwTb S d evs) 102 [60, 57, 58] []).hint [true])) =
  some (.at .normal, [], ((0 : Int) ≤ 16 ∧ (16 : Int) ≤ (n : Int) ∧ (n : Int) ≤ (n : Int)) :: tkG pl S.by_ S.sum (S.mask.getD · 0) (S.blk.getD · 0) S.held (P.nf S) (tqL (d16 d n)) (le1 n evs) ([(tqL (d16 d n)).length = 17, 16 < (tkL0 (d16 d n)).length, (0 : Nat) ≤ 0 ∧ 0 + (tkD (d16 d n)).length ≤ 17, 16 ≤ (d16 d n).length, 16 ≤ 16, (0 : Int) ≤ 0 ∧ (0 : Int) ≤ 16 ∧ (16 : Int) ≤ (n : Int)] ++
   (lT n = true) :: lgO (lT n = lT n) evs (((n : Int).toNat - (16 : Int).toNat = n') ::
   (qM S.by_ (pl (c5 S.sum) (tqL (d16 d n)) (c5 S.by_)) (S.mask.getD · 0) (S.blk.getD · 0) S.held S' ++
    [((le1 n evs ++ P.plE).length : Int) = (evs'.length : Int), (d.drop (16 : Int).toNat).take ((n : Int).toNat - (16 : Int).toNat) = d', le1 n evs ++ P.plE = evs'])))) := by kernel_rfl
def gP (n : Nat) : Bool := decide ((n : Int) > 0)
def ge1 (n : Nat) (evs : List (Int × Int)) : List (Int × Int) := evs ++ [iE (gP n)]
theorem m_6 (pl : List Int → List Int → List Int → List Int) (S0 S : P.MS) (d0 d : List Int) (n : Nat) (evs0 evs : List (Int × Int)) : endC (ΓMW pl) (mwT S0 d0 evs0) 100 100 Tryz.f49 [] (mwM pl S0 d0 evs0 (.at (.exit 0)) mwK ((stOf (wrGs n) (mwTb S d evs) 102 [60, 57, 58] []).hint [false])) =
  some { mpE (.tup []) S (ge1 n evs) with obl := (gP n = false) :: lgO (gP n = gP n) evs [] } := by kernel_rfl
def spE (S : P.MS) (d : List Int) (j : Nat) : Int := (spM S d 27 (d.length.min 16)).getD j 0
def spF (S : P.MS) (d : List Int) : P.MS := ⟨S.by_, S.sum, r16 (spE S d), r16 fun j => spE S d (16 + j), d.length.min 16⟩
theorem m_5 (pl : List Int → List Int → List Int → List Int) (S0 S : P.MS) (d0 d : List Int) (n : Nat) (evs0 evs : List (Int × Int)) : endC (ΓMW pl) (mwT S0 d0 evs0) 100 100 Tryz.f49 [] (mwM pl S0 d0 evs0 (.at (.exit 0)) mwK ((stOf (wrGs n) (mwTb S d evs) 102 [60, 57, 58] []).hint [true])) =
  some { mpE (.tup []) (spF S d) (ge1 n evs) with obl := (11 ≤ 27 ∧ 27 + (d.take (d.length.min 16)).length ≤ 11 + 32) :: (gP n = true) :: lgO (gP n = gP n) evs [] } := by kernel_rfl
end Go.Proofs.YtjomfjihopegmaaGreatDoor.Sx
end
section
open Go
set_option maxRecDepth 100000
namespace Go.Proofs.YtjomfjihopegmaaGreatDoor.Sx
namespace P
def z16 : List Int := List.replicate 16 0
def byte (S : MS) (c : Int) : MS :=
 if S.held = 15 then ⟨S.by_, plus S.sum (S.blk.set S.held c ++ [1]) S.by_, S.mask, z16, 0⟩
 else ⟨S.by_, S.sum, S.mask, S.blk.set S.held c, S.held + 1⟩
def put (S : MS) (d : List Int) : MS := d.foldl byte S
theorem put_nil (S : MS) : put S [] = S := rfl
theorem put_app (S : MS) (a b : List Int) : put S (a ++ b) = put (put S a) b := List.foldl_append
structure MS.WF (S : MS) : Prop where
 b5 : S.by_.length = 5
 s5 : S.sum.length = 5
 m16 : S.mask.length = 16
 k16 : S.blk.length = 16
 hl : S.held < 16
 z : S.blk.drop S.held = List.replicate (16 - S.held) 0
theorem byte_WF {S : MS} (h : S.WF) (c : Int) : (byte S c).WF := by
 obtain ⟨by_, sum, mask, blk, held⟩ := S
 obtain ⟨h1, h2, h3, h4, h5, h6⟩ := h
 simp only at h1 h2 h3 h4 h5 h6
 unfold byte
 simp only
 split
 ·exact ⟨h1, rfl, h3, rfl, by simp only; omega, rfl⟩
 ·refine ⟨h1, h2, h3, by simpa using h4, by simp only; omega, ?_⟩
  simp only
  have e : (blk.set held c).drop (held + 1) = blk.drop (held + 1) := by
   rw [List.drop_set]; simp
  rw [e, ← List.drop_drop, h6, List.drop_replicate]
  congr 1
theorem put_WF {S : MS} (h : S.WF) (d : List Int) : (put S d).WF := by
 induction d generalizing S with
 | nil => exact h
 | cons c d ih => exact ih (byte_WF h c)
theorem put_fit (by_ sum mask : List Int) : ∀ (d blk : List Int) (held : Nat), blk.length = 16 → held + d.length < 16 →
  put ⟨by_, sum, mask, blk, held⟩ d = ⟨by_, sum, mask, blk.take held ++ d ++ blk.drop (held + d.length), held + d.length⟩
 | [], blk, held, hb, _ => by simp [put]
 | c :: d, blk, held, hb, hl => by
   rw [List.length_cons] at hl
   have e : put ⟨by_, sum, mask, blk, held⟩ (c :: d) = put ⟨by_, sum, mask, blk.set held c, held + 1⟩ d := by
    show put (byte _ c) d = _
    unfold byte
    rw [if_neg (by simp only; omega)]
   rw [e, put_fit by_ sum mask d (blk.set held c) (held + 1) (by simpa using hb) (by omega)]
   have e1 : (blk.set held c).take (held + 1) = blk.take held ++ [c] := by
    rw [List.take_set, List.take_add_one, List.getElem?_eq_getElem (show held < blk.length by omega)]
    apply List.ext_getElem
    ·simp; omega
    ·intro i h1 h2
     simp only [List.length_set, List.length_append, List.length_take, List.length_cons, List.length_nil] at h1 h2
     by_cases hi : i = held
     ·subst hi; simp [List.getElem_append]; omega
     ·rw [List.getElem_set_ne (by omega)]
      have : i < held := by simp at h1; omega
      simp [List.getElem_append]
      intro h; omega
   have e2 : (blk.set held c).drop (held + 1 + d.length) = blk.drop (held + 1 + d.length) := by
    rw [List.drop_set, if_pos (by omega)]
   rw [e1, e2, List.length_cons]
   simp only [List.append_assoc, List.cons_append, List.nil_append, show held + 1 + d.length = held + (d.length + 1) by omega]
theorem put_fill (by_ sum mask : List Int) (d blk : List Int) (held : Nat) (hb : blk.length = 16) (hl : held + d.length = 16) (hd : d ≠ []) :
  put ⟨by_, sum, mask, blk, held⟩ d = ⟨by_, plus sum (blk.take held ++ d ++ [1]) by_, mask, z16, 0⟩ := by
 obtain ⟨a, c, rfl⟩ : ∃ a c, d = a ++ [c] := ⟨d.dropLast, d.getLast hd, (List.dropLast_concat_getLast hd).symm⟩
 rw [List.length_append, List.length_singleton] at hl
 rw [put_app, put_fit by_ sum mask a blk held hb (by omega)]
 show byte _ c = _
 unfold byte
 rw [if_pos (by simp only; omega)]
 simp only
 have e : (blk.take held ++ a ++ blk.drop (held + a.length)).set (held + a.length) c = blk.take held ++ (a ++ [c]) := by
  have hlt : (blk.take held ++ a).length = held + a.length := by simp; omega
  obtain ⟨z, hz⟩ : ∃ z, blk.drop (held + a.length) = [z] := by
   have : (blk.drop (held + a.length)).length = 1 := by simp; omega
   match blk.drop (held + a.length), this with
   | [z], _ => exact ⟨z, rfl⟩
  rw [hz, List.set_append_right _ _ (by omega), hlt, Nat.sub_self]
  simp
 rw [e]
end P
end Go.Proofs.YtjomfjihopegmaaGreatDoor.Sx
end
section
open Go
set_option maxRecDepth 100000
namespace Go.Proofs.YtjomfjihopegmaaGreatDoor.Sx
namespace P
def lpE : Nat → List (Int × Int)
 | 0 => [(1, 0)]
 | k + 1 => (1, 1) :: (plE ++ lpE k)
theorem lpE_len : ∀ k, (lpE k).length = 3 * k + 1
 | 0 => rfl
 | k + 1 => by simp only [lpE, List.length_cons, List.length_append, lpE_len k, plE, List.length_nil]; omega
def wr0 (n : Nat) : List (Int × Int) := lpE (n / 16) ++ [(1, if 0 < n % 16 then 1 else 0)]
def wrE (h n : Nat) : List (Int × Int) :=
 if 0 < h then
  if h + min n (16 - h) = 16 then (1, 1) :: (2, (h : Int)) :: (2, ((min n (16 - h) : Nat) : Int)) :: (1, 1) :: (plE ++ wr0 (n - min n (16 - h)))
  else (1, 1) :: (2, (h : Int)) :: (2, ((min n (16 - h) : Nat) : Int)) :: (1, 0) :: wr0 (n - min n (16 - h))
 else (1, 0) :: wr0 n
theorem wr0_len (n : Nat) : (wr0 n).length ≤ n + 4 := by
 unfold wr0
 rw [List.length_append, lpE_len]
 simp only [List.length_cons, List.length_nil]; omega
theorem wrE_len (h n : Nat) : (wrE h n).length ≤ n + 12 := by
 have h1 := wr0_len n
 have h2 := wr0_len (n - min n (16 - h))
 unfold wrE
 split
 ·split <;> simp only [List.length_cons, List.length_append, plE, List.length_nil] <;> omega
 ·simp only [List.length_cons]; omega
end P
theorem r16_get {L : List Int} (h : L.length = 16) : r16 (fun j => L.getD j 0) = L := bytesI_eq h
theorem r16_lo {L K : List Int} (h : L.length = 16) : r16 (fun j => (L ++ K).getD j 0) = L := by
 rw [← r16_get h]
 refine List.map_congr_left fun j hj => ?_
 have hj : j < 16 := by simpa using hj
 rw [r16_get h, List.getD_eq_getElem?_getD, List.getElem?_append_left (by omega), ← List.getD_eq_getElem?_getD]
theorem r16_hi {L K : List Int} (h : L.length = 16) (hk : K.length = 16) : r16 (fun j => (L ++ K).getD (16 + j) 0) = K := by
 conv => rhs; rw [← r16_get hk]
 refine List.map_congr_left fun j hj => ?_
 rw [List.getD_eq_getElem?_getD, List.getElem?_append_right (by omega), h, show 16 + j - 16 = j by omega, ← List.getD_eq_getElem?_getD]
theorem qM_ok {S' : P.MS} {b s : List Int} {mk bk : Nat → Int} {h : Int} (h1 : b = S'.by_) (h2 : s = S'.sum) (h3 : ∀ j < 16, mk j = S'.mask.getD j 0) (h4 : ∀ j < 16, bk j = S'.blk.getD j 0) (h5 : h = (S'.held : Int)) : ∀ q ∈ qM b s mk bk h S', q := by
 subst h1 h2 h5
 intro q hq
 simp only [qM, List.mem_append, List.mem_map, List.mem_range, List.mem_cons, List.not_mem_nil, or_false] at hq
 rcases hq with ⟨j, _, rfl⟩ | ⟨j, _, rfl⟩ | ⟨j, hj, rfl⟩ | ⟨j, hj, rfl⟩ | rfl
 ·trivial
 ·trivial
 ·exact h3 j hj
 ·exact h4 j hj
 ·trivial
theorem qMS_ok {S S' : P.MS} (h : S = S') : ∀ q ∈ qMS S S', q := by
 subst h
 exact qM_ok rfl rfl (fun _ _ => rfl) (fun _ _ => rfl) rfl
theorem P.nf_eq {S : P.MS} (h : S.WF) : P.nf S = S := by
 obtain ⟨by_, sum, mask, blk, held⟩ := S
 obtain ⟨h1, h2, h3, h4, h5, h6⟩ := h
 simp only [P.nf, c5_eq h1, c5_eq h2, bytesI_eq h3, bytesI_eq h4, Int.toNat_natCast]
theorem tkG_ok {y s : List Int} {mk bk : Nat → Int} {h : Int} {N : P.MS} {b : List Int} {ev : List (Int × Int)} {r : List Prop} (hy : y.length = 5) (hs : s.length = 5) (hb : b.length = 17) (he : ev.length + 5 ≤ 1000000000000)
  (hq : ∀ q ∈ qM y s mk bk h N, q) (hr : ∀ q ∈ r, q) : ∀ q ∈ tkG P.plus y s mk bk h N b ev r, q :=
 mem1L rfl (mem1L (by rw [c5_eq hy]; exact hy) (mem1L (by rw [c5_eq hs]; exact hs) (mem1L hb (mem1L he (mem1L rfl (mem1L rfl fun q hq' => (List.mem_append.1 hq').elim (hq q) (mem1L rfl (mem1L rfl hr) q)))))))
theorem memAL {l l' : List Prop} (h1 : ∀ q ∈ l, q) (h2 : ∀ q ∈ l', q) : ∀ q ∈ l ++ l', q := fun q hq => (List.mem_append.1 hq).elim (h1 q) (h2 q)
theorem memN : ∀ q ∈ ([] : List Prop), q := fun q hq => by cases hq
theorem tkD_eq {d : List Int} (h : 16 ≤ d.length) : tkD d = d.take 16 := by
 unfold tkD
 rw [List.take_of_length_le]
 have : (d.take 16).length = 16 := by rw [List.length_take]; omega
 rw [this]; decide
theorem tqL_eq {d : List Int} (h : 16 ≤ d.length) : tqL d = d.take 16 ++ [1] := by
 have hl : (d.take 16).length = 16 := by rw [List.length_take]; omega
 unfold tqL tkL0
 rw [tkD_eq h, hl, List.take_zero, List.nil_append]
 show ((d.take 16) ++ [0]).set 16 1 = _
 rw [List.set_append_right _ _ (by omega), hl]
 rfl
theorem d16_eq (d : List Int) (n : Nat) : d16 d n = d.take 16 := rfl
theorem P.put16 {S : P.MS} (hS : S.WF) (h0 : S.held = 0) {d : List Int} (hd : d.length = 16) : P.put S d = ⟨S.by_, P.plus S.sum (d ++ [1]) S.by_, S.mask, P.z16, 0⟩ := by
 obtain ⟨by_, sum, mask, blk, held⟩ := S
 simp only at h0
 subst h0
 rw [P.put_fill by_ sum mask d blk 0 hS.k16 (by omega) (fun e => by rw [e] at hd; cases hd)]
 rfl
theorem P.z16_get (j : Nat) : P.z16.getD j 0 = 0 := by
 unfold P.z16
 rw [List.getD_eq_getElem?_getD, List.getElem?_replicate]
 split <;> rfl
theorem P.blk0 {S : P.MS} (hS : S.WF) (h0 : S.held = 0) : S.blk = P.z16 := by
 have := hS.z
 rw [h0] at this
 exact this
theorem P.wr0_part {n : Nat} (h : n < 16) : P.wr0 n = [(1, 0), (1, if 0 < n then 1 else 0)] := by
 unfold P.wr0
 rw [Nat.div_eq_of_lt h, Nat.mod_eq_of_lt h]; rfl
theorem P.wr0_more {n : Nat} (h : 16 ≤ n) : P.wr0 n = (1, 1) :: (P.plE ++ P.wr0 (n - 16)) := by
 unfold P.wr0
 have e : n / 16 = (n - 16) / 16 + 1 := by omega
 have e2 : (n - 16) % 16 = n % 16 := by omega
 rw [e, e2]
 simp only [P.lpE, List.cons_append, List.append_assoc]
theorem spM_eq {S : P.MS} (hS : S.WF) (d : List Int) (h m : Nat) : spM S d (27 + h) m = S.mask ++ (S.blk.take h ++ d.take m ++ S.blk.drop (h + (d.take m).length)) := by
 unfold spM
 rw [bytesI_eq hS.m16, bytesI_eq hS.k16, show 27 + h - 11 = S.mask.length + h by rw [hS.m16]; omega, List.take_length_add_append, Nat.add_assoc, List.drop_length_add_append]
 simp only [List.append_assoc]
theorem mid_len {S : P.MS} (hS : S.WF) {d : List Int} {h m : Nat} (hm : h + (d.take m).length ≤ 16) : (S.blk.take h ++ d.take m ++ S.blk.drop (h + (d.take m).length)).length = 16 := by
 have := hS.k16
 simp only [List.length_append, List.length_drop, List.length_take] at *
 omega
theorem mw_call {S : P.MS} (d : List Int) (evs : List (Int × Int)) (hS : S.WF) (hl : evs.length + d.length + 30 ≤ 1000000000000) :
  CallOK Tryz.prog (ΓMW P.plus) 49 (wrVs d.length) (mwT S d evs) 100 100 (mpE (.tup []) (P.put S d) (evs ++ P.wrE S.held d.length)) := by
 refine call_G (ΓMW_ty _) (ΓMW_ok _) Tryz.func49 (by kernel_rfl) rfl (Nat.le_of_ble_eq_true (by kernel_rfl)) rfl [] ?_
 intro w0 M V0 Q hb H
 have hty := ΓMW_ty P.plus
 have hsum := ΓMW_ok P.plus
 have key : ∀ (S1 : P.MS) (d2 : List Int) (ev : List (Int × Int)), S1.WF → (S1.held = 0 ∨ d2 = []) → P.put S1 d2 = P.put S d → ev ++ P.wr0 d2.length = evs ++ P.wrE S.held d.length → ev.length + d2.length + 10 ≤ 1000000000000 →
   G Tryz.prog (ΓMW P.plus) w0 M (cutT 100 (mwT S d evs)) Tryz.f49.ntmps 100 V0 (.go (.loop mwLp)) mwK (stOf (wrGs d2.length) (mwTb S1 d2 ev) 102 [60, 57, 58] []) Q := by
  intro S1 d2 ev hw h0 he hev hel
  refine G.loop (fun r s => ∃ (S1 : P.MS) (d2 : List Int) (ev : List (Int × Int)), S1.WF ∧ (S1.held = 0 ∨ d2 = []) ∧ P.put S1 d2 = P.put S d ∧ ev ++ P.wr0 d2.length = evs ++ P.wrE S.held d.length ∧ ev.length + d2.length + 10 ≤ 1000000000000 ∧ r = d2.length ∧ s = stOf (wrGs d2.length) (mwTb S1 d2 ev) 102 [60, 57, 58] []) (r0 := d2.length)
   ⟨S1, d2, ev, hw, h0, he, hev, hel, rfl, rfl⟩ ?_
  clear hw h0 he hev hel S1 d2 ev
  rintro r s ⟨S1, d2, ev, hw, h0, he, hev, hel, rfl, rfl⟩
  by_cases h16 : 16 ≤ d2.length
  ·have hT : lT d2.length = true := decide_eq_true (by omega)
   have h0 : S1.held = 0 := h0.resolve_right fun e => by rw [e] at h16; simp at h16
   have ht : (d2.take 16).length = 16 := by rw [List.length_take]; omega
   have e1 := P.put16 hw h0 ht
   rw [P.wr0_more h16] at hev
   have hle : le1 d2.length ev ++ P.plE = ev ++ ((1, 1) :: P.plE) := by unfold le1; rw [hT, iE_t, List.append_assoc]; rfl
   have hl1 : (le1 d2.length ev).length = ev.length + 1 := by simp [le1]
   have h := m_3 P.plus S S1 (P.put S1 (d2.take 16)) d d2 (d2.drop 16) d2.length (d2.drop 16).length evs ev (le1 d2.length ev ++ P.plE)
   rw [d16_eq, tqL_eq (by omega), tkD_eq (by omega), List.take_take, Nat.min_self, ht] at h
   refine G.roundC hty hsum mix hb [true] h ?_ (d2.drop 16).length (by rw [List.length_drop]; omega) ⟨_, _, _, P.put_WF hw _, ?_, ?_, ?_, ?_, rfl, rfl⟩
   ·have hl0 : (tkL0 (d2.take 16)).length = 17 := by
     have := congrArg List.length (tqL_eq (d := d2.take 16) (by omega))
     rw [List.take_take] at this
     simpa [tqL, ht] using this
    have hl17 : (d2.take 16 ++ [1]).length = 17 := by rw [List.length_append, ht]; rfl
    refine mem1L ⟨by omega, by omega, by omega⟩ (tkG_ok hw.b5 hw.s5 hl17 (by rw [hl1]; omega) (by rw [P.nf_eq hw]; exact qMS_ok rfl) (memAL ?_ (mem1L hT (lgO_ok (by omega) rfl (mem1L (by rw [List.length_drop]; omega) (memAL ?_ (mem1L rfl (mem1L ?_ (mem1L rfl memN)))))))))
    ·refine of_allP (show _ ∧ _ ∧ _ ∧ _ ∧ _ ∧ _ ∧ True from ⟨hl17, by rw [hl0]; decide, ⟨Nat.le_refl 0, by omega⟩, by omega, Nat.le_refl _, ⟨by omega, by omega, by omega⟩, trivial⟩)
    ·rw [e1]
     refine qM_ok rfl ?_ (fun _ _ => rfl) (fun j _ => by rw [P.blk0 hw h0]) (by rw [h0])
     show P.plus _ _ _ = P.plus _ _ _
     rw [c5_eq hw.s5, c5_eq hw.b5]
    ·rw [List.take_of_length_le (by rw [List.length_drop]; omega)]; rfl
   ·left; rw [e1]
   ·rw [← P.put_app, List.take_append_drop]; exact he
   ·rw [hle, ← hev, List.length_drop]; simp only [List.append_assoc, List.cons_append]
   ·rw [hle, List.length_append, List.length_drop]; simp only [List.length_cons, P.plE, List.length_nil]; omega
  ·have hT : lT d2.length = false := decide_eq_false (by omega)
   have hle : le1 d2.length ev = ev ++ [(1, 0)] := by unfold le1; rw [hT, iE_f]
   rw [P.wr0_part (by omega)] at hev
   refine G.toC hty hsum mix hb [false] (m_4 P.plus S S1 S1 d d2 d2 d2.length d2.length evs ev (le1 d2.length ev)) (mem1L hT (lgO_ok (by omega) rfl (mem1L rfl (memAL (qMS_ok rfl) (mem1L rfl (mem1L rfl (mem1L rfl memN))))))) (G.leave (by simp) ?_)
   by_cases hz : d2.length = 0
   ·have hd : d2 = [] := List.length_eq_zero_iff.1 hz
    subst hd
    have hP : gP 0 = false := rfl
    have h6 := m_6 P.plus S S1 d [] 0 evs (le1 0 ev)
    have e2 : ge1 0 (le1 0 ev) = evs ++ P.wrE S.held d.length := by
     rw [← hev]; unfold ge1; rw [hP]
     show (ev ++ [iE (lT 0)]) ++ _ = _
     rw [List.append_assoc]; rfl
    have e3 : S1 = P.put S d := he
    rw [e2, e3] at h6
    rw [e3]
    exact G.finC (cl := []) hty hsum mix [false] H h6 (mem1L hP (lgO_ok (by simp [le1]; omega) rfl memN)) rfl rfl rfl
   ·have h0 : S1.held = 0 := h0.resolve_right fun e => hz (by rw [e]; rfl)
    have hP : gP d2.length = true := decide_eq_true (by omega)
    have h5 := m_5 P.plus S S1 d d2 d2.length evs (le1 d2.length ev)
    have e2 : ge1 d2.length (le1 d2.length ev) = evs ++ P.wrE S.held d.length := by
     rw [← hev, hle]; unfold ge1; rw [hP, List.append_assoc, if_pos (by omega)]; rfl
    have e3 : spF S1 d2 = P.put S d := by
     rw [← he]
     have hmin : d2.length.min 16 = d2.length := Nat.min_eq_left (by omega)
     have em := spM_eq hw d2 0 d2.length
     rw [List.take_length, List.take_zero, List.nil_append, Nat.zero_add] at em
     have hlen := mid_len hw (d := d2) (h := 0) (m := d2.length) (by rw [List.take_length]; omega)
     rw [List.take_length, List.take_zero, List.nil_append, Nat.zero_add] at hlen
     have ep := P.put_fit S1.by_ S1.sum S1.mask d2 S1.blk 0 hw.k16 (by omega)
     rw [List.take_zero, List.nil_append, Nat.zero_add] at ep
     have eS : S1 = ⟨S1.by_, S1.sum, S1.mask, S1.blk, 0⟩ := by rw [← h0]
     rw [eS, ep]
     unfold spF spE
     simp only [hmin]
     have em' : spM ⟨S1.by_, S1.sum, S1.mask, S1.blk, 0⟩ d2 27 d2.length = S1.mask ++ (d2 ++ S1.blk.drop d2.length) := em
     rw [em', r16_lo hw.m16, r16_hi hw.m16 hlen]
    rw [e2, e3] at h5
    exact G.finC (cl := []) hty hsum mix [true] H h5 (mem1L ⟨by omega, by rw [List.length_take]; omega⟩ (mem1L hP (lgO_ok (by simp [le1]; omega) rfl memN))) rfl rfl rfl
 by_cases hz : S.held = 0
 ·have hG : gT S.held = false := decide_eq_false (by omega)
  refine G.toC hty hsum mix hb [false] (m_0 P.plus S S d d d.length d.length evs (me1 S.held evs)) (mem1L hG (lgO_ok (by omega) rfl (mem1L rfl (memAL (qMS_ok rfl) (mem1L rfl (mem1L rfl (mem1L rfl memN))))))) ?_
  refine key S d (me1 S.held evs) hS (.inl hz) rfl ?_ (by simp [me1]; omega)
  unfold me1 P.wrE
  rw [hG, if_neg (by omega), List.append_assoc]; rfl
 ·have hG : gT S.held = true := decide_eq_true (by omega)
  have hh := hS.hl
  have hm : mM d S.held = min d.length (16 - S.held) := rfl
  have hE : P.wrE S.held d.length = if S.held + mM d S.held = 16 then (1, 1) :: (2, (S.held : Int)) :: (2, ((mM d S.held : Nat) : Int)) :: (1, 1) :: (P.plE ++ P.wr0 (d.length - mM d S.held)) else (1, 1) :: (2, (S.held : Int)) :: (2, ((mM d S.held : Nat) : Int)) :: (1, 0) :: P.wr0 (d.length - mM d S.held) := by
   rw [hm]; unfold P.wrE; rw [if_pos (by omega)]
  have hmd : mM d S.held ≤ d.length := by rw [hm]; omega
  have hm16 : S.held + mM d S.held ≤ 16 := by rw [hm]; omega
  have hmz : mM d S.held = d.length ∨ S.held + mM d S.held = 16 := by rw [hm]; omega
  clear hm
  generalize hmm : mM d S.held = m at *
  have htl : (d.take m).length = m := by rw [List.length_take]; omega
  have ho : oM S.held = 27 + S.held := by unfold oM; rw [if_neg (by omega), Int.toNat_natCast]; omega
  have hhq : hq S.held m = ((S.held + m : Nat) : Int) := by unfold hq; rw [IntWalk.i64_in _ (by omega)]; omega
  have em := spM_eq hS d S.held m
  have hlen := mid_len hS (d := d) (h := S.held) (m := m) (by omega)
  have ej : spJ S d = fun j => (S.mask ++ (S.blk.take S.held ++ d.take m ++ S.blk.drop (S.held + (d.take m).length))).getD j 0 := by
   funext j; unfold spJ; rw [ho, hmm, em]
  rw [htl] at ej hlen em
  have l1 : (me1 S.held evs).length = evs.length + 1 := by simp [me1]
  have l2 : (me2 S.held evs).length = evs.length + 2 := by simp [me2, l1]
  have l3 : (me3 S.held m evs).length = evs.length + 3 := by simp [me3, l2]
  have l4 : (me4 S.held m evs).length = evs.length + 4 := by simp [me4, l3]
  have e3 : me3 S.held m evs = evs ++ [(1, 1), (2, (S.held : Int)), (2, (m : Int))] := by
   unfold me3 me2 me1; rw [hG, iE_t]; simp only [List.append_assoc, List.cons_append, List.nil_append]
  have hmc : ∀ {r : List Prop}, (∀ q ∈ r, q) → ∀ q ∈ mcO S.held d.length m d evs r, q := fun hr =>
   mem1L ⟨by omega, by omega, by omega⟩ (lgO_ok (by omega) rfl (mem1L ⟨by rw [ho]; omega, by rw [ho, htl]; omega⟩ (mem1L ⟨by omega, by omega, by omega, by omega, Int.natCast_nonneg _, by omega⟩ (lgO_ok (by omega) rfl (mem1L hG (lgO_ok (by omega) rfl hr))))))
  have hdl : (d.drop m).length = d.length - m := List.length_drop
  have htd : (d.drop (m : Int).toNat).take ((d.length : Int).toNat - (m : Int).toNat) = d.drop m := by
   rw [Int.toNat_natCast, Int.toNat_natCast, List.take_of_length_le (by rw [hdl]; omega)]
  have hw' := P.put_WF hS (d.take m)
  have hpp : P.put (P.put S (d.take m)) (d.drop m) = P.put S d := by rw [← P.put_app, List.take_append_drop]
  by_cases hf : S.held + m = 16
  ·rw [if_pos hf] at hE
   have hbq : (hq S.held m == 16) = true := by rw [hhq, hf]; rfl
   have ep := P.put_fill S.by_ S.sum S.mask (d.take m) S.blk S.held hS.k16 (by omega) (fun e => by rw [e] at htl; simp at htl; omega)
   have eS : P.put S (d.take m) = ⟨S.by_, P.plus S.sum (S.blk.take S.held ++ d.take m ++ [1]) S.by_, S.mask, P.z16, 0⟩ := ep
   have emid : S.blk.drop (S.held + m) = [] := List.drop_eq_nil_of_le (by rw [hf]; exact Nat.le_of_eq hS.k16)
   have e4 : me4 S.held m evs ++ P.plE = evs ++ ((1, 1) :: (2, (S.held : Int)) :: (2, (m : Int)) :: (1, 1) :: P.plE) := by
    unfold me4; rw [e3, hbq, iE_t]; simp only [List.append_assoc, List.cons_append, List.nil_append]
   have hB : spB' S d = S.blk.take S.held ++ d.take m ++ [1] := by
    unfold spB'
    rw [ej, r16_hi hS.m16 hlen, emid, List.append_nil]
   have hB17 : (spB' S d).length = 17 := by rw [hB]; rw [emid, List.append_nil] at hlen; rw [List.length_append, hlen]; rfl
   have h2 := m_2 P.plus S (P.put S (d.take m)) d (d.drop m) d.length (d.drop m).length evs (me4 S.held m evs ++ P.plE)
   rw [hmm] at h2
   refine G.toC hty hsum mix hb [true, true] h2 (tkG_ok hS.b5 hS.s5 hB17 (by omega) ?_ (mem1L hbq (lgO_ok (by omega) rfl (hmc (mem1L (by rw [hdl]; omega) (memAL ?_ (mem1L rfl (mem1L htd (mem1L rfl memN))))))))) ?_
   ·unfold spN
    refine qM_ok (c5_eq hS.b5).symm (c5_eq hS.s5).symm (fun j hj => ?_) (fun j hj => ?_) ?_
    ·simp [r16, List.getD_eq_getElem?_getD, hj]
    ·simp [r16, List.getD_eq_getElem?_getD, hj]
    ·rw [hmm, hhq, Int.toNat_natCast]
   ·rw [eS]
    refine qM_ok rfl (by show P.plus _ _ _ = P.plus _ _ _; rw [c5_eq hS.s5, c5_eq hS.b5, hB]) (fun j hj => ?_) (fun j hj => ?_) rfl
    ·rw [ej]; simp only
     rw [List.getD_eq_getElem?_getD, List.getElem?_append_left (by rw [hS.m16]; exact hj), ← List.getD_eq_getElem?_getD]
    ·exact (P.z16_get j).symm
   ·refine key _ _ _ hw' (.inl (by rw [eS])) hpp ?_ ?_
    ·rw [e4, hE, hdl]; simp only [List.append_assoc, List.cons_append]
    ·rw [List.length_append, l4, hdl]; simp only [P.plE, List.length_cons, List.length_nil]; omega
  ·rw [if_neg hf] at hE
   have hmd' : m = d.length := hmz.resolve_right hf
   have hbq : (hq S.held m == 16) = false := by rw [hhq]; simpa using by omega
   have ep := P.put_fit S.by_ S.sum S.mask (d.take m) S.blk S.held hS.k16 (by omega)
   have eS : P.put S (d.take m) = ⟨S.by_, S.sum, S.mask, S.blk.take S.held ++ d.take m ++ S.blk.drop (S.held + (d.take m).length), S.held + (d.take m).length⟩ := ep
   rw [htl] at eS
   have e4 : me4 S.held m evs = evs ++ [(1, 1), (2, (S.held : Int)), (2, (m : Int)), (1, 0)] := by
    unfold me4; rw [e3, hbq, iE_f]; simp only [List.append_assoc, List.cons_append, List.nil_append]
   have h1 := m_1 P.plus S (P.put S (d.take m)) d (d.drop m) d.length (d.drop m).length evs (me4 S.held m evs)
   rw [hmm, ho, em] at h1
   refine G.toC hty hsum mix hb [true, false] h1 (mem1L hbq (lgO_ok (by omega) rfl (hmc (mem1L (by rw [hdl]; omega) (memAL ?_ (mem1L rfl (mem1L htd (mem1L rfl memN)))))))) ?_
   ·rw [eS]
    refine qM_ok rfl rfl (fun j hj => ?_) (fun j hj => ?_) hhq
    ·rw [List.getD_eq_getElem?_getD, List.getElem?_append_left (by rw [hS.m16]; exact hj), ← List.getD_eq_getElem?_getD]
    ·rw [List.getD_eq_getElem?_getD, List.getElem?_append_right (by rw [hS.m16]; omega), hS.m16, show 16 + j - 16 = j by omega, ← List.getD_eq_getElem?_getD]
   ·refine key _ _ _ hw' (.inr (List.drop_eq_nil_of_le (by omega))) hpp ?_ ?_
    ·rw [e4, hE, hdl]; simp only [List.append_assoc, List.cons_append, List.nil_append]
    ·rw [l4, hdl]; omega
end Go.Proofs.YtjomfjihopegmaaGreatDoor.Sx
end
section
open Go
set_option maxRecDepth 100000
namespace Go.Proofs.YtjomfjihopegmaaGreatDoor.Sx
noncomputable def exTg (pl : List Int → List Int → List Int → List Int) : Nat → Option Sum := addS (exPl pl) 87 (canonS globs 100 smDec)
theorem exTg_ok (pl : List Int → List Int → List Int → List Int) : ∀ f S, exTg pl f = some S → ∀ Γ : Env, Γ.glob = globs → SumOK Tryz.prog Γ f S := addS_ok (exPl_ok pl) 87 _ smd_ok
theorem tg_0 (pl : List Int → List Int → List Int → List Int) (S : P.MS) (evs : List (Int × Int)) : interp (env (exTg pl) 4) Tryz.f50 true [false] 1500 [.ptr 60 true 0] (mpT S evs) 100 100 =
  some { lgE (.agg (intsV .u8 16 (P.tag (c5 S.sum) (bytesI 16 S.mask)))) (me1 S.held evs) with obl := ((c5 S.sum).length = 5) :: ((bytesI 16 S.mask).length = 16) :: (c5 S.sum = c5 S.sum) :: (bytesI 16 S.mask = bytesI 16 S.mask) :: (gT S.held = false) :: lgO (gT S.held = gT S.held) evs [] } := by kernel_rfl
def tgB (S : P.MS) : List Int := (bytesI 16 S.blk ++ [0]).set (0 + (S.held : Int).toNat * 1) 1
def tgX (pl : List Int → List Int → List Int → List Int) (S : P.MS) : List Int := c5 (pl (c5 S.sum) (tgB S) (c5 S.by_))
def k16 (a b : List Int) : List Prop := [a.length = 5, b.length = 16, a = a, b = b]
theorem tg_1 (pl : List Int → List Int → List Int → List Int) (S : P.MS) (evs : List (Int × Int)) : interp (env (exTg pl) 4) Tryz.f50 true [true] 1500 [.ptr 60 true 0] (mpT S evs) 100 100 =
  some { mpE (.agg (intsV .u8 16 (P.tag (tgX pl S) (bytesI 16 S.mask)))) (P.nf S) (me2 S.held evs ++ P.plE) with obl := k16 (tgX pl S) (bytesI 16 S.mask) ++ tkG pl S.by_ S.sum (S.mask.getD · 0) (S.blk.getD · 0) S.held (P.nf S) (tgB S) (me2 S.held evs) (((tgB S).length = 17) :: (0 + (S.held : Int).toNat * 1 < (bytesI 16 S.blk ++ [0]).length) :: (0 ≤ (S.held : Int) ∧ (S.held : Int) < (17 : Nat)) :: lgO ((S.held : Int) = (S.held : Int)) (me1 S.held evs) ((gT S.held = true) :: lgO (gT S.held = gT S.held) evs [])) } := by kernel_rfl
namespace P
def fin (S : MS) : List Int := if 0 < S.held then plus S.sum ((S.blk ++ [0]).set S.held 1) S.by_ else S.sum
def tagOf (S : MS) : List Int := tag (fin S) S.mask
def tgE (h : Nat) : List (Int × Int) := if 0 < h then (1, 1) :: (2, (h : Int)) :: plE else [(1, 0)]
end P
theorem tg_call {S : P.MS} (evs : List (Int × Int)) (hS : S.WF) (hl : evs.length + 10 ≤ 1000000000000) (Γ : Env) (hg : Γ.glob = globs) :
  CallOK Tryz.prog Γ 50 [.ptr 60 true 0] (mpT S evs) 100 100 (mpE (.agg (intsV .u8 16 (P.tagOf S))) S (evs ++ P.tgE S.held)) := by
 have hk : ∀ {a b : List Int}, a.length = 5 → b.length = 16 → ∀ q ∈ k16 a b, q := fun h1 h2 => of_allP (show _ ∧ _ ∧ _ ∧ _ ∧ True from ⟨h1, h2, rfl, rfl, trivial⟩)
 by_cases hz : S.held = 0
 ·have hG : gT S.held = false := decide_eq_false (by omega)
  have hs : SumOK Tryz.prog (env (exTg P.plus) 4) 50 (interp (env (exTg P.plus) 4) Tryz.f50 true [false] 1500) := interp_ok (env_ty _ 4) (env_ok _ (exTg_ok _) 4) mix Tryz.func50 (by kernel_rfl) true [false] 1500
  have h := hs.call (tg_0 P.plus S evs) (mem1L (by rw [c5_eq hS.s5]; exact hS.s5) (mem1L (by rw [bytesI_eq hS.m16]; exact hS.m16) (mem1L rfl (mem1L rfl (mem1L hG (lgO_ok (by omega) rfl memN))))))
  have e1 : P.tagOf S = P.tag (c5 S.sum) (bytesI 16 S.mask) := by unfold P.tagOf P.fin; rw [if_neg (by omega), c5_eq hS.s5, bytesI_eq hS.m16]
  have e2 : me1 S.held evs = evs ++ P.tgE S.held := by unfold me1 P.tgE; rw [hG, if_neg (by omega), iE_f]
  rw [e2] at h
  rw [e1]
  exact (h.same (l0 := 60) (by simp only [mpT, mpL, look_cons_eq]) rfl).words (by rw [hg]; rfl) (fun _ => rfl) (fun _ _ h => h) (fun V => rfl) rfl rfl
 ·have hG : gT S.held = true := decide_eq_true (by omega)
  have hh := hS.hl
  have hs : SumOK Tryz.prog (env (exTg P.plus) 4) 50 (interp (env (exTg P.plus) 4) Tryz.f50 true [true] 1500) := interp_ok (env_ty _ 4) (env_ok _ (exTg_ok _) 4) mix Tryz.func50 (by kernel_rfl) true [true] 1500
  have eB : tgB S = (S.blk ++ [0]).set S.held 1 := by unfold tgB; rw [bytesI_eq hS.k16, Int.toNat_natCast, Nat.mul_one, Nat.zero_add]
  have hB : (tgB S).length = 17 := by rw [eB, List.length_set, List.length_append, hS.k16]; rfl
  have eX : tgX P.plus S = P.fin S := by unfold tgX P.fin; rw [if_pos (by omega), c5_eq hS.s5, c5_eq hS.b5, c5_eq rfl, eB]
  have l1 : (me1 S.held evs).length = evs.length + 1 := by simp [me1]
  have l2 : (me2 S.held evs).length = evs.length + 2 := by simp [me2, l1]
  have h := hs.call (tg_1 P.plus S evs) (memAL (hk (by rw [eX]; unfold P.fin; rw [if_pos (by omega)]; rfl) (by rw [bytesI_eq hS.m16]; exact hS.m16)) (tkG_ok hS.b5 hS.s5 hB (by omega) (by rw [P.nf_eq hS]; exact qMS_ok rfl)
   (mem1L hB (mem1L (by rw [bytesI_eq hS.k16, List.length_append, hS.k16, Int.toNat_natCast, List.length_singleton]; omega) (mem1L ⟨by omega, by omega⟩ (lgO_ok (by omega) rfl (mem1L hG (lgO_ok (by omega) rfl memN))))))))
  have e2 : me2 S.held evs ++ P.plE = evs ++ P.tgE S.held := by
   unfold me2 me1 P.tgE; rw [hG, if_pos (by omega), iE_t]; simp only [List.append_assoc, List.cons_append, List.nil_append]
  rw [e2, P.nf_eq hS, eX, bytesI_eq hS.m16] at h
  exact h.words (by rw [hg]; rfl) (fun _ => rfl) (fun _ _ h => h) (fun V => rfl) rfl rfl
/-! ### Write and Tag as summaries -/
def mwDec (vs : List SV) (T : Tab) : Option Canon := match vs with
 | [.ptr l _ _, p] => match T l with
   | some (.own cs ty) => match Nat.beq ty 149, msL cs, seqRo T .u8 p with
     | true, some (L, S), some (ob, d) => match lgIn T L with
       | some (l2, evs) => some { vs0 := [.ptr 60 true 0, .ros 61 d.length], T0 := mwL S d evs, vl := (60, .lab l 0) :: (61, .arg 1) :: lgVl L l2, e0 := mpE (.tup []) (P.put S d) (evs ++ P.wrE S.held d.length), conds := S.WF :: (evs.length + d.length + 30 ≤ 1000000000000) :: ob }
       | none => none
     | _, _, _ => none
   | _ => none
 | _ => none
theorem mwd_ok (Γ : Env) (hg : Γ.glob = globs) : SumOK Tryz.prog Γ 49 (canonS globs 100 mwDec) := by
 refine canonS_ok hg fun vs T c hd hc => ?_
 unfold mwDec at hd
 split at hd
 case h_2 => cases hd
 split at hd
 case h_2 => cases hd
 split at hd
 case h_2 => cases hd
 split at hd
 case h_2 => cases hd
 cases hd
 exact (mw_call _ _ (hc _ List.mem_cons_self) (hc _ (List.mem_cons_of_mem _ List.mem_cons_self))).words (by rw [hg]; rfl) (fun _ => rfl) (fun _ _ h => h) (fun _ => rfl) rfl rfl
def tgDec (vs : List SV) (T : Tab) : Option Canon := match vs with
 | [.ptr l _ _] => match T l with
   | some (.own cs ty) => match Nat.beq ty 149, msL cs with
     | true, some (L, S) => match lgIn T L with
       | some (l2, evs) => some { vs0 := [.ptr 60 true 0], T0 := mpL S evs, vl := (60, .lab l 0) :: lgVl L l2, e0 := mpE (.agg (intsV .u8 16 (P.tagOf S))) S (evs ++ P.tgE S.held), conds := [S.WF, evs.length + 10 ≤ 1000000000000] }
       | none => none
     | _, _ => none
   | _ => none
 | _ => none
theorem tgd_ok (Γ : Env) (hg : Γ.glob = globs) : SumOK Tryz.prog Γ 50 (canonS globs 100 tgDec) := by
 refine canonS_ok hg fun vs T c hd hc => ?_
 unfold tgDec at hd
 split at hd
 case h_2 => cases hd
 split at hd
 case h_2 => cases hd
 split at hd
 case h_2 => cases hd
 split at hd
 case h_2 => cases hd
 cases hd
 exact tg_call _ (hc _ List.mem_cons_self) (hc _ (List.mem_cons_of_mem _ List.mem_cons_self)) Γ hg
noncomputable def exOM (cp : List Int → List Int) : Nat → Option Sum := addS (addS (addS exX 84 (canonS globs 100 (cpDec cp))) 49 (canonS globs 100 mwDec)) 50 (canonS globs 100 tgDec)
theorem exOM_ok (cp : List Int → List Int) : ∀ f S, exOM cp f = some S → ∀ Γ : Env, Γ.glob = globs → SumOK Tryz.prog Γ f S := addS_ok (addS_ok (addS_ok exX_ok 84 _ (cpd_ok cp)) 49 _ mwd_ok) 50 _ tgd_ok
end Go.Proofs.YtjomfjihopegmaaGreatDoor.Sx
end
section
open Go
set_option maxRecDepth 100000
namespace Go.Proofs.YtjomfjihopegmaaGreatDoor.Sx
noncomputable def ΓOM (cp : List Int → List Int) : Env := env (exOM cp) 4
theorem ΓOM_ty (cp : List Int → List Int) : TyOK Tryz.prog (ΓOM cp) := env_ty _ 4
theorem ΓOM_ok (cp : List Int → List Int) : SumsOK Tryz.prog (ΓOM cp) := env_ok _ (exOM_ok cp) 4
def omVs (key : List Int) (n : Nat) : List SV := [.ptr 57 true 0, .agg (intsV .u8 32 key), .rsl 62 n]
noncomputable def omM (cp : List Int → List Int) (key : List Int) (ds : List (List Int)) (evs : List (Int × Int)) (cf : Cf) (K : List Fr) (s : St) : Option Cfg := mrun (ΓOM cp) (cutT 100 (olT ds evs)) 100 Tryz.f20.ntmps [3] 400 2000 cf K s
def omGs (n : Nat) (i : Int) : List (Nat × SV) := [(0, .ptr 57 true 0), (2, .rsl 62 n), (6, .ptr 100 true 0), (7, .ptr 101 true 0), (8, .int false .i64 i)]
def omTb (S : P.MS) (evs : List (Int × Int)) : List (Nat × SB) := [(57, .own (lgC evs.length 102) 58), (58, .gone), (100, .own (List.replicate 16 (.int true .u8 0)) 30), (101, .own (mL S) 149), (102, .rowp evs 192)]
noncomputable def omR : Option Cfg := omM id [] [] [] (.go (codeOf Tryz.f20)) [] ((st0 (omVs [] 0) 100).hint [])
noncomputable def omLp : Code := cfgC omR
noncomputable def omK : List Fr := cfgF omR
def omQ (cp : List Int → List Int) (key : List Int) (r : List Prop) : List Prop := ((bytesI 16 key).length = 16) :: (cp (bytesI 16 key) = P.num (P.clampB (bytesI 16 key))) :: (bytesI 16 key = bytesI 16 key) :: r
theorem om_0 (cp : List Int → List Int) (key : List Int) (ds : List (List Int)) (evs evs' : List (Int × Int)) (S : P.MS) (n : Nat) (i : Int) : toC 100 Tryz.f20.ntmps (cutT 100 (olT ds evs)) [.mvb 57 1] (omGs n i) (omTb S evs') 103 [57, 58] [] (omM cp key ds evs (.go (codeOf Tryz.f20)) [] ((st0 (omVs key n) 100).hint [])) =
  some (.go (.loop omLp), omK, omQ cp key ((n = n) :: (0 = i) :: ((evs.length : Int) = (evs'.length : Int)) :: (qM (cp (bytesI 16 key)) (List.replicate 5 0) (fun j => key.getD (16 + j) 0) (fun _ => 0) 0 S ++ [evs = evs']))) := by kernel_rfl
theorem om_2 (cp : List Int → List Int) (key : List Int) (ds : List (List Int)) (evs0 evs evs' : List (Int × Int)) (S : P.MS) (n : Nat) (i : Int) : toC 100 Tryz.f20.ntmps (cutT 100 (olT ds evs0)) [] (omGs n i) (omTb S evs') 103 [57, 58] [] (omM cp key ds evs0 (.go omLp) [] ((stOf (omGs n i) (omTb S evs) 103 [57, 58] []).hint [false])) =
  some (.at (.exit 0), [], (decide (i < n) = false) :: lgO (decide (i < n) = decide (i < n)) evs ((n = n) :: (i = i) :: (((oE1 i n evs).length : Int) = (evs'.length : Int)) :: (qMS S S ++ [oE1 i n evs = evs']))) := by kernel_rfl
def omO (S : P.MS) (d : List Int) (evs : List (Int × Int)) (x : List Prop) (r : List Prop) : List Prop :=
 ((P.nf S).WF) :: (evs.length + d.length + 30 ≤ 1000000000000) :: (x ++ (qMS S (P.nf S) ++ (d = d) :: ((evs.length : Int) = (evs.length : Int)) :: (evs = evs) :: r))
theorem om_1 (cp : List Int → List Int) (key : List Int) (ds : List (List Int)) (evs0 evs evs' : List (Int × Int)) (S S' : P.MS) (n : Nat) (i i' : Int) : toC 100 Tryz.f20.ntmps (cutT 100 (olT ds evs0)) [] (omGs n i') (omTb S' evs') 103 [57, 58] [] (omM cp key ds evs0 (.go omLp) [] ((stOf (omGs n i) (omTb S evs) 103 [57, 58] []).hint [true])) =
  some (.at .normal, [], omO S (ds.getD i.toNat []) (oE2 i n evs) [i.toNat = i.toNat ∧ (ds.getD i.toNat []).length = (ds.getD i.toNat []).length, (ds.getD i.toNat []).length = (ds.getD i.toNat []).length] ((i.toNat < ds.length) :: (0 ≤ i ∧ i < n) ::
   lgO (i = i) (oE1 i n evs) ((decide (i < n) = true) :: lgO (decide (i < n) = decide (i < n)) evs ((n = n) :: (IntKind.i64.wrap (i + 1) = i') ::
    (((oE2 i n evs ++ P.wrE (P.nf S).held (ds.getD i.toNat []).length).length : Int) = (evs'.length : Int)) :: (qMS (P.put (P.nf S) (ds.getD i.toNat [])) S' ++ [oE2 i n evs ++ P.wrE (P.nf S).held (ds.getD i.toNat []).length = evs']))))) := by kernel_rfl
theorem om_3 (cp : List Int → List Int) (key : List Int) (ds : List (List Int)) (evs0 evs : List (Int × Int)) (S : P.MS) (n : Nat) (i : Int) : endC (ΓOM cp) (olT ds evs0) 100 100 Tryz.f20 [] (omM cp key ds evs0 (.at (.exit 0)) omK ((stOf (omGs n i) (omTb S evs) 103 [57, 58] []).hint [])) =
  some { lgE (.agg (intsV .u8 16 (P.tagOf (P.nf S)))) (evs ++ P.tgE (P.nf S).held) with obl := ((P.nf S).WF) :: (evs.length + 10 ≤ 1000000000000) :: (qMS S (P.nf S) ++ [(evs.length : Int) = (evs.length : Int), evs = evs]) } := by kernel_rfl
end Go.Proofs.YtjomfjihopegmaaGreatDoor.Sx
end
section
open Go
set_option maxRecDepth 100000
namespace Go.Proofs.YtjomfjihopegmaaGreatDoor.Sx
namespace P
def new (key : List Int) : MS := ⟨num (clampB (key.take 16)), List.replicate 5 0, key.drop 16, z16, 0⟩
def mac (key data : List Int) : List Int := tagOf (put (new key) data)
theorem mac_length (key data : List Int) : (mac key data).length = 16 := rfl
theorem new_WF {key : List Int} (h : key.length = 32) : (new key).WF := ⟨rfl, rfl, by simp only [new, List.length_drop]; omega, rfl, (by decide : 0 < 16), rfl⟩
theorem put_held (d : List Int) : ∀ {S : MS}, S.held < 16 → (put S d).held = (S.held + d.length) % 16 := by
 induction d with
 | nil => intro S h; simp only [put_nil, List.length_nil]; omega
 | cons c d ih =>
   intro S h
   have e : (byte S c).held = (S.held + 1) % 16 := by
    unfold byte
    split
    ·rename_i h15; rw [h15]
    ·simp only; omega
   show (put (byte S c) d).held = _
   rw [ih (by rw [e]; omega), e, List.length_cons]; omega
def lsE : Nat → Nat → List Nat → List (Int × Int)
 | _, h, [] => (1, 0) :: tgE h
 | i, h, n :: r => (1, 1) :: (2, (i : Int)) :: (wrE h n ++ lsE (i + 1) ((h + n) % 16) r)
def ofE (lens : List Nat) : List (Int × Int) := lsE 0 0 lens
theorem lsE_len : ∀ (l : List Nat) (i h : Nat), (lsE i h l).length ≤ l.sum + 14 * l.length + 10
 | [], i, h => by simp only [lsE, tgE]; split <;> simp [plE]
 | n :: r, i, h => by
   have h1 := wrE_len h n
   have h2 := lsE_len r (i + 1) ((h + n) % 16)
   simp only [lsE, List.length_cons, List.length_append, List.sum_cons]; omega
theorem lsE_at (ds : List (List Int)) {i h : Nat} (hi : i < ds.length) : lsE i h ((ds.drop i).map List.length) = (1, 1) :: (2, (i : Int)) :: (wrE h (ds.getD i []).length ++ lsE (i + 1) ((h + (ds.getD i []).length) % 16) ((ds.drop (i + 1)).map List.length)) := by
 rw [List.drop_eq_getElem_cons hi, List.map_cons, lsE]
 have e : ds.getD i [] = ds[i] := by rw [List.getD_eq_getElem?_getD, List.getElem?_eq_getElem hi]; rfl
 rw [e]
end P
theorem om_call (key : List Int) (ds : List (List Int)) (evs : List (Int × Int)) (hk : key.length = 32) (hn : ds.length ≤ 1000000000) (hv : evs.length + ds.flatten.length + 20 * ds.length + 60 ≤ 1000000000000) (Γ : Env) (hg : Γ.glob = globs) :
  CallOK Tryz.prog Γ 20 [.ptr 57 true 0, .ai .u8 key, .rsl 62 ds.length] (olT ds evs) 100 100 (lgE (.agg (intsV .u8 16 (P.mac key ds.flatten))) (evs ++ P.ofE (ds.map List.length))) := by
 refine CallOK.words (Γ := ΓOM fun b => P.num (P.clampB b)) (vs := omVs key ds.length) ?_ (by rw [hg]; rfl) (fun V => by simp only [omVs, denL, den_intsV_ai V hk]) (fun _ _ h => h) (fun _ => rfl) rfl rfl
 refine call_G (ΓOM_ty _) (ΓOM_ok _) Tryz.func20 (by kernel_rfl) rfl (Nat.le_of_ble_eq_true (by kernel_rfl)) rfl [] ?_
 intro w0 M V0 Q hb H
 have hty := ΓOM_ty fun b => P.num (P.clampB b)
 have hsum := ΓOM_ok fun b => P.num (P.clampB b)
 have e16 : bytesI 16 key = key.take 16 := by
  unfold bytesI
  apply List.ext_getElem
  ·simp; omega
  ·intro i h1 h2
   have hi : i < 16 := by simpa using h1
   simp [List.getD_eq_getElem?_getD, show i < key.length by omega]
 have hN := P.new_WF hk
 have q0 : ∀ q ∈ qM (P.num (P.clampB (bytesI 16 key))) (List.replicate 5 0) (fun j => key.getD (16 + j) 0) (fun _ => 0) 0 (P.new key), q := by
  refine qM_ok (by rw [e16]; rfl) rfl (fun j hj => ?_) (fun j _ => (P.z16_get j).symm) rfl
  simp only [P.new, List.getD_eq_getElem?_getD, List.getElem?_drop]
 refine G.toC hty hsum mix hb [] (om_0 (fun b => P.num (P.clampB b)) key ds evs evs (P.new key) ds.length 0) (mem1L (by rw [e16, List.length_take]; omega) (mem1L rfl (mem1L rfl (mem1L rfl (mem1L rfl (mem1L rfl (memAL q0 (mem1L rfl memN)))))))) ?_
 refine G.loop (fun r s => ∃ (i : Nat) (ev : List (Int × Int)), i ≤ ds.length ∧ ev ++ P.lsE i (P.put (P.new key) (ds.take i).flatten).held ((ds.drop i).map List.length) = evs ++ P.ofE (ds.map List.length) ∧ ev.length + (ds.drop i).flatten.length + 20 * (ds.length - i) + 40 ≤ 1000000000000 ∧ r = ds.length - i ∧ s = stOf (omGs ds.length i) (omTb (P.put (P.new key) (ds.take i).flatten) ev) 103 [57, 58] []) (r0 := ds.length)
  ⟨0, evs, Nat.zero_le _, rfl, by rw [List.drop_zero]; omega, rfl, rfl⟩ ?_
 rintro r s ⟨i, ev, hi, he, hel, rfl, rfl⟩
 have hW := P.put_WF hN (ds.take i).flatten
 have hnf := P.nf_eq hW
 have qn : ∀ q ∈ qMS (P.put (P.new key) (ds.take i).flatten) (P.nf (P.put (P.new key) (ds.take i).flatten)), q := by rw [hnf]; exact qMS_ok rfl
 by_cases hlt : i < ds.length
 ·have hf := flat_len hlt
  have hfd := flat_drop hlt
  rw [P.lsE_at ds hlt] at he
  have hdec : decide ((i : Int) < (ds.length : Int)) = true := decide_eq_true (by omega)
  have hst : P.put (P.put (P.new key) (ds.take i).flatten) (ds.getD i []) = P.put (P.new key) (ds.take (i + 1)).flatten := by rw [← P.put_app, flat_take hlt]
  have hheld : ((P.put (P.new key) (ds.take i).flatten).held + (ds.getD i []).length) % 16 = (P.put (P.new key) (ds.take (i + 1)).flatten).held := by rw [← hst]; exact (P.put_held _ hW.hl).symm
  have k1 : (oE1 i ds.length ev).length = ev.length + 1 := by simp [oE1]
  have k2 : (oE2 i ds.length ev).length = ev.length + 2 := by simp [oE2, k1]
  have ke : oE2 i ds.length ev = ev ++ [(1, 1), (2, (i : Int))] := by
   unfold oE2 oE1
   rw [hdec, iE_t, List.append_assoc]; rfl
  have hwl := P.wrE_len (P.put (P.new key) (ds.take i).flatten).held (ds.getD i []).length
  have h := om_1 (fun b => P.num (P.clampB b)) key ds evs ev (oE2 i ds.length ev ++ P.wrE (P.put (P.new key) (ds.take i).flatten).held (ds.getD i []).length) (P.put (P.new key) (ds.take i).flatten) (P.put (P.new key) (ds.take (i + 1)).flatten) ds.length i ((i + 1 : Nat) : Int)
  rw [Int.toNat_natCast, hnf, hst] at h
  refine G.roundC hty hsum mix hb [true] h ?_ (ds.length - (i + 1)) (by omega)
   ⟨i + 1, _, hlt, by rw [ke, ← he, hheld]; simp only [List.append_assoc, List.cons_append, List.nil_append], by rw [List.length_append, k2]; omega, rfl, rfl⟩
  rw [hnf] at qn
  refine mem1L (by rw [hnf]; exact hW) (mem1L (by rw [k2]; omega) (memAL (mem1L ⟨rfl, rfl⟩ (mem1L rfl memN)) (memAL (by rw [hnf]; exact qn) (mem1L rfl (mem1L rfl (mem1L rfl (mem1L hlt (mem1L ⟨by omega, by omega⟩ (lgO_ok (by rw [k1]; omega) rfl (mem1L hdec (lgO_ok (by omega) rfl (mem1L rfl (mem1L ?_ (mem1L rfl (memAL (qMS_ok rfl) (mem1L rfl memN))))))))))))))))
  rw [IntWalk.i64_in _ (by omega)]; omega
 ·have e : i = ds.length := by omega
  subst e
  rw [List.drop_length, List.map_nil, List.take_length] at he
  rw [List.take_length] at *
  have hdec : decide ((ds.length : Int) < (ds.length : Int)) = false := decide_eq_false (by omega)
  have k1 : (oE1 ds.length ds.length ev).length = ev.length + 1 := by simp [oE1]
  have ke : oE1 ds.length ds.length ev = ev ++ [(1, 0)] := by unfold oE1; rw [hdec, iE_f]
  refine G.toC hty hsum mix hb [false] (om_2 _ key ds evs ev (oE1 ds.length ds.length ev) _ ds.length _) (mem1L hdec (lgO_ok (by omega) rfl (mem1L rfl (mem1L rfl (mem1L rfl (memAL (qMS_ok rfl) (mem1L rfl memN))))))) (G.leave (by simp) ?_)
  have hfin : oE1 ds.length ds.length ev ++ P.tgE (P.put (P.new key) ds.flatten).held = evs ++ P.ofE (ds.map List.length) := by
   rw [ke, ← he, List.append_assoc]; rfl
  have h3 := om_3 (fun b => P.num (P.clampB b)) key ds evs (oE1 ds.length ds.length ev) (P.put (P.new key) ds.flatten) ds.length (ds.length : Int)
  rw [hnf, hfin] at h3
  rw [hnf] at qn
  exact G.finC (cl := []) hty hsum mix [] H h3 (mem1L hW (mem1L (by rw [k1]; omega) (memAL qn (mem1L rfl (mem1L rfl memN))))) rfl rfl rfl
def omDec (mc : List Int → List Int → List Int) (vs : List SV) (T : Tab) : Option Canon := match vs with
 | [.ptr L _ _, k, p] => match intsOf k, lsIn T p, lgIn T L with
   | some (.u8, key), some ds, some (l2, evs) => some { vs0 := [.ptr 57 true 0, .ai .u8 key, .rsl 62 ds.length], T0 := olL ds evs, vl := (62, .lst 2) :: lgVl L l2, e0 := lgE (.agg (intsV .u8 16 (mc key ds.flatten))) (evs ++ P.ofE (ds.map List.length)), conds := [mc key ds.flatten = P.mac key ds.flatten, key.length = 32, ds.length ≤ 1000000000, evs.length + ds.flatten.length + 20 * ds.length + 60 ≤ 1000000000000] }
   | _, _, _ => none
 | _ => none
theorem omd_ok (mc : List Int → List Int → List Int) (Γ : Env) (hg : Γ.glob = globs) : SumOK Tryz.prog Γ 20 (canonS globs 100 (omDec mc)) := by
 refine canonS_ok hg fun vs T c hd hc => ?_
 unfold omDec at hd
 split at hd
 case h_2 => cases hd
 split at hd
 case h_2 => cases hd
 cases hd
 have e := hc _ List.mem_cons_self
 have h := om_call _ _ _ (hc _ (List.mem_cons_of_mem _ List.mem_cons_self)) (hc _ (List.mem_cons_of_mem _ (List.mem_cons_of_mem _ List.mem_cons_self))) (hc _ (List.mem_cons_of_mem _ (List.mem_cons_of_mem _ (List.mem_cons_of_mem _ List.mem_cons_self)))) Γ hg
 rw [← e] at h
 exact h
end Go.Proofs.YtjomfjihopegmaaGreatDoor.Sx
end
section
open Go
set_option maxRecDepth 100000
namespace Go.Proofs.YtjomfjihopegmaaGreatDoor.Sx
def dgVs (n : Nat) : List SV := [.int true .i64 32, .raw (.slice none 0 0), .rsl 62 n]
def dgL (ds : List (List Int)) : List (Nat × SB) := (62, .rol ds) :: glB
def dgT (ds : List (List Int)) : Tab := fun l => look l (dgL ds)
noncomputable def dgM (ds : List (List Int)) (cf : Cf) (K : List Fr) (s : St) : Option Cfg := mrun ΓG (cutT 100 (dgT ds)) 100 Tryz.f69.ntmps [12, 15] 400 2000 cf K s
def dgGs (n : Nat) (i : Int) : List (Nat × SV) := [(0, .int true .i64 32), (8, .ptr 101 true 0), (9, .ptr 102 true 0), (10, .ptr 100 true 0), (11, .ptr 103 true 0), (12, .fn (.func 113) [] [.ptr 100 true 0, .ptr 101 true 0, .ptr 102 true 0, .ptr 103 true 0]),
 (52, .rsl 62 n), (53, .int false .i64 n), (54, .int false .i64 i)]
def dgGj (n : Nat) (i : Int) (k : Nat) (j : Int) : List (Nat × SV) := dgGs n i ++ [(58, .ros 104 k), (59, .int false .i64 k), (60, .int false .i64 j)]
def dgTj (h c : Int) (st blk d : List Int) : List (Nat × SB) := sgTb h c st blk ++ [(104, .rov .u8 d)]
noncomputable def dgR : Option Cfg := dgM [] (.go (codeOf Tryz.f69)) [] ((st0 (dgVs 0) 100).hint [])
noncomputable def dgLp : Code := cfgC dgR
noncomputable def dgK : List Fr := cfgF dgR
noncomputable def dgR2 : Option Cfg := dgM [[]] (.go dgLp) [] ((stOf (dgGs 1 0) (sgTb 0 0 [] []) 104 [] []).hint [true])
noncomputable def dgLq : Code := cfgC dgR2
noncomputable def dgKq : List Fr := cfgF dgR2
def dgO (h c : Int) (st blk : List Int) (h' c' : Int) (st' blk' : List Int) : List Prop := [[h] = [h'], st = st' ∧ 156 = 156, blk = blk' ∧ 90 = 90, [c] = [c']]
def dgN (n : Nat) (r : List Prop) : List Prop := (n = n) :: ((n : Int) = n) :: r
theorem dg_0 (ds : List (List Int)) (h c i : Int) (st blk : List Int) (n : Nat) : toC 100 Tryz.f69.ntmps (cutT 100 (dgT ds)) [] (dgGs n i) (sgTb h c st blk) 104 [] [] (dgM ds (.go (codeOf Tryz.f69)) [] ((st0 (dgVs n) 100).hint [])) =
  some (.go (.loop dgLp), dgK, dgN n ((0 = i) :: dgO 0 0 D.h0 (List.replicate 64 0) h c st blk)) := by kernel_rfl
theorem dg_1 (ds : List (List Int)) (h c i j : Int) (st blk d : List Int) (n k : Nat) : toC 100 Tryz.f69.ntmps (cutT 100 (dgT ds)) [.alf 58] (dgGj n i k j) (dgTj h c st blk d) 105 [] [] (dgM ds (.go dgLp) [] ((stOf (dgGs n i) (sgTb h c st blk) 104 [] []).hint [true])) =
  some (.go (.loop dgLq), dgKq, [i.toNat < ds.length, 0 ≤ i ∧ i < n, decide (i < n) = true] ++ dgN n ([i = i, (ds.getD i.toNat []).length = k, ((ds.getD i.toNat []).length : Int) = k, 0 = j] ++ (dgO h c st blk h c st blk ++ [ds.getD i.toNat [] = d]))) := by kernel_rfl
theorem dg_2 (ds : List (List Int)) (h c j h' c' j' i : Int) (st blk st' blk' d : List Int) (n k : Nat) : toC 100 Tryz.f69.ntmps (cutT 100 (dgT ds)) [] (dgGj n i k j') (dgTj h' c' st' blk' d) 105 [] [] (dgM ds (.go dgLq) [] ((stOf (dgGj n i k j) (dgTj h c st blk d) 105 [] []).hint [true])) =
  some (.at .normal, [], [st.length = 8, blk.length = 64, 0 ≤ h ∧ h ≤ 64, 0 ≤ c ∧ c ≤ 1000000000000, d.getD j.toNat 0 = d.getD j.toNat 0] ++ (dgO h c st blk h c st blk ++ ([j.toNat < d.length, 0 ≤ j ∧ j < k, decide (j < k) = true] ++
   dgN n ([i = i, k = k, (k : Int) = k, IntKind.i64.wrap (j + 1) = j'] ++ (dgO (D.tkH h) (c + 1) (D.tkS h c st blk) (D.tkB h (d.getD j.toNat 0) blk) h' c' st' blk' ++ [d = d]))))) := by kernel_rfl
theorem dg_3 (ds : List (List Int)) (h c j i : Int) (st blk d : List Int) (n k : Nat) : toC 100 Tryz.f69.ntmps (cutT 100 (dgT ds)) [] (dgGs n i) (sgTb h c st blk) 104 [] [] (dgM ds (.go dgLq) [] ((stOf (dgGj n i k j) (dgTj h c st blk d) 105 [] []).hint [false])) =
  some (.at (.exit 2), [], (decide (j < k) = false) :: dgN n ((i = i) :: dgO h c st blk h c st blk)) := by kernel_rfl
theorem dg_4 (ds : List (List Int)) (h c i i' : Int) (st blk : List Int) (n : Nat) : toC 100 Tryz.f69.ntmps (cutT 100 (dgT ds)) [] (dgGs n i') (sgTb h c st blk) 104 [] [] (dgM ds (.at (.exit 2)) dgKq ((stOf (dgGs n i) (sgTb h c st blk) 104 [] []).hint [])) =
  some (.at .normal, [], dgN n ((IntKind.i64.wrap (i + 1) = i') :: dgO h c st blk h c st blk)) := by kernel_rfl
theorem dg_5 (ds : List (List Int)) (h c i : Int) (st blk : List Int) (n : Nat) : toC 100 Tryz.f69.ntmps (cutT 100 (dgT ds)) [] (dgGs n i) (sgTb h c st blk) 104 [] [] (dgM ds (.go dgLp) [] ((stOf (dgGs n i) (sgTb h c st blk) 104 [] []).hint [false])) =
  some (.at (.exit 0), [], (decide (i < n) = false) :: dgN n ((i = i) :: dgO h c st blk h c st blk)) := by kernel_rfl
theorem dg_6 (ds : List (List Int)) (h c i : Int) (st blk : List Int) (n : Nat) : endC ΓG (dgT ds) 100 100 Tryz.f69 [] (dgM ds (.at (.exit 0)) dgK ((stOf (dgGs n i) (sgTb h c st blk) 104 [] []).hint [])) =
  some { obl := eO c st blk, val := .tup [.slcR 100 0 32 0, .raw .nilIface], new := [.row 1 ((D.bytes (D.press st blk c 4294967295)).map (.int false .u8)) 5] } := by kernel_rfl
theorem dgO_ok (h c : Int) (st blk : List Int) : ∀ q ∈ dgO h c st blk h c st blk, q := mem1 rfl (mem1 ⟨rfl, rfl⟩ (mem1 ⟨rfl, rfl⟩ (mem1 rfl mem0)))
theorem dgO_eq {h c h' c' : Int} {st blk st' blk' : List Int} (h1 : h = h') (h2 : c = c') (h3 : st = st') (h4 : blk = blk') : ∀ q ∈ dgO h c st blk h' c' st' blk', q := by subst h1 h2 h3 h4; exact dgO_ok _ _ _ _
theorem dgN_ok {n : Nat} {r : List Prop} (h : ∀ q ∈ r, q) : ∀ q ∈ dgN n r, q := mem1 rfl (mem1 rfl h)
noncomputable def dgS (n : Nat) (i : Int) (ms : List Int) : St := stOf (dgGs n i) (sgTb (sH ms) (sC ms) (sS ms) (sB ms)) 104 [] []
noncomputable def dgSj (n : Nat) (i : Int) (d : List Int) (j : Int) (ms : List Int) : St := stOf (dgGj n i d.length j) (dgTj (sH ms) (sC ms) (sS ms) (sB ms) d) 105 [] []
theorem dg_piece {ds : List (List Int)} {n : Nat} {i : Int} {d ms : List Int} (hl : ms.length + d.length ≤ 1000000000000)
  {w0 : World} {M : Nat → Prop} {V0 : Val} {Q : Exit → Act → World → Prop} (hb : Base ΓG (cutT 100 (dgT ds)) 100 V0)
  (h : G Tryz.prog ΓG w0 M (cutT 100 (dgT ds)) Tryz.f69.ntmps 100 V0 (.at (.exit 2)) dgKq (dgS n i (ms ++ d)) Q) :
  G Tryz.prog ΓG w0 M (cutT 100 (dgT ds)) Tryz.f69.ntmps 100 V0 (.go (.loop dgLq)) dgKq (dgSj n i d 0 ms) Q := by
 have hty := ΓG_ty
 have hsum := ΓG_ok
 refine G.loop (fun r s => ∃ j : Nat, j ≤ d.length ∧ r = d.length - j ∧ s = dgSj n i d j (ms ++ d.take j)) (r0 := d.length) ⟨0, Nat.zero_le _, rfl, by rw [List.take_zero, List.append_nil]; rfl⟩ ?_
 rintro r s ⟨j, hj, rfl, rfl⟩
 by_cases hlt : j < d.length
 ·have et : d.take (j + 1) = d.take j ++ [d.getD j 0] := by rw [List.take_add_one]; simp [List.getD_eq_getElem?_getD, hlt]
  have hstep := s_step (ms ++ d.take j) (d.getD j 0)
  rw [List.append_assoc, ← et] at hstep
  obtain ⟨e1, e2, e3, e4⟩ := hstep
  have hC : 0 ≤ sC (ms ++ d.take j) ∧ sC (ms ++ d.take j) ≤ 1000000000000 := by unfold sC; simp only [List.length_append, List.length_take]; omega
  refine G.roundC hty hsum mix hb [true] (dg_2 ds _ _ _ (sH (ms ++ d.take (j + 1))) (sC (ms ++ d.take (j + 1))) ((j + 1 : Nat) : Int) i _ _ (sS (ms ++ d.take (j + 1))) (sB (ms ++ d.take (j + 1))) d n d.length) ?_ (d.length - (j + 1)) (by omega) ⟨j + 1, hlt, rfl, rfl⟩
  rw [Int.toNat_natCast]
  refine memA (of_allP ⟨sS_length _, sB_length _, sH_le _, hC, rfl, trivial⟩) (memA (dgO_ok _ _ _ _) (memA (of_allP ⟨hlt, by omega, decide_eq_true (by omega), trivial⟩) (dgN_ok (memA (of_allP ⟨rfl, rfl, rfl, ?_, trivial⟩) (memA (dgO_eq e1 e4 e2 e3) (mem1 rfl mem0))))))
  rw [IntWalk.i64_in _ (by unfold sC at hC; simp only [List.length_append] at hC; omega)]; omega
 ·have e : j = d.length := by omega
  subst e
  rw [List.take_length]
  exact G.toC hty hsum mix hb [false] (dg_3 ds _ _ _ i _ _ d n d.length) (mem1 (decide_eq_false (by omega)) (dgN_ok (mem1 rfl (dgO_ok _ _ _ _)))) (G.leave (by simp) h)
theorem dg_call (ds : List (List Int)) (hl : ds.flatten.length ≤ 100000000000) (hn : ds.length ≤ 1000000000) (Γ : Env) (hg : Γ.glob = globs) : CallOK Tryz.prog Γ 69 (dgVs ds.length) (dgT ds) 100 100 (sgRes ds.flatten) := by
 refine CallOK.words (Γ := ΓG) ?_ (by rw [hg]; rfl) (fun _ => rfl) (fun _ _ h => h) (fun _ => rfl) rfl rfl
 refine call_G ΓG_ty ΓG_ok Tryz.func69 (by kernel_rfl) rfl (Nat.le_of_ble_eq_true (by kernel_rfl)) rfl [] ?_
 intro w0 M V0 Q hb H
 have hty := ΓG_ty
 have hsum := ΓG_ok
 refine G.toC hty hsum mix hb [] (dg_0 ds (sH []) (sC []) 0 (sS []) (sB []) ds.length) (dgN_ok (mem1 rfl (dgO_eq rfl rfl rfl rfl))) ?_
 refine G.loop (fun r s => ∃ i : Nat, i ≤ ds.length ∧ r = ds.length - i ∧ s = dgS ds.length i (ds.take i).flatten) (r0 := ds.length) ⟨0, Nat.zero_le _, rfl, rfl⟩ ?_
 rintro r s ⟨i, hi, rfl, rfl⟩
 by_cases hlt : i < ds.length
 ·have hf := flat_len hlt
  refine G.toC hty hsum mix hb [true] (dg_1 ds _ _ i 0 _ _ (ds.getD i []) ds.length (ds.getD i []).length) ?_ (dg_piece (i := i) (ms := (ds.take i).flatten) (by omega) hb ?_)
  ·rw [Int.toNat_natCast]
   exact memA (of_allP ⟨hlt, by omega, decide_eq_true (by omega), trivial⟩) (dgN_ok (memA (of_allP ⟨rfl, rfl, rfl, rfl, trivial⟩) (memA (dgO_ok _ _ _ _) (mem1 rfl mem0))))
  ·rw [← flat_take hlt]
   refine G.roundC hty hsum mix hb [] (dg_4 ds _ _ i ((i + 1 : Nat) : Int) _ _ ds.length) (dgN_ok (mem1 ?_ (dgO_ok _ _ _ _))) (ds.length - (i + 1)) (by omega) ⟨i + 1, hlt, rfl, rfl⟩
   rw [IntWalk.i64_in _ (by omega)]; omega
 ·have e : i = ds.length := by omega
  subst e
  refine G.toC hty hsum mix hb [false] (dg_5 ds _ _ _ _ _ ds.length) (mem1 (decide_eq_false (by omega)) (dgN_ok (mem1 rfl (dgO_ok _ _ _ _)))) (G.leave (by simp) ?_)
  rw [List.take_length]
  exact G.finC (cl := []) hty hsum mix [] H (dg_6 ds _ _ _ _ _ _) (eO_ok _) rfl rfl rfl
def dgDec (vs : List SV) (T : Tab) : Option Canon := match vs with
 | [.int true .i64 n, .raw (.slice none 0 0), v] => match beqI n 32, lsIn T v with
   | true, some ds => some { vs0 := dgVs ds.length, T0 := dgL ds, vl := [(62, .lst 2)], e0 := sgRes ds.flatten, conds := [ds.flatten.length ≤ 100000000000, ds.length ≤ 1000000000] }
   | _, _ => none
 | _ => none
theorem dgd_ok (Γ : Env) (hg : Γ.glob = globs) : SumOK Tryz.prog Γ 69 (canonS globs 100 dgDec) := by
 refine canonS_ok hg fun vs T c hd hc => ?_
 unfold dgDec at hd
 split at hd
 case h_2 => cases hd
 split at hd
 case h_2 => cases hd
 cases hd
 exact dg_call _ (hc _ (by simp)) (hc _ (by simp)) Γ hg
noncomputable def exDg : Nat → Option Sum := addS exA 69 (canonS globs 100 dgDec)
theorem exDg_ok : ∀ f S, exDg f = some S → ∀ Γ : Env, Γ.glob = globs → SumOK Tryz.prog Γ f S := addS_ok (fun f S h Γ _ => exA_ok f S h Γ) 69 _ dgd_ok
theorem wl_0 (ds : List (List Int)) (n : Nat) : interp (env exDg 4) Tryz.f32 true [] 1500 [.rsl 62 n] (dgT ds) 100 100 =
  some { obl := [ds.flatten.length ≤ 100000000000, ds.length ≤ 1000000000, n = ds.length, ds = ds], val := .agg ((D.hash ds.flatten).map (.int false .u8)) } := by kernel_rfl
theorem wl_call (ds : List (List Int)) (hl : ds.flatten.length ≤ 100000000000) (hn : ds.length ≤ 1000000000) (Γ : Env) (hg : Γ.glob = globs) : CallOK Tryz.prog Γ 32 [.rsl 62 ds.length] (dgT ds) 100 100 { val := .ai .u8 (D.hash ds.flatten) } := by
 have hs : SumOK Tryz.prog (env exDg 4) 32 (interp (env exDg 4) Tryz.f32 true [] 1500) :=
  interp_ok (env_ty exDg 4) (env_ok exDg exDg_ok 4) mix Tryz.func32 (by kernel_rfl) true [] 1500
 refine (hs.call (wl_0 ds ds.length) (mem1 hl (mem1 hn (mem1 rfl (mem1 rfl mem0))))).words (by rw [hg]; rfl) (fun _ => rfl) (fun _ _ h => h) (fun V => ?_) rfl rfl
 show den V (.agg _) = den V (.ai _ _)
 simp only [den, denL_map_int]
 rfl
def wlDec (vs : List SV) (T : Tab) : Option Canon := match vs with
 | [v] => match lsIn T v with
   | some ds => some { vs0 := [.rsl 62 ds.length], T0 := dgL ds, vl := [(62, .lst 0)], e0 := { val := .ai .u8 (D.hash ds.flatten) }, conds := [ds.flatten.length ≤ 100000000000, ds.length ≤ 1000000000] }
   | none => none
 | _ => none
theorem wl_ok (Γ : Env) (hg : Γ.glob = globs) : SumOK Tryz.prog Γ 32 (canonS globs 100 wlDec) := by
 refine canonS_ok hg fun vs T c hd hc => ?_
 unfold wlDec at hd
 split at hd
 case h_2 => cases hd
 split at hd
 case h_2 => cases hd
 cases hd
 exact wl_call _ (hc _ (by simp)) (hc _ (by simp)) Γ hg
end Go.Proofs.YtjomfjihopegmaaGreatDoor.Sx
end
section
open Go
set_option maxRecDepth 100000
namespace Go.Proofs.YtjomfjihopegmaaGreatDoor.Sx
def nwE : Eff := { val := .ptr 100 true 0, new := [.own [.int true .i64 0, .buf 101] 58, .rowp [] 192] }
theorem nw_0 : endC ΓSm (fun l => look l []) 100 100 Tryz.f6 [.nilpx 0 1 192] (mrun ΓSm (cutT 100 (fun l => look l [])) 100 Tryz.f6.ntmps [] 400 2000 (.go (codeOf Tryz.f6)) [] ((st0 [] 100).hint [])) = some nwE := by kernel_rfl
theorem nw_call (Γ : Env) (hg : Γ.glob = globs) : CallOK Tryz.prog Γ 6 [] (fun l => look l []) 100 100 nwE := by
 refine CallOK.words (Γ := ΓSm) ?_ (by rw [hg]; rfl) (fun _ => rfl) (fun _ _ h => h) (fun _ => rfl) rfl rfl
 refine call_G ΓSm_ty ΓSm_ok Tryz.func6 (by kernel_rfl) rfl (Nat.le_of_ble_eq_true (by kernel_rfl)) rfl [] ?_
 intro w0 M V0 Q hb H
 exact G.finC (cl := [.nilpx 0 1 192]) ΓSm_ty ΓSm_ok mix [] H nw_0 mem0 rfl rfl rfl
def nwDec (vs : List SV) (_ : Tab) : Option Canon := match vs with
 | [] => some { vs0 := [], T0 := [], vl := [], e0 := nwE }
 | _ => none
theorem nw_ok (Γ : Env) (hg : Γ.glob = globs) : SumOK Tryz.prog Γ 6 (canonS globs 100 nwDec) := by
 refine canonS_ok hg fun vs T c hd hc => ?_
 unfold nwDec at hd
 split at hd
 case h_2 => cases hd
 cases hd
 exact nw_call Γ hg
noncomputable def exSu (mc : List Int → List Int → List Int) : Nat → Option Sum := addS (addS (addS (addS (addS exS1 5 (canonS globs 100 awDec)) 6 (canonS globs 100 nwDec)) 24 (canonS globs 100 olDec)) 20 (canonS globs 100 (omDec mc))) 32 (canonS globs 100 wlDec)
theorem exSu_ok (mc : List Int → List Int → List Int) : ∀ f S, exSu mc f = some S → ∀ Γ : Env, Γ.glob = globs → SumOK Tryz.prog Γ f S := addS_ok (addS_ok (addS_ok (addS_ok (addS_ok exS1_ok 5 _ aw_ok) 6 _ nw_ok) 24 _ olL_ok) 20 _ (omd_ok mc)) 32 _ wl_ok
def f3Vs (a : List Int) (n : Nat) : List SV := [.agg (intsV .u8 32 a), .rsl 62 n]
def f3T (ds : List (List Int)) : Tab := fun l => look l (dgL ds)
theorem f3_a (mc : List Int → List Int → List Int) (a : List Int) (ds : List (List Int)) (n : Nat) :
  interp (env (exSu mc) 6) Tryz.f3 true [true] 1500 (f3Vs a n) (f3T ds) 100 100 = some { obl := [(!smallB ds) = true, n = ds.length, ds = ds], val := .bool true true } := by kernel_rfl
def c32 (a : List Int) : List Int := (List.range 32).map fun j => a.getD j 0
def e1 (ds : List (List Int)) : List (Int × Int) := [] ++ D.hashE (ds.map List.length)
def e2 (ds : List (List Int)) : List (Int × Int) := e1 ds ++ D.hashE (ds.map List.length)
def q1 (ds : List (List Int)) : List (Int × Int) := [] ++ P.ofE (ds.map List.length)
def h32 (ds : List (List Int)) : Nat → List Prop
 | 0 => []
 | k + 1 => ((D.hash ds.flatten).length = 32) :: h32 ds k
def sameT (m : List Int) : Nat → Bool
 | 0 => m.getD 15 0 == m.getD 15 0 && true
 | k + 1 => m.getD (15 - (k + 1)) 0 == m.getD (15 - (k + 1)) 0 && sameT m k
def whO3 (n : Nat) (ds : List (List Int)) (r : List Prop) : List Prop := (ds.flatten.length ≤ 100000000000) :: (ds.length ≤ 1000000000) :: (n = ds.length) :: (ds = ds) :: r
def ofO3 (n : Nat) (ds : List (List Int)) (ev : List (Int × Int)) (r : List Prop) : List Prop := (ds.flatten.length ≤ 100000000000) :: (ds.length ≤ 1000000000) :: (ev.length + 5 * ds.flatten.length + 10 * ds.length + 40 ≤ 1000000000000) :: (n = ds.length) :: (ds = ds) :: ((ev.length : Int) = (ev.length : Int)) :: (ev = ev) :: r
def mcO3 (mc : List Int → List Int → List Int) (a : List Int) (n : Nat) (ds : List (List Int)) (ev : List (Int × Int)) (r : List Prop) : List Prop :=
 (mc (c32 a) ds.flatten = P.mac (c32 a) ds.flatten) :: ((c32 a).length = 32) :: (ds.length ≤ 1000000000) :: (ev.length + ds.flatten.length + 20 * ds.length + 60 ≤ 1000000000000) :: (c32 a = c32 a) :: (n = ds.length) :: (ds = ds) :: ((ev.length : Int) = (ev.length : Int)) :: (ev = ev) :: r
def nO3 (n : Nat) (ds : List (List Int)) (r : List Prop) : List Prop := ((!smallB ds) = false) :: (n = ds.length) :: (ds = ds) :: r
def twoO (ds : List (List Int)) (r : List Prop) : List Prop := (((D.hash ds.flatten).length = 32 ∧ (D.hash ds.flatten).length = 32)) :: r
def f3O (mc : List Int → List Int → List Int) (a : List Int) (n : Nat) (ds : List (List Int)) : List Prop :=
 (decide (D.hash ds.flatten = D.hash ds.flatten) = true) :: twoO ds (h32 ds 3 ++ whO3 n ds ((decide (((q1 ds).length : Int) > 0) = true) :: ((!(sameT (mc (c32 a) ds.flatten) 15)) = false) :: mcO3 mc a n ds (e2 ds) (mcO3 mc a n ds [] (((((e1 ds).length : Int) == 0) = false) ::
  ((((e2 ds).length : Int) != IntKind.i64.wrap (2 * ((e1 ds).length : Int))) = false) :: ((!decide (D.hash ds.flatten = D.hash ds.flatten)) = false) :: twoO ds (h32 ds 7 ++ ofO3 n ds (e1 ds) (h32 ds 5 ++ ofO3 n ds [] (nO3 n ds [])))))))
theorem f3_b (mc : List Int → List Int → List Int) (a : List Int) (ds : List (List Int)) (n : Nat) :
  interp (env (exSu mc) 6) Tryz.f3 true [false, false, false, false, false, true, true] 1500 (f3Vs a n) (f3T ds) 100 100 = some { obl := f3O mc a n ds, val := .bool true true } := by kernel_rfl
end Go.Proofs.YtjomfjihopegmaaGreatDoor.Sx
end
section
open Go
set_option maxRecDepth 100000
namespace Go.Proofs.YtjomfjihopegmaaGreatDoor.Sx
theorem D.lsE_len : ∀ (lens : List Nat) (i h : Nat), (D.lsE i h lens).length ≤ 5 * lens.sum + 3 * lens.length + 3
 | [], _, _ => by simp [D.lsE, D.smE]
 | n :: r, i, h => by
   have h1 := D.wrE_len n h
   have h2 := D.lsE_len r (i + 1) (D.heldW h n)
   simp only [D.lsE, List.length_cons, List.length_append, List.sum_cons]
   omega
theorem sum_len (ds : List (List Int)) : (ds.map List.length).sum = ds.flatten.length := by
 rw [List.length_flatten]
theorem sameT_ok (m : List Int) : ∀ k, sameT m k = true
 | 0 => by simp [sameT]
 | k + 1 => by simp [sameT, sameT_ok m k]
theorem h32_ok (ds : List (List Int)) : ∀ k, ∀ q ∈ h32 ds k, q
 | 0 => mem0
 | k + 1 => mem1 (D.hash_length _) (h32_ok ds k)
theorem f3_call (a : List Int) (ds : List (List Int)) (ha : a.length = 32) (Γ : Env) (hg : Γ.glob = globs) : CallOK Tryz.prog Γ 3 [.ai .u8 a, .rsl 62 ds.length] (f3T ds) 100 100 { val := .bool true true } := by
 have hs : ∀ hints, SumOK Tryz.prog (env (exSu P.mac) 6) 3 (interp (env (exSu P.mac) 6) Tryz.f3 true hints 1500) := fun hints => interp_ok (env_ty _ 6) (env_ok _ (exSu_ok _) 6) mix Tryz.func3 (by kernel_rfl) true hints 1500
 have hv : ∀ V, denL V [.ai .u8 a, .rsl 62 ds.length] = denL V (f3Vs a ds.length) := fun V => by simp only [f3Vs, denL, den_intsV_ai V ha]
 cases hsm : smallB ds with
 | false =>
   exact ((hs [true]).call (f3_a P.mac a ds ds.length) (of_allP (show _ ∧ _ ∧ _ ∧ True from ⟨by rw [hsm]; rfl, rfl, rfl, trivial⟩))).words (by rw [hg]; rfl) hv (fun _ _ h => h) (fun _ => rfl) rfl rfl
 | true =>
   have hb : ds.length ≤ 60 ∧ (∀ d ∈ ds, d.length ≤ 20000) ∧ ds.flatten.length ≤ 20000 := of_decide_eq_true hsm
   obtain ⟨b1, _, b3⟩ := hb
   have hL := D.lsE_len (ds.map List.length) 0 0
   rw [sum_len, List.length_map] at hL
   have l1 : (D.hashE (ds.map List.length)).length ≤ 5 * ds.flatten.length + 3 * ds.length + 7 := by
    unfold D.hashE; simp only [List.length_cons]; omega
   have p1 : 0 < (D.hashE (ds.map List.length)).length := by unfold D.hashE; simp only [List.length_cons]; omega
   have k1 : (e1 ds).length = (D.hashE (ds.map List.length)).length := by unfold e1; rw [List.nil_append]
   have k2 : (e2 ds).length = (e1 ds).length + (e1 ds).length := by unfold e2; rw [List.length_append, k1]
   have kq : 0 < (q1 ds).length := by
    unfold q1 P.ofE
    rw [List.nil_append]
    cases ds with
    | nil => simp [P.lsE]
    | cons d r => simp [P.lsE]
   have hc : (c32 a).length = 32 := by simp [c32]
   have t : decide (D.hash ds.flatten = D.hash ds.flatten) = true := decide_eq_true rfl
   have hof : ∀ {ev : List (Int × Int)} {r : List Prop}, ev.length ≤ 200000 → (∀ q ∈ r, q) → ∀ q ∈ ofO3 ds.length ds ev r, q := fun he hr =>
    mem1 (by omega) (mem1 (by omega) (mem1 (by omega) (mem1 rfl (mem1 rfl (mem1 rfl (mem1 rfl hr))))))
   have hmc : ∀ {ev : List (Int × Int)} {r : List Prop}, ev.length ≤ 600000 → (∀ q ∈ r, q) → ∀ q ∈ mcO3 P.mac a ds.length ds ev r, q := fun he hr =>
    mem1 rfl (mem1 hc (mem1 (by omega) (mem1 (by omega) (mem1 rfl (mem1 rfl (mem1 rfl (mem1 rfl (mem1 rfl hr))))))))
   have hh := D.hash_length ds.flatten
   refine ((hs [false, false, false, false, false, true, true]).call (f3_b P.mac a ds ds.length) ?_).words (by rw [hg]; rfl) hv (fun _ _ h => h) (fun _ => rfl) rfl rfl
   refine mem1 t (mem1 ⟨hh, hh⟩ (memA (h32_ok ds 3) (mem1 (by omega) (mem1 (by omega) (mem1 rfl (mem1 rfl (mem1 (decide_eq_true (by omega)) (mem1 (by rw [sameT_ok]; rfl) (hmc (by omega) (hmc (by simp) (mem1 ?_ (mem1 ?_ (mem1 (by rw [t]; rfl) (mem1 ⟨hh, hh⟩ (memA (h32_ok ds 7) (hof (by omega) (memA (h32_ok ds 5) (hof (by simp) (mem1 (by rw [hsm]; rfl) (mem1 rfl (mem1 rfl mem0)))))))))))))))))))))
   ·exact beq_eq_false_iff_ne.2 (by omega)
   ·rw [IntWalk.i64_in _ (by omega), k2]
    simp only [bne_eq_false_iff_eq]
    omega
end Go.Proofs.YtjomfjihopegmaaGreatDoor.Sx
end
section
open Go Go.Proofs.YtjomfjihopegmaaGreatDoor
set_option maxRecDepth 100000
namespace Go.Proofs.YtjomfjihopegmaaGreatDoor.Suc
open Go.ChangeShapes Go.WideShapes Go.ChangeAt Go.RowKit Go.Proofs.YtjomfjihopegmaaGreatDoor.Sx
theorem calls {P : Program} {Γ : Env} {f : FuncId} {fn : Func} {c : Code} {vs : List SV} {T : Tab} {lab F : Nat} {e : Eff} (h : CallOK P Γ f vs T lab F e) (hfn : P.funcs[f]? = some fn) (hne : (fn.name == "runtime.NumGoroutine") = false) (hc : fn.body = some c)
  {w0 : World} {M : Nat → Prop} {V : Val} {w : World} {xs : List Value} (hT : TabOK w0 M V T w) (hg : GlobOK Γ V) (hf : V.fresh lab) (hF : V.top F) (hx : denL V vs = some xs)
  {R : Ending → World → Prop} (hR : ∀ V' x w', V.ext lab V' → den V' e.val = some x → TabOK w0 M V' (upd T lab e) w' → R (.returned x) w') : Calls P f xs.toArray w R := by
 have h1 := h w0 M V T w xs (fun _ _ h => h) hT hg hf hF hx { dst := some 0, op := .ready 0, type := 0, pos := "", after := #[], guard := none } { tmps := #[Value.nilFunc], defers := [] } (fun a' w' => ∀ x, a'.tmps[0]? = some x → R (.returned x) w') (fun _ _ _ => False)
  (fun V' x w' h1 h2 h3 y hy => by
   simp [Act.put] at hy
   subst hy
   exact hR V' _ w' h1 h2 h3)
 rw [callFunc_enter hfn hc hne, Oper.upon_enter] at h1
 refine h1.mono fun e w' he => ?_
 cases e with
 | returned v => exact he v (by simp [Act.put])
 | panicked ch => exact he.elim
 | outgrown => obtain ⟨_, _, hh⟩ := he; exact hh.elim
theorem laid_var {P : Program} {W : World} : ∀ {laid : List (String × DataW Unit)} {ps : List MemPlace}, DataW.LaidVars P W laid ps → ∀ name d, (name, d) ∈ laid →
  ∃ g t cs fuel p, P.globalNamed name = some g ∧ (P.globals[g]?).map (·.type) = some t ∧ W.var? P name = some cs ∧ DataW.trod (fun _ => ()) P W 0 (fun _ => true) false fuel t cs.toList = some (d, p) ∧ ∀ x ∈ MemPlace.row ⟨g, 0, none⟩ cs.size ++ p, x ∈ ps
 | [], _, _, _, _, h => by cases h
 | (n, d0) :: r, ps, hl, name, d, h => by
   obtain ⟨g, t, cs, fuel, p, q, h1, h2, h3, h4, h5, rfl⟩ := hl
   rcases List.mem_cons.1 h with e | h
   ·cases e
    exact ⟨g, t, cs, fuel, p, h1, h2, h3, h4, fun x hx => List.mem_append_left _ hx⟩
   ·obtain ⟨g', t', cs', fuel', p', k1, k2, k3, k4, k5⟩ := laid_var h5 name d h
    exact ⟨g', t', cs', fuel', p', k1, k2, k3, k4, fun x hx => List.mem_append_right _ (k5 x hx)⟩
theorem cells_of_rows {P : Program} {W : World} {fuel : Nat} {t e c : TypeId} {n m : Nat} {k : IntKind} {cs : List Value} {zss : List (List Int)} {p : List MemPlace}
  (ht : P.underlying t = some (.array n e)) (he : P.underlying e = some (.array m c)) (hc : P.underlying c = some (.int k)) (hcc : P.cellsOf c = 1) (hce : P.cellsOf e = m)
  (h : DataW.trod (fun _ => ()) P W 0 (fun _ => true) false fuel t cs = some (.agg (zss.map fun zs => Lib.tabData k zs), p)) (i j : Nat) (zs : List Int) (z : Int) (hi : zss[i]? = some zs) (hj : zs[j]? = some z) (hjm : j < m) :
  cs[i * m + j]? = some (.int k z) := by
 obtain ⟨xs, f, _, hx, hlen, hn, hel⟩ := DataW.trod_array ht h
 simp only [Prod.mk.injEq, DataW.agg.injEq] at hx
 have hin : i < n := by
  have h1 := (List.getElem?_eq_some_iff.1 hi).1
  have h2 := congrArg List.length hx.1
  simp only [List.length_map] at h2
  omega
 have hrow := hel i hin
 have hxi : (xs.map (·.1))[i]? = some (Lib.tabData k zs) := by rw [← hx.1, List.getElem?_map, hi]; rfl
 rw [List.getElem?_map] at hxi
 obtain ⟨y, hy, hy2⟩ := Option.map_eq_some_iff.1 hxi
 rw [hy] at hrow
 obtain ⟨d, q⟩ := y
 simp only at hy2
 subst hy2
 rw [hce] at hrow
 have := Lib.cells_of_tab he hc hcc hce hrow
 have h3 := congrArg (·[j]?) this
 simp only [List.getElem?_take, List.getElem?_drop, List.getElem?_map, hj, Option.map_some, if_pos hjm] at h3
 exact h3
theorem cell_lt {w : World} {b o : Nat} {v : Value} (h : w.cell? ⟨b, o, none⟩ = some v) : b < w.heap.size := by
 unfold World.cell? at h
 simp only at h
 cases hb : w.heap[b]? with
 | none => rw [hb] at h; simp at h
 | some x => exact (Array.getElem?_eq_some_iff.1 hb).1
theorem tab_cells {W : World} {laid : List (String × DataW Unit)} (h : laidMet Tryz.prog laid W) (name : String) (g t e n : Nat) (k : IntKind) (zs : List Int) (hm : (name, Lib.tabData k zs) ∈ laid) (hg : Tryz.prog.globalNamed name = some g) (ht : (Tryz.prog.globals[g]?).map (·.type) = some t)
  (h1 : Tryz.prog.underlying t = some (.array n e)) (h2 : Tryz.prog.underlying e = some (.int k)) (h3 : Tryz.prog.cellsOf e = 1) (h4 : Tryz.prog.cellsOf t = n) (j : Nat) (z : Int) (hj : zs[j]? = some z) : W.cell? ⟨g, j, none⟩ = some (.int k z) := by
 obtain ⟨ps, hl, _, _⟩ := h
 obtain ⟨g', t', cs, fuel, p, k1, k2, k3, k4, _⟩ := laid_var hl _ _ hm
 obtain rfl := Option.some.inj (hg.symm.trans k1)
 obtain rfl := Option.some.inj (ht.symm.trans k2)
 have hcs := Lib.cells_of_tab h1 h2 h3 h4 k4
 have := World.var?_cell hg k3 j
 rw [this, ← Array.getElem?_toList, hcs, List.getElem?_map, hj]
 rfl
theorem rows_cells {W : World} {laid : List (String × DataW Unit)} (h : laidMet Tryz.prog laid W) (name : String) (g t e c n m : Nat) (zss : List (List Int)) (hm : (name, DataW.agg (zss.map fun zs => Lib.tabData .i64 zs)) ∈ laid) (hg : Tryz.prog.globalNamed name = some g) (ht : (Tryz.prog.globals[g]?).map (·.type) = some t)
  (h1 : Tryz.prog.underlying t = some (.array n e)) (h2 : Tryz.prog.underlying e = some (.array m c)) (h3 : Tryz.prog.underlying c = some (.int .i64)) (h4 : Tryz.prog.cellsOf c = 1) (h5 : Tryz.prog.cellsOf e = m) (i j : Nat) (zs : List Int) (z : Int)
  (hi : zss[i]? = some zs) (hj : zs[j]? = some z) (hjm : j < m) : W.cell? ⟨g, i * m + j, none⟩ = some (.int .i64 z) := by
 obtain ⟨ps, hl, _, _⟩ := h
 obtain ⟨g', t', cs, fuel, p, k1, k2, k3, k4, _⟩ := laid_var hl _ _ hm
 obtain rfl := Option.some.inj (hg.symm.trans k1)
 obtain rfl := Option.some.inj (ht.symm.trans k2)
 have hcs := cells_of_rows h1 h2 h3 h4 h5 k4 i j zs z hi hj hjm
 have := World.var?_cell hg k3 (i * m + j)
 rw [this, ← Array.getElem?_toList, hcs]
theorem denL_intsT (V : Val) (k : IntKind) : ∀ zs : List Int, denL V (zs.map (SV.int true k)) = some (zs.map (Value.int k))
 | [] => rfl
 | z :: r => by simp [denL, den, denL_intsT V k r]
theorem roc_ints {V : Val} {w : World} {l : Nat} {k : IntKind} {zs : List Int} (h0 : 0 < zs.length) (hl : V.β l = some (l, 0)) (hc : ∀ (j : Nat) (z : Int), zs[j]? = some z → w.cell? ⟨l, j, none⟩ = some (.int k z)) : okB V w l (.roc (zs.map (SV.int true k))) := by
 refine ⟨zs.map (Value.int k), denL_intsT V k zs, l, 0, hl, ⟨cell_lt (hc 0 zs[0] (List.getElem?_eq_getElem h0)), fun s hs => ?_⟩, fun j v hj => ?_⟩
 ·rw [List.getElem?_map] at hs
  obtain ⟨z, _, hz⟩ := Option.map_eq_some_iff.1 hs
  cases hz
 ·rw [List.getElem?_map] at hj
  obtain ⟨z, hz, rfl⟩ := Option.map_eq_some_iff.1 hj
  simpa using hc j z hz
def rowsZ : List (List Int) := [[0, 4, 8, 12], [1, 5, 9, 13], [2, 6, 10, 14], [3, 7, 11, 15], [0, 5, 10, 15], [1, 6, 11, 12], [2, 7, 8, 13], [3, 4, 9, 14]]
def ordZ : List (List Int) := D.orders.map fun r => r.map fun n : Nat => (n : Int)
theorem flat_rows (j : Nat) (z : Int) (h : rowsI[j]? = some z) : ∃ i k zs, j = i * 4 + k ∧ k < 4 ∧ rowsZ[i]? = some zs ∧ zs[k]? = some z := by
 have hj : j < 32 := (List.getElem?_eq_some_iff.1 h).1
 have key : ∀ j : Fin 32, (rowsZ[j.1 / 4]?).bind (·[j.1 % 4]?) = rowsI[j.1]? := by decide
 have := key ⟨j, hj⟩
 simp only [h, Option.bind_eq_some_iff] at this
 obtain ⟨zs, h1, h2⟩ := this
 exact ⟨j / 4, j % 4, zs, by omega, Nat.mod_lt _ (by omega), h1, h2⟩
theorem flat_ord (j : Nat) (z : Int) (h : ordI[j]? = some z) : ∃ i k zs, j = i * 16 + k ∧ k < 16 ∧ ordZ[i]? = some zs ∧ zs[k]? = some z := by
 have hj : j < 160 := (List.getElem?_eq_some_iff.1 h).1
 have key : ∀ j : Fin 160, (ordZ[j.1 / 16]?).bind (·[j.1 % 16]?) = ordI[j.1]? := by decide
 have := key ⟨j, hj⟩
 simp only [h, Option.bind_eq_some_iff] at this
 obtain ⟨zs, h1, h2⟩ := this
 exact ⟨j / 16, j % 16, zs, by omega, Nat.mod_lt _ (by omega), h1, h2⟩
theorem ros_den {w : World} {k : IntKind} {v : Value} {ys : List Int} (h : RdOK w k v ys) : rosV ys.length v = some v := by
 rcases h with ⟨⟨a, rfl⟩, rfl⟩ | ⟨b, o, c, rfl, _, hle, _⟩
 ·cases a <;> simp [rosV]
 ·simp [rosV, hle]
abbrev listed : List (String × DataW Unit) := Rows.suiteCopiesRow.laid
theorem laid_ok {W : World} (h : laidMet Tryz.prog listed W) (xs : List (Nat × SB)) (sl : List (Nat × Value)) (hsl : sl.all (fun x => Nat.blt x.1 100) = true)
  (hx : ∀ V : Val, (∀ l, V.σ l = Sx.look l sl) → ∀ x ∈ xs, okB V W x.1 x.2 ∧ x.2.owned = false ∧ froB W (fun _ => False) V x.1 x.2) :
  ∃ V : Val, TabOK W (fun _ => False) V (fun l => Sx.look l (xs ++ glB)) W ∧ (∀ k l, Sx.look k globs = some l → V.β l = some (k, 0)) ∧ V.top 100 ∧ ∀ l, V.σ l = Sx.look l sl := by
 have pick : ∀ {x : String × DataW Unit} (i : Nat), listed[i]? = some x → x ∈ listed := fun i hi => List.mem_of_getElem? hi
 have hr := rows_cells h "pintle/slow.rows" 3 171 170 3 8 4 rowsZ (pick 9 rfl) (by kernel_rfl) (by kernel_rfl) Tryz.underlying171 Tryz.underlying170 Tryz.underlying3 (by kernel_rfl) (by kernel_rfl)
 have ho := rows_cells h "pintle/slow.orders" 5 218 178 3 10 16 ordZ (pick 10 rfl) (by kernel_rfl) (by kernel_rfl) Tryz.underlying218 Tryz.underlying178 Tryz.underlying3 (by kernel_rfl) (by kernel_rfl)
 have hi := tab_cells h "pintle/slow.initial" 4 156 26 8 .u32 D.iv (pick 11 rfl) (by kernel_rfl) (by kernel_rfl) Tryz.underlying156 Tryz.underlying26 (by kernel_rfl) (by kernel_rfl)
 let bl : List (Nat × (Nat × Nat)) := [(3, (3, 0)), (4, (4, 0)), (5, (5, 0))]
 let V : Val := ⟨fun l => Sx.look l bl, fun l => Sx.look l sl⟩
 have all : ∀ l B, Sx.look l (xs ++ glB) = some B → okB V W l B ∧ B.owned = false ∧ froB W (fun _ => False) V l B := by
  intro l B hl
  rcases List.mem_append.1 (look_mem hl) with hm | hm
  ·exact hx V (fun _ => rfl) _ hm
  simp only [glB, List.mem_cons, List.not_mem_nil, or_false, Prod.mk.injEq] at hm
  rcases hm with ⟨rfl, rfl⟩ | ⟨rfl, rfl⟩ | ⟨rfl, rfl⟩
  ·exact ⟨roc_ints (zs := rowsI) (by decide) rfl fun j z hj => (by
    obtain ⟨i, k, zs, rfl, hk, h1, h2⟩ := flat_rows j z hj
    exact hr i k zs z h1 h2 hk), rfl, trivial⟩
  ·exact ⟨roc_ints (zs := D.iv) (by decide) rfl hi, rfl, trivial⟩
  ·exact ⟨roc_ints (zs := ordI) (by decide) rfl fun j z hj => (by
    obtain ⟨i, k, zs, rfl, hk, h1, h2⟩ := flat_ord j z hj
    exact ho i k zs z h1 h2 hk), rfl, trivial⟩
 refine ⟨V, ⟨fun l B hl => (all l B hl).1, fun l B l' B' n _ hl _ ho => ?_, fun l B n hl ho => ?_, FrameOK.refl _ _, fun l B hl => (all l B hl).2.2⟩, fun k l hk => ?_, fun l hl => ⟨?_, ?_⟩, fun _ => rfl⟩
 ·rw [(all l B hl).2.1] at ho; cases ho
 ·rw [(all l B hl).2.1] at ho; cases ho
 ·have hm := look_mem hk
  simp only [globs, List.mem_cons, List.not_mem_nil, or_false, Prod.mk.injEq] at hm
  rcases hm with ⟨rfl, rfl⟩ | ⟨rfl, rfl⟩ | ⟨rfl, rfl⟩ <;> rfl
 ·show Sx.look l bl = none
  cases hlk : Sx.look l bl with
  | none => rfl
  | some p =>
    exfalso
    have hm := look_mem hlk
    have hall : bl.all (fun x => Nat.blt x.1 100) = true := rfl
    have := List.all_eq_true.1 hall _ hm
    simp only [Nat.blt_eq] at this
    omega
 ·show Sx.look l sl = none
  cases hlk : Sx.look l sl with
  | none => rfl
  | some p =>
    exfalso
    have hm := look_mem hlk
    have := List.all_eq_true.1 hsl _ hm
    simp only [Nat.blt_eq] at this
    omega
end Go.Proofs.YtjomfjihopegmaaGreatDoor.Suc
end
