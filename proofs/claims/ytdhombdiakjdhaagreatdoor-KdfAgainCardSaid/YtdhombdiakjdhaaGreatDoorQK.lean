/- slow.Digest: contract, for one to four pieces. -/
import Derived.Test.YtdhombdiakjdhaaGreatDoorQJ
section
open Go
set_option maxRecDepth 100000
namespace Go.Proofs.YtdhombdiakjdhaaGreatDoor.Sx

/-- What is held behind a message. -/
def sH (ms : List Int) : Int := ((ms.length - 64 * D.nb ms.length : Nat) : Int)
def sS (ms : List Int) : List Int := D.hs ms (D.nb ms.length)
def sB (ms : List Int) : List Int := bytesI 64 (ms.drop (64 * D.nb ms.length))
def sC (ms : List Int) : Int := (ms.length : Int)
theorem sS_length (ms : List Int) : (sS ms).length = 8 := D.hs_length _ _
theorem sB_length (ms : List Int) : (sB ms).length = 64 := by simp [sB, bytesI]
theorem sH_le (ms : List Int) : 0 ≤ sH ms ∧ sH ms ≤ 64 := by unfold sH D.nb; omega

theorem s_step (ms : List Int) (x : Int) : D.tkH (sH ms) = sH (ms ++ [x]) ∧ D.tkS (sH ms) (sC ms) (sS ms) (sB ms) = sS (ms ++ [x]) ∧ D.tkB (sH ms) x (sB ms) = sB (ms ++ [x]) ∧ sC ms + 1 = sC (ms ++ [x]) := by
  have hn : (ms ++ [x]).length = ms.length + 1 := by simp
  have hC : sC ms + 1 = sC (ms ++ [x]) := by unfold sC; rw [hn]; omega
  unfold D.tkH D.tkS D.tkB
  by_cases h : sH ms = 64
  · have h' : ms.length - 64 * D.nb ms.length = 64 := by unfold sH at h; omega
    have e : D.nb (ms.length + 1) = D.nb ms.length + 1 := by unfold D.nb at *; omega
    have hl : ms.length = 64 * (D.nb ms.length + 1) := by unfold D.nb at *; omega
    rw [if_pos h, if_pos h, if_pos h]
    refine ⟨?_, ?_, ?_, hC⟩
    · unfold sH; rw [hn, e]; omega
    · unfold sS sB sC
      rw [hn, e]
      simp only [D.hs]
      rw [D.hs_append ms [x] _ (by omega)]
      congr 1
      · unfold bytesI
        refine List.map_congr_left fun j hj => ?_
        have hj : j < 64 := by simpa using hj
        simp only [List.getD_eq_getElem?_getD, List.getElem?_drop]
        rw [List.getElem?_append_left (by omega)]
      · omega
    · unfold sB
      rw [hn, e]
      have ed : (ms ++ [x]).drop (64 * (D.nb ms.length + 1)) = [x] := by rw [← hl]; simp
      rw [ed]
      rfl
  · have hlt : ms.length - 64 * D.nb ms.length < 64 := by
      have := sH_le ms
      unfold sH at h this
      omega
    have e : D.nb (ms.length + 1) = D.nb ms.length := by unfold D.nb at *; omega
    rw [if_neg h, if_neg h, if_neg h]
    refine ⟨?_, ?_, ?_, hC⟩
    · unfold sH; rw [hn, e]; unfold D.nb at *; omega
    · unfold sS
      rw [hn, e, D.hs_append ms [x] _ (by unfold D.nb at *; omega)]
    · unfold sB sH
      rw [hn, e, Int.toNat_natCast]
      have hle : 64 * D.nb ms.length ≤ ms.length := by unfold D.nb; omega
      generalize D.nb ms.length = b at *
      unfold bytesI
      apply List.ext_getElem
      · simp
      · intro i h1 h2
        have hi : i < 64 := by simpa using h2
        rw [List.getElem_set]
        simp only [List.getElem_map, List.getElem_range, List.getD_eq_getElem?_getD, List.getElem?_drop]
        split
        · rename_i q
          rw [List.getElem?_append_right (by omega), show 64 * b + i - ms.length = 0 from by omega]
          rfl
        · rename_i q
          by_cases hx : 64 * b + i < ms.length
          · rw [List.getElem?_append_left hx]
          · rw [List.getElem?_append_right (by omega), List.getElem?_eq_none (Nat.le_of_not_lt hx), List.getElem?_eq_none (by simp only [List.length_cons, List.length_nil]; omega)]

/-- A piece. -/
theorem sg_piece {f : Bool} {ps : List (List Int)} {n i : Nat} {d : List Int} (ms : List Int) (hl : ms.length + d.length ≤ 1000000000000)
    (hr : ∀ (h c j h' c' j' : Int) (st blk st' blk' : List Int) (k : Nat), toC 100 Tryz.f92.ntmps (cutT 100 (sgT f ps)) [] (sgGs f n i k j') (sgTb h' c' st' blk') 104 [] [] (sgM f ps (.go sgLp) [] ((sgS f n i k j h c st blk).hint [true])) = some (.at .normal, [], bO f n d h c j h' c' j' st blk st' blk' k))
    (hx : ∀ (h c j : Int) (st blk : List Int) (k : Nat), toC 100 Tryz.f92.ntmps (cutT 100 (sgT f ps)) [] (sgGs f n i k j) (sgTb h c st blk) 104 [] [] (sgM f ps (.go sgLp) [] ((sgS f n i k j h c st blk).hint [false])) = some (.at (.exit 2), [], xO f n h c j st blk k))
    {w0 : World} {M : Nat → Prop} {V0 : Val} {Q : Exit → Act → World → Prop} (hb : Base ΓG (cutT 100 (sgT f ps)) 100 V0) {K : List Fr}
    (h : G Tryz.prog ΓG w0 M (cutT 100 (sgT f ps)) Tryz.f92.ntmps 100 V0 (.at (.exit 2)) K (sgS f n i d.length d.length (sH (ms ++ d)) (sC (ms ++ d)) (sS (ms ++ d)) (sB (ms ++ d))) Q) :
    G Tryz.prog ΓG w0 M (cutT 100 (sgT f ps)) Tryz.f92.ntmps 100 V0 (.go (.loop sgLp)) K (sgS f n i d.length 0 (sH ms) (sC ms) (sS ms) (sB ms)) Q := by
  have hty := ΓG_ty
  have hsum := ΓG_ok
  refine G.loop (fun r s => ∃ j : Nat, j ≤ d.length ∧ r = d.length - j ∧ s = sgS f n i d.length j (sH (ms ++ d.take j)) (sC (ms ++ d.take j)) (sS (ms ++ d.take j)) (sB (ms ++ d.take j))) (r0 := d.length)
    ⟨0, Nat.zero_le _, rfl, by rw [List.take_zero, List.append_nil]; rfl⟩ ?_
  rintro r s ⟨j, hj, rfl, rfl⟩
  by_cases hlt : j < d.length
  · have et : d.take (j + 1) = d.take j ++ [d.getD j 0] := by rw [List.take_add_one]; simp [List.getD_eq_getElem?_getD, hlt]
    have hstep := s_step (ms ++ d.take j) (d.getD j 0)
    rw [List.append_assoc, ← et] at hstep
    obtain ⟨e1, e2, e3, e4⟩ := hstep
    have hC : 0 ≤ sC (ms ++ d.take j) ∧ sC (ms ++ d.take j) ≤ 1000000000000 := by unfold sC; simp only [List.length_append, List.length_take]; omega
    refine G.roundC hty hsum mix hb [true] (hr _ _ _ (sH (ms ++ d.take (j + 1))) (sC (ms ++ d.take (j + 1))) ((j + 1 : Nat) : Int) _ _ (sS (ms ++ d.take (j + 1))) (sB (ms ++ d.take (j + 1))) d.length) ?_ (d.length - (j + 1)) (by omega) ⟨j + 1, hlt, rfl, rfl⟩
    unfold bO
    rw [Int.toNat_natCast, e1, e2, e3, e4]
    refine memA (of_allP ⟨sS_length _, sB_length _, sH_le _, hC, rfl, rfl, ⟨rfl, rfl⟩, ⟨rfl, rfl⟩, rfl, hlt, by omega, decide_eq_true (by omega), trivial⟩) (pO_ok (of_allP ⟨rfl, rfl, ?_, rfl, ⟨rfl, rfl⟩, ⟨rfl, rfl⟩, rfl, trivial⟩))
    rw [IntWalk.i64_in _ (by unfold sC at hC; simp only [List.length_append] at hC; omega)]; omega
  · have e : j = d.length := by omega
    subst e
    rw [List.take_length]
    refine G.toC hty hsum mix hb [false] (hx _ _ _ _ _ d.length) ?_ (G.leave (by simp) h)
    exact mem1 (decide_eq_false (by omega)) (pO_ok (of_allP ⟨rfl, rfl, rfl, rfl, ⟨rfl, rfl⟩, ⟨rfl, rfl⟩, rfl, trivial⟩))
theorem nO_ok (f : Bool) (n : Nat) (d ms : List Int) : ∀ q ∈ nO f n d d.length 0 (sH ms) (sC ms) (sH ms) (sC ms) (sS ms) (sB ms) (sS ms) (sB ms), q :=
  pO_ok (of_allP ⟨rfl, rfl, rfl, rfl, ⟨rfl, rfl⟩, ⟨rfl, rfl⟩, rfl, trivial⟩)
theorem nO_0 (f : Bool) (n : Nat) (d : List Int) : ∀ q ∈ nO f n d d.length 0 0 0 (sH []) (sC []) D.h0 (List.replicate 64 0) (sS []) (sB []), q :=
  pO_ok (of_allP ⟨rfl, rfl, rfl, rfl, ⟨rfl, rfl⟩, ⟨rfl, rfl⟩, rfl, trivial⟩)
theorem eO_ok (ms : List Int) : ∀ q ∈ eO (sC ms) (sS ms) (sB ms), q := by
  have hl : (D.press (sS ms) (sB ms) (sC ms) 4294967295).length = 8 := D.press_length _ _ _ _
  unfold eO
  rw [hl]
  exact of_allP ⟨by omega, by omega, by omega, by omega, by omega, by omega, by omega, by omega, rfl, sS_length _, sB_length _, rfl, ⟨rfl, rfl⟩, rfl, trivial⟩
theorem s_end (ms : List Int) : D.bytes (D.press (sS ms) (sB ms) (sC ms) 4294967295) = D.hash ms := rfl
def sgRes (ms : List Int) : Eff := { val := .tup [.slcR 100 0 32 0, .raw .nilIface], new := [.row 1 ((D.hash ms).map (.int false .u8)) 5] }

theorem sg1_call (f : Bool) (d0 : List Int) (hl : d0.length ≤ 1000000000) (Γ : Env) (hg : Γ.glob = globs) : CallOK Tryz.prog Γ 92 (sgVs f 1) (sgT f [d0]) 100 100 (sgRes (d0)) := by
  refine CallOK.words (Γ := ΓG) ?_ (by rw [hg]; rfl) (fun _ => rfl) (fun _ _ h => h) (fun _ => rfl) rfl rfl
  refine call_G ΓG_ty ΓG_ok Tryz.func92 (by kernel_rfl) rfl (Nat.le_of_ble_eq_true (by kernel_rfl)) rfl [] ?_
  intro w0 M V0 Q hb H
  have hty := ΓG_ty
  have hsum := ΓG_ok
  refine G.toC hty hsum mix hb [] (sg1_s f d0 _ _ _ _ _ d0.length) (nO_0 f _ d0) ?_
  refine sg_piece [] (by simp only [List.length_append, List.length_nil]; omega) (sg1_r0 f d0) (sg1_x0 f d0) hb ?_
  have e : ([] ++ d0) = d0 := by simp
  rw [e]
  exact G.finC (cl := []) hty hsum mix [] H (sg1_e f d0 _ _ _ _ _ _) (eO_ok _) rfl rfl rfl
theorem sg2_call (f : Bool) (d0 d1 : List Int) (hl : d0.length + d1.length ≤ 1000000000) (Γ : Env) (hg : Γ.glob = globs) : CallOK Tryz.prog Γ 92 (sgVs f 2) (sgT f [d0, d1]) 100 100 (sgRes (d0 ++ d1)) := by
  refine CallOK.words (Γ := ΓG) ?_ (by rw [hg]; rfl) (fun _ => rfl) (fun _ _ h => h) (fun _ => rfl) rfl rfl
  refine call_G ΓG_ty ΓG_ok Tryz.func92 (by kernel_rfl) rfl (Nat.le_of_ble_eq_true (by kernel_rfl)) rfl [] ?_
  intro w0 M V0 Q hb H
  have hty := ΓG_ty
  have hsum := ΓG_ok
  refine G.toC hty hsum mix hb [] (sg2_s f d0 d1 _ _ _ _ _ d0.length) (nO_0 f _ d0) ?_
  refine sg_piece [] (by simp only [List.length_append, List.length_nil]; omega) (sg2_r0 f d0 d1) (sg2_x0 f d0 d1) hb ?_
  refine G.toC hty hsum mix hb [] (sg2_n1 f d0 d1 _ _ _ _ _ _ _ _ _ _ _ d1.length) (nO_ok f _ d1 ([] ++ d0)) ?_
  refine sg_piece ([] ++ d0) (by simp only [List.length_append, List.length_nil]; omega) (sg2_r1 f d0 d1) (sg2_x1 f d0 d1) hb ?_
  have e : (([] ++ d0) ++ d1) = d0 ++ d1 := by simp
  rw [e]
  exact G.finC (cl := []) hty hsum mix [] H (sg2_e f d0 d1 _ _ _ _ _ _) (eO_ok _) rfl rfl rfl
theorem sg3_call (f : Bool) (d0 d1 d2 : List Int) (hl : d0.length + d1.length + d2.length ≤ 1000000000) (Γ : Env) (hg : Γ.glob = globs) : CallOK Tryz.prog Γ 92 (sgVs f 3) (sgT f [d0, d1, d2]) 100 100 (sgRes (d0 ++ d1 ++ d2)) := by
  refine CallOK.words (Γ := ΓG) ?_ (by rw [hg]; rfl) (fun _ => rfl) (fun _ _ h => h) (fun _ => rfl) rfl rfl
  refine call_G ΓG_ty ΓG_ok Tryz.func92 (by kernel_rfl) rfl (Nat.le_of_ble_eq_true (by kernel_rfl)) rfl [] ?_
  intro w0 M V0 Q hb H
  have hty := ΓG_ty
  have hsum := ΓG_ok
  refine G.toC hty hsum mix hb [] (sg3_s f d0 d1 d2 _ _ _ _ _ d0.length) (nO_0 f _ d0) ?_
  refine sg_piece [] (by simp only [List.length_append, List.length_nil]; omega) (sg3_r0 f d0 d1 d2) (sg3_x0 f d0 d1 d2) hb ?_
  refine G.toC hty hsum mix hb [] (sg3_n1 f d0 d1 d2 _ _ _ _ _ _ _ _ _ _ _ d1.length) (nO_ok f _ d1 ([] ++ d0)) ?_
  refine sg_piece ([] ++ d0) (by simp only [List.length_append, List.length_nil]; omega) (sg3_r1 f d0 d1 d2) (sg3_x1 f d0 d1 d2) hb ?_
  refine G.toC hty hsum mix hb [] (sg3_n2 f d0 d1 d2 _ _ _ _ _ _ _ _ _ _ _ d2.length) (nO_ok f _ d2 (([] ++ d0) ++ d1)) ?_
  refine sg_piece (([] ++ d0) ++ d1) (by simp only [List.length_append, List.length_nil]; omega) (sg3_r2 f d0 d1 d2) (sg3_x2 f d0 d1 d2) hb ?_
  have e : ((([] ++ d0) ++ d1) ++ d2) = d0 ++ d1 ++ d2 := by simp
  rw [e]
  exact G.finC (cl := []) hty hsum mix [] H (sg3_e f d0 d1 d2 _ _ _ _ _ _) (eO_ok _) rfl rfl rfl
theorem sg4_call (f : Bool) (d0 d1 d2 d3 : List Int) (hl : d0.length + d1.length + d2.length + d3.length ≤ 1000000000) (Γ : Env) (hg : Γ.glob = globs) : CallOK Tryz.prog Γ 92 (sgVs f 4) (sgT f [d0, d1, d2, d3]) 100 100 (sgRes (d0 ++ d1 ++ d2 ++ d3)) := by
  refine CallOK.words (Γ := ΓG) ?_ (by rw [hg]; rfl) (fun _ => rfl) (fun _ _ h => h) (fun _ => rfl) rfl rfl
  refine call_G ΓG_ty ΓG_ok Tryz.func92 (by kernel_rfl) rfl (Nat.le_of_ble_eq_true (by kernel_rfl)) rfl [] ?_
  intro w0 M V0 Q hb H
  have hty := ΓG_ty
  have hsum := ΓG_ok
  refine G.toC hty hsum mix hb [] (sg4_s f d0 d1 d2 d3 _ _ _ _ _ d0.length) (nO_0 f _ d0) ?_
  refine sg_piece [] (by simp only [List.length_append, List.length_nil]; omega) (sg4_r0 f d0 d1 d2 d3) (sg4_x0 f d0 d1 d2 d3) hb ?_
  refine G.toC hty hsum mix hb [] (sg4_n1 f d0 d1 d2 d3 _ _ _ _ _ _ _ _ _ _ _ d1.length) (nO_ok f _ d1 ([] ++ d0)) ?_
  refine sg_piece ([] ++ d0) (by simp only [List.length_append, List.length_nil]; omega) (sg4_r1 f d0 d1 d2 d3) (sg4_x1 f d0 d1 d2 d3) hb ?_
  refine G.toC hty hsum mix hb [] (sg4_n2 f d0 d1 d2 d3 _ _ _ _ _ _ _ _ _ _ _ d2.length) (nO_ok f _ d2 (([] ++ d0) ++ d1)) ?_
  refine sg_piece (([] ++ d0) ++ d1) (by simp only [List.length_append, List.length_nil]; omega) (sg4_r2 f d0 d1 d2 d3) (sg4_x2 f d0 d1 d2 d3) hb ?_
  refine G.toC hty hsum mix hb [] (sg4_n3 f d0 d1 d2 d3 _ _ _ _ _ _ _ _ _ _ _ d3.length) (nO_ok f _ d3 ((([] ++ d0) ++ d1) ++ d2)) ?_
  refine sg_piece ((([] ++ d0) ++ d1) ++ d2) (by simp only [List.length_append, List.length_nil]; omega) (sg4_r3 f d0 d1 d2 d3) (sg4_x3 f d0 d1 d2 d3) hb ?_
  have e : (((([] ++ d0) ++ d1) ++ d2) ++ d3) = d0 ++ d1 ++ d2 ++ d3 := by simp
  rw [e]
  exact G.finC (cl := []) hty hsum mix [] H (sg4_e f d0 d1 d2 d3 _ _ _ _ _ _) (eO_ok _) rfl rfl rfl
end Go.Proofs.YtdhombdiakjdhaaGreatDoor.Sx
end
section
open Go
set_option maxRecDepth 100000
namespace Go.Proofs.YtdhombdiakjdhaaGreatDoor.Sx

theorem TabOK.goneL {w0 w : World} {M : Nat → Prop} {V : Val} {T : Tab} (h : TabOK w0 M V T w) (l0 : Nat) : TabOK w0 M V (fun l => if l = l0 then some .gone else T l) w where
  ok := fun l B hl => by
    by_cases e : l = l0
    · rw [if_pos e] at hl; cases hl; exact ⟨[], rfl, trivial⟩
    · rw [if_neg e] at hl; exact h.ok l B hl
  dist := fun l B l' B' n hne hl hl' ho hb => by
    by_cases e : l = l0
    · rw [if_pos e] at hl; cases hl; cases ho
    · rw [if_neg e] at hl
      by_cases e' : l' = l0
      · rw [if_pos e'] at hl'; cases hl'; intro q; cases q
      · rw [if_neg e'] at hl'; exact h.dist l B l' B' n hne hl hl' ho hb
  perm := fun l B n hl ho hb => by
    by_cases e : l = l0
    · rw [if_pos e] at hl; cases hl; cases ho
    · rw [if_neg e] at hl; exact h.perm l B n hl ho hb
  frame := h.frame
/-- A call behind which nothing more is said of a block. -/
theorem CallOK.gone {P : Program} {Γ : Env} {f : FuncId} {vs : List SV} {T : Tab} {lab F l0 : Nat} {e : Eff} (h : CallOK P Γ f vs T lab F e) (hn : look l0 (e.tab lab) = none) :
    CallOK P Γ f vs T lab F { e with wr := (l0, .gone) :: e.wr } := by
  intro w0 M V T2 w ys hsub hT1 hg hf hF hx op a K Q hK
  refine h w0 M V T2 w ys hsub hT1 hg hf hF hx op a K Q fun V' x w' h1 h2 h3 => hK V' x w' h1 h2 ?_
  have e1 : upd T2 lab { e with wr := (l0, .gone) :: e.wr } = fun l => if l = l0 then some .gone else upd T2 lab e l := by
    funext l
    simp only [upd, Eff.tab, List.cons_append] at hn ⊢
    by_cases q : l = l0
    · subst q; rw [look_cons_eq, if_pos rfl]
    · rw [look_cons_ne (fun r => q r.symm), if_neg q]
  rw [e1]
  exact h3.goneL l0

/-- The pieces' bytes. -/
def rdP (T : Tab) : List SV → Option (List Prop × List (List Int))
  | [] => some ([], [])
  | v :: r => match seqRo T .u8 v, rdP T r with
    | some (ob, d), some (ob2, ps) => some (ob ++ ob2, d :: ps)
    | _, _ => none
def vlP (l : Nat) : Nat → Nat → List (Nat × Src0)
  | 0, _ => []
  | n + 1, i => (63 + i, .cell l i) :: vlP l n (i + 1)
def pcs (T : Tab) : SV → Option (Bool × Nat × List SV)
  | .slc l true 0 _ _ => match T l with
    | some B => (pcC B).map fun cs => (false, l, cs)
    | none => none
  | .slcR l 0 _ 0 => match T l with
    | some (.row sz cs ty) => match Nat.beq sz 1 && Nat.beq ty 22 with
      | true => some (true, l, cs)
      | false => none
    | _ => none
  | _ => none
def sgE (f : Bool) (ps : List (List Int)) : Eff := match f with
  | true => { val := .tup [.slcR 100 0 32 0, .raw .nilIface], new := [.row 1 ((D.hash ps.flatten).map (.int false .u8)) 5], wr := [(62, .gone)] }
  | false => { val := .tup [.slcR 100 0 32 0, .raw .nilIface], new := [.row 1 ((D.hash ps.flatten).map (.int false .u8)) 5] }
def sgDec (vs : List SV) (T : Tab) : Option Canon := match vs with
  | [.int true .i64 n, .raw (.slice none 0 0), v] => match beqI n 32, pcs T v with
    | true, some (f, l, cs) => match rdP T cs with
      | some (ob, ps) => some { vs0 := sgVs f ps.length, T0 := sgL f ps, vl := (62, .lab l 0) :: vlP l ps.length 0, e0 := sgE f ps, conds := [ps.flatten.length ≤ 1000000000, 1 ≤ ps.length ∧ ps.length ≤ 4] ++ ob }
      | none => none
    | _, _ => none
  | _ => none
theorem sg_call (f : Bool) (ps : List (List Int)) (hl : ps.flatten.length ≤ 1000000000) (hn : 1 ≤ ps.length ∧ ps.length ≤ 4) (Γ : Env) (hg : Γ.glob = globs) : CallOK Tryz.prog Γ 92 (sgVs f ps.length) (sgT f ps) 100 100 (sgE f ps) := by
  have h : CallOK Tryz.prog Γ 92 (sgVs f ps.length) (sgT f ps) 100 100 (sgRes ps.flatten) := by
    match ps, hn with
    | [a], _ =>
      have h := sg1_call f a (by simpa using hl) Γ hg
      rw [show [a].flatten = a by simp]
      exact h
    | [a, b], _ =>
      have h := sg2_call f a b (by simpa using hl) Γ hg
      rw [show [a, b].flatten = a ++ b by simp]
      exact h
    | [a, b, c], _ =>
      have h := sg3_call f a b c (by simpa [Nat.add_assoc] using hl) Γ hg
      rw [show [a, b, c].flatten = a ++ b ++ c by simp]
      exact h
    | [a, b, c, d], _ =>
      have h := sg4_call f a b c d (by simpa [Nat.add_assoc] using hl) Γ hg
      rw [show [a, b, c, d].flatten = a ++ b ++ c ++ d by simp]
      exact h
    | [], hn => simp at hn
    | _ :: _ :: _ :: _ :: _ :: _, hn => simp at hn
  cases f with
  | false => exact h
  | true => exact h.gone (l0 := 62) rfl
theorem sg_ok (Γ : Env) (hg : Γ.glob = globs) : SumOK Tryz.prog Γ 92 (canonS globs 100 sgDec) := by
  refine canonS_ok hg fun vs T c hd hc => ?_
  unfold sgDec at hd
  split at hd
  case h_2 => cases hd
  split at hd
  case h_2 => cases hd
  split at hd
  case h_2 => cases hd
  cases hd
  exact sg_call _ _ (hc _ (by simp)) (hc _ (by simp)) Γ hg
noncomputable def exSg : Nat → Option Sum := addS exA 92 (canonS globs 100 sgDec)
theorem exSg_ok : ∀ f S, exSg f = some S → ∀ Γ : Env, Γ.glob = globs → SumOK Tryz.prog Γ f S := addS_ok (fun f S h Γ _ => exA_ok f S h Γ) 92 _ sg_ok
end Go.Proofs.YtdhombdiakjdhaaGreatDoor.Sx
end
section
open Go
set_option maxRecDepth 100000
namespace Go.Proofs.YtdhombdiakjdhaaGreatDoor.Sx

def lenO : List (List Int) → List Prop
  | [] => []
  | d :: r => (d.length = d.length) :: (d.length = d.length) :: lenO r
def sameO : List (List Int) → List Prop
  | [] => []
  | d :: r => (d = d) :: sameO r
theorem lenO_ok : ∀ ps, ∀ q ∈ lenO ps, q
  | [] => mem0
  | _ :: r => mem1 rfl (mem1 rfl (lenO_ok r))
theorem sameO_ok : ∀ ps, ∀ q ∈ sameO ps, q
  | [] => mem0
  | _ :: r => mem1 rfl (sameO_ok r)
def whO (f : Bool) (ps : List (List Int)) : List Prop := (ps.flatten.length ≤ 1000000000) :: (1 ≤ ps.length ∧ ps.length ≤ 4) :: pO f ps.length (lenO ps ++ sameO ps)
def goneW : Bool → List (Nat × SB)
  | true => [(62, .gone)]
  | false => []
def whR (f : Bool) (ps : List (List Int)) : Eff := { obl := whO f ps, val := .agg ((D.hash ps.flatten).map (.int false .u8)), wr := goneW f }
theorem wh1 (f : Bool) (a : List Int) : interp (env exSg 4) Tryz.f51 true [] 1500 [pv f 1] (sgT f [a]) 100 100 = some (whR f [a]) := by cases f <;> kernel_rfl
theorem wh2 (f : Bool) (a b : List Int) : interp (env exSg 4) Tryz.f51 true [] 1500 [pv f 2] (sgT f [a, b]) 100 100 = some (whR f [a, b]) := by cases f <;> kernel_rfl
theorem wh3 (f : Bool) (a b c : List Int) : interp (env exSg 4) Tryz.f51 true [] 1500 [pv f 3] (sgT f [a, b, c]) 100 100 = some (whR f [a, b, c]) := by cases f <;> kernel_rfl
theorem wh4 (f : Bool) (a b c d : List Int) : interp (env exSg 4) Tryz.f51 true [] 1500 [pv f 4] (sgT f [a, b, c, d]) 100 100 = some (whR f [a, b, c, d]) := by cases f <;> kernel_rfl
theorem wh_call (f : Bool) (ps : List (List Int)) (hl : ps.flatten.length ≤ 1000000000) (hn : 1 ≤ ps.length ∧ ps.length ≤ 4) (Γ : Env) (hg : Γ.glob = globs) :
    CallOK Tryz.prog Γ 51 [pv f ps.length] (sgT f ps) 100 100 { val := .ai .u8 (D.hash ps.flatten), wr := goneW f } := by
  have hs : SumOK Tryz.prog (env exSg 4) 51 (interp (env exSg 4) Tryz.f51 true [] 1500) :=
    interp_ok (env_ty exSg 4) (env_ok exSg exSg_ok 4) mix Tryz.func51 (by kernel_rfl) true [] 1500
  have hr : interp (env exSg 4) Tryz.f51 true [] 1500 [pv f ps.length] (sgT f ps) 100 100 = some (whR f ps) := by
    match ps, hn with
    | [a], _ => exact wh1 f a
    | [a, b], _ => exact wh2 f a b
    | [a, b, c], _ => exact wh3 f a b c
    | [a, b, c, d], _ => exact wh4 f a b c d
    | [], hn => simp at hn
    | _ :: _ :: _ :: _ :: _ :: _, hn => simp at hn
  have ho : ∀ q ∈ whO f ps, q := mem1 hl (mem1 hn (pO_ok (memA (lenO_ok ps) (sameO_ok ps))))
  refine (hs.call hr ho).words (by rw [hg]; rfl) (fun _ => rfl) (fun _ _ h => h) (fun V => ?_) rfl rfl
  show den V (.agg _) = den V (.ai _ _)
  simp only [den, denL_map_int]
  rfl
def whDec (vs : List SV) (T : Tab) : Option Canon := match vs with
  | [v] => match pcs T v with
    | some (f, l, cs) => match rdP T cs with
      | some (ob, ps) => some { vs0 := [pv f ps.length], T0 := sgL f ps, vl := (62, .lab l 0) :: vlP l ps.length 0, e0 := { val := .ai .u8 (D.hash ps.flatten), wr := goneW f }, conds := [ps.flatten.length ≤ 1000000000, 1 ≤ ps.length ∧ ps.length ≤ 4] ++ ob }
      | none => none
    | none => none
  | _ => none
theorem wh_ok (Γ : Env) (hg : Γ.glob = globs) : SumOK Tryz.prog Γ 51 (canonS globs 100 whDec) := by
  refine canonS_ok hg fun vs T c hd hc => ?_
  unfold whDec at hd
  split at hd
  case h_2 => cases hd
  split at hd
  case h_2 => cases hd
  split at hd
  case h_2 => cases hd
  cases hd
  exact wh_call _ _ (hc _ (by simp)) (hc _ (by simp)) Γ hg
noncomputable def exWh : Nat → Option Sum := addS exA 51 (canonS globs 100 whDec)
theorem exWh_ok : ∀ f S, exWh f = some S → ∀ Γ : Env, Γ.glob = globs → SumOK Tryz.prog Γ f S := addS_ok (fun f S h Γ _ => exA_ok f S h Γ) 51 _ wh_ok
end Go.Proofs.YtdhombdiakjdhaaGreatDoor.Sx
end
section
open Go
set_option maxRecDepth 100000
namespace Go.Proofs.YtdhombdiakjdhaaGreatDoor.Sx

/-- The plain engine. -/
def plainV : List SV := [.int true .i64 2, .fn (.func 46) [] [], .fn (.func 47) [] [], .fn (.func 48) [] [], .fn (.func 49) [] [], .fn (.func 50) [] [], .fn (.func 51) [] []]
noncomputable def ΓPl : Env := env exWh 7
theorem ΓPl_ty : TyOK Tryz.prog ΓPl := env_ty exWh 7
theorem ΓPl_ok : SumsOK Tryz.prog ΓPl := env_ok exWh exWh_ok 7
def pmL (key : List Int) (ps : List (List Int)) : List (Nat × SB) := (61, .rov .u8 key) :: (62, .roc (pcV ps 63)) :: (pcB ps 63 ++ glB)
def pmVs (k n : Nat) : List SV := [.agg plainV, .ros 61 k, .slc 62 true 0 n n]
def pmT (key : List Int) (ps : List (List Int)) : Tab := fun l => look l (pmL key ps)
noncomputable def pmM (key : List Int) (ps : List (List Int)) (cf : Cf) (K : List Fr) (s : St) : Option Cfg := mrun ΓPl (cutT 100 (pmT key ps)) 100 Tryz.f11.ntmps [8] 400 2000 cf K s
def pmTb (a b : List Int) : List (Nat × SB) := [(100, .own plainV 33), (101, .own (List.replicate 32 (.int true .u8 0)) 24), (102, .ints .u8 a 76), (103, .ints .u8 b 76)]
noncomputable def pmR : Option Cfg := pmM [] [] (.go (codeOf Tryz.f11)) [] ((st0 (pmVs 0 0) 100).hint [false])
noncomputable def pmLp : Code := cfgC pmR
noncomputable def pmK : List Fr := cfgF pmR
theorem pm_0 (key a b : List Int) (ps : List (List Int)) (k n : Nat) (i : Int) (hn : n = 1 ∨ n = 2 ∨ n = 3) : toC 100 Tryz.f11.ntmps (cutT 100 (pmT key ps)) [] (hmGs n i) (pmTb a b) 104 [] [] (pmM key ps (.go (codeOf Tryz.f11)) [] ((st0 (pmVs k n) 100).hint [false])) =
    some (.go (.loop pmLp), pmK, lO 64 4 (cp 64 key) ++ [kO 64 key, decide ((k : Int) > 64) = false, 0 = i, cp 64 key = a ∧ 76 = 76, cp 64 key = b ∧ 76 = 76]) := by rcases hn with rfl | rfl | rfl <;> kernel_rfl
theorem pm_2 (key a b a' b' : List Int) (ps : List (List Int)) (n : Nat) (i i' : Int) (hn : n = 1 ∨ n = 2 ∨ n = 3) : toC 100 Tryz.f11.ntmps (cutT 100 (pmT key ps)) [] (hmGs n i') (pmTb a' b') 104 [] [] (pmM key ps (.go pmLp) [] ((stOf (hmGs n i) (pmTb a b) 104 [] []).hint [true])) =
    some (.at .normal, [], [0 + i.toNat * 1 < b.length, 0 ≤ i ∧ i < 64, 0 + i.toNat * 1 + 1 ≤ b.length, 0 ≤ i ∧ i < 64, 0 + i.toNat * 1 < a.length, 0 ≤ i ∧ i < 64, 0 + i.toNat * 1 + 1 ≤ a.length, 0 ≤ i ∧ i < 64, decide (i < 64) = true, IntKind.i64.wrap (i + 1) = i',
      a.set (0 + i.toNat * 1) (bXor .u8 (a.getD (0 + i.toNat * 1 + 0) 0) 54) = a' ∧ 76 = 76, b.set (0 + i.toNat * 1) (bXor .u8 (b.getD (0 + i.toNat * 1 + 0) 0) 92) = b' ∧ 76 = 76]) := by rcases hn with rfl | rfl | rfl <;> kernel_rfl
theorem pm_3 (key a b : List Int) (ps : List (List Int)) (n : Nat) (i : Int) (hn : n = 1 ∨ n = 2 ∨ n = 3) : toC 100 Tryz.f11.ntmps (cutT 100 (pmT key ps)) [] (hmGs n i) (pmTb a b) 104 [] [] (pmM key ps (.go pmLp) [] ((stOf (hmGs n i) (pmTb a b) 104 [] []).hint [false])) =
    some (.at (.exit 0), [], [decide (i < 64) = false, i = i, a = a ∧ 76 = 76, b = b ∧ 76 = 76]) := by rcases hn with rfl | rfl | rfl <;> kernel_rfl

/-- The inner digest, the outer one; what is owed for both. -/
def pmI (a : List Int) (ds : List (List Int)) : List Int := D.hash (ar 64 a :: ds).flatten
def pmX (a b : List Int) (ds : List (List Int)) : List Int := D.hash [ar 64 b, ar 32 (pmI a ds)].flatten
def pmO (a b : List Int) (ds : List (List Int)) : List Prop :=
  ((pmX a b ds).length = 32) :: ((pmX a b ds).length = 32) :: ((pmX a b ds).length = 32) :: ((pmX a b ds).length = 32) ::
  ([ar 64 b, ar 32 (pmI a ds)].flatten.length ≤ 1000000000) :: (1 ≤ [ar 64 b, ar 32 (pmI a ds)].length ∧ [ar 64 b, ar 32 (pmI a ds)].length ≤ 4) ::
  (64 ≤ b.length ∧ 64 ≤ 64) :: (32 ≤ (pmI a ds).length ∧ 32 ≤ 32) :: (64 ≤ b.length ∧ 64 ≤ 64) :: ((ar 64 b).length = (ar 64 b).length) :: (32 ≤ (pmI a ds).length ∧ 32 ≤ 32) :: ((ar 32 (pmI a ds)).length = (ar 32 (pmI a ds)).length) ::
  (ar 64 b = ar 64 b) :: (64 ≤ b.length ∧ 64 ≤ 64) :: (ar 32 (pmI a ds) = ar 32 (pmI a ds)) :: (32 ≤ (pmI a ds).length ∧ 32 ≤ 32) ::
  ((pmI a ds).length = 32) :: ((pmI a ds).length = 32) :: ((pmI a ds).length = 32) ::
  ((ar 64 a :: ds).flatten.length ≤ 1000000000) :: (1 ≤ (ar 64 a :: ds).length ∧ (ar 64 a :: ds).length ≤ 4) :: (64 ≤ a.length ∧ 64 ≤ 64) :: (ds.length + 1 = (ar 64 a :: ds).length) :: (64 ≤ a.length ∧ 64 ≤ 64) :: ((ar 64 a).length = (ar 64 a).length) ::
  (lenO ds ++ ((ar 64 a = ar 64 a) :: (64 ≤ a.length ∧ 64 ≤ 64) :: sameO ds))
theorem pm_4 (key a b d : List Int) (i : Int) : endC ΓPl (pmT key [d]) 100 100 Tryz.f11 [] (pmM key [d] (.at (.exit 0)) pmK ((stOf (hmGs 1 i) (pmTb a b) 104 [] []).hint [])) = some { obl := pmO a b [d], val := .ai .u8 (pmX a b [d]) } := by kernel_rfl
theorem pm_5 (key a b d d2 : List Int) (i : Int) : endC ΓPl (pmT key [d, d2]) 100 100 Tryz.f11 [] (pmM key [d, d2] (.at (.exit 0)) pmK ((stOf (hmGs 2 i) (pmTb a b) 104 [] []).hint [])) = some { obl := pmO a b [d, d2], val := .ai .u8 (pmX a b [d, d2]) } := by kernel_rfl
theorem pm_6 (key a b d d2 d3 : List Int) (i : Int) : endC ΓPl (pmT key [d, d2, d3]) 100 100 Tryz.f11 [] (pmM key [d, d2, d3] (.at (.exit 0)) pmK ((stOf (hmGs 3 i) (pmTb a b) 104 [] []).hint [])) = some { obl := pmO a b [d, d2, d3], val := .ai .u8 (pmX a b [d, d2, d3]) } := by kernel_rfl
end Go.Proofs.YtdhombdiakjdhaaGreatDoor.Sx
end
