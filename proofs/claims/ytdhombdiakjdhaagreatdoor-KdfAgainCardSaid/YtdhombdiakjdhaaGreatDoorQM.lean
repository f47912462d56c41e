/- kdf.HMAC with the plain engine: contract, summary. -/
import Derived.Test.YtdhombdiakjdhaaGreatDoorQL
section
open Go
set_option maxRecDepth 100000
namespace Go.Proofs.YtdhombdiakjdhaaGreatDoor.Sx

theorem pm_loop {key : List Int} {ps : List (List Int)} {n : Nat} (hn : n = 1 ∨ n = 2 ∨ n = 3) {k : List Int} (hk : k.length = 64)
    {w0 : World} {M : Nat → Prop} {V0 : Val} {Q : Exit → Act → World → Prop} (hb : Base ΓPl (cutT 100 (pmT key ps)) 100 V0)
    (h : G Tryz.prog ΓPl w0 M (cutT 100 (pmT key ps)) Tryz.f11.ntmps 100 V0 (.at (.exit 0)) pmK (stOf (hmGs n 64) (pmTb (padN k 54 64) (padN k 92 64)) 104 [] []) Q) :
    G Tryz.prog ΓPl w0 M (cutT 100 (pmT key ps)) Tryz.f11.ntmps 100 V0 (.go (.loop pmLp)) pmK (stOf (hmGs n 0) (pmTb k k) 104 [] []) Q := by
  have hty := ΓPl_ty
  have hsum := ΓPl_ok
  refine G.loop (fun r s => ∃ i : Nat, i ≤ 64 ∧ r = 64 - i ∧ s = stOf (hmGs n i) (pmTb (padN k 54 i) (padN k 92 i)) 104 [] []) (r0 := 64)
    ⟨0, by omega, rfl, by rw [padN_zero hk, padN_zero hk]; rfl⟩ ?_
  rintro r s ⟨i, hi, rfl, rfl⟩
  by_cases hlt : i < 64
  · have e1 : 0 + (i : Int).toNat * 1 = i := by omega
    refine G.roundC hty hsum mix hb [true] (pm_2 key _ _ (padN k 54 (i + 1)) (padN k 92 (i + 1)) ps n i ((i + 1 : Nat) : Int) hn) ?_ (64 - (i + 1)) (by omega) ⟨i + 1, hlt, rfl, rfl⟩
    rw [e1, Nat.add_zero]
    have l1 := padN_length k 54 i
    have l2 := padN_length k 92 i
    refine mem1 (by omega) (mem1 (by omega) (mem1 (by omega) (mem1 (by omega) (mem1 (by omega) (mem1 (by omega) (mem1 (by omega) (mem1 (by omega) (mem1 (decide_eq_true (by omega)) (mem1 ?_ (mem1 ⟨padN_succ k 54 hlt, rfl⟩ (mem1 ⟨padN_succ k 92 hlt, rfl⟩ mem0)))))))))))
    rw [IntWalk.i64_in _ (by omega)]; omega
  · have e : i = 64 := by omega
    subst e
    refine G.toC hty hsum mix hb [false] (pm_3 key _ _ ps n _ hn) (mem1 (by decide) (mem1 rfl (mem1 ⟨rfl, rfl⟩ (mem1 ⟨rfl, rfl⟩ mem0)))) (G.leave (by simp) h)

theorem pmI_eq {a : List Int} (ha : a.length = 64) (ds : List (List Int)) : pmI a ds = D.hash (a ++ ds.flatten) := by unfold pmI; rw [ar_same ha, List.flatten_cons]
theorem pmX_eq {a b : List Int} (ha : a.length = 64) (hb : b.length = 64) (ds : List (List Int)) : pmX a b ds = D.hash (b ++ D.hash (a ++ ds.flatten)) := by
  unfold pmX
  rw [pmI_eq ha, ar_same hb, ar_same (D.hash_length _)]
  simp only [List.flatten_cons, List.flatten_nil, List.append_nil]
theorem pmO_ok {a b : List Int} (ha : a.length = 64) (hb : b.length = 64) {ds : List (List Int)} (hn : 1 ≤ ds.length ∧ ds.length ≤ 3) (hl : ds.flatten.length ≤ 100000000) : ∀ q ∈ pmO a b ds, q := by
  have hX : (pmX a b ds).length = 32 := D.hash_length _
  have hI : (pmI a ds).length = 32 := D.hash_length _
  have e1 : [ar 64 b, ar 32 (pmI a ds)].flatten.length ≤ 1000000000 := by
    rw [ar_same hb, ar_same hI]
    simp only [List.flatten_cons, List.flatten_nil, List.append_nil, List.length_append, hb, hI]
    decide
  have e2 : (ar 64 a :: ds).flatten.length ≤ 1000000000 := by rw [ar_same ha, List.flatten_cons, List.length_append]; omega
  have e3 : 64 ≤ b.length ∧ 64 ≤ 64 := by omega
  have e4 : 64 ≤ a.length ∧ 64 ≤ 64 := by omega
  have e5 : 32 ≤ (pmI a ds).length ∧ 32 ≤ 32 := by omega
  have e6 : 1 ≤ (ar 64 a :: ds).length ∧ (ar 64 a :: ds).length ≤ 4 := by simp only [List.length_cons]; omega
  unfold pmO
  exact mem1 hX (mem1 hX (mem1 hX (mem1 hX (mem1 e1 (mem1 (by simp) (mem1 e3 (mem1 e5 (mem1 e3 (mem1 rfl (mem1 e5 (mem1 rfl (mem1 rfl (mem1 e3 (mem1 rfl (mem1 e5 (mem1 hI (mem1 hI (mem1 hI (mem1 e2 (mem1 e6 (mem1 e4 (mem1 rfl (mem1 e4 (mem1 rfl
    (memA (lenO_ok ds) (mem1 rfl (mem1 e4 (sameO_ok ds))))))))))))))))))))))))))))

theorem pm_call (key : List Int) (ds : List (List Int)) (hk : key.length ≤ 64) (hn : 1 ≤ ds.length ∧ ds.length ≤ 3) (hl : ds.flatten.length ≤ 100000000) (Γ : Env) (hg : Γ.glob = globs) :
    CallOK Tryz.prog Γ 11 (pmVs key.length ds.length) (pmT key ds) 100 100 { val := .ai .u8 (D.hmac key ds.flatten) } := by
  refine CallOK.words (Γ := ΓPl) ?_ (by rw [hg]; rfl) (fun _ => rfl) (fun _ _ h => h) (fun _ => rfl) rfl rfl
  refine call_G ΓPl_ty ΓPl_ok Tryz.func11 (by kernel_rfl) rfl (Nat.le_of_ble_eq_true (by kernel_rfl)) rfl [] ?_
  intro w0 M V0 Q hb H
  have hty := ΓPl_ty
  have hsum := ΓPl_ok
  have hn' : ds.length = 1 ∨ ds.length = 2 ∨ ds.length = 3 := by omega
  refine G.toC hty hsum mix hb [false] (pm_0 key (cp 64 key) (cp 64 key) ds key.length ds.length 0 hn') (memA (lO_ok (cp_length hk)) (mem1 (kO_ok hk) (mem1 (decide_eq_false (by omega)) (mem1 rfl (mem1 ⟨rfl, rfl⟩ (mem1 ⟨rfl, rfl⟩ mem0)))))) ?_
  refine pm_loop hn' (cp_length hk) hb ?_
  rw [padN_cp hk, padN_cp hk]
  have ha := D.pad_length key 54
  have hb2 := D.pad_length key 92
  have hr : endC ΓPl (pmT key ds) 100 100 Tryz.f11 [] (pmM key ds (.at (.exit 0)) pmK ((stOf (hmGs ds.length 64) (pmTb (D.pad key 54) (D.pad key 92)) 104 [] []).hint [])) = some { obl := pmO (D.pad key 54) (D.pad key 92) ds, val := .ai .u8 (pmX (D.pad key 54) (D.pad key 92) ds) } := by
    match ds, hn with
    | [d], _ => exact pm_4 key _ _ d 64
    | [d, e], _ => exact pm_5 key _ _ d e 64
    | [d, e, f], _ => exact pm_6 key _ _ d e f 64
    | [], hn => simp at hn
    | _ :: _ :: _ :: _ :: _, hn => simp at hn
  refine G.finC (cl := []) ΓPl_ty ΓPl_ok mix [] H hr (pmO_ok ha hb2 hn hl) ?_ rfl rfl
  show SV.ai .u8 (pmX _ _ _) = _
  rw [pmX_eq ha hb2]
  unfold D.hmac D.key
  rw [if_pos hk]
theorem denL_intsT (V : Val) (k : IntKind) : ∀ zs : List Int, denL V (zs.map (SV.int true k)) = some (zs.map (Value.int k))
  | [] => rfl
  | z :: r => by simp [denL, den, denL_intsT V k r]
def pmDec (vs : List SV) (T : Tab) : Option Canon := match vs with
  | [.agg (.int true .i64 e :: .fn (.func f) [] [] :: _), p, .slc l true 0 _ _] => match beqI e 2 && Nat.beq f 46, seqRo T .u8 p, T l with
    | true, some (ob, k), some B => match pcC B with
      | some cs => match rdP T cs with
        | some (ob2, ds) => match kv k ds.flatten with
          | some r => some { vs0 := pmVs k.length ds.length, T0 := pmL k ds, vl := (61, .arg 1) :: (62, .lab l 0) :: vlP l ds.length 0, e0 := { val := .agg (r.map (.int true .u8)) }, conds := [k.length ≤ 64, 1 ≤ ds.length ∧ ds.length ≤ 3, ds.flatten.length ≤ 100000000] ++ (ob ++ ob2) }
          | none => none
        | none => none
      | none => none
    | _, _, _ => none
  | _ => none
/-- The keys that are asked for, as they are. -/
theorem pm_ok (Γ : Env) (hg : Γ.glob = globs) : SumOK Tryz.prog Γ 11 (canonS globs 100 pmDec) := by
  refine canonS_ok hg fun vs T c hd hc => ?_
  unfold pmDec at hd
  split at hd
  case h_2 => cases hd
  split at hd
  case h_2 => cases hd
  split at hd
  case h_2 => cases hd
  split at hd
  case h_2 => cases hd
  split at hd
  case h_2 => cases hd
  rename_i hr
  cases hd
  refine (pm_call _ _ (hc _ (by simp)) (hc _ (by simp)) (hc _ (by simp)) Γ hg).words rfl (fun _ => rfl) (fun _ _ h => h) (fun V => ?_) rfl rfl
  rw [kv_ok hr]
  simp only [den, denL_intsT]
  rfl
noncomputable def exPm : Nat → Option Sum := addS exA 11 (canonS globs 100 pmDec)
theorem exPm_ok : ∀ f S, exPm f = some S → ∀ Γ : Env, Γ.glob = globs → SumOK Tryz.prog Γ f S := addS_ok (fun f S h Γ _ => exA_ok f S h Γ) 11 _ pm_ok
def glT : Tab := fun l => look l glB
end Go.Proofs.YtdhombdiakjdhaaGreatDoor.Sx
end
section
open Go
set_option maxRecDepth 100000
namespace Go.Proofs.YtdhombdiakjdhaaGreatDoor.Sx

def D.rnd (v n : Int) : Int := if v.tmod n < 0 then v.tmod n + n else v.tmod n
theorem rnd_lt {v n : Int} (h : 0 < n) : 0 ≤ D.rnd v n ∧ D.rnd v n < n := by
  unfold D.rnd
  have h1 := Int.tmod_lt_of_pos v h
  have h2 : -n < v.tmod n := by
    have := Int.tmod_lt_of_pos (-v) h
    rw [Int.neg_tmod] at this
    omega
  split <;> omega
theorem rd_1 (v n : Int) : interp (env exA 3) Tryz.f13 true [true] 400 [.int false .i64 v, .int false .i64 n] (fun _ => none) 100 100 =
    some { obl := [decide (v.tmod n < 0) = true, n ≠ 0], val := .int false .i64 (IntKind.i64.wrap (v.tmod n + n)) } := by kernel_rfl
theorem rd_2 (v n : Int) : interp (env exA 3) Tryz.f13 true [false] 400 [.int false .i64 v, .int false .i64 n] (fun _ => none) 100 100 =
    some { obl := [decide (v.tmod n < 0) = false, n ≠ 0], val := .int false .i64 (v.tmod n) } := by kernel_rfl
theorem rd_call {v n : Int} (h0 : 0 < n) (h1 : n ≤ 1000000) (Γ : Env) (hg : Γ.glob = globs) : CallOK Tryz.prog Γ 13 [.int false .i64 v, .int false .i64 n] (fun _ => none) 100 100 { val := .int false .i64 (D.rnd v n) } := by
  have hs : ∀ hints, SumOK Tryz.prog (env exA 3) 13 (interp (env exA 3) Tryz.f13 true hints 400) := fun hints =>
    interp_ok (env_ty exA 3) (env_ok exA (fun f S h Γ _ => exA_ok f S h Γ) 3) mix Tryz.func13 (by kernel_rfl) true hints 400
  have h2 := rnd_lt (v := v) h0
  by_cases h : v.tmod n < 0
  · refine ((hs [true]).call (rd_1 v n) (of_allP ⟨decide_eq_true h, by omega, trivial⟩)).words (by rw [hg]; rfl) (fun _ => rfl) (fun _ _ h => h) (fun V => ?_) rfl rfl
    have e : D.rnd v n = v.tmod n + n := by unfold D.rnd; rw [if_pos h]
    rw [e] at h2
    simp only [e, IntWalk.i64_in _ (by omega : -9223372036854775808 ≤ v.tmod n + n ∧ v.tmod n + n ≤ 9223372036854775807)]
  · refine ((hs [false]).call (rd_2 v n) (of_allP ⟨decide_eq_false h, by omega, trivial⟩)).words (by rw [hg]; rfl) (fun _ => rfl) (fun _ _ h => h) (fun V => ?_) rfl rfl
    simp only [D.rnd, if_neg h]
def rdDec (vs : List SV) (_ : Tab) : Option Canon := match vs with
  | [.int _ .i64 v, .int _ .i64 n] => some { vs0 := [.int false .i64 v, .int false .i64 n], T0 := [], vl := [], e0 := { val := .int false .i64 (D.rnd v n) }, conds := [0 < n, n ≤ 1000000] }
  | _ => none
theorem rd_ok (Γ : Env) (hg : Γ.glob = globs) : SumOK Tryz.prog Γ 13 (canonS globs 100 rdDec) := by
  refine canonS_ok hg fun vs T c hd hc => ?_
  unfold rdDec at hd
  split at hd
  case h_2 => cases hd
  cases hd
  exact rd_call (hc _ (by simp)) (hc _ (by simp)) Γ hg
end Go.Proofs.YtdhombdiakjdhaaGreatDoor.Sx
end
section
open Go
set_option maxRecDepth 100000
namespace Go.Proofs.YtdhombdiakjdhaaGreatDoor.Sx

theorem t9_0 (c d : List Int) (n : Nat) :
  interp (env exHm 4) Tryz.f9 true [] 1500 [.agg (fastV 59), .ai .u8 c, .ros 61 n] (t9T d) 100 100 =
  some
  {
    obl :=
      [(D.hmac (List.take (32 : Nat) (List.drop (0 : Nat) (D.hmac (List.take (32 : Nat) (List.drop (0 : Nat) c)) d))) (List.take (1 : Nat) (List.drop (0 : Nat) [(1 : Int)]))).length = (32 : Nat),
        (D.hmac (List.take (32 : Nat) (List.drop (0 : Nat) (D.hmac (List.take (32 : Nat) (List.drop (0 : Nat) c)) d)))
              (List.take (32 : Nat)
                  (List.drop (0 : Nat)
                    (D.hmac (List.take (32 : Nat) (List.drop (0 : Nat) (D.hmac (List.take (32 : Nat) (List.drop (0 : Nat) c)) d))) (List.take (1 : Nat) (List.drop (0 : Nat) [(1 : Int)])))) ++
                List.take (1 : Nat) (List.drop (0 : Nat) [(2 : Int)]))).length =
          (32 : Nat),
        (D.hmac (List.take (32 : Nat) (List.drop (0 : Nat) (D.hmac (List.take (32 : Nat) (List.drop (0 : Nat) c)) d)))
              (List.take (32 : Nat)
                  (List.drop (0 : Nat)
                    (D.hmac (List.take (32 : Nat) (List.drop (0 : Nat) (D.hmac (List.take (32 : Nat) (List.drop (0 : Nat) c)) d))) (List.take (1 : Nat) (List.drop (0 : Nat) [(1 : Int)])))) ++
                List.take (1 : Nat) (List.drop (0 : Nat) [(2 : Int)]))).length =
          (32 : Nat),
        (D.hmac (List.take (32 : Nat) (List.drop (0 : Nat) (D.hmac (List.take (32 : Nat) (List.drop (0 : Nat) c)) d))) (List.take (1 : Nat) (List.drop (0 : Nat) [(1 : Int)]))).length = (32 : Nat),
        (D.hmac (List.take (32 : Nat) (List.drop (0 : Nat) (D.hmac (List.take (32 : Nat) (List.drop (0 : Nat) c)) d)))
              (List.take (32 : Nat)
                  (List.drop (0 : Nat)
                    (D.hmac (List.take (32 : Nat) (List.drop (0 : Nat) (D.hmac (List.take (32 : Nat) (List.drop (0 : Nat) c)) d))) (List.take (1 : Nat) (List.drop (0 : Nat) [(1 : Int)])))) ++
                List.take (1 : Nat) (List.drop (0 : Nat) [(2 : Int)]))).length =
          (32 : Nat),
        (D.hmac (List.take (32 : Nat) (List.drop (0 : Nat) (D.hmac (List.take (32 : Nat) (List.drop (0 : Nat) c)) d))) (List.take (1 : Nat) (List.drop (0 : Nat) [(1 : Int)]))).length = (32 : Nat),
        (D.hmac (List.take (32 : Nat) (List.drop (0 : Nat) (D.hmac (List.take (32 : Nat) (List.drop (0 : Nat) c)) d)))
              (List.take (32 : Nat)
                  (List.drop (0 : Nat)
                    (D.hmac (List.take (32 : Nat) (List.drop (0 : Nat) (D.hmac (List.take (32 : Nat) (List.drop (0 : Nat) c)) d))) (List.take (1 : Nat) (List.drop (0 : Nat) [(1 : Int)])))) ++
                List.take (1 : Nat) (List.drop (0 : Nat) [(2 : Int)]))).length =
          (32 : Nat),
        (D.hmac (List.take (32 : Nat) (List.drop (0 : Nat) (D.hmac (List.take (32 : Nat) (List.drop (0 : Nat) c)) d))) (List.take (1 : Nat) (List.drop (0 : Nat) [(1 : Int)]))).length = (32 : Nat),
        (D.hmac (List.take (32 : Nat) (List.drop (0 : Nat) c)) d).length = (32 : Nat), (D.hmac (List.take (32 : Nat) (List.drop (0 : Nat) c)) d).length = (32 : Nat),
        (D.hmac (List.take (32 : Nat) (List.drop (0 : Nat) (D.hmac (List.take (32 : Nat) (List.drop (0 : Nat) c)) d))) (List.take (1 : Nat) (List.drop (0 : Nat) [(1 : Int)]))).length = (32 : Nat),
        (D.hmac (List.take (32 : Nat) (List.drop (0 : Nat) (D.hmac (List.take (32 : Nat) (List.drop (0 : Nat) c)) d)))
              (List.take (32 : Nat)
                  (List.drop (0 : Nat)
                    (D.hmac (List.take (32 : Nat) (List.drop (0 : Nat) (D.hmac (List.take (32 : Nat) (List.drop (0 : Nat) c)) d))) (List.take (1 : Nat) (List.drop (0 : Nat) [(1 : Int)])))) ++
                List.take (1 : Nat) (List.drop (0 : Nat) [(2 : Int)]))).length =
          (32 : Nat),
        (D.hmac (List.take (32 : Nat) (List.drop (0 : Nat) (D.hmac (List.take (32 : Nat) (List.drop (0 : Nat) c)) d)))
              (List.take (32 : Nat)
                  (List.drop (0 : Nat)
                    (D.hmac (List.take (32 : Nat) (List.drop (0 : Nat) (D.hmac (List.take (32 : Nat) (List.drop (0 : Nat) c)) d))) (List.take (1 : Nat) (List.drop (0 : Nat) [(1 : Int)])))) ++
                List.take (1 : Nat) (List.drop (0 : Nat) [(2 : Int)]))).length =
          (32 : Nat),
        (D.hmac (List.take (32 : Nat) (List.drop (0 : Nat) (D.hmac (List.take (32 : Nat) (List.drop (0 : Nat) c)) d))) (List.take (1 : Nat) (List.drop (0 : Nat) [(1 : Int)]))).length = (32 : Nat) ∧
          (D.hmac (List.take (32 : Nat) (List.drop (0 : Nat) (D.hmac (List.take (32 : Nat) (List.drop (0 : Nat) c)) d))) (List.take (1 : Nat) (List.drop (0 : Nat) [(1 : Int)]))).length = (32 : Nat),
        (D.hmac (List.take (32 : Nat) (List.drop (0 : Nat) c)) d).length = (32 : Nat) ∧ (D.hmac (List.take (32 : Nat) (List.drop (0 : Nat) c)) d).length = (32 : Nat),
        (List.take (32 : Nat) (List.drop (0 : Nat) (D.hmac (List.take (32 : Nat) (List.drop (0 : Nat) c)) d))).length ≤ (1000000000 : Nat),
        (List.take (32 : Nat)
              (List.drop (0 : Nat)
                (D.hmac (List.take (32 : Nat) (List.drop (0 : Nat) (D.hmac (List.take (32 : Nat) (List.drop (0 : Nat) c)) d))) (List.take (1 : Nat) (List.drop (0 : Nat) [(1 : Int)]))))).length ≤
          (1000000000 : Nat),
        (1 : Nat) ≤ (1000000000 : Nat), (32 : Nat) ≤ (D.hmac (List.take (32 : Nat) (List.drop (0 : Nat) c)) d).length ∧ (32 : Nat) ≤ (32 : Nat),
        (32 : Nat) ≤ (D.hmac (List.take (32 : Nat) (List.drop (0 : Nat) (D.hmac (List.take (32 : Nat) (List.drop (0 : Nat) c)) d))) (List.take (1 : Nat) (List.drop (0 : Nat) [(1 : Int)]))).length ∧
          (32 : Nat) ≤ (32 : Nat),
        (1 : Nat) ≤ (1 : Nat) ∧ (1 : Nat) ≤ (1 : Nat), (32 : Nat) ≤ (D.hmac (List.take (32 : Nat) (List.drop (0 : Nat) c)) d).length ∧ (32 : Nat) ≤ (32 : Nat),
        (List.take (32 : Nat) (List.drop (0 : Nat) (D.hmac (List.take (32 : Nat) (List.drop (0 : Nat) c)) d))).length =
          (List.take (32 : Nat) (List.drop (0 : Nat) (D.hmac (List.take (32 : Nat) (List.drop (0 : Nat) c)) d))).length,
        List.take (32 : Nat) (List.drop (0 : Nat) (D.hmac (List.take (32 : Nat) (List.drop (0 : Nat) c)) d)) =
          List.take (32 : Nat) (List.drop (0 : Nat) (D.hmac (List.take (32 : Nat) (List.drop (0 : Nat) c)) d)),
        (32 : Nat) ≤ (D.hmac (List.take (32 : Nat) (List.drop (0 : Nat) c)) d).length ∧ (32 : Nat) ≤ (32 : Nat),
        (32 : Nat) ≤ (D.hmac (List.take (32 : Nat) (List.drop (0 : Nat) (D.hmac (List.take (32 : Nat) (List.drop (0 : Nat) c)) d))) (List.take (1 : Nat) (List.drop (0 : Nat) [(1 : Int)]))).length ∧
          (32 : Nat) ≤ (32 : Nat),
        (List.take (32 : Nat)
              (List.drop (0 : Nat)
                (D.hmac (List.take (32 : Nat) (List.drop (0 : Nat) (D.hmac (List.take (32 : Nat) (List.drop (0 : Nat) c)) d))) (List.take (1 : Nat) (List.drop (0 : Nat) [(1 : Int)]))))).length =
          (List.take (32 : Nat)
              (List.drop (0 : Nat)
                (D.hmac (List.take (32 : Nat) (List.drop (0 : Nat) (D.hmac (List.take (32 : Nat) (List.drop (0 : Nat) c)) d))) (List.take (1 : Nat) (List.drop (0 : Nat) [(1 : Int)]))))).length,
        (1 : Nat) ≤ (1 : Nat) ∧ (1 : Nat) ≤ (1 : Nat), (1 : Nat) = (1 : Nat),
        List.take (32 : Nat)
            (List.drop (0 : Nat)
              (D.hmac (List.take (32 : Nat) (List.drop (0 : Nat) (D.hmac (List.take (32 : Nat) (List.drop (0 : Nat) c)) d))) (List.take (1 : Nat) (List.drop (0 : Nat) [(1 : Int)])))) =
          List.take (32 : Nat)
            (List.drop (0 : Nat)
              (D.hmac (List.take (32 : Nat) (List.drop (0 : Nat) (D.hmac (List.take (32 : Nat) (List.drop (0 : Nat) c)) d))) (List.take (1 : Nat) (List.drop (0 : Nat) [(1 : Int)])))),
        (32 : Nat) ≤ (D.hmac (List.take (32 : Nat) (List.drop (0 : Nat) (D.hmac (List.take (32 : Nat) (List.drop (0 : Nat) c)) d))) (List.take (1 : Nat) (List.drop (0 : Nat) [(1 : Int)]))).length ∧
          (32 : Nat) ≤ (32 : Nat),
        List.take (1 : Nat) (List.drop (0 : Nat) [(2 : Int)]) = List.take (1 : Nat) (List.drop (0 : Nat) [(2 : Int)]), (1 : Nat) ≤ (1 : Nat) ∧ (1 : Nat) ≤ (1 : Nat),
        (D.hmac (List.take (32 : Nat) (List.drop (0 : Nat) (D.hmac (List.take (32 : Nat) (List.drop (0 : Nat) c)) d))) (List.take (1 : Nat) (List.drop (0 : Nat) [(1 : Int)]))).length = (32 : Nat),
        (D.hmac (List.take (32 : Nat) (List.drop (0 : Nat) c)) d).length = (32 : Nat),
        (D.hmac (List.take (32 : Nat) (List.drop (0 : Nat) (D.hmac (List.take (32 : Nat) (List.drop (0 : Nat) c)) d))) (List.take (1 : Nat) (List.drop (0 : Nat) [(1 : Int)]))).length = (32 : Nat),
        (List.take (32 : Nat) (List.drop (0 : Nat) (D.hmac (List.take (32 : Nat) (List.drop (0 : Nat) c)) d))).length ≤ (1000000000 : Nat), (1 : Nat) ≤ (1000000000 : Nat),
        (32 : Nat) ≤ (D.hmac (List.take (32 : Nat) (List.drop (0 : Nat) c)) d).length ∧ (32 : Nat) ≤ (32 : Nat), (1 : Nat) ≤ (1 : Nat) ∧ (1 : Nat) ≤ (1 : Nat),
        (32 : Nat) ≤ (D.hmac (List.take (32 : Nat) (List.drop (0 : Nat) c)) d).length ∧ (32 : Nat) ≤ (32 : Nat),
        (List.take (32 : Nat) (List.drop (0 : Nat) (D.hmac (List.take (32 : Nat) (List.drop (0 : Nat) c)) d))).length =
          (List.take (32 : Nat) (List.drop (0 : Nat) (D.hmac (List.take (32 : Nat) (List.drop (0 : Nat) c)) d))).length,
        List.take (32 : Nat) (List.drop (0 : Nat) (D.hmac (List.take (32 : Nat) (List.drop (0 : Nat) c)) d)) =
          List.take (32 : Nat) (List.drop (0 : Nat) (D.hmac (List.take (32 : Nat) (List.drop (0 : Nat) c)) d)),
        (32 : Nat) ≤ (D.hmac (List.take (32 : Nat) (List.drop (0 : Nat) c)) d).length ∧ (32 : Nat) ≤ (32 : Nat), (1 : Nat) ≤ (1 : Nat) ∧ (1 : Nat) ≤ (1 : Nat), (1 : Nat) = (1 : Nat),
        List.take (1 : Nat) (List.drop (0 : Nat) [(1 : Int)]) = List.take (1 : Nat) (List.drop (0 : Nat) [(1 : Int)]), (1 : Nat) ≤ (1 : Nat) ∧ (1 : Nat) ≤ (1 : Nat),
        (D.hmac (List.take (32 : Nat) (List.drop (0 : Nat) c)) d).length = (32 : Nat), (List.take (32 : Nat) (List.drop (0 : Nat) c)).length ≤ (1000000000 : Nat), d.length ≤ (1000000000 : Nat),
        (32 : Nat) ≤ c.length ∧ (32 : Nat) ≤ (32 : Nat), (32 : Nat) ≤ c.length ∧ (32 : Nat) ≤ (32 : Nat),
        (List.take (32 : Nat) (List.drop (0 : Nat) c)).length = (List.take (32 : Nat) (List.drop (0 : Nat) c)).length,
        List.take (32 : Nat) (List.drop (0 : Nat) c) = List.take (32 : Nat) (List.drop (0 : Nat) c), (32 : Nat) ≤ c.length ∧ (32 : Nat) ≤ (32 : Nat), n = n, d.length = d.length, d = d,
        c.length = (32 : Nat)],
    val :=
      SV.tup
        [SV.ai IntKind.u8 (D.hmac (List.take (32 : Nat) (List.drop (0 : Nat) (D.hmac (List.take (32 : Nat) (List.drop (0 : Nat) c)) d))) (List.take (1 : Nat) (List.drop (0 : Nat) [(1 : Int)]))),
          SV.ai IntKind.u8
            (D.hmac (List.take (32 : Nat) (List.drop (0 : Nat) (D.hmac (List.take (32 : Nat) (List.drop (0 : Nat) c)) d)))
              (List.take (32 : Nat)
                  (List.drop (0 : Nat)
                    (D.hmac (List.take (32 : Nat) (List.drop (0 : Nat) (D.hmac (List.take (32 : Nat) (List.drop (0 : Nat) c)) d))) (List.take (1 : Nat) (List.drop (0 : Nat) [(1 : Int)])))) ++
                List.take (1 : Nat) (List.drop (0 : Nat) [(2 : Int)])))] } := by kernel_rfl

end Go.Proofs.YtdhombdiakjdhaaGreatDoor.Sx
end
section
open Go
set_option maxRecDepth 100000
namespace Go.Proofs.YtdhombdiakjdhaaGreatDoor.Sx

theorem t9_call {c d : List Int} (hcl : c.length = 32) (hdl : d.length ≤ 1000000000) (Γ : Env) (hg : Γ.glob = globs) :
    CallOK Tryz.prog Γ 9 [.agg (fastV 59), .ai .u8 c, .ros 61 d.length] (t9T d) 100 100 { val := .tup [.ai .u8 (D.ka c d), .ai .u8 (D.kb c d)] } := by
  have hs : SumOK Tryz.prog (env exHm 4) 9 (interp (env exHm 4) Tryz.f9 true [] 1500) :=
    interp_ok (env_ty exHm 4) (env_ok exHm exHm_ok 4) mix Tryz.func9 (by kernel_rfl) true [] 1500
  have tc : List.take 32 (List.drop 0 c) = c := ar_same hcl
  refine (hs.call (t9_0 c d d.length) (of_allP ?_)).words (by rw [hg]; rfl) (fun _ => rfl) (fun _ _ h => h) (fun V => ?_) rfl rfl
  · simp only [allP, tc, tkh, tk1, List.nil_append, D.hmac_length, List.length_append, List.length_cons, List.length_nil]
    repeat' (first | with_reducible exact trivial | with_reducible assumption | with_reducible apply And.intro | omega)
  · simp only [tc, tkh, tk1, List.nil_append, ka_eq, kb_eq]
def t9Dec (vs : List SV) (T : Tab) : Option Canon := match vs with
  | [.agg (.int true .i64 e :: .fn (.func f) [] [.ptr L _ _] :: _), cv, p] => match beqI e 1 && Nat.beq f 29, intsOf cv, seqRo T .u8 p with
    | true, some (.u8, c), some (ob, d) => some { vs0 := [.agg (fastV 59), .ai .u8 c, .ros 61 d.length], T0 := [(59, .roc [.raw (.pointer none)]), (61, .rov .u8 d)], vl := [(59, .lab L 0), (61, .arg 2)], e0 := { val := .tup [.ai .u8 (D.ka c d), .ai .u8 (D.kb c d)] }, conds := [c.length = 32, d.length ≤ 1000000000] ++ ob }
    | _, _, _ => none
  | _ => none
theorem t9_ok (Γ : Env) (hg : Γ.glob = globs) : SumOK Tryz.prog Γ 9 (canonS globs 100 t9Dec) := by
  refine canonS_ok hg fun vs T c hd hc => ?_
  unfold t9Dec at hd
  split at hd
  case h_2 => cases hd
  split at hd
  case h_2 => cases hd
  cases hd
  exact t9_call (hc _ (by simp)) (hc _ (by simp)) Γ hg
end Go.Proofs.YtdhombdiakjdhaaGreatDoor.Sx
end
section
open Go
set_option maxRecDepth 100000
namespace Go.Proofs.YtdhombdiakjdhaaGreatDoor.Sx

/-- What is owed: closed facts. -/
def knO : List Prop := [(6 : Nat) ≤ (64 : Nat), (1 : Nat) ≤ (1 : Nat) ∧ (1 : Nat) ≤ (3 : Nat), (7 : Nat) ≤ (100000000 : Nat), (6 : Nat) ≤ (6 : Nat) ∧ (6 : Nat) ≤ (6 : Nat), (7 : Nat) ≤ (7 : Nat) ∧ (7 : Nat) ≤ (7 : Nat), (6 : Nat) ≤ (6 : Nat) ∧ (6 : Nat) ≤ (6 : Nat), (6 : Nat) = (6 : Nat), List.take (6 : Nat) (List.drop (0 : Nat) ([112, 105, 110, 116, 108, 101] : List Int)) = List.take (6 : Nat) (List.drop (0 : Nat) ([112, 105, 110, 116, 108, 101] : List Int)), (6 : Nat) ≤ (6 : Nat) ∧ (6 : Nat) ≤ (6 : Nat), (7 : Nat) ≤ (7 : Nat) ∧ (7 : Nat) ≤ (7 : Nat), (7 : Nat) = (7 : Nat), List.take (7 : Nat) (List.drop (0 : Nat) ([103, 117, 100, 103, 101, 111, 110] : List Int)) = List.take (7 : Nat) (List.drop (0 : Nat) ([103, 117, 100, 103, 101, 111, 110] : List Int)), (7 : Nat) ≤ (7 : Nat) ∧ (7 : Nat) ≤ (7 : Nat), (32 : Nat) ≤ (64 : Nat), (1 : Nat) ≤ (2 : Nat) ∧ (2 : Nat) ≤ (3 : Nat), (33 : Nat) ≤ (100000000 : Nat), (32 : Nat) ≤ (32 : Nat) ∧ (32 : Nat) ≤ (32 : Nat), (32 : Nat) ≤ (32 : Nat) ∧ (32 : Nat) ≤ (32 : Nat), (1 : Nat) ≤ (1 : Nat) ∧ (1 : Nat) ≤ (1 : Nat), (32 : Nat) ≤ (32 : Nat) ∧ (32 : Nat) ≤ (32 : Nat), (32 : Nat) = (32 : Nat), List.take (32 : Nat) (List.drop (0 : Nat) kT) = List.take (32 : Nat) (List.drop (0 : Nat) kT), (32 : Nat) ≤ (32 : Nat) ∧ (32 : Nat) ≤ (32 : Nat), (32 : Nat) ≤ (32 : Nat) ∧ (32 : Nat) ≤ (32 : Nat), (32 : Nat) = (32 : Nat), (1 : Nat) ≤ (1 : Nat) ∧ (1 : Nat) ≤ (1 : Nat), (1 : Nat) = (1 : Nat), List.take (32 : Nat) (List.drop (0 : Nat) kY) = List.take (32 : Nat) (List.drop (0 : Nat) kY), (32 : Nat) ≤ (32 : Nat) ∧ (32 : Nat) ≤ (32 : Nat), List.take (1 : Nat) (List.drop (0 : Nat) ([3] : List Int)) = List.take (1 : Nat) (List.drop (0 : Nat) ([3] : List Int)), (1 : Nat) ≤ (1 : Nat) ∧ (1 : Nat) ≤ (1 : Nat), (32 : Nat) ≤ (64 : Nat), (1 : Nat) ≤ (2 : Nat) ∧ (2 : Nat) ≤ (3 : Nat), (33 : Nat) ≤ (100000000 : Nat), (32 : Nat) ≤ (32 : Nat) ∧ (32 : Nat) ≤ (32 : Nat), (32 : Nat) ≤ (32 : Nat) ∧ (32 : Nat) ≤ (32 : Nat), (1 : Nat) ≤ (1 : Nat) ∧ (1 : Nat) ≤ (1 : Nat), (32 : Nat) ≤ (32 : Nat) ∧ (32 : Nat) ≤ (32 : Nat), (32 : Nat) = (32 : Nat), List.take (32 : Nat) (List.drop (0 : Nat) kT) = List.take (32 : Nat) (List.drop (0 : Nat) kT), (32 : Nat) ≤ (32 : Nat) ∧ (32 : Nat) ≤ (32 : Nat), (32 : Nat) ≤ (32 : Nat) ∧ (32 : Nat) ≤ (32 : Nat), (32 : Nat) = (32 : Nat), (1 : Nat) ≤ (1 : Nat) ∧ (1 : Nat) ≤ (1 : Nat), (1 : Nat) = (1 : Nat), List.take (32 : Nat) (List.drop (0 : Nat) kX) = List.take (32 : Nat) (List.drop (0 : Nat) kX), (32 : Nat) ≤ (32 : Nat) ∧ (32 : Nat) ≤ (32 : Nat), List.take (1 : Nat) (List.drop (0 : Nat) ([2] : List Int)) = List.take (1 : Nat) (List.drop (0 : Nat) ([2] : List Int)), (1 : Nat) ≤ (1 : Nat) ∧ (1 : Nat) ≤ (1 : Nat), (32 : Nat) ≤ (64 : Nat), (1 : Nat) ≤ (1 : Nat) ∧ (1 : Nat) ≤ (3 : Nat), (1 : Nat) ≤ (100000000 : Nat), (32 : Nat) ≤ (32 : Nat) ∧ (32 : Nat) ≤ (32 : Nat), (1 : Nat) ≤ (1 : Nat) ∧ (1 : Nat) ≤ (1 : Nat), (32 : Nat) ≤ (32 : Nat) ∧ (32 : Nat) ≤ (32 : Nat), (32 : Nat) = (32 : Nat), List.take (32 : Nat) (List.drop (0 : Nat) kT) = List.take (32 : Nat) (List.drop (0 : Nat) kT), (32 : Nat) ≤ (32 : Nat) ∧ (32 : Nat) ≤ (32 : Nat), (1 : Nat) ≤ (1 : Nat) ∧ (1 : Nat) ≤ (1 : Nat), (1 : Nat) = (1 : Nat), List.take (1 : Nat) (List.drop (0 : Nat) ([1] : List Int)) = List.take (1 : Nat) (List.drop (0 : Nat) ([1] : List Int)), (1 : Nat) ≤ (1 : Nat) ∧ (1 : Nat) ≤ (1 : Nat), (32 : Nat) ≤ (64 : Nat), (1 : Nat) ≤ (1 : Nat) ∧ (1 : Nat) ≤ (3 : Nat), (0 : Nat) ≤ (100000000 : Nat), (32 : Nat) ≤ (32 : Nat) ∧ (32 : Nat) ≤ (32 : Nat), (32 : Nat) ≤ (32 : Nat) ∧ (32 : Nat) ≤ (32 : Nat), (32 : Nat) = (32 : Nat), List.take (32 : Nat) (List.drop (0 : Nat) z32) = List.take (32 : Nat) (List.drop (0 : Nat) z32), (32 : Nat) ≤ (32 : Nat) ∧ (32 : Nat) ≤ (32 : Nat), (0 : Nat) = (0 : Nat), ([] : List Int) = [], (32 : Nat) ≤ (64 : Nat), (1 : Nat) ≤ (2 : Nat) ∧ (2 : Nat) ≤ (3 : Nat), (33 : Nat) ≤ (100000000 : Nat), (32 : Nat) ≤ (32 : Nat) ∧ (32 : Nat) ≤ (32 : Nat), (32 : Nat) ≤ (32 : Nat) ∧ (32 : Nat) ≤ (32 : Nat), (1 : Nat) ≤ (1 : Nat) ∧ (1 : Nat) ≤ (1 : Nat), (32 : Nat) ≤ (32 : Nat) ∧ (32 : Nat) ≤ (32 : Nat), (32 : Nat) = (32 : Nat), List.take (32 : Nat) (List.drop (0 : Nat) kT) = List.take (32 : Nat) (List.drop (0 : Nat) kT), (32 : Nat) ≤ (32 : Nat) ∧ (32 : Nat) ≤ (32 : Nat), (32 : Nat) ≤ (32 : Nat) ∧ (32 : Nat) ≤ (32 : Nat), (32 : Nat) = (32 : Nat), (1 : Nat) ≤ (1 : Nat) ∧ (1 : Nat) ≤ (1 : Nat), (1 : Nat) = (1 : Nat), List.take (32 : Nat) (List.drop (0 : Nat) kX) = List.take (32 : Nat) (List.drop (0 : Nat) kX), (32 : Nat) ≤ (32 : Nat) ∧ (32 : Nat) ≤ (32 : Nat), List.take (1 : Nat) (List.drop (0 : Nat) ([2] : List Int)) = List.take (1 : Nat) (List.drop (0 : Nat) ([2] : List Int)), (1 : Nat) ≤ (1 : Nat) ∧ (1 : Nat) ≤ (1 : Nat), (32 : Nat) ≤ (64 : Nat), (1 : Nat) ≤ (1 : Nat) ∧ (1 : Nat) ≤ (3 : Nat), (1 : Nat) ≤ (100000000 : Nat), (32 : Nat) ≤ (32 : Nat) ∧ (32 : Nat) ≤ (32 : Nat), (1 : Nat) ≤ (1 : Nat) ∧ (1 : Nat) ≤ (1 : Nat), (32 : Nat) ≤ (32 : Nat) ∧ (32 : Nat) ≤ (32 : Nat), (32 : Nat) = (32 : Nat), List.take (32 : Nat) (List.drop (0 : Nat) kT) = List.take (32 : Nat) (List.drop (0 : Nat) kT), (32 : Nat) ≤ (32 : Nat) ∧ (32 : Nat) ≤ (32 : Nat), (1 : Nat) ≤ (1 : Nat) ∧ (1 : Nat) ≤ (1 : Nat), (1 : Nat) = (1 : Nat), List.take (1 : Nat) (List.drop (0 : Nat) ([1] : List Int)) = List.take (1 : Nat) (List.drop (0 : Nat) ([1] : List Int)), (1 : Nat) ≤ (1 : Nat) ∧ (1 : Nat) ≤ (1 : Nat), (32 : Nat) ≤ (64 : Nat), (1 : Nat) ≤ (1 : Nat) ∧ (1 : Nat) ≤ (3 : Nat), (0 : Nat) ≤ (100000000 : Nat), (32 : Nat) ≤ (32 : Nat) ∧ (32 : Nat) ≤ (32 : Nat), (32 : Nat) ≤ (32 : Nat) ∧ (32 : Nat) ≤ (32 : Nat), (32 : Nat) = (32 : Nat), List.take (32 : Nat) (List.drop (0 : Nat) z32) = List.take (32 : Nat) (List.drop (0 : Nat) z32), (32 : Nat) ≤ (32 : Nat) ∧ (32 : Nat) ≤ (32 : Nat), (0 : Nat) = (0 : Nat), ([] : List Int) = [], (6 : Nat) ≤ (64 : Nat), (1 : Nat) ≤ (3 : Nat) ∧ (3 : Nat) ≤ (3 : Nat), (7 : Nat) ≤ (100000000 : Nat), (6 : Nat) ≤ (6 : Nat) ∧ (6 : Nat) ≤ (6 : Nat), (3 : Nat) ≤ (3 : Nat) ∧ (3 : Nat) ≤ (3 : Nat), (4 : Nat) ≤ (4 : Nat) ∧ (4 : Nat) ≤ (4 : Nat), (6 : Nat) ≤ (6 : Nat) ∧ (6 : Nat) ≤ (6 : Nat), (6 : Nat) = (6 : Nat), List.take (6 : Nat) (List.drop (0 : Nat) ([112, 105, 110, 116, 108, 101] : List Int)) = List.take (6 : Nat) (List.drop (0 : Nat) ([112, 105, 110, 116, 108, 101] : List Int)), (6 : Nat) ≤ (6 : Nat) ∧ (6 : Nat) ≤ (6 : Nat), (3 : Nat) ≤ (3 : Nat) ∧ (3 : Nat) ≤ (3 : Nat), (3 : Nat) = (3 : Nat), (0 : Nat) = (0 : Nat), (4 : Nat) ≤ (4 : Nat) ∧ (4 : Nat) ≤ (4 : Nat), (4 : Nat) = (4 : Nat), List.take (3 : Nat) (List.drop (0 : Nat) ([103, 117, 100] : List Int)) = List.take (3 : Nat) (List.drop (0 : Nat) ([103, 117, 100] : List Int)), (3 : Nat) ≤ (3 : Nat) ∧ (3 : Nat) ≤ (3 : Nat), ([] : List Int) = [], List.take (4 : Nat) (List.drop (0 : Nat) ([103, 101, 111, 110] : List Int)) = List.take (4 : Nat) (List.drop (0 : Nat) ([103, 101, 111, 110] : List Int)), (4 : Nat) ≤ (4 : Nat) ∧ (4 : Nat) ≤ (4 : Nat)]
theorem kn_0 : interp (env exPm 6) Tryz.f7 true [] 1500 [] glT 100 100 = some { obl := knO, val := .bool true true } := by kernel_rfl
theorem kn_O : ∀ q ∈ knO, q := by
  unfold knO
  refine of_allP ?_
  simp only [allP]
  repeat' (first | with_reducible exact trivial | with_reducible rfl | with_reducible apply And.intro | omega)
theorem kn_call (Γ : Env) (hg : Γ.glob = globs) : CallOK Tryz.prog Γ 7 [] glT 100 100 { val := .bool true true } := by
  have hs : SumOK Tryz.prog (env exPm 6) 7 (interp (env exPm 6) Tryz.f7 true [] 1500) :=
    interp_ok (env_ty exPm 6) (env_ok exPm exPm_ok 6) mix Tryz.func7 (by kernel_rfl) true [] 1500
  exact (hs.call kn_0 kn_O).words (by rw [hg]; rfl) (fun _ => rfl) (fun _ _ h => h) (fun _ => rfl) rfl rfl
def knDec (vs : List SV) (_ : Tab) : Option Canon := match vs with
  | [] => some { vs0 := [], T0 := glB, vl := [], e0 := { val := .bool true true } }
  | _ => none
theorem kn_ok (Γ : Env) (hg : Γ.glob = globs) : SumOK Tryz.prog Γ 7 (canonS globs 100 knDec) := by
  refine canonS_ok hg fun vs T c hd hc => ?_
  unfold knDec at hd
  split at hd
  case h_2 => cases hd
  cases hd
  exact kn_call Γ hg

/-- What the law calls. -/
noncomputable def exF1 : Nat → Option Sum := addS exA 7 (canonS globs 100 knDec)
noncomputable def exF2 : Nat → Option Sum := addS exF1 9 (canonS globs 100 t9Dec)
noncomputable def exF3 : Nat → Option Sum := addS exF2 10 (canonS globs 100 t12Dec)
noncomputable def exF4 : Nat → Option Sum := addS exF3 11 (canonS globs 100 hmDec)
noncomputable def exF5 : Nat → Option Sum := addS exF4 12 (canonS globs 100 h12Dec)
noncomputable def exF : Nat → Option Sum := addS exF5 13 (canonS globs 100 rdDec)
theorem exF_ok : ∀ f S, exF f = some S → ∀ Γ : Env, Γ.glob = globs → SumOK Tryz.prog Γ f S :=
  addS_ok (addS_ok (addS_ok (addS_ok (addS_ok (addS_ok (fun f S h Γ _ => exA_ok f S h Γ) 7 _ kn_ok) 9 _ t9_ok) 10 _ t12_ok) 11 _ hm_ok) 12 _ h12_ok) 13 _ rd_ok
noncomputable def ΓF : Env := env exF 4
def f3Vs (n m : Nat) (c : List Int) (at_ by_ : Int) : List SV := [.ros 61 n, .ros 62 m, .ai .u8 c, .int false .i64 at_, .int false .u8 by_]
def f3L (ka kb : List Int) : List (Nat × SB) := (61, .rov .u8 ka) :: (62, .rov .u8 kb) :: glB
def f3T (ka kb : List Int) : Tab := fun l => look l (f3L ka kb)
end Go.Proofs.YtdhombdiakjdhaaGreatDoor.Sx
end
section
open Go
set_option maxRecDepth 100000
namespace Go.Proofs.YtdhombdiakjdhaaGreatDoor.Sx

theorem f3_0 (ka kb c : List Int) (a b : Int) (n m : Nat) :
  interp ΓF Tryz.f3 true [true] 3000 (f3Vs n m c a b) (f3T ka kb) 100 100 =
  some { obl := [decide (IntKind.i64.wrap ((↑n : Int) + (↑m : Int)) > (20000 : Int)) = true], val := SV.bool true true } := by kernel_rfl

theorem f3_1 (ka kb c : List Int) (a b : Int) (n m : Nat) :
  interp ΓF Tryz.f3 true [false, true] 3000 (f3Vs n m c a b) (f3T ka kb) 100 100 =
  some { obl := [decide ((↑n : Int) > (20000 : Int)) = true, decide (IntKind.i64.wrap ((↑n : Int) + (↑m : Int)) > (20000 : Int)) = false], val := SV.bool true true } := by kernel_rfl

theorem f3_2 (ka kb c : List Int) (a b : Int) (n m : Nat) :
  interp ΓF Tryz.f3 true [false, false, true] 3000 (f3Vs n m c a b) (f3T ka kb) 100 100 =
  some
  { obl := [decide ((↑m : Int) > (20000 : Int)) = true, decide ((↑n : Int) > (20000 : Int)) = false, decide (IntKind.i64.wrap ((↑n : Int) + (↑m : Int)) > (20000 : Int)) = false],
    val := SV.bool true true } := by kernel_rfl

theorem f3_3 (ka kb c : List Int) (a b : Int) (n m : Nat) :
  interp ΓF Tryz.f3 true [false, false, false, false, false, false, true, false, false, false, true, false, false, false] 3000 (f3Vs n m c a b) (f3T ka kb) 100 100 =
  some
  {
    obl :=
      [(!decide
              (D.kb c ((List.take (0 : Nat) [] ++ kb).set (D.rnd a (↑(List.take (0 : Nat) [] ++ kb).length : Int)).toNat b) =
                D.kb c ((List.take (0 : Nat) [] ++ kb).set (D.rnd a (↑(List.take (0 : Nat) [] ++ kb).length : Int)).toNat b))) =
          false,
        (D.kb c ((List.take (0 : Nat) [] ++ kb).set (D.rnd a (↑(List.take (0 : Nat) [] ++ kb).length : Int)).toNat b)).length = (32 : Nat) ∧
          (D.kb c ((List.take (0 : Nat) [] ++ kb).set (D.rnd a (↑(List.take (0 : Nat) [] ++ kb).length : Int)).toNat b)).length = (32 : Nat),
        (D.kb c ((List.take (0 : Nat) [] ++ kb).set (D.rnd a (↑(List.take (0 : Nat) [] ++ kb).length : Int)).toNat b)).length = (32 : Nat),
        (D.kb c ((List.take (0 : Nat) [] ++ kb).set (D.rnd a (↑(List.take (0 : Nat) [] ++ kb).length : Int)).toNat b)).length = (32 : Nat),
        (!decide
              (D.ka c ((List.take (0 : Nat) [] ++ kb).set (D.rnd a (↑(List.take (0 : Nat) [] ++ kb).length : Int)).toNat b) =
                D.ka c ((List.take (0 : Nat) [] ++ kb).set (D.rnd a (↑(List.take (0 : Nat) [] ++ kb).length : Int)).toNat b))) =
          false,
        (D.ka c ((List.take (0 : Nat) [] ++ kb).set (D.rnd a (↑(List.take (0 : Nat) [] ++ kb).length : Int)).toNat b)).length = (32 : Nat) ∧
          (D.ka c ((List.take (0 : Nat) [] ++ kb).set (D.rnd a (↑(List.take (0 : Nat) [] ++ kb).length : Int)).toNat b)).length = (32 : Nat),
        (D.ka c ((List.take (0 : Nat) [] ++ kb).set (D.rnd a (↑(List.take (0 : Nat) [] ++ kb).length : Int)).toNat b)).length = (32 : Nat),
        (D.ka c ((List.take (0 : Nat) [] ++ kb).set (D.rnd a (↑(List.take (0 : Nat) [] ++ kb).length : Int)).toNat b)).length = (32 : Nat),
        (!decide
              (D.hmac ((List.take (0 : Nat) [] ++ ka).set (D.rnd a (↑(List.take (0 : Nat) [] ++ ka).length : Int)).toNat b)
                  ((List.take (0 : Nat) [] ++ kb).set (D.rnd a (↑(List.take (0 : Nat) [] ++ kb).length : Int)).toNat b) =
                D.hmac ((List.take (0 : Nat) [] ++ ka).set (D.rnd a (↑(List.take (0 : Nat) [] ++ ka).length : Int)).toNat b)
                  ((List.take (0 : Nat) [] ++ kb).set (D.rnd a (↑(List.take (0 : Nat) [] ++ kb).length : Int)).toNat b))) =
          false,
        (D.hmac ((List.take (0 : Nat) [] ++ ka).set (D.rnd a (↑(List.take (0 : Nat) [] ++ ka).length : Int)).toNat b)
                ((List.take (0 : Nat) [] ++ kb).set (D.rnd a (↑(List.take (0 : Nat) [] ++ kb).length : Int)).toNat b)).length =
            (32 : Nat) ∧
          (D.hmac ((List.take (0 : Nat) [] ++ ka).set (D.rnd a (↑(List.take (0 : Nat) [] ++ ka).length : Int)).toNat b)
                ((List.take (0 : Nat) [] ++ kb).set (D.rnd a (↑(List.take (0 : Nat) [] ++ kb).length : Int)).toNat b)).length =
            (32 : Nat),
        Bts ((List.take (0 : Nat) [] ++ ka).set (D.rnd a (↑(List.take (0 : Nat) [] ++ ka).length : Int)).toNat b),
        Bts ((List.take (0 : Nat) [] ++ kb).set (D.rnd a (↑(List.take (0 : Nat) [] ++ kb).length : Int)).toNat b),
        ((List.take (0 : Nat) [] ++ ka).set (D.rnd a (↑(List.take (0 : Nat) [] ++ ka).length : Int)).toNat b).length ≤ (100000000 : Nat),
        ((List.take (0 : Nat) [] ++ kb).set (D.rnd a (↑(List.take (0 : Nat) [] ++ kb).length : Int)).toNat b).length ≤ (100000000 : Nat),
        ((List.take (0 : Nat) [] ++ ka).set (D.rnd a (↑(List.take (0 : Nat) [] ++ ka).length : Int)).toNat b).length =
          ((List.take (0 : Nat) [] ++ ka).set (D.rnd a (↑(List.take (0 : Nat) [] ++ ka).length : Int)).toNat b).length,
        ((List.take (0 : Nat) [] ++ kb).set (D.rnd a (↑(List.take (0 : Nat) [] ++ kb).length : Int)).toNat b).length =
          ((List.take (0 : Nat) [] ++ kb).set (D.rnd a (↑(List.take (0 : Nat) [] ++ kb).length : Int)).toNat b).length,
        (List.take (0 : Nat) [] ++ ka).set (D.rnd a (↑(List.take (0 : Nat) [] ++ ka).length : Int)).toNat b =
          (List.take (0 : Nat) [] ++ ka).set (D.rnd a (↑(List.take (0 : Nat) [] ++ ka).length : Int)).toNat b,
        (List.take (0 : Nat) [] ++ kb).set (D.rnd a (↑(List.take (0 : Nat) [] ++ kb).length : Int)).toNat b =
          (List.take (0 : Nat) [] ++ kb).set (D.rnd a (↑(List.take (0 : Nat) [] ++ kb).length : Int)).toNat b,
        ((List.take (0 : Nat) [] ++ ka).set (D.rnd a (↑(List.take (0 : Nat) [] ++ ka).length : Int)).toNat b).length ≤ (1000000000 : Nat),
        ((List.take (0 : Nat) [] ++ kb).set (D.rnd a (↑(List.take (0 : Nat) [] ++ kb).length : Int)).toNat b).length ≤ (1000000000 : Nat),
        ((List.take (0 : Nat) [] ++ ka).set (D.rnd a (↑(List.take (0 : Nat) [] ++ ka).length : Int)).toNat b).length =
          ((List.take (0 : Nat) [] ++ ka).set (D.rnd a (↑(List.take (0 : Nat) [] ++ ka).length : Int)).toNat b).length,
        (List.take (0 : Nat) [] ++ ka).set (D.rnd a (↑(List.take (0 : Nat) [] ++ ka).length : Int)).toNat b =
          (List.take (0 : Nat) [] ++ ka).set (D.rnd a (↑(List.take (0 : Nat) [] ++ ka).length : Int)).toNat b,
        ((List.take (0 : Nat) [] ++ kb).set (D.rnd a (↑(List.take (0 : Nat) [] ++ kb).length : Int)).toNat b).length =
          ((List.take (0 : Nat) [] ++ kb).set (D.rnd a (↑(List.take (0 : Nat) [] ++ kb).length : Int)).toNat b).length,
        (List.take (0 : Nat) [] ++ kb).set (D.rnd a (↑(List.take (0 : Nat) [] ++ kb).length : Int)).toNat b =
          (List.take (0 : Nat) [] ++ kb).set (D.rnd a (↑(List.take (0 : Nat) [] ++ kb).length : Int)).toNat b,
        (D.kb c ((List.take (0 : Nat) [] ++ kb).set (D.rnd a (↑(List.take (0 : Nat) [] ++ kb).length : Int)).toNat b)).length = (32 : Nat),
        (D.ka c ((List.take (0 : Nat) [] ++ kb).set (D.rnd a (↑(List.take (0 : Nat) [] ++ kb).length : Int)).toNat b)).length = (32 : Nat), Bts c, c.length = (32 : Nat),
        Bts ((List.take (0 : Nat) [] ++ kb).set (D.rnd a (↑(List.take (0 : Nat) [] ++ kb).length : Int)).toNat b),
        ((List.take (0 : Nat) [] ++ kb).set (D.rnd a (↑(List.take (0 : Nat) [] ++ kb).length : Int)).toNat b).length ≤ (100000000 : Nat), c = c,
        ((List.take (0 : Nat) [] ++ kb).set (D.rnd a (↑(List.take (0 : Nat) [] ++ kb).length : Int)).toNat b).length =
          ((List.take (0 : Nat) [] ++ kb).set (D.rnd a (↑(List.take (0 : Nat) [] ++ kb).length : Int)).toNat b).length,
        (List.take (0 : Nat) [] ++ kb).set (D.rnd a (↑(List.take (0 : Nat) [] ++ kb).length : Int)).toNat b =
          (List.take (0 : Nat) [] ++ kb).set (D.rnd a (↑(List.take (0 : Nat) [] ++ kb).length : Int)).toNat b,
        c.length = (32 : Nat), (D.kb c ((List.take (0 : Nat) [] ++ kb).set (D.rnd a (↑(List.take (0 : Nat) [] ++ kb).length : Int)).toNat b)).length = (32 : Nat),
        (D.ka c ((List.take (0 : Nat) [] ++ kb).set (D.rnd a (↑(List.take (0 : Nat) [] ++ kb).length : Int)).toNat b)).length = (32 : Nat), c.length = (32 : Nat),
        ((List.take (0 : Nat) [] ++ kb).set (D.rnd a (↑(List.take (0 : Nat) [] ++ kb).length : Int)).toNat b).length ≤ (1000000000 : Nat), c = c,
        ((List.take (0 : Nat) [] ++ kb).set (D.rnd a (↑(List.take (0 : Nat) [] ++ kb).length : Int)).toNat b).length =
          ((List.take (0 : Nat) [] ++ kb).set (D.rnd a (↑(List.take (0 : Nat) [] ++ kb).length : Int)).toNat b).length,
        (List.take (0 : Nat) [] ++ kb).set (D.rnd a (↑(List.take (0 : Nat) [] ++ kb).length : Int)).toNat b =
          (List.take (0 : Nat) [] ++ kb).set (D.rnd a (↑(List.take (0 : Nat) [] ++ kb).length : Int)).toNat b,
        c.length = (32 : Nat), (D.rnd a (↑(List.take (0 : Nat) [] ++ kb).length : Int)).toNat < (List.take (0 : Nat) [] ++ kb).length,
        (0 : Int) ≤ D.rnd a (↑(List.take (0 : Nat) [] ++ kb).length : Int) ∧ D.rnd a (↑(List.take (0 : Nat) [] ++ kb).length : Int) < (↑(List.take (0 : Nat) [] ++ kb).length : Int),
        (0 : Int) < (↑(List.take (0 : Nat) [] ++ kb).length : Int), (↑(List.take (0 : Nat) [] ++ kb).length : Int) ≤ (1000000 : Int), a = a,
        (↑(List.take (0 : Nat) [] ++ kb).length : Int) = (↑(List.take (0 : Nat) [] ++ kb).length : Int), decide ((↑(List.take (0 : Nat) [] ++ kb).length : Int) > (0 : Int)) = true,
        (!decide (D.kb c (List.take (0 : Nat) [] ++ kb) = D.kb c (List.take (0 : Nat) [] ++ kb))) = false,
        (D.kb c (List.take (0 : Nat) [] ++ kb)).length = (32 : Nat) ∧ (D.kb c (List.take (0 : Nat) [] ++ kb)).length = (32 : Nat), (D.kb c (List.take (0 : Nat) [] ++ kb)).length = (32 : Nat),
        (D.kb c (List.take (0 : Nat) [] ++ kb)).length = (32 : Nat), (!decide (D.ka c (List.take (0 : Nat) [] ++ kb) = D.ka c (List.take (0 : Nat) [] ++ kb))) = false,
        (D.ka c (List.take (0 : Nat) [] ++ kb)).length = (32 : Nat) ∧ (D.ka c (List.take (0 : Nat) [] ++ kb)).length = (32 : Nat), (D.ka c (List.take (0 : Nat) [] ++ kb)).length = (32 : Nat),
        (D.ka c (List.take (0 : Nat) [] ++ kb)).length = (32 : Nat),
        (!decide
              (D.hmac ((List.take (0 : Nat) [] ++ ka).set (D.rnd a (↑(List.take (0 : Nat) [] ++ ka).length : Int)).toNat b) (List.take (0 : Nat) [] ++ kb) =
                D.hmac ((List.take (0 : Nat) [] ++ ka).set (D.rnd a (↑(List.take (0 : Nat) [] ++ ka).length : Int)).toNat b) (List.take (0 : Nat) [] ++ kb))) =
          false,
        (D.hmac ((List.take (0 : Nat) [] ++ ka).set (D.rnd a (↑(List.take (0 : Nat) [] ++ ka).length : Int)).toNat b) (List.take (0 : Nat) [] ++ kb)).length = (32 : Nat) ∧
          (D.hmac ((List.take (0 : Nat) [] ++ ka).set (D.rnd a (↑(List.take (0 : Nat) [] ++ ka).length : Int)).toNat b) (List.take (0 : Nat) [] ++ kb)).length = (32 : Nat),
        Bts ((List.take (0 : Nat) [] ++ ka).set (D.rnd a (↑(List.take (0 : Nat) [] ++ ka).length : Int)).toNat b), Bts (List.take (0 : Nat) [] ++ kb),
        ((List.take (0 : Nat) [] ++ ka).set (D.rnd a (↑(List.take (0 : Nat) [] ++ ka).length : Int)).toNat b).length ≤ (100000000 : Nat), (List.take (0 : Nat) [] ++ kb).length ≤ (100000000 : Nat),
        ((List.take (0 : Nat) [] ++ ka).set (D.rnd a (↑(List.take (0 : Nat) [] ++ ka).length : Int)).toNat b).length =
          ((List.take (0 : Nat) [] ++ ka).set (D.rnd a (↑(List.take (0 : Nat) [] ++ ka).length : Int)).toNat b).length,
        (List.take (0 : Nat) [] ++ kb).length = (List.take (0 : Nat) [] ++ kb).length,
        (List.take (0 : Nat) [] ++ ka).set (D.rnd a (↑(List.take (0 : Nat) [] ++ ka).length : Int)).toNat b =
          (List.take (0 : Nat) [] ++ ka).set (D.rnd a (↑(List.take (0 : Nat) [] ++ ka).length : Int)).toNat b,
        List.take (0 : Nat) [] ++ kb = List.take (0 : Nat) [] ++ kb, ((List.take (0 : Nat) [] ++ ka).set (D.rnd a (↑(List.take (0 : Nat) [] ++ ka).length : Int)).toNat b).length ≤ (1000000000 : Nat),
        (List.take (0 : Nat) [] ++ kb).length ≤ (1000000000 : Nat),
        ((List.take (0 : Nat) [] ++ ka).set (D.rnd a (↑(List.take (0 : Nat) [] ++ ka).length : Int)).toNat b).length =
          ((List.take (0 : Nat) [] ++ ka).set (D.rnd a (↑(List.take (0 : Nat) [] ++ ka).length : Int)).toNat b).length,
        (List.take (0 : Nat) [] ++ ka).set (D.rnd a (↑(List.take (0 : Nat) [] ++ ka).length : Int)).toNat b =
          (List.take (0 : Nat) [] ++ ka).set (D.rnd a (↑(List.take (0 : Nat) [] ++ ka).length : Int)).toNat b,
        (List.take (0 : Nat) [] ++ kb).length = (List.take (0 : Nat) [] ++ kb).length, List.take (0 : Nat) [] ++ kb = List.take (0 : Nat) [] ++ kb,
        (D.kb c (List.take (0 : Nat) [] ++ kb)).length = (32 : Nat), (D.ka c (List.take (0 : Nat) [] ++ kb)).length = (32 : Nat), Bts c, c.length = (32 : Nat), Bts (List.take (0 : Nat) [] ++ kb),
        (List.take (0 : Nat) [] ++ kb).length ≤ (100000000 : Nat), c = c, (List.take (0 : Nat) [] ++ kb).length = (List.take (0 : Nat) [] ++ kb).length,
        List.take (0 : Nat) [] ++ kb = List.take (0 : Nat) [] ++ kb, c.length = (32 : Nat), (D.kb c (List.take (0 : Nat) [] ++ kb)).length = (32 : Nat),
        (D.ka c (List.take (0 : Nat) [] ++ kb)).length = (32 : Nat), c.length = (32 : Nat), (List.take (0 : Nat) [] ++ kb).length ≤ (1000000000 : Nat), c = c,
        (List.take (0 : Nat) [] ++ kb).length = (List.take (0 : Nat) [] ++ kb).length, List.take (0 : Nat) [] ++ kb = List.take (0 : Nat) [] ++ kb, c.length = (32 : Nat),
        (D.rnd a (↑(List.take (0 : Nat) [] ++ ka).length : Int)).toNat < (List.take (0 : Nat) [] ++ ka).length,
        (0 : Int) ≤ D.rnd a (↑(List.take (0 : Nat) [] ++ ka).length : Int) ∧ D.rnd a (↑(List.take (0 : Nat) [] ++ ka).length : Int) < (↑(List.take (0 : Nat) [] ++ ka).length : Int),
        (0 : Int) < (↑(List.take (0 : Nat) [] ++ ka).length : Int), (↑(List.take (0 : Nat) [] ++ ka).length : Int) ≤ (1000000 : Int), a = a,
        (↑(List.take (0 : Nat) [] ++ ka).length : Int) = (↑(List.take (0 : Nat) [] ++ ka).length : Int), decide ((↑(List.take (0 : Nat) [] ++ ka).length : Int) > (0 : Int)) = true,
        (!decide (D.kb c (List.take (0 : Nat) [] ++ kb) = D.kb c (List.take (0 : Nat) [] ++ kb))) = false,
        (D.kb c (List.take (0 : Nat) [] ++ kb)).length = (32 : Nat) ∧ (D.kb c (List.take (0 : Nat) [] ++ kb)).length = (32 : Nat), (D.kb c (List.take (0 : Nat) [] ++ kb)).length = (32 : Nat),
        (D.kb c (List.take (0 : Nat) [] ++ kb)).length = (32 : Nat), (!decide (D.ka c (List.take (0 : Nat) [] ++ kb) = D.ka c (List.take (0 : Nat) [] ++ kb))) = false,
        (D.ka c (List.take (0 : Nat) [] ++ kb)).length = (32 : Nat) ∧ (D.ka c (List.take (0 : Nat) [] ++ kb)).length = (32 : Nat), (D.ka c (List.take (0 : Nat) [] ++ kb)).length = (32 : Nat),
        (D.ka c (List.take (0 : Nat) [] ++ kb)).length = (32 : Nat),
        (!decide (D.hmac (List.take (0 : Nat) [] ++ ka) (List.take (0 : Nat) [] ++ kb) = D.hmac (List.take (0 : Nat) [] ++ ka) (List.take (0 : Nat) [] ++ kb))) = false,
        (D.hmac (List.take (0 : Nat) [] ++ ka) (List.take (0 : Nat) [] ++ kb)).length = (32 : Nat) ∧ (D.hmac (List.take (0 : Nat) [] ++ ka) (List.take (0 : Nat) [] ++ kb)).length = (32 : Nat),
        Bts (List.take (0 : Nat) [] ++ ka), Bts (List.take (0 : Nat) [] ++ kb), (List.take (0 : Nat) [] ++ ka).length ≤ (100000000 : Nat), (List.take (0 : Nat) [] ++ kb).length ≤ (100000000 : Nat),
        (List.take (0 : Nat) [] ++ ka).length = (List.take (0 : Nat) [] ++ ka).length, (List.take (0 : Nat) [] ++ kb).length = (List.take (0 : Nat) [] ++ kb).length,
        List.take (0 : Nat) [] ++ ka = List.take (0 : Nat) [] ++ ka, List.take (0 : Nat) [] ++ kb = List.take (0 : Nat) [] ++ kb, (List.take (0 : Nat) [] ++ ka).length ≤ (1000000000 : Nat),
        (List.take (0 : Nat) [] ++ kb).length ≤ (1000000000 : Nat), (List.take (0 : Nat) [] ++ ka).length = (List.take (0 : Nat) [] ++ ka).length,
        List.take (0 : Nat) [] ++ ka = List.take (0 : Nat) [] ++ ka, (List.take (0 : Nat) [] ++ kb).length = (List.take (0 : Nat) [] ++ kb).length,
        List.take (0 : Nat) [] ++ kb = List.take (0 : Nat) [] ++ kb, (D.kb c (List.take (0 : Nat) [] ++ kb)).length = (32 : Nat), (D.ka c (List.take (0 : Nat) [] ++ kb)).length = (32 : Nat), Bts c,
        c.length = (32 : Nat), Bts (List.take (0 : Nat) [] ++ kb), (List.take (0 : Nat) [] ++ kb).length ≤ (100000000 : Nat), c = c,
        (List.take (0 : Nat) [] ++ kb).length = (List.take (0 : Nat) [] ++ kb).length, List.take (0 : Nat) [] ++ kb = List.take (0 : Nat) [] ++ kb, c.length = (32 : Nat),
        (D.kb c (List.take (0 : Nat) [] ++ kb)).length = (32 : Nat), (D.ka c (List.take (0 : Nat) [] ++ kb)).length = (32 : Nat), c.length = (32 : Nat),
        (List.take (0 : Nat) [] ++ kb).length ≤ (1000000000 : Nat), c = c, (List.take (0 : Nat) [] ++ kb).length = (List.take (0 : Nat) [] ++ kb).length,
        List.take (0 : Nat) [] ++ kb = List.take (0 : Nat) [] ++ kb, c.length = (32 : Nat), ((0 : Nat) + kb.length) * (1 : Nat) ≤ (140737488355328 : Nat),
        ((0 : Nat) + ka.length) * (1 : Nat) ≤ (140737488355328 : Nat), decide ((↑m : Int) > (20000 : Int)) = false, decide ((↑n : Int) > (20000 : Int)) = false,
        decide (IntKind.i64.wrap ((↑n : Int) + (↑m : Int)) > (20000 : Int)) = false],
    val := SV.bool true true } := by kernel_rfl

theorem f3_4 (ka kb c : List Int) (a b : Int) (n m : Nat) :
  interp ΓF Tryz.f3 true [false, false, false, false, false, false, true, false, false, false, false, false, false, false] 3000 (f3Vs n m c a b) (f3T ka kb) 100 100 =
  some
  {
    obl :=
      [(!decide (D.kb c (List.take (0 : Nat) [] ++ kb) = D.kb c (List.take (0 : Nat) [] ++ kb))) = false,
        (D.kb c (List.take (0 : Nat) [] ++ kb)).length = (32 : Nat) ∧ (D.kb c (List.take (0 : Nat) [] ++ kb)).length = (32 : Nat), (D.kb c (List.take (0 : Nat) [] ++ kb)).length = (32 : Nat),
        (D.kb c (List.take (0 : Nat) [] ++ kb)).length = (32 : Nat), (!decide (D.ka c (List.take (0 : Nat) [] ++ kb) = D.ka c (List.take (0 : Nat) [] ++ kb))) = false,
        (D.ka c (List.take (0 : Nat) [] ++ kb)).length = (32 : Nat) ∧ (D.ka c (List.take (0 : Nat) [] ++ kb)).length = (32 : Nat), (D.ka c (List.take (0 : Nat) [] ++ kb)).length = (32 : Nat),
        (D.ka c (List.take (0 : Nat) [] ++ kb)).length = (32 : Nat),
        (!decide
              (D.hmac ((List.take (0 : Nat) [] ++ ka).set (D.rnd a (↑(List.take (0 : Nat) [] ++ ka).length : Int)).toNat b) (List.take (0 : Nat) [] ++ kb) =
                D.hmac ((List.take (0 : Nat) [] ++ ka).set (D.rnd a (↑(List.take (0 : Nat) [] ++ ka).length : Int)).toNat b) (List.take (0 : Nat) [] ++ kb))) =
          false,
        (D.hmac ((List.take (0 : Nat) [] ++ ka).set (D.rnd a (↑(List.take (0 : Nat) [] ++ ka).length : Int)).toNat b) (List.take (0 : Nat) [] ++ kb)).length = (32 : Nat) ∧
          (D.hmac ((List.take (0 : Nat) [] ++ ka).set (D.rnd a (↑(List.take (0 : Nat) [] ++ ka).length : Int)).toNat b) (List.take (0 : Nat) [] ++ kb)).length = (32 : Nat),
        Bts ((List.take (0 : Nat) [] ++ ka).set (D.rnd a (↑(List.take (0 : Nat) [] ++ ka).length : Int)).toNat b), Bts (List.take (0 : Nat) [] ++ kb),
        ((List.take (0 : Nat) [] ++ ka).set (D.rnd a (↑(List.take (0 : Nat) [] ++ ka).length : Int)).toNat b).length ≤ (100000000 : Nat), (List.take (0 : Nat) [] ++ kb).length ≤ (100000000 : Nat),
        ((List.take (0 : Nat) [] ++ ka).set (D.rnd a (↑(List.take (0 : Nat) [] ++ ka).length : Int)).toNat b).length =
          ((List.take (0 : Nat) [] ++ ka).set (D.rnd a (↑(List.take (0 : Nat) [] ++ ka).length : Int)).toNat b).length,
        (List.take (0 : Nat) [] ++ kb).length = (List.take (0 : Nat) [] ++ kb).length,
        (List.take (0 : Nat) [] ++ ka).set (D.rnd a (↑(List.take (0 : Nat) [] ++ ka).length : Int)).toNat b =
          (List.take (0 : Nat) [] ++ ka).set (D.rnd a (↑(List.take (0 : Nat) [] ++ ka).length : Int)).toNat b,
        List.take (0 : Nat) [] ++ kb = List.take (0 : Nat) [] ++ kb, ((List.take (0 : Nat) [] ++ ka).set (D.rnd a (↑(List.take (0 : Nat) [] ++ ka).length : Int)).toNat b).length ≤ (1000000000 : Nat),
        (List.take (0 : Nat) [] ++ kb).length ≤ (1000000000 : Nat),
        ((List.take (0 : Nat) [] ++ ka).set (D.rnd a (↑(List.take (0 : Nat) [] ++ ka).length : Int)).toNat b).length =
          ((List.take (0 : Nat) [] ++ ka).set (D.rnd a (↑(List.take (0 : Nat) [] ++ ka).length : Int)).toNat b).length,
        (List.take (0 : Nat) [] ++ ka).set (D.rnd a (↑(List.take (0 : Nat) [] ++ ka).length : Int)).toNat b =
          (List.take (0 : Nat) [] ++ ka).set (D.rnd a (↑(List.take (0 : Nat) [] ++ ka).length : Int)).toNat b,
        (List.take (0 : Nat) [] ++ kb).length = (List.take (0 : Nat) [] ++ kb).length, List.take (0 : Nat) [] ++ kb = List.take (0 : Nat) [] ++ kb,
        (D.kb c (List.take (0 : Nat) [] ++ kb)).length = (32 : Nat), (D.ka c (List.take (0 : Nat) [] ++ kb)).length = (32 : Nat), Bts c, c.length = (32 : Nat), Bts (List.take (0 : Nat) [] ++ kb),
        (List.take (0 : Nat) [] ++ kb).length ≤ (100000000 : Nat), c = c, (List.take (0 : Nat) [] ++ kb).length = (List.take (0 : Nat) [] ++ kb).length,
        List.take (0 : Nat) [] ++ kb = List.take (0 : Nat) [] ++ kb, c.length = (32 : Nat), (D.kb c (List.take (0 : Nat) [] ++ kb)).length = (32 : Nat),
        (D.ka c (List.take (0 : Nat) [] ++ kb)).length = (32 : Nat), c.length = (32 : Nat), (List.take (0 : Nat) [] ++ kb).length ≤ (1000000000 : Nat), c = c,
        (List.take (0 : Nat) [] ++ kb).length = (List.take (0 : Nat) [] ++ kb).length, List.take (0 : Nat) [] ++ kb = List.take (0 : Nat) [] ++ kb, c.length = (32 : Nat),
        decide ((↑(List.take (0 : Nat) [] ++ kb).length : Int) > (0 : Int)) = false, (!decide (D.kb c (List.take (0 : Nat) [] ++ kb) = D.kb c (List.take (0 : Nat) [] ++ kb))) = false,
        (D.kb c (List.take (0 : Nat) [] ++ kb)).length = (32 : Nat) ∧ (D.kb c (List.take (0 : Nat) [] ++ kb)).length = (32 : Nat), (D.kb c (List.take (0 : Nat) [] ++ kb)).length = (32 : Nat),
        (D.kb c (List.take (0 : Nat) [] ++ kb)).length = (32 : Nat), (!decide (D.ka c (List.take (0 : Nat) [] ++ kb) = D.ka c (List.take (0 : Nat) [] ++ kb))) = false,
        (D.ka c (List.take (0 : Nat) [] ++ kb)).length = (32 : Nat) ∧ (D.ka c (List.take (0 : Nat) [] ++ kb)).length = (32 : Nat), (D.ka c (List.take (0 : Nat) [] ++ kb)).length = (32 : Nat),
        (D.ka c (List.take (0 : Nat) [] ++ kb)).length = (32 : Nat),
        (!decide
              (D.hmac ((List.take (0 : Nat) [] ++ ka).set (D.rnd a (↑(List.take (0 : Nat) [] ++ ka).length : Int)).toNat b) (List.take (0 : Nat) [] ++ kb) =
                D.hmac ((List.take (0 : Nat) [] ++ ka).set (D.rnd a (↑(List.take (0 : Nat) [] ++ ka).length : Int)).toNat b) (List.take (0 : Nat) [] ++ kb))) =
          false,
        (D.hmac ((List.take (0 : Nat) [] ++ ka).set (D.rnd a (↑(List.take (0 : Nat) [] ++ ka).length : Int)).toNat b) (List.take (0 : Nat) [] ++ kb)).length = (32 : Nat) ∧
          (D.hmac ((List.take (0 : Nat) [] ++ ka).set (D.rnd a (↑(List.take (0 : Nat) [] ++ ka).length : Int)).toNat b) (List.take (0 : Nat) [] ++ kb)).length = (32 : Nat),
        Bts ((List.take (0 : Nat) [] ++ ka).set (D.rnd a (↑(List.take (0 : Nat) [] ++ ka).length : Int)).toNat b), Bts (List.take (0 : Nat) [] ++ kb),
        ((List.take (0 : Nat) [] ++ ka).set (D.rnd a (↑(List.take (0 : Nat) [] ++ ka).length : Int)).toNat b).length ≤ (100000000 : Nat), (List.take (0 : Nat) [] ++ kb).length ≤ (100000000 : Nat),
        ((List.take (0 : Nat) [] ++ ka).set (D.rnd a (↑(List.take (0 : Nat) [] ++ ka).length : Int)).toNat b).length =
          ((List.take (0 : Nat) [] ++ ka).set (D.rnd a (↑(List.take (0 : Nat) [] ++ ka).length : Int)).toNat b).length,
        (List.take (0 : Nat) [] ++ kb).length = (List.take (0 : Nat) [] ++ kb).length,
        (List.take (0 : Nat) [] ++ ka).set (D.rnd a (↑(List.take (0 : Nat) [] ++ ka).length : Int)).toNat b =
          (List.take (0 : Nat) [] ++ ka).set (D.rnd a (↑(List.take (0 : Nat) [] ++ ka).length : Int)).toNat b,
        List.take (0 : Nat) [] ++ kb = List.take (0 : Nat) [] ++ kb, ((List.take (0 : Nat) [] ++ ka).set (D.rnd a (↑(List.take (0 : Nat) [] ++ ka).length : Int)).toNat b).length ≤ (1000000000 : Nat),
        (List.take (0 : Nat) [] ++ kb).length ≤ (1000000000 : Nat),
        ((List.take (0 : Nat) [] ++ ka).set (D.rnd a (↑(List.take (0 : Nat) [] ++ ka).length : Int)).toNat b).length =
          ((List.take (0 : Nat) [] ++ ka).set (D.rnd a (↑(List.take (0 : Nat) [] ++ ka).length : Int)).toNat b).length,
        (List.take (0 : Nat) [] ++ ka).set (D.rnd a (↑(List.take (0 : Nat) [] ++ ka).length : Int)).toNat b =
          (List.take (0 : Nat) [] ++ ka).set (D.rnd a (↑(List.take (0 : Nat) [] ++ ka).length : Int)).toNat b,
        (List.take (0 : Nat) [] ++ kb).length = (List.take (0 : Nat) [] ++ kb).length, List.take (0 : Nat) [] ++ kb = List.take (0 : Nat) [] ++ kb,
        (D.kb c (List.take (0 : Nat) [] ++ kb)).length = (32 : Nat), (D.ka c (List.take (0 : Nat) [] ++ kb)).length = (32 : Nat), Bts c, c.length = (32 : Nat), Bts (List.take (0 : Nat) [] ++ kb),
        (List.take (0 : Nat) [] ++ kb).length ≤ (100000000 : Nat), c = c, (List.take (0 : Nat) [] ++ kb).length = (List.take (0 : Nat) [] ++ kb).length,
        List.take (0 : Nat) [] ++ kb = List.take (0 : Nat) [] ++ kb, c.length = (32 : Nat), (D.kb c (List.take (0 : Nat) [] ++ kb)).length = (32 : Nat),
        (D.ka c (List.take (0 : Nat) [] ++ kb)).length = (32 : Nat), c.length = (32 : Nat), (List.take (0 : Nat) [] ++ kb).length ≤ (1000000000 : Nat), c = c,
        (List.take (0 : Nat) [] ++ kb).length = (List.take (0 : Nat) [] ++ kb).length, List.take (0 : Nat) [] ++ kb = List.take (0 : Nat) [] ++ kb, c.length = (32 : Nat),
        (D.rnd a (↑(List.take (0 : Nat) [] ++ ka).length : Int)).toNat < (List.take (0 : Nat) [] ++ ka).length,
        (0 : Int) ≤ D.rnd a (↑(List.take (0 : Nat) [] ++ ka).length : Int) ∧ D.rnd a (↑(List.take (0 : Nat) [] ++ ka).length : Int) < (↑(List.take (0 : Nat) [] ++ ka).length : Int),
        (0 : Int) < (↑(List.take (0 : Nat) [] ++ ka).length : Int), (↑(List.take (0 : Nat) [] ++ ka).length : Int) ≤ (1000000 : Int), a = a,
        (↑(List.take (0 : Nat) [] ++ ka).length : Int) = (↑(List.take (0 : Nat) [] ++ ka).length : Int), decide ((↑(List.take (0 : Nat) [] ++ ka).length : Int) > (0 : Int)) = true,
        (!decide (D.kb c (List.take (0 : Nat) [] ++ kb) = D.kb c (List.take (0 : Nat) [] ++ kb))) = false,
        (D.kb c (List.take (0 : Nat) [] ++ kb)).length = (32 : Nat) ∧ (D.kb c (List.take (0 : Nat) [] ++ kb)).length = (32 : Nat), (D.kb c (List.take (0 : Nat) [] ++ kb)).length = (32 : Nat),
        (D.kb c (List.take (0 : Nat) [] ++ kb)).length = (32 : Nat), (!decide (D.ka c (List.take (0 : Nat) [] ++ kb) = D.ka c (List.take (0 : Nat) [] ++ kb))) = false,
        (D.ka c (List.take (0 : Nat) [] ++ kb)).length = (32 : Nat) ∧ (D.ka c (List.take (0 : Nat) [] ++ kb)).length = (32 : Nat), (D.ka c (List.take (0 : Nat) [] ++ kb)).length = (32 : Nat),
        (D.ka c (List.take (0 : Nat) [] ++ kb)).length = (32 : Nat),
        (!decide (D.hmac (List.take (0 : Nat) [] ++ ka) (List.take (0 : Nat) [] ++ kb) = D.hmac (List.take (0 : Nat) [] ++ ka) (List.take (0 : Nat) [] ++ kb))) = false,
        (D.hmac (List.take (0 : Nat) [] ++ ka) (List.take (0 : Nat) [] ++ kb)).length = (32 : Nat) ∧ (D.hmac (List.take (0 : Nat) [] ++ ka) (List.take (0 : Nat) [] ++ kb)).length = (32 : Nat),
        Bts (List.take (0 : Nat) [] ++ ka), Bts (List.take (0 : Nat) [] ++ kb), (List.take (0 : Nat) [] ++ ka).length ≤ (100000000 : Nat), (List.take (0 : Nat) [] ++ kb).length ≤ (100000000 : Nat),
        (List.take (0 : Nat) [] ++ ka).length = (List.take (0 : Nat) [] ++ ka).length, (List.take (0 : Nat) [] ++ kb).length = (List.take (0 : Nat) [] ++ kb).length,
        List.take (0 : Nat) [] ++ ka = List.take (0 : Nat) [] ++ ka, List.take (0 : Nat) [] ++ kb = List.take (0 : Nat) [] ++ kb, (List.take (0 : Nat) [] ++ ka).length ≤ (1000000000 : Nat),
        (List.take (0 : Nat) [] ++ kb).length ≤ (1000000000 : Nat), (List.take (0 : Nat) [] ++ ka).length = (List.take (0 : Nat) [] ++ ka).length,
        List.take (0 : Nat) [] ++ ka = List.take (0 : Nat) [] ++ ka, (List.take (0 : Nat) [] ++ kb).length = (List.take (0 : Nat) [] ++ kb).length,
        List.take (0 : Nat) [] ++ kb = List.take (0 : Nat) [] ++ kb, (D.kb c (List.take (0 : Nat) [] ++ kb)).length = (32 : Nat), (D.ka c (List.take (0 : Nat) [] ++ kb)).length = (32 : Nat), Bts c,
        c.length = (32 : Nat), Bts (List.take (0 : Nat) [] ++ kb), (List.take (0 : Nat) [] ++ kb).length ≤ (100000000 : Nat), c = c,
        (List.take (0 : Nat) [] ++ kb).length = (List.take (0 : Nat) [] ++ kb).length, List.take (0 : Nat) [] ++ kb = List.take (0 : Nat) [] ++ kb, c.length = (32 : Nat),
        (D.kb c (List.take (0 : Nat) [] ++ kb)).length = (32 : Nat), (D.ka c (List.take (0 : Nat) [] ++ kb)).length = (32 : Nat), c.length = (32 : Nat),
        (List.take (0 : Nat) [] ++ kb).length ≤ (1000000000 : Nat), c = c, (List.take (0 : Nat) [] ++ kb).length = (List.take (0 : Nat) [] ++ kb).length,
        List.take (0 : Nat) [] ++ kb = List.take (0 : Nat) [] ++ kb, c.length = (32 : Nat), ((0 : Nat) + kb.length) * (1 : Nat) ≤ (140737488355328 : Nat),
        ((0 : Nat) + ka.length) * (1 : Nat) ≤ (140737488355328 : Nat), decide ((↑m : Int) > (20000 : Int)) = false, decide ((↑n : Int) > (20000 : Int)) = false,
        decide (IntKind.i64.wrap ((↑n : Int) + (↑m : Int)) > (20000 : Int)) = false],
    val := SV.bool true true } := by kernel_rfl

theorem f3_5 (ka kb c : List Int) (a b : Int) (n m : Nat) :
  interp ΓF Tryz.f3 true [false, false, false, false, false, false, false, false, false, false, true, false, false, false] 3000 (f3Vs n m c a b) (f3T ka kb) 100 100 =
  some
  {
    obl :=
      [(!decide
              (D.kb c ((List.take (0 : Nat) [] ++ kb).set (D.rnd a (↑(List.take (0 : Nat) [] ++ kb).length : Int)).toNat b) =
                D.kb c ((List.take (0 : Nat) [] ++ kb).set (D.rnd a (↑(List.take (0 : Nat) [] ++ kb).length : Int)).toNat b))) =
          false,
        (D.kb c ((List.take (0 : Nat) [] ++ kb).set (D.rnd a (↑(List.take (0 : Nat) [] ++ kb).length : Int)).toNat b)).length = (32 : Nat) ∧
          (D.kb c ((List.take (0 : Nat) [] ++ kb).set (D.rnd a (↑(List.take (0 : Nat) [] ++ kb).length : Int)).toNat b)).length = (32 : Nat),
        (D.kb c ((List.take (0 : Nat) [] ++ kb).set (D.rnd a (↑(List.take (0 : Nat) [] ++ kb).length : Int)).toNat b)).length = (32 : Nat),
        (D.kb c ((List.take (0 : Nat) [] ++ kb).set (D.rnd a (↑(List.take (0 : Nat) [] ++ kb).length : Int)).toNat b)).length = (32 : Nat),
        (!decide
              (D.ka c ((List.take (0 : Nat) [] ++ kb).set (D.rnd a (↑(List.take (0 : Nat) [] ++ kb).length : Int)).toNat b) =
                D.ka c ((List.take (0 : Nat) [] ++ kb).set (D.rnd a (↑(List.take (0 : Nat) [] ++ kb).length : Int)).toNat b))) =
          false,
        (D.ka c ((List.take (0 : Nat) [] ++ kb).set (D.rnd a (↑(List.take (0 : Nat) [] ++ kb).length : Int)).toNat b)).length = (32 : Nat) ∧
          (D.ka c ((List.take (0 : Nat) [] ++ kb).set (D.rnd a (↑(List.take (0 : Nat) [] ++ kb).length : Int)).toNat b)).length = (32 : Nat),
        (D.ka c ((List.take (0 : Nat) [] ++ kb).set (D.rnd a (↑(List.take (0 : Nat) [] ++ kb).length : Int)).toNat b)).length = (32 : Nat),
        (D.ka c ((List.take (0 : Nat) [] ++ kb).set (D.rnd a (↑(List.take (0 : Nat) [] ++ kb).length : Int)).toNat b)).length = (32 : Nat),
        (!decide
              (D.hmac (List.take (0 : Nat) [] ++ ka) ((List.take (0 : Nat) [] ++ kb).set (D.rnd a (↑(List.take (0 : Nat) [] ++ kb).length : Int)).toNat b) =
                D.hmac (List.take (0 : Nat) [] ++ ka) ((List.take (0 : Nat) [] ++ kb).set (D.rnd a (↑(List.take (0 : Nat) [] ++ kb).length : Int)).toNat b))) =
          false,
        (D.hmac (List.take (0 : Nat) [] ++ ka) ((List.take (0 : Nat) [] ++ kb).set (D.rnd a (↑(List.take (0 : Nat) [] ++ kb).length : Int)).toNat b)).length = (32 : Nat) ∧
          (D.hmac (List.take (0 : Nat) [] ++ ka) ((List.take (0 : Nat) [] ++ kb).set (D.rnd a (↑(List.take (0 : Nat) [] ++ kb).length : Int)).toNat b)).length = (32 : Nat),
        Bts (List.take (0 : Nat) [] ++ ka), Bts ((List.take (0 : Nat) [] ++ kb).set (D.rnd a (↑(List.take (0 : Nat) [] ++ kb).length : Int)).toNat b),
        (List.take (0 : Nat) [] ++ ka).length ≤ (100000000 : Nat), ((List.take (0 : Nat) [] ++ kb).set (D.rnd a (↑(List.take (0 : Nat) [] ++ kb).length : Int)).toNat b).length ≤ (100000000 : Nat),
        (List.take (0 : Nat) [] ++ ka).length = (List.take (0 : Nat) [] ++ ka).length,
        ((List.take (0 : Nat) [] ++ kb).set (D.rnd a (↑(List.take (0 : Nat) [] ++ kb).length : Int)).toNat b).length =
          ((List.take (0 : Nat) [] ++ kb).set (D.rnd a (↑(List.take (0 : Nat) [] ++ kb).length : Int)).toNat b).length,
        List.take (0 : Nat) [] ++ ka = List.take (0 : Nat) [] ++ ka,
        (List.take (0 : Nat) [] ++ kb).set (D.rnd a (↑(List.take (0 : Nat) [] ++ kb).length : Int)).toNat b =
          (List.take (0 : Nat) [] ++ kb).set (D.rnd a (↑(List.take (0 : Nat) [] ++ kb).length : Int)).toNat b,
        (List.take (0 : Nat) [] ++ ka).length ≤ (1000000000 : Nat), ((List.take (0 : Nat) [] ++ kb).set (D.rnd a (↑(List.take (0 : Nat) [] ++ kb).length : Int)).toNat b).length ≤ (1000000000 : Nat),
        (List.take (0 : Nat) [] ++ ka).length = (List.take (0 : Nat) [] ++ ka).length, List.take (0 : Nat) [] ++ ka = List.take (0 : Nat) [] ++ ka,
        ((List.take (0 : Nat) [] ++ kb).set (D.rnd a (↑(List.take (0 : Nat) [] ++ kb).length : Int)).toNat b).length =
          ((List.take (0 : Nat) [] ++ kb).set (D.rnd a (↑(List.take (0 : Nat) [] ++ kb).length : Int)).toNat b).length,
        (List.take (0 : Nat) [] ++ kb).set (D.rnd a (↑(List.take (0 : Nat) [] ++ kb).length : Int)).toNat b =
          (List.take (0 : Nat) [] ++ kb).set (D.rnd a (↑(List.take (0 : Nat) [] ++ kb).length : Int)).toNat b,
        (D.kb c ((List.take (0 : Nat) [] ++ kb).set (D.rnd a (↑(List.take (0 : Nat) [] ++ kb).length : Int)).toNat b)).length = (32 : Nat),
        (D.ka c ((List.take (0 : Nat) [] ++ kb).set (D.rnd a (↑(List.take (0 : Nat) [] ++ kb).length : Int)).toNat b)).length = (32 : Nat), Bts c, c.length = (32 : Nat),
        Bts ((List.take (0 : Nat) [] ++ kb).set (D.rnd a (↑(List.take (0 : Nat) [] ++ kb).length : Int)).toNat b),
        ((List.take (0 : Nat) [] ++ kb).set (D.rnd a (↑(List.take (0 : Nat) [] ++ kb).length : Int)).toNat b).length ≤ (100000000 : Nat), c = c,
        ((List.take (0 : Nat) [] ++ kb).set (D.rnd a (↑(List.take (0 : Nat) [] ++ kb).length : Int)).toNat b).length =
          ((List.take (0 : Nat) [] ++ kb).set (D.rnd a (↑(List.take (0 : Nat) [] ++ kb).length : Int)).toNat b).length,
        (List.take (0 : Nat) [] ++ kb).set (D.rnd a (↑(List.take (0 : Nat) [] ++ kb).length : Int)).toNat b =
          (List.take (0 : Nat) [] ++ kb).set (D.rnd a (↑(List.take (0 : Nat) [] ++ kb).length : Int)).toNat b,
        c.length = (32 : Nat), (D.kb c ((List.take (0 : Nat) [] ++ kb).set (D.rnd a (↑(List.take (0 : Nat) [] ++ kb).length : Int)).toNat b)).length = (32 : Nat),
        (D.ka c ((List.take (0 : Nat) [] ++ kb).set (D.rnd a (↑(List.take (0 : Nat) [] ++ kb).length : Int)).toNat b)).length = (32 : Nat), c.length = (32 : Nat),
        ((List.take (0 : Nat) [] ++ kb).set (D.rnd a (↑(List.take (0 : Nat) [] ++ kb).length : Int)).toNat b).length ≤ (1000000000 : Nat), c = c,
        ((List.take (0 : Nat) [] ++ kb).set (D.rnd a (↑(List.take (0 : Nat) [] ++ kb).length : Int)).toNat b).length =
          ((List.take (0 : Nat) [] ++ kb).set (D.rnd a (↑(List.take (0 : Nat) [] ++ kb).length : Int)).toNat b).length,
        (List.take (0 : Nat) [] ++ kb).set (D.rnd a (↑(List.take (0 : Nat) [] ++ kb).length : Int)).toNat b =
          (List.take (0 : Nat) [] ++ kb).set (D.rnd a (↑(List.take (0 : Nat) [] ++ kb).length : Int)).toNat b,
        c.length = (32 : Nat), (D.rnd a (↑(List.take (0 : Nat) [] ++ kb).length : Int)).toNat < (List.take (0 : Nat) [] ++ kb).length,
        (0 : Int) ≤ D.rnd a (↑(List.take (0 : Nat) [] ++ kb).length : Int) ∧ D.rnd a (↑(List.take (0 : Nat) [] ++ kb).length : Int) < (↑(List.take (0 : Nat) [] ++ kb).length : Int),
        (0 : Int) < (↑(List.take (0 : Nat) [] ++ kb).length : Int), (↑(List.take (0 : Nat) [] ++ kb).length : Int) ≤ (1000000 : Int), a = a,
        (↑(List.take (0 : Nat) [] ++ kb).length : Int) = (↑(List.take (0 : Nat) [] ++ kb).length : Int), decide ((↑(List.take (0 : Nat) [] ++ kb).length : Int) > (0 : Int)) = true,
        (!decide (D.kb c (List.take (0 : Nat) [] ++ kb) = D.kb c (List.take (0 : Nat) [] ++ kb))) = false,
        (D.kb c (List.take (0 : Nat) [] ++ kb)).length = (32 : Nat) ∧ (D.kb c (List.take (0 : Nat) [] ++ kb)).length = (32 : Nat), (D.kb c (List.take (0 : Nat) [] ++ kb)).length = (32 : Nat),
        (D.kb c (List.take (0 : Nat) [] ++ kb)).length = (32 : Nat), (!decide (D.ka c (List.take (0 : Nat) [] ++ kb) = D.ka c (List.take (0 : Nat) [] ++ kb))) = false,
        (D.ka c (List.take (0 : Nat) [] ++ kb)).length = (32 : Nat) ∧ (D.ka c (List.take (0 : Nat) [] ++ kb)).length = (32 : Nat), (D.ka c (List.take (0 : Nat) [] ++ kb)).length = (32 : Nat),
        (D.ka c (List.take (0 : Nat) [] ++ kb)).length = (32 : Nat),
        (!decide (D.hmac (List.take (0 : Nat) [] ++ ka) (List.take (0 : Nat) [] ++ kb) = D.hmac (List.take (0 : Nat) [] ++ ka) (List.take (0 : Nat) [] ++ kb))) = false,
        (D.hmac (List.take (0 : Nat) [] ++ ka) (List.take (0 : Nat) [] ++ kb)).length = (32 : Nat) ∧ (D.hmac (List.take (0 : Nat) [] ++ ka) (List.take (0 : Nat) [] ++ kb)).length = (32 : Nat),
        Bts (List.take (0 : Nat) [] ++ ka), Bts (List.take (0 : Nat) [] ++ kb), (List.take (0 : Nat) [] ++ ka).length ≤ (100000000 : Nat), (List.take (0 : Nat) [] ++ kb).length ≤ (100000000 : Nat),
        (List.take (0 : Nat) [] ++ ka).length = (List.take (0 : Nat) [] ++ ka).length, (List.take (0 : Nat) [] ++ kb).length = (List.take (0 : Nat) [] ++ kb).length,
        List.take (0 : Nat) [] ++ ka = List.take (0 : Nat) [] ++ ka, List.take (0 : Nat) [] ++ kb = List.take (0 : Nat) [] ++ kb, (List.take (0 : Nat) [] ++ ka).length ≤ (1000000000 : Nat),
        (List.take (0 : Nat) [] ++ kb).length ≤ (1000000000 : Nat), (List.take (0 : Nat) [] ++ ka).length = (List.take (0 : Nat) [] ++ ka).length,
        List.take (0 : Nat) [] ++ ka = List.take (0 : Nat) [] ++ ka, (List.take (0 : Nat) [] ++ kb).length = (List.take (0 : Nat) [] ++ kb).length,
        List.take (0 : Nat) [] ++ kb = List.take (0 : Nat) [] ++ kb, (D.kb c (List.take (0 : Nat) [] ++ kb)).length = (32 : Nat), (D.ka c (List.take (0 : Nat) [] ++ kb)).length = (32 : Nat), Bts c,
        c.length = (32 : Nat), Bts (List.take (0 : Nat) [] ++ kb), (List.take (0 : Nat) [] ++ kb).length ≤ (100000000 : Nat), c = c,
        (List.take (0 : Nat) [] ++ kb).length = (List.take (0 : Nat) [] ++ kb).length, List.take (0 : Nat) [] ++ kb = List.take (0 : Nat) [] ++ kb, c.length = (32 : Nat),
        (D.kb c (List.take (0 : Nat) [] ++ kb)).length = (32 : Nat), (D.ka c (List.take (0 : Nat) [] ++ kb)).length = (32 : Nat), c.length = (32 : Nat),
        (List.take (0 : Nat) [] ++ kb).length ≤ (1000000000 : Nat), c = c, (List.take (0 : Nat) [] ++ kb).length = (List.take (0 : Nat) [] ++ kb).length,
        List.take (0 : Nat) [] ++ kb = List.take (0 : Nat) [] ++ kb, c.length = (32 : Nat), decide ((↑(List.take (0 : Nat) [] ++ ka).length : Int) > (0 : Int)) = false,
        (!decide (D.kb c (List.take (0 : Nat) [] ++ kb) = D.kb c (List.take (0 : Nat) [] ++ kb))) = false,
        (D.kb c (List.take (0 : Nat) [] ++ kb)).length = (32 : Nat) ∧ (D.kb c (List.take (0 : Nat) [] ++ kb)).length = (32 : Nat), (D.kb c (List.take (0 : Nat) [] ++ kb)).length = (32 : Nat),
        (D.kb c (List.take (0 : Nat) [] ++ kb)).length = (32 : Nat), (!decide (D.ka c (List.take (0 : Nat) [] ++ kb) = D.ka c (List.take (0 : Nat) [] ++ kb))) = false,
        (D.ka c (List.take (0 : Nat) [] ++ kb)).length = (32 : Nat) ∧ (D.ka c (List.take (0 : Nat) [] ++ kb)).length = (32 : Nat), (D.ka c (List.take (0 : Nat) [] ++ kb)).length = (32 : Nat),
        (D.ka c (List.take (0 : Nat) [] ++ kb)).length = (32 : Nat),
        (!decide (D.hmac (List.take (0 : Nat) [] ++ ka) (List.take (0 : Nat) [] ++ kb) = D.hmac (List.take (0 : Nat) [] ++ ka) (List.take (0 : Nat) [] ++ kb))) = false,
        (D.hmac (List.take (0 : Nat) [] ++ ka) (List.take (0 : Nat) [] ++ kb)).length = (32 : Nat) ∧ (D.hmac (List.take (0 : Nat) [] ++ ka) (List.take (0 : Nat) [] ++ kb)).length = (32 : Nat),
        Bts (List.take (0 : Nat) [] ++ ka), Bts (List.take (0 : Nat) [] ++ kb), (List.take (0 : Nat) [] ++ ka).length ≤ (100000000 : Nat), (List.take (0 : Nat) [] ++ kb).length ≤ (100000000 : Nat),
        (List.take (0 : Nat) [] ++ ka).length = (List.take (0 : Nat) [] ++ ka).length, (List.take (0 : Nat) [] ++ kb).length = (List.take (0 : Nat) [] ++ kb).length,
        List.take (0 : Nat) [] ++ ka = List.take (0 : Nat) [] ++ ka, List.take (0 : Nat) [] ++ kb = List.take (0 : Nat) [] ++ kb, (List.take (0 : Nat) [] ++ ka).length ≤ (1000000000 : Nat),
        (List.take (0 : Nat) [] ++ kb).length ≤ (1000000000 : Nat), (List.take (0 : Nat) [] ++ ka).length = (List.take (0 : Nat) [] ++ ka).length,
        List.take (0 : Nat) [] ++ ka = List.take (0 : Nat) [] ++ ka, (List.take (0 : Nat) [] ++ kb).length = (List.take (0 : Nat) [] ++ kb).length,
        List.take (0 : Nat) [] ++ kb = List.take (0 : Nat) [] ++ kb, (D.kb c (List.take (0 : Nat) [] ++ kb)).length = (32 : Nat), (D.ka c (List.take (0 : Nat) [] ++ kb)).length = (32 : Nat), Bts c,
        c.length = (32 : Nat), Bts (List.take (0 : Nat) [] ++ kb), (List.take (0 : Nat) [] ++ kb).length ≤ (100000000 : Nat), c = c,
        (List.take (0 : Nat) [] ++ kb).length = (List.take (0 : Nat) [] ++ kb).length, List.take (0 : Nat) [] ++ kb = List.take (0 : Nat) [] ++ kb, c.length = (32 : Nat),
        (D.kb c (List.take (0 : Nat) [] ++ kb)).length = (32 : Nat), (D.ka c (List.take (0 : Nat) [] ++ kb)).length = (32 : Nat), c.length = (32 : Nat),
        (List.take (0 : Nat) [] ++ kb).length ≤ (1000000000 : Nat), c = c, (List.take (0 : Nat) [] ++ kb).length = (List.take (0 : Nat) [] ++ kb).length,
        List.take (0 : Nat) [] ++ kb = List.take (0 : Nat) [] ++ kb, c.length = (32 : Nat), ((0 : Nat) + kb.length) * (1 : Nat) ≤ (140737488355328 : Nat),
        ((0 : Nat) + ka.length) * (1 : Nat) ≤ (140737488355328 : Nat), decide ((↑m : Int) > (20000 : Int)) = false, decide ((↑n : Int) > (20000 : Int)) = false,
        decide (IntKind.i64.wrap ((↑n : Int) + (↑m : Int)) > (20000 : Int)) = false],
    val := SV.bool true true } := by kernel_rfl

theorem f3_6 (ka kb c : List Int) (a b : Int) (n m : Nat) :
  interp ΓF Tryz.f3 true [false, false, false, false, false, false, false, false, false, false, false, false, false, false] 3000 (f3Vs n m c a b) (f3T ka kb) 100 100 =
  some
  {
    obl :=
      [(!decide (D.kb c (List.take (0 : Nat) [] ++ kb) = D.kb c (List.take (0 : Nat) [] ++ kb))) = false,
        (D.kb c (List.take (0 : Nat) [] ++ kb)).length = (32 : Nat) ∧ (D.kb c (List.take (0 : Nat) [] ++ kb)).length = (32 : Nat), (D.kb c (List.take (0 : Nat) [] ++ kb)).length = (32 : Nat),
        (D.kb c (List.take (0 : Nat) [] ++ kb)).length = (32 : Nat), (!decide (D.ka c (List.take (0 : Nat) [] ++ kb) = D.ka c (List.take (0 : Nat) [] ++ kb))) = false,
        (D.ka c (List.take (0 : Nat) [] ++ kb)).length = (32 : Nat) ∧ (D.ka c (List.take (0 : Nat) [] ++ kb)).length = (32 : Nat), (D.ka c (List.take (0 : Nat) [] ++ kb)).length = (32 : Nat),
        (D.ka c (List.take (0 : Nat) [] ++ kb)).length = (32 : Nat),
        (!decide (D.hmac (List.take (0 : Nat) [] ++ ka) (List.take (0 : Nat) [] ++ kb) = D.hmac (List.take (0 : Nat) [] ++ ka) (List.take (0 : Nat) [] ++ kb))) = false,
        (D.hmac (List.take (0 : Nat) [] ++ ka) (List.take (0 : Nat) [] ++ kb)).length = (32 : Nat) ∧ (D.hmac (List.take (0 : Nat) [] ++ ka) (List.take (0 : Nat) [] ++ kb)).length = (32 : Nat),
        Bts (List.take (0 : Nat) [] ++ ka), Bts (List.take (0 : Nat) [] ++ kb), (List.take (0 : Nat) [] ++ ka).length ≤ (100000000 : Nat), (List.take (0 : Nat) [] ++ kb).length ≤ (100000000 : Nat),
        (List.take (0 : Nat) [] ++ ka).length = (List.take (0 : Nat) [] ++ ka).length, (List.take (0 : Nat) [] ++ kb).length = (List.take (0 : Nat) [] ++ kb).length,
        List.take (0 : Nat) [] ++ ka = List.take (0 : Nat) [] ++ ka, List.take (0 : Nat) [] ++ kb = List.take (0 : Nat) [] ++ kb, (List.take (0 : Nat) [] ++ ka).length ≤ (1000000000 : Nat),
        (List.take (0 : Nat) [] ++ kb).length ≤ (1000000000 : Nat), (List.take (0 : Nat) [] ++ ka).length = (List.take (0 : Nat) [] ++ ka).length,
        List.take (0 : Nat) [] ++ ka = List.take (0 : Nat) [] ++ ka, (List.take (0 : Nat) [] ++ kb).length = (List.take (0 : Nat) [] ++ kb).length,
        List.take (0 : Nat) [] ++ kb = List.take (0 : Nat) [] ++ kb, (D.kb c (List.take (0 : Nat) [] ++ kb)).length = (32 : Nat), (D.ka c (List.take (0 : Nat) [] ++ kb)).length = (32 : Nat), Bts c,
        c.length = (32 : Nat), Bts (List.take (0 : Nat) [] ++ kb), (List.take (0 : Nat) [] ++ kb).length ≤ (100000000 : Nat), c = c,
        (List.take (0 : Nat) [] ++ kb).length = (List.take (0 : Nat) [] ++ kb).length, List.take (0 : Nat) [] ++ kb = List.take (0 : Nat) [] ++ kb, c.length = (32 : Nat),
        (D.kb c (List.take (0 : Nat) [] ++ kb)).length = (32 : Nat), (D.ka c (List.take (0 : Nat) [] ++ kb)).length = (32 : Nat), c.length = (32 : Nat),
        (List.take (0 : Nat) [] ++ kb).length ≤ (1000000000 : Nat), c = c, (List.take (0 : Nat) [] ++ kb).length = (List.take (0 : Nat) [] ++ kb).length,
        List.take (0 : Nat) [] ++ kb = List.take (0 : Nat) [] ++ kb, c.length = (32 : Nat), decide ((↑(List.take (0 : Nat) [] ++ kb).length : Int) > (0 : Int)) = false,
        (!decide (D.kb c (List.take (0 : Nat) [] ++ kb) = D.kb c (List.take (0 : Nat) [] ++ kb))) = false,
        (D.kb c (List.take (0 : Nat) [] ++ kb)).length = (32 : Nat) ∧ (D.kb c (List.take (0 : Nat) [] ++ kb)).length = (32 : Nat), (D.kb c (List.take (0 : Nat) [] ++ kb)).length = (32 : Nat),
        (D.kb c (List.take (0 : Nat) [] ++ kb)).length = (32 : Nat), (!decide (D.ka c (List.take (0 : Nat) [] ++ kb) = D.ka c (List.take (0 : Nat) [] ++ kb))) = false,
        (D.ka c (List.take (0 : Nat) [] ++ kb)).length = (32 : Nat) ∧ (D.ka c (List.take (0 : Nat) [] ++ kb)).length = (32 : Nat), (D.ka c (List.take (0 : Nat) [] ++ kb)).length = (32 : Nat),
        (D.ka c (List.take (0 : Nat) [] ++ kb)).length = (32 : Nat),
        (!decide (D.hmac (List.take (0 : Nat) [] ++ ka) (List.take (0 : Nat) [] ++ kb) = D.hmac (List.take (0 : Nat) [] ++ ka) (List.take (0 : Nat) [] ++ kb))) = false,
        (D.hmac (List.take (0 : Nat) [] ++ ka) (List.take (0 : Nat) [] ++ kb)).length = (32 : Nat) ∧ (D.hmac (List.take (0 : Nat) [] ++ ka) (List.take (0 : Nat) [] ++ kb)).length = (32 : Nat),
        Bts (List.take (0 : Nat) [] ++ ka), Bts (List.take (0 : Nat) [] ++ kb), (List.take (0 : Nat) [] ++ ka).length ≤ (100000000 : Nat), (List.take (0 : Nat) [] ++ kb).length ≤ (100000000 : Nat),
        (List.take (0 : Nat) [] ++ ka).length = (List.take (0 : Nat) [] ++ ka).length, (List.take (0 : Nat) [] ++ kb).length = (List.take (0 : Nat) [] ++ kb).length,
        List.take (0 : Nat) [] ++ ka = List.take (0 : Nat) [] ++ ka, List.take (0 : Nat) [] ++ kb = List.take (0 : Nat) [] ++ kb, (List.take (0 : Nat) [] ++ ka).length ≤ (1000000000 : Nat),
        (List.take (0 : Nat) [] ++ kb).length ≤ (1000000000 : Nat), (List.take (0 : Nat) [] ++ ka).length = (List.take (0 : Nat) [] ++ ka).length,
        List.take (0 : Nat) [] ++ ka = List.take (0 : Nat) [] ++ ka, (List.take (0 : Nat) [] ++ kb).length = (List.take (0 : Nat) [] ++ kb).length,
        List.take (0 : Nat) [] ++ kb = List.take (0 : Nat) [] ++ kb, (D.kb c (List.take (0 : Nat) [] ++ kb)).length = (32 : Nat), (D.ka c (List.take (0 : Nat) [] ++ kb)).length = (32 : Nat), Bts c,
        c.length = (32 : Nat), Bts (List.take (0 : Nat) [] ++ kb), (List.take (0 : Nat) [] ++ kb).length ≤ (100000000 : Nat), c = c,
        (List.take (0 : Nat) [] ++ kb).length = (List.take (0 : Nat) [] ++ kb).length, List.take (0 : Nat) [] ++ kb = List.take (0 : Nat) [] ++ kb, c.length = (32 : Nat),
        (D.kb c (List.take (0 : Nat) [] ++ kb)).length = (32 : Nat), (D.ka c (List.take (0 : Nat) [] ++ kb)).length = (32 : Nat), c.length = (32 : Nat),
        (List.take (0 : Nat) [] ++ kb).length ≤ (1000000000 : Nat), c = c, (List.take (0 : Nat) [] ++ kb).length = (List.take (0 : Nat) [] ++ kb).length,
        List.take (0 : Nat) [] ++ kb = List.take (0 : Nat) [] ++ kb, c.length = (32 : Nat), decide ((↑(List.take (0 : Nat) [] ++ ka).length : Int) > (0 : Int)) = false,
        (!decide (D.kb c (List.take (0 : Nat) [] ++ kb) = D.kb c (List.take (0 : Nat) [] ++ kb))) = false,
        (D.kb c (List.take (0 : Nat) [] ++ kb)).length = (32 : Nat) ∧ (D.kb c (List.take (0 : Nat) [] ++ kb)).length = (32 : Nat), (D.kb c (List.take (0 : Nat) [] ++ kb)).length = (32 : Nat),
        (D.kb c (List.take (0 : Nat) [] ++ kb)).length = (32 : Nat), (!decide (D.ka c (List.take (0 : Nat) [] ++ kb) = D.ka c (List.take (0 : Nat) [] ++ kb))) = false,
        (D.ka c (List.take (0 : Nat) [] ++ kb)).length = (32 : Nat) ∧ (D.ka c (List.take (0 : Nat) [] ++ kb)).length = (32 : Nat), (D.ka c (List.take (0 : Nat) [] ++ kb)).length = (32 : Nat),
        (D.ka c (List.take (0 : Nat) [] ++ kb)).length = (32 : Nat),
        (!decide (D.hmac (List.take (0 : Nat) [] ++ ka) (List.take (0 : Nat) [] ++ kb) = D.hmac (List.take (0 : Nat) [] ++ ka) (List.take (0 : Nat) [] ++ kb))) = false,
        (D.hmac (List.take (0 : Nat) [] ++ ka) (List.take (0 : Nat) [] ++ kb)).length = (32 : Nat) ∧ (D.hmac (List.take (0 : Nat) [] ++ ka) (List.take (0 : Nat) [] ++ kb)).length = (32 : Nat),
        Bts (List.take (0 : Nat) [] ++ ka), Bts (List.take (0 : Nat) [] ++ kb), (List.take (0 : Nat) [] ++ ka).length ≤ (100000000 : Nat), (List.take (0 : Nat) [] ++ kb).length ≤ (100000000 : Nat),
        (List.take (0 : Nat) [] ++ ka).length = (List.take (0 : Nat) [] ++ ka).length, (List.take (0 : Nat) [] ++ kb).length = (List.take (0 : Nat) [] ++ kb).length,
        List.take (0 : Nat) [] ++ ka = List.take (0 : Nat) [] ++ ka, List.take (0 : Nat) [] ++ kb = List.take (0 : Nat) [] ++ kb, (List.take (0 : Nat) [] ++ ka).length ≤ (1000000000 : Nat),
        (List.take (0 : Nat) [] ++ kb).length ≤ (1000000000 : Nat), (List.take (0 : Nat) [] ++ ka).length = (List.take (0 : Nat) [] ++ ka).length,
        List.take (0 : Nat) [] ++ ka = List.take (0 : Nat) [] ++ ka, (List.take (0 : Nat) [] ++ kb).length = (List.take (0 : Nat) [] ++ kb).length,
        List.take (0 : Nat) [] ++ kb = List.take (0 : Nat) [] ++ kb, (D.kb c (List.take (0 : Nat) [] ++ kb)).length = (32 : Nat), (D.ka c (List.take (0 : Nat) [] ++ kb)).length = (32 : Nat), Bts c,
        c.length = (32 : Nat), Bts (List.take (0 : Nat) [] ++ kb), (List.take (0 : Nat) [] ++ kb).length ≤ (100000000 : Nat), c = c,
        (List.take (0 : Nat) [] ++ kb).length = (List.take (0 : Nat) [] ++ kb).length, List.take (0 : Nat) [] ++ kb = List.take (0 : Nat) [] ++ kb, c.length = (32 : Nat),
        (D.kb c (List.take (0 : Nat) [] ++ kb)).length = (32 : Nat), (D.ka c (List.take (0 : Nat) [] ++ kb)).length = (32 : Nat), c.length = (32 : Nat),
        (List.take (0 : Nat) [] ++ kb).length ≤ (1000000000 : Nat), c = c, (List.take (0 : Nat) [] ++ kb).length = (List.take (0 : Nat) [] ++ kb).length,
        List.take (0 : Nat) [] ++ kb = List.take (0 : Nat) [] ++ kb, c.length = (32 : Nat), ((0 : Nat) + kb.length) * (1 : Nat) ≤ (140737488355328 : Nat),
        ((0 : Nat) + ka.length) * (1 : Nat) ≤ (140737488355328 : Nat), decide ((↑m : Int) > (20000 : Int)) = false, decide ((↑n : Int) > (20000 : Int)) = false,
        decide (IntKind.i64.wrap ((↑n : Int) + (↑m : Int)) > (20000 : Int)) = false],
    val := SV.bool true true } := by kernel_rfl

end Go.Proofs.YtdhombdiakjdhaaGreatDoor.Sx
end
section
open Go
set_option maxRecDepth 100000
namespace Go.Proofs.YtdhombdiakjdhaaGreatDoor.Sx

theorem set_Bts {xs : List Int} (h : Bts xs) {y : Int} (hy : Bt y) (i : Nat) : Bts (xs.set i y) := fun z hz => by
  rcases List.mem_or_eq_of_mem_set hz with h1 | rfl
  · exact h z h1
  · exact hy
theorem f3_call {ka kb c : List Int} {at_ by_ : Int} (h1 : Bts ka) (h2 : Bts kb) (h3 : Bts c) (h4 : c.length = 32) (h5 : Bt by_) (Γ : Env) (hg : Γ.glob = globs) :
    CallOK Tryz.prog Γ 3 (f3Vs ka.length kb.length c at_ by_) (f3T ka kb) 100 100 { val := .bool true true } := by
  have hs : ∀ hints, SumOK Tryz.prog ΓF 3 (interp ΓF Tryz.f3 true hints 3000) := fun hints =>
    interp_ok (env_ty exF 4) (env_ok exF exF_ok 4) mix Tryz.func3 (by kernel_rfl) true hints 3000
  by_cases m1 : IntKind.i64.wrap ((ka.length : Int) + (kb.length : Int)) > 20000
  · exact ((hs [true]).call (f3_0 ka kb c at_ by_ ka.length kb.length) (of_allP ⟨decide_eq_true m1, trivial⟩)).words (by rw [hg]; rfl) (fun _ => rfl) (fun _ _ h => h) (fun _ => rfl) rfl rfl
  by_cases m2 : (ka.length : Int) > 20000
  · exact ((hs [false, true]).call (f3_1 ka kb c at_ by_ ka.length kb.length) (of_allP ⟨decide_eq_true m2, decide_eq_false m1, trivial⟩)).words (by rw [hg]; rfl) (fun _ => rfl) (fun _ _ h => h) (fun _ => rfl) rfl rfl
  by_cases m3 : (kb.length : Int) > 20000
  · exact ((hs [false, false, true]).call (f3_2 ka kb c at_ by_ ka.length kb.length) (of_allP ⟨decide_eq_true m3, decide_eq_false m2, decide_eq_false m1, trivial⟩)).words (by rw [hg]; rfl) (fun _ => rfl) (fun _ _ h => h) (fun _ => rfl) rfl rfl
  have la : ∀ x y, (D.ka x y).length = 32 := fun _ _ => D.hmac_length _ _
  have lb : ∀ x y, (D.kb x y).length = 32 := fun _ _ => D.hmac_length _ _
  have n1 : ka.length ≤ 100000000 := by omega
  have n2 : kb.length ≤ 100000000 := by omega
  have n3 : ka.length ≤ 1000000000 := by omega
  have n4 : kb.length ≤ 1000000000 := by omega
  have sa := fun i => set_Bts h1 h5 i
  have sb := fun i => set_Bts h2 h5 i
  by_cases ha : 0 < ka.length <;> by_cases hb : 0 < kb.length
  · have ra := rnd_lt (v := at_) (n := (ka.length : Int)) (by omega)
    have rb := rnd_lt (v := at_) (n := (kb.length : Int)) (by omega)
    refine ((hs [false, false, false, false, false, false, true, false, false, false, true, false, false, false]).call (f3_3 ka kb c at_ by_ ka.length kb.length) (of_allP ?_)).words (by rw [hg]; rfl) (fun _ => rfl) (fun _ _ h => h) (fun _ => rfl) rfl rfl
    simp only [allP, List.take_zero, List.nil_append, List.length_set, la, lb, D.hmac_length, eq_self, decide_true, Bool.not_true, decide_eq_true_eq, decide_eq_false_iff_not, and_true, true_and]
    repeat' (first | with_reducible exact trivial | with_reducible assumption | with_reducible exact sa _ | with_reducible exact sb _ | with_reducible apply And.intro | omega | with_reducible exact decide_eq_false m1 | exact decide_eq_true (by omega) | exact decide_eq_false (by omega))
  · have ra := rnd_lt (v := at_) (n := (ka.length : Int)) (by omega)
    refine ((hs [false, false, false, false, false, false, true, false, false, false, false, false, false, false]).call (f3_4 ka kb c at_ by_ ka.length kb.length) (of_allP ?_)).words (by rw [hg]; rfl) (fun _ => rfl) (fun _ _ h => h) (fun _ => rfl) rfl rfl
    simp only [allP, List.take_zero, List.nil_append, List.length_set, la, lb, D.hmac_length, eq_self, decide_true, Bool.not_true, decide_eq_true_eq, decide_eq_false_iff_not, and_true, true_and]
    repeat' (first | with_reducible exact trivial | with_reducible assumption | with_reducible exact sa _ | with_reducible exact sb _ | with_reducible apply And.intro | omega | with_reducible exact decide_eq_false m1 | exact decide_eq_true (by omega) | exact decide_eq_false (by omega))
  · have rb := rnd_lt (v := at_) (n := (kb.length : Int)) (by omega)
    refine ((hs [false, false, false, false, false, false, false, false, false, false, true, false, false, false]).call (f3_5 ka kb c at_ by_ ka.length kb.length) (of_allP ?_)).words (by rw [hg]; rfl) (fun _ => rfl) (fun _ _ h => h) (fun _ => rfl) rfl rfl
    simp only [allP, List.take_zero, List.nil_append, List.length_set, la, lb, D.hmac_length, eq_self, decide_true, Bool.not_true, decide_eq_true_eq, decide_eq_false_iff_not, and_true, true_and]
    repeat' (first | with_reducible exact trivial | with_reducible assumption | with_reducible exact sa _ | with_reducible exact sb _ | with_reducible apply And.intro | omega | with_reducible exact decide_eq_false m1 | exact decide_eq_true (by omega) | exact decide_eq_false (by omega))
  · refine ((hs [false, false, false, false, false, false, false, false, false, false, false, false, false, false]).call (f3_6 ka kb c at_ by_ ka.length kb.length) (of_allP ?_)).words (by rw [hg]; rfl) (fun _ => rfl) (fun _ _ h => h) (fun _ => rfl) rfl rfl
    simp only [allP, List.take_zero, List.nil_append, List.length_set, la, lb, D.hmac_length, eq_self, decide_true, Bool.not_true, decide_eq_true_eq, decide_eq_false_iff_not, and_true, true_and]
    repeat' (first | with_reducible exact trivial | with_reducible assumption | with_reducible exact sa _ | with_reducible exact sb _ | with_reducible apply And.intro | omega | with_reducible exact decide_eq_false m1 | exact decide_eq_true (by omega) | exact decide_eq_false (by omega))
end Go.Proofs.YtdhombdiakjdhaaGreatDoor.Sx
end
