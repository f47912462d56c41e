/- kdf.HMAC, with either engine, of a list of pieces: contract, summary. -/
import Derived.Test.YtdhombdiakjdhaaGreatDoorQN
section
open Go
set_option maxRecDepth 100000
namespace Go.Proofs.YtdhombdiakjdhaaGreatDoor.Sx
inductive Eng where
 | fast
 | plain
 | zero
def engV : Eng → List SV
 | .fast => fastV 59
 | .plain => [.int true .i64 2, .fn (.func 46) [] [], .fn (.func 47) [] [], .fn (.func 48) [] [], .fn (.func 49) [] [], .fn (.func 50) [] [], .fn (.func 51) [] []]
 | .zero => [.int true .i64 0, .raw .nilFunc, .raw .nilFunc, .raw .nilFunc, .raw .nilFunc, .raw .nilFunc, .raw .nilFunc]
def engL : Eng → List (Nat × SB)
 | .fast => [(59, .roc [.raw (.pointer none)])]
 | _ => glB
noncomputable def exQ0 : Nat → Option Sum := addS (addS (addS exA 40 (canonS globs 100 ofDec)) 51 (canonS globs 100 wlDec)) 78 (canonS globs 100 grDec)
noncomputable def exQ : Nat → Option Sum := addH exQ0 44 [false]
theorem exQ_ok : ∀ f S, exQ f = some S → ∀ Γ : Env, Γ.glob = globs → SumOK Tryz.prog Γ f S := addH_ok (addS_ok (addS_ok (addS_ok (fun f S h Γ _ => exA_ok f S h Γ) 40 _ of_ok) 51 _ wl_ok) 78 _ gr_ok) 44 [false]
noncomputable def ΓQ : Env := env exQ 7
theorem ΓQ_ty : TyOK Tryz.prog ΓQ := env_ty _ 7
theorem ΓQ_ok : SumsOK Tryz.prog ΓQ := env_ok _ exQ_ok 7
def hqL (e : Eng) (key : List Int) (ds : List (List Int)) : List (Nat × SB) := (61, .rov .u8 key) :: (62, .rol ds) :: engL e
def hqVs (e : Eng) (k n : Nat) : List SV := [.agg (engV e), .ros 61 k, .rsl 62 n]
def hqT (e : Eng) (key : List Int) (ds : List (List Int)) : Tab := fun l => look l (hqL e key ds)
noncomputable def hqM (e : Eng) (key : List Int) (ds : List (List Int)) (cf : Cf) (K : List Fr) (s : St) : Option Cfg := mrun ΓQ (cutT 100 (hqT e key ds)) 100 Tryz.f11.ntmps [8] 400 2000 cf K s
def hqGs (n : Nat) (i : Int) : List (Nat × SV) := [(2, .rsl 62 n), (3, .ptr 100 true 0), (6, .ptr 101 true 0), (9, .ptr 102 true 0), (10, .ptr 103 true 0), (28, .int false .i64 i)]
def hqTb (e : Eng) (a b : List Int) : List (Nat × SB) := [(100, .own (engV e) 33), (101, .own (List.replicate 32 (.int true .u8 0)) 24), (102, .ints .u8 a 76), (103, .ints .u8 b 76)]
noncomputable def hqR : Option Cfg := hqM .fast [] [] (.go (codeOf Tryz.f11)) [] ((st0 (hqVs .fast 0 0) 100).hint [false])
noncomputable def hqLp : Code := cfgC hqR
noncomputable def hqK : List Fr := cfgF hqR
theorem hq_0 (e : Eng) (key a b : List Int) (ds : List (List Int)) (k n : Nat) (i : Int) : toC 100 Tryz.f11.ntmps (cutT 100 (hqT e key ds)) [] (hqGs n i) (hqTb e a b) 104 [] [] (hqM e key ds (.go (codeOf Tryz.f11)) [] ((st0 (hqVs e k n) 100).hint [false])) =
  some (.go (.loop hqLp), hqK, lO 64 4 (cp 64 key) ++ [kO 64 key, decide ((k : Int) > 64) = false, n = n, 0 = i, cp 64 key = a ∧ 76 = 76, cp 64 key = b ∧ 76 = 76]) := by cases e <;> kernel_rfl
def kh (key : List Int) : List Int := D.hash [key].flatten
def eO5 (e : Eng) : Nat := match e with
 | .fast => 5
 | _ => 3
theorem hq_1 (e : Eng) (key a b : List Int) (ds : List (List Int)) (k n : Nat) (i : Int) : toC 100 Tryz.f11.ntmps (cutT 100 (hqT e key ds)) [] (hqGs n i) (hqTb e a b) 104 [] [] (hqM e key ds (.go (codeOf Tryz.f11)) [] ((st0 (hqVs e k n) 100).hint [true])) =
  some (.go (.loop hqLp), hqK, lO 64 4 (cp 64 (ar 32 (kh key))) ++ (kO 64 (ar 32 (kh key)) :: (32 ≤ (kh key).length) :: (lO 32 (eO5 e) (kh key) ++ [[key].flatten.length ≤ 100000000000, [key].length ≤ 1000000000, 1 = [key].length ∧ 1 ≤ 1, [key] = [key],
   decide ((k : Int) > 64) = true, n = n, 0 = i, cp 64 (ar 32 (kh key)) = a ∧ 76 = 76, cp 64 (ar 32 (kh key)) = b ∧ 76 = 76]))) := by cases e <;> kernel_rfl
theorem hq_2 (e : Eng) (key a b a' b' : List Int) (ds : List (List Int)) (n : Nat) (i i' : Int) : toC 100 Tryz.f11.ntmps (cutT 100 (hqT e key ds)) [] (hqGs n i') (hqTb e a' b') 104 [] [] (hqM e key ds (.go hqLp) [] ((stOf (hqGs n i) (hqTb e a b) 104 [] []).hint [true])) =
  some (.at .normal, [], [0 + i.toNat * 1 < b.length, 0 ≤ i ∧ i < 64, 0 + i.toNat * 1 + 1 ≤ b.length, 0 ≤ i ∧ i < 64, 0 + i.toNat * 1 < a.length, 0 ≤ i ∧ i < 64, 0 + i.toNat * 1 + 1 ≤ a.length, 0 ≤ i ∧ i < 64, decide (i < 64) = true, n = n, IntKind.i64.wrap (i + 1) = i',
   a.set (0 + i.toNat * 1) (bXor .u8 (a.getD (0 + i.toNat * 1 + 0) 0) 54) = a' ∧ 76 = 76, b.set (0 + i.toNat * 1) (bXor .u8 (b.getD (0 + i.toNat * 1 + 0) 0) 92) = b' ∧ 76 = 76]) := by cases e <;> kernel_rfl
theorem hq_3 (e : Eng) (key a b : List Int) (ds : List (List Int)) (n : Nat) (i : Int) : toC 100 Tryz.f11.ntmps (cutT 100 (hqT e key ds)) [] (hqGs n i) (hqTb e a b) 104 [] [] (hqM e key ds (.go hqLp) [] ((stOf (hqGs n i) (hqTb e a b) 104 [] []).hint [false])) =
  some (.at (.exit 0), [], [decide (i < 64) = false, n = n, i = i, a = a ∧ 76 = 76, b = b ∧ 76 = 76]) := by cases e <;> kernel_rfl
def hqI (a : List Int) (ds : List (List Int)) : List Int := D.hash ([ar 64 a] ++ ds).flatten
def hqX (a b : List Int) (ds : List (List Int)) : List Int := D.hash [ar 64 b, ar 32 (hqI a ds)].flatten
def p32 (x : List Int) : Nat → List Prop → List Prop
 | 0, r => r
 | n + 1, r => (x.length = 32) :: p32 x n r
def hqO (e : Eng) (a b : List Int) (ds : List (List Int)) (n : Nat) : List Prop := p32 (hqX a b ds) (eO5 e + 1) (([ar 64 b, ar 32 (hqI a ds)].flatten.length ≤ 100000000000) :: ([ar 64 b, ar 32 (hqI a ds)].length ≤ 1000000000) :: (2 = [ar 64 b, ar 32 (hqI a ds)].length ∧ 2 ≤ 2) :: ([ar 64 b, ar 32 (hqI a ds)] = [ar 64 b, ar 32 (hqI a ds)]) ::
    (64 ≤ b.length ∧ 64 ≤ 64) :: (32 ≤ (hqI a ds).length ∧ 32 ≤ 32) :: p32 (hqI a ds) (eO5 e) [([ar 64 a] ++ ds).flatten.length ≤ 100000000000, ([ar 64 a] ++ ds).length ≤ 1000000000, 1 + n = ([ar 64 a] ++ ds).length ∧ 1 + n = 1 + n ∧ 1 + n = 1 + ds.length, 1 + n = 1 + ds.length ∧ ds = ds ∧ [ar 64 a] ++ ds = [ar 64 a] ++ ds,
    64 ≤ a.length ∧ 64 ≤ 64, ds.length = n, (1 + n) * 24 ≤ 140737488355328 ∧ 1 + n ≤ 9223372036854775807, 0 < IntKind.i64.wrap (1 + (n : Int)), IntKind.i64.wrap (1 + (n : Int)) ≤ 1000000000, IntKind.i64.wrap (1 + (n : Int)) = IntKind.i64.wrap (1 + (n : Int)), decide (IntKind.i64.wrap (1 + (n : Int)) < 0) = false])
theorem hq_4 (e : Eng) (key a b : List Int) (ds : List (List Int)) (n : Nat) (i : Int) : endC ΓQ (hqT e key ds) 100 100 Tryz.f11 [] (hqM e key ds (.at (.exit 0)) hqK ((stOf (hqGs n i) (hqTb e a b) 104 [] []).hint [])) =
  some { obl := hqO e a b ds n, val := .ai .u8 (hqX a b ds) } := by cases e <;> kernel_rfl
theorem p32_ok {x : List Int} (h : x.length = 32) : ∀ (n : Nat) {r : List Prop}, (∀ q ∈ r, q) → ∀ q ∈ p32 x n r, q
 | 0, _, hr => hr
 | n + 1, _, hr => mem1 h (p32_ok h n hr)
theorem hqI_eq {a : List Int} (ha : a.length = 64) (ds : List (List Int)) : hqI a ds = D.hash (a ++ ds.flatten) := by unfold hqI; rw [ar_same ha, List.singleton_append, List.flatten_cons]
theorem hqX_eq {a b : List Int} (ha : a.length = 64) (hb : b.length = 64) (ds : List (List Int)) : hqX a b ds = D.hash (b ++ D.hash (a ++ ds.flatten)) := by
 unfold hqX
 rw [hqI_eq ha, ar_same hb, ar_same (D.hash_length _)]
 simp only [List.flatten_cons, List.flatten_nil, List.append_nil]
theorem hqO_ok (e : Eng) {a b : List Int} (ha : a.length = 64) (hb : b.length = 64) {ds : List (List Int)} (hn : ds.length ≤ 100000000) (hl : ds.flatten.length ≤ 10000000000) : ∀ q ∈ hqO e a b ds ds.length, q := by
 have hX : (hqX a b ds).length = 32 := D.hash_length _
 have hI : (hqI a ds).length = 32 := D.hash_length _
 have e1 : [ar 64 b, ar 32 (hqI a ds)].flatten.length ≤ 100000000000 := by
  rw [ar_same hb, ar_same hI]
  simp only [List.flatten_cons, List.flatten_nil, List.append_nil, List.length_append, hb, hI]
  decide
 have e2 : ([ar 64 a] ++ ds).flatten.length ≤ 100000000000 := by rw [ar_same ha, List.singleton_append, List.flatten_cons, List.length_append]; omega
 have e3 : ([ar 64 a] ++ ds).length = 1 + ds.length := by simp; omega
 have w : IntKind.i64.wrap (1 + (ds.length : Int)) = 1 + ds.length := IntWalk.i64_in _ (by omega)
 unfold hqO
 rw [w]
 refine p32_ok hX _ (mem1 e1 (mem1 (by simp) (mem1 ⟨rfl, by omega⟩ (mem1 rfl (mem1 (by omega) (mem1 (by omega) (p32_ok hI _ (of_allP ?_))))))))
 exact ⟨e2, by omega, ⟨e3.symm, rfl, rfl⟩, ⟨rfl, rfl, rfl⟩, by omega, rfl, by omega, by omega, by omega, rfl, decide_eq_false (by omega), trivial⟩
theorem hq_loop {e : Eng} {key : List Int} {ds : List (List Int)} {n : Nat} {k : List Int} (hk : k.length = 64)
  {w0 : World} {M : Nat → Prop} {V0 : Val} {Q : Exit → Act → World → Prop} (hb : Base ΓQ (cutT 100 (hqT e key ds)) 100 V0)
  (h : G Tryz.prog ΓQ w0 M (cutT 100 (hqT e key ds)) Tryz.f11.ntmps 100 V0 (.at (.exit 0)) hqK (stOf (hqGs n 64) (hqTb e (padN k 54 64) (padN k 92 64)) 104 [] []) Q) :
  G Tryz.prog ΓQ w0 M (cutT 100 (hqT e key ds)) Tryz.f11.ntmps 100 V0 (.go (.loop hqLp)) hqK (stOf (hqGs n 0) (hqTb e k k) 104 [] []) Q := by
 have hty := ΓQ_ty
 have hsum := ΓQ_ok
 refine G.loop (fun r s => ∃ i : Nat, i ≤ 64 ∧ r = 64 - i ∧ s = stOf (hqGs n i) (hqTb e (padN k 54 i) (padN k 92 i)) 104 [] []) (r0 := 64)
  ⟨0, by omega, rfl, by rw [padN_zero hk, padN_zero hk]; rfl⟩ ?_
 rintro r s ⟨i, hi, rfl, rfl⟩
 by_cases hlt : i < 64
 ·have e1 : 0 + (i : Int).toNat * 1 = i := by omega
  refine G.roundC hty hsum mix hb [true] (hq_2 e key _ _ (padN k 54 (i + 1)) (padN k 92 (i + 1)) ds n i ((i + 1 : Nat) : Int)) ?_ (64 - (i + 1)) (by omega) ⟨i + 1, hlt, rfl, rfl⟩
  rw [e1, Nat.add_zero]
  have l1 := padN_length k 54 i
  have l2 := padN_length k 92 i
  refine mem1 (by omega) (mem1 (by omega) (mem1 (by omega) (mem1 (by omega) (mem1 (by omega) (mem1 (by omega) (mem1 (by omega) (mem1 (by omega) (mem1 (decide_eq_true (by omega)) (mem1 rfl (mem1 ?_ (mem1 ⟨padN_succ k 54 hlt, rfl⟩ (mem1 ⟨padN_succ k 92 hlt, rfl⟩ mem0))))))))))))
  rw [IntWalk.i64_in _ (by omega)]; omega
 ·have e1 : i = 64 := by omega
  subst e1
  refine G.toC hty hsum mix hb [false] (hq_3 e key _ _ ds n _) (mem1 (by decide) (mem1 rfl (mem1 rfl (mem1 ⟨rfl, rfl⟩ (mem1 ⟨rfl, rfl⟩ mem0))))) (G.leave (by simp) h)
theorem hq_call (e : Eng) (key : List Int) (ds : List (List Int)) (hk : key.length ≤ 1000000000) (hn : ds.length ≤ 100000000) (hl : ds.flatten.length ≤ 10000000000) (Γ : Env) (hg : Γ.glob = globs) :
  CallOK Tryz.prog Γ 11 (hqVs e key.length ds.length) (hqT e key ds) 100 100 { val := .ai .u8 (D.hmac key ds.flatten) } := by
 refine CallOK.words (Γ := ΓQ) ?_ (by rw [hg]; rfl) (fun _ => rfl) (fun _ _ h => h) (fun _ => rfl) rfl rfl
 refine call_G ΓQ_ty ΓQ_ok Tryz.func11 (by kernel_rfl) rfl (Nat.le_of_ble_eq_true (by kernel_rfl)) rfl [] ?_
 intro w0 M V0 Q hb H
 have hty := ΓQ_ty
 have hsum := ΓQ_ok
 have fin : G Tryz.prog ΓQ w0 M (cutT 100 (hqT e key ds)) Tryz.f11.ntmps 100 V0 (.at (.exit 0)) hqK (stOf (hqGs ds.length 64) (hqTb e (D.pad (D.key key) 54) (D.pad (D.key key) 92)) 104 [] []) Q := by
  have ha := D.pad_length (D.key key) 54
  have hb2 := D.pad_length (D.key key) 92
  refine G.finC (cl := []) hty hsum mix [] H (hq_4 e key _ _ ds ds.length _) (hqO_ok e ha hb2 hn hl) ?_ rfl rfl
  show SV.ai .u8 (hqX _ _ _) = _
  rw [hqX_eq ha hb2]
  rfl
 by_cases h64 : key.length ≤ 64
 ·have ek : D.key key = key := by unfold D.key; rw [if_pos h64]
  rw [ek] at fin
  refine G.toC hty hsum mix hb [false] (hq_0 e key (cp 64 key) (cp 64 key) ds key.length ds.length 0) (memA (lO_ok (cp_length h64)) (mem1 (kO_ok h64) (mem1 (decide_eq_false (by omega)) (mem1 rfl (mem1 rfl (mem1 ⟨rfl, rfl⟩ (mem1 ⟨rfl, rfl⟩ mem0))))))) ?_
  refine hq_loop (cp_length h64) hb ?_
  rw [padN_cp h64, padN_cp h64]
  exact fin
 ·have ek : D.key key = D.hash key := by unfold D.key; rw [if_neg h64]
  rw [ek] at fin
  have hh := D.hash_length key
  have e0 : kh key = D.hash key := by unfold kh; rw [List.flatten_cons, List.flatten_nil, List.append_nil]
  have ea : ar 32 (kh key) = D.hash key := by rw [e0, ar_same hh]
  refine G.toC hty hsum mix hb [true] (hq_1 e key (cp 64 (D.hash key)) (cp 64 (D.hash key)) ds key.length ds.length 0) ?_ ?_
  ·rw [ea]
   refine memA (lO_ok (cp_length (by omega))) (mem1 (kO_ok (by omega)) (mem1 (by rw [e0]; omega) (memA (lO_ok (by rw [e0]; exact hh)) (of_allP ?_))))
   exact ⟨by simp; omega, by simp, ⟨rfl, by omega⟩, rfl, decide_eq_true (by omega), rfl, rfl, ⟨rfl, rfl⟩, ⟨rfl, rfl⟩, trivial⟩
  refine hq_loop (cp_length (by omega)) hb ?_
  rw [padN_cp (by omega), padN_cp (by omega)]
  exact fin
def engIn : List SV → Option (Eng × Nat)
 | .int true .i64 e :: .fn (.func f) [] cs :: _ => match beqI e 1 && Nat.beq f 29, cs with
   | true, [.ptr L _ _] => some (.fast, L)
   | _, _ => match beqI e 2 && Nat.beq f 46 with
     | true => some (.plain, 0)
     | false => none
 | .int true .i64 e :: .raw _ :: _ => match beqI e 0 with
   | true => some (.zero, 0)
   | false => none
 | _ => none
def engVl (e : Eng) (L : Nat) : List (Nat × Src0) := match e with
 | .fast => [(59, .lab L 0)]
 | _ => []
def hqDec (vs : List SV) (T : Tab) : Option Canon := match vs with
 | [.agg en, p, q] => match engIn en, seqRo T .u8 p, lsIn T q with
   | some (e, L), some (_, k), some ds => some { vs0 := hqVs e k.length ds.length, T0 := hqL e k ds, vl := (61, .arg 1) :: (62, .lst 2) :: engVl e L, e0 := { val := .ai .u8 (D.hmac k ds.flatten) }, conds := [k.length ≤ 1000000000, ds.length ≤ 100000000, ds.flatten.length ≤ 10000000000] }
   | _, _, _ => none
 | _ => none
theorem hqd_ok (Γ : Env) (hg : Γ.glob = globs) : SumOK Tryz.prog Γ 11 (canonS globs 100 hqDec) := by
 refine canonS_ok hg fun vs T c hd hc => ?_
 unfold hqDec at hd
 split at hd
 case h_2 => cases hd
 split at hd
 case h_2 => cases hd
 cases hd
 exact hq_call _ _ _ (hc _ (by simp)) (hc _ (by simp)) (hc _ (by simp)) Γ hg
end Go.Proofs.YtdhombdiakjdhaaGreatDoor.Sx
end
