/- digest.press, in place and beside. -/
import Derived.Laws.LoneSync
import Derived.Test.YtjomfjihopegmaaGreatDoorQE
section
open Go
set_option maxRecDepth 100000
namespace Go.Proofs.YtjomfjihopegmaaGreatDoor.Sx
theorem round_length (v m : List Int) (s : List Nat) : (D.roundM v m s).length = v.length := by
 simp only [D.roundM, D.round]
 simp only [D.mix, List.length_set]
theorem rounds_length (v m : List Int) : (D.rounds v m).length = v.length := by
 have : ∀ (l : List (List Nat)) (v : List Int), (l.foldl (fun v s => D.roundM v m s) v).length = v.length := by
  intro l
  induction l with
  | nil => intro v; rfl
  | cons s l ih => intro v; rw [List.foldl_cons, ih, round_length]
 exact this _ _
theorem rounds_call (v m : List Int) (ty : Nat) (hv : v.length = 16) (hm : m.length = 16) (Γ : Env) (hg : Γ.glob = globs) :
  CallOK Tryz.prog Γ 129 [.ptr 60 true 0, .ptr 61 true 0] (fun l => look l [(60, .ints .u32 v ty), (61, .roi .u32 m)]) 100 100 { val := .tup [], wr := [(60, .own (intsV .u32 16 (D.rounds v m)) ty)] } := by
 have hs : SumOK Tryz.prog (env exA 3) 129 (interp (env exA 3) Tryz.f129 true [] 400) :=
  interp_ok (env_ty exA 3) (exA_sums 3) mix Tryz.func129 (by kernel_rfl) true [] 400
 have h1 := hs.call (rounds_run v m ty) (by simp)
 rw [bytesI_eq hv] at h1
 have h2 := h1.whole (C := .ints .u32 v ty) (C' := .own (intsV .u32 16 (D.rounds v m)) ty) (o' := []) rfl rfl (fun V => (intsV_ok hv).symm) rfl rfl (fun V => (denL_map_int V _ _).trans (intsV_ok (by rw [rounds_length, hv])).symm)
 have h3 := h2.words (Γ' := Γ) (vs' := [.ptr 60 true 0, .ptr 61 true 0]) (T' := fun l => look l [(61, .roc (intsV .u32 16 m)), (60, .ints .u32 v ty)]) (by rw [hg]; rfl) (fun _ => rfl) (fun l B h => by rw [look_swap (by decide)]; exact h) (fun _ => rfl) rfl rfl
 have h4 := h3.wholeR (C := .roi .u32 m) rfl rfl (fun V => (intsV_ok hm).symm) rfl
 exact h4.words rfl (fun _ => rfl) (fun l B h => by rw [look_swap (by decide)]; exact h) (fun _ => rfl) rfl rfl
def intsB : SB → Option (IntKind × List Int × Nat)
 | .ints k xs t => some (k, xs, t)
 | .own cs t => (intsA cs).map fun p => (p.1, p.2, t)
 | _ => none
def roundsDec (vs : List SV) (T : Tab) : Option Canon := match vs with
 | [.ptr l _ _, .ptr l2 _ _] => match T l, T l2 with
   | some B, some B2 => match intsB B, intsB B2 with
     | some (.u32, v, ty), some (.u32, m, _) => some { vs0 := [.ptr 60 true 0, .ptr 61 true 0], T0 := [(60, .ints .u32 v ty), (61, .roi .u32 m)], vl := [(60, .lab l 0), (61, .lab l2 0)], e0 := { val := .tup [], wr := [(60, .own (intsV .u32 16 (D.rounds v m)) ty)] }, conds := [v.length = 16, m.length = 16] }
     | _, _ => none
   | _, _ => none
 | _ => none
theorem rounds_ok (Γ : Env) (hg : Γ.glob = globs) : SumOK Tryz.prog Γ 129 (canonS globs 100 roundsDec) := by
 refine canonS_ok hg fun vs T c hd hc => ?_
 unfold roundsDec at hd
 split at hd
 case h_2 => cases hd
 split at hd
 case h_2 => cases hd
 split at hd
 case h_2 => cases hd
 cases hd
 exact rounds_call _ _ _ (hc _ (by simp)) (hc _ (by simp)) Γ hg
theorem if_call (s b : Bool) (Γ : Env) (hg : Γ.glob = globs) : CallOK Tryz.prog Γ 42 [.raw (.pointer none), .bool s b] (fun l => look l []) 100 100 { val := .bool s b } := by
 have hs : SumOK Tryz.prog (env exA 2) 42 (interp (env exA 2) Tryz.f42 true [] 400) :=
  interp_ok (env_ty exA 2) (exA_sums 2) mix Tryz.func42 (by kernel_rfl) true [] 400
 have h1 : interp (env exA 2) Tryz.f42 true [] 400 [.raw (.pointer none), .bool true true] (fun _ => none) 100 100 = some { val := .bool true true } := by kernel_rfl
 have h2 : interp (env exA 2) Tryz.f42 true [] 400 [.raw (.pointer none), .bool true false] (fun _ => none) 100 100 = some { val := .bool true false } := by kernel_rfl
 cases b with
 | true => exact (hs.call h1 (by simp)).words (by rw [hg]; rfl) (fun _ => rfl) (fun _ _ h => by cases h) (fun _ => rfl) rfl rfl
 | false => exact (hs.call h2 (by simp)).words (by rw [hg]; rfl) (fun _ => rfl) (fun _ _ h => by cases h) (fun _ => rfl) rfl rfl
def ifDec (vs : List SV) (_ : Tab) : Option Canon := match vs with
 | [.raw (.pointer none), .bool s b] => some { vs0 := [.raw (.pointer none), .bool s b], T0 := [], vl := [], e0 := { val := .bool s b } }
 | _ => none
theorem if_ok (Γ : Env) (hg : Γ.glob = globs) : SumOK Tryz.prog Γ 42 (canonS globs 100 ifDec) := by
 refine canonS_ok hg fun vs T c hd hc => ?_
 unfold ifDec at hd
 split at hd
 case h_2 => cases hd
 cases hd
 exact if_call _ _ Γ hg
def addS (ex : Nat → Option Sum) (n : Nat) (S : Sum) : Nat → Option Sum := fun f => match Nat.beq f n with
 | true => some S
 | false => ex f
theorem addS_ok {ex : Nat → Option Sum} (hex : ∀ f S, ex f = some S → ∀ Γ : Env, Γ.glob = globs → SumOK Tryz.prog Γ f S) (n : Nat) (S : Sum) (hS : ∀ Γ : Env, Γ.glob = globs → SumOK Tryz.prog Γ n S) :
  ∀ f S', addS ex n S f = some S' → ∀ Γ : Env, Γ.glob = globs → SumOK Tryz.prog Γ f S' := by
 intro f S' h Γ hg
 unfold addS at h
 split at h
 ·rename_i hb; have := Nat.eq_of_beq_eq_true hb; subst this; cases h; exact hS Γ hg
 ·exact hex f S' h Γ hg
noncomputable def exR : Nat → Option Sum := addS exA 129 (canonS globs 100 roundsDec)
theorem exR_ok : ∀ f S, exR f = some S → ∀ Γ : Env, Γ.glob = globs → SumOK Tryz.prog Γ f S := addS_ok (fun f S h Γ _ => exA_ok f S h Γ) 129 _ rounds_ok
def hC (S : D.HS) : List SV := [.raw (.pointer none), .int true .i64 32] ++ (intsV .u32 8 S.st ++ (.int false .u64 S.cnt :: (intsV .u8 64 S.blk ++ [.int false .i64 (S.held : Int)])))
def hT (S : D.HS) : Tab := fun l => look l [(60, .own (hC S) 159)]
def prOb (v m : List Int) : List Prop := [v.length = 16, m.length = 16, v = v ∧ 200 = 200, m = m]
theorem pr_a (st blk : List Int) (cnt c : Int) (held : Nat) : interp (env exR 3) Tryz.f90 true [] 2000 [.ptr 60 true 0, .ptr 60 true 2, .ptr 60 true 11, .int false .u64 c, .int true .u32 0] (hT ⟨st, cnt, blk, held⟩) 100 100 =
  some { obl := prOb (D.start st c 0) (D.words blk), val := .tup [], wr := [(60, .own (hC ⟨D.press st blk c 0, cnt, blk, held⟩) 159)] } := by kernel_rfl
end Go.Proofs.YtjomfjihopegmaaGreatDoor.Sx
end
section
open Go
set_option maxRecDepth 100000
namespace Go.Proofs.YtjomfjihopegmaaGreatDoor.Sx
def oS (held : Nat) : Nat := if (64 : Int) = (held : Int) then 0 else 0 + (held : Int).toNat * 1
def clr (held : Nat) (b : List Int) : List Int := b.take (oS held) ++ List.replicate (64 - (held : Int).toNat) 0 ++ b.drop (oS held + (List.replicate (64 - (held : Int).toNat) (0 : Int)).length)
def sumOb (st b : List Int) (cnt : Int) (held : Nat) : List Prop :=
 prOb (D.start st (IntKind.u64.wrap (cnt + IntKind.u64.wrap (held : Int))) 4294967295) (D.words (clr held b)) ++ (((List.range 64).map fun j => 64 - j ≤ (clr held b).length) ++
  [0 ≤ oS held ∧ oS held + (List.replicate (64 - (held : Int).toNat) (0 : Int)).length ≤ 0 + b.length, (0 : Int) ≤ 64 ∧ (64 : Int) ≤ (64 : Nat) ∧ (0 : Int) ≤ 64 ∧ (64 : Int) ≤ 64 ∧ 0 ≤ (held : Int) ∧ (held : Int) ≤ 64])
theorem sum_run (st blk : List Int) (cnt : Int) (held : Nat) : interp (env exR 4) Tryz.f54 true [] 2000 [.ptr 60 true 0] (hT ⟨st, cnt, blk, held⟩) 100 100 =
  some { obl := sumOb st (bytesI 64 blk) cnt held, val := .slc 100 true 0 32 32, new := [.own ((D.bytes (D.press st (clr held (bytesI 64 blk)) (IntKind.u64.wrap (cnt + IntKind.u64.wrap (held : Int))) 4294967295)).map (.int false .u8)) 5] } := by kernel_rfl
theorem clr_eq {held : Nat} {b : List Int} (hb : b.length = 64) (hh : held ≤ 64) : clr held b = b.take held ++ List.replicate (64 - held) 0 := by
 unfold clr oS
 rw [Int.toNat_natCast]
 by_cases h : held = 64
 ·subst h
  rw [if_pos (by rfl)]
  simp [← hb]
 ·rw [if_neg (by omega)]
  simp
  omega
def hV (S : D.HS) : List Value := [.pointer none, .int .i64 32] ++ (S.st.map (Value.int .u32) ++ (.int .u64 S.cnt :: (S.blk.map (Value.int .u8) ++ [.int .i64 (S.held : Int)])))
theorem hC_ok {S : D.HS} (h1 : S.st.length = 8) (h2 : S.blk.length = 64) (V : Val) : denL V (hC S) = some (hV S) := by
 refine denL_append rfl (denL_append (intsV_ok h1) ?_)
 show (denL V (intsV .u8 64 S.blk ++ [.int false .i64 (S.held : Int)])).map _ = _
 rw [denL_append (intsV_ok h2) rfl]
 rfl
def toI : Value → Int
 | .int _ n => n
 | _ => 0
def unH (vs : List Value) : D.HS := ⟨((vs.drop 2).take 8).map toI, toI (vs.getD 10 undef), ((vs.drop 11).take 64).map toI, (toI (vs.getD 75 undef)).toNat⟩
theorem map_toI (k : IntKind) : ∀ xs : List Int, (xs.map (Value.int k)).map toI = xs
 | [] => rfl
 | x :: xs => by simp only [List.map_cons, map_toI k xs]; rfl
theorem unH_hV {S : D.HS} (h1 : S.st.length = 8) (h2 : S.blk.length = 64) : unH (hV S) = S := by
 obtain ⟨st, cnt, blk, held⟩ := S
 simp only at h1 h2
 have e1 : ((hV ⟨st, cnt, blk, held⟩).drop 2) = st.map (Value.int .u32) ++ (.int .u64 cnt :: (blk.map (Value.int .u8) ++ [.int .i64 (held : Int)])) := rfl
 have e2 : ((hV ⟨st, cnt, blk, held⟩).drop 2).take 8 = st.map (Value.int .u32) := by
  rw [e1]; exact List.take_left' (by simpa using h1)
 have e3 : ((hV ⟨st, cnt, blk, held⟩).drop 2).drop 8 = .int .u64 cnt :: (blk.map (Value.int .u8) ++ [.int .i64 (held : Int)]) := by
  rw [e1]; exact List.drop_left' (by simpa using h1)
 rw [List.drop_drop] at e3
 have e4 : (hV ⟨st, cnt, blk, held⟩).getD 10 undef = .int .u64 cnt := by
  rw [List.getD_eq_getElem?_getD, show (10 : Nat) = 2 + 8 + 0 from rfl, ← List.getElem?_drop, e3]; rfl
 have e5 : (hV ⟨st, cnt, blk, held⟩).drop 11 = blk.map (Value.int .u8) ++ [.int .i64 (held : Int)] := by
  rw [show (11 : Nat) = 2 + 8 + 1 from rfl, ← List.drop_drop, e3]; rfl
 have e6 : ((hV ⟨st, cnt, blk, held⟩).drop 11).take 64 = blk.map (Value.int .u8) := by
  rw [e5]; exact List.take_left' (by simpa using h2)
 have e7 : (hV ⟨st, cnt, blk, held⟩).getD 75 undef = .int .i64 (held : Int) := by
  rw [List.getD_eq_getElem?_getD, show (75 : Nat) = 11 + 64 from rfl, ← List.getElem?_drop, e5, List.getElem?_append_right (by simp [h2])]
  simp [h2]
 unfold unH
 rw [e2, e4, e6, e7, map_toI, map_toI]
 simp [toI]
theorem sum_call {S : D.HS} {n : Nat} (hS : S.WF n) (hn : n ≤ 1000000000000) (Γ : Env) (hg : Γ.glob = globs) :
  CallOK Tryz.prog Γ 54 [.ptr 60 true 0] (fun l => look l [(60, .vals (hV S) 159)]) 100 100 { val := .slc 100 true 0 32 32, new := [.ints .u8 (D.bytes (D.press S.st (S.blk.take S.held ++ List.replicate (64 - S.held) 0) (S.cnt + S.held) 4294967295)) 5] } := by
 obtain ⟨st, cnt, blk, held⟩ := S
 obtain ⟨w1, w2, w3, w4, w5⟩ := hS
 simp only at w1 w2 w3 w4 w5
 have hs : SumOK Tryz.prog (env exR 4) 54 (interp (env exR 4) Tryz.f54 true [] 2000) :=
  interp_ok (env_ty exR 4) (env_ok exR exR_ok 4) mix Tryz.func54 (by kernel_rfl) true [] 2000
 have hc : IntKind.u64.wrap (cnt + IntKind.u64.wrap (held : Int)) = cnt + held := by
  rw [IntWalk.u64_in (held : Int) (by omega), IntWalk.u64_in _ (by omega)]
 have hX := clr_eq w2 w3
 have hXl : (clr held blk).length = 64 := by rw [hX]; simp; omega
 have h1 := hs.call (sum_run st blk cnt held) (by
  rw [bytesI_eq w2]
  have hpr : ∀ q ∈ prOb (D.start st (IntKind.u64.wrap (cnt + IntKind.u64.wrap (held : Int))) 4294967295) (D.words (clr held blk)), q :=
   of_allP (l := prOb _ _) (show allP (prOb _ _) from (⟨by simp [D.start, bytesI], by simp [D.words], ⟨rfl, rfl⟩, rfl, trivial⟩ : _ ∧ _ ∧ _ ∧ _ ∧ True))
  intro q hq
  simp only [sumOb, List.mem_append, List.mem_map, List.mem_range] at hq
  rcases hq with hq | ⟨j, hj, rfl⟩ | hq
  ·exact hpr q hq
  ·rw [hXl]; omega
  ·simp only [List.mem_cons, List.not_mem_nil, or_false] at hq
   rcases hq with rfl | rfl
   ·refine ⟨Nat.zero_le _, ?_⟩
    unfold oS
    rw [List.length_replicate, Int.toNat_natCast, w2]
    split <;> omega
   ·omega)
 rw [bytesI_eq w2, hX, hc] at h1
 have h2 := h1.wholeR (C := .vals (hV ⟨st, cnt, blk, held⟩) 159) rfl rfl (fun V => (hC_ok w1 w2 V).symm) rfl
 exact (h2.new1 (C := .ints .u8 _ 5) (o' := []) rfl rfl (fun V => denL_map_int V _ _) rfl).words (by rw [hg]; rfl) (fun _ => rfl) (fun _ _ h => h) (fun _ => rfl) rfl rfl
theorem CallOK.same {P : Program} {Γ : Env} {f : FuncId} {vs : List SV} {T : Tab} {lab F l0 : Nat} {B : SB} {e : Eff} (h : CallOK P Γ f vs T lab F e) (hT : T l0 = some B) (hn : look l0 (e.tab lab) = none) :
  CallOK P Γ f vs T lab F { e with wr := (l0, B) :: e.wr } := by
 intro w0 M V T2 w ys hsub hT1 hg hf hF hx op a K Q hK
 refine h w0 M V T2 w ys hsub hT1 hg hf hF hx op a K Q fun V' x w' h1 h2 h3 => hK V' x w' h1 h2 ?_
 have e1 : upd T2 lab { e with wr := (l0, B) :: e.wr } = upd T2 lab e := by
  funext l
  simp only [upd, Eff.tab, List.cons_append] at hn ⊢
  by_cases q : l = l0
  ·subst q; rw [look_cons_eq, hn, hsub l B hT]
  ·rw [look_cons_ne (fun r => q r.symm)]
 rw [e1]
 exact h3
def D.okV (xs : List Value) (k : Nat) : Prop := xs = hV (unH xs) ∧ ∃ n, (unH xs).WF n ∧ n + k ≤ 1000000000000
def D.sumV (xs : List Value) : List Int := D.bytes (D.press (unH xs).st ((unH xs).blk.take (unH xs).held ++ List.replicate (64 - (unH xs).held) 0) ((unH xs).cnt + (unH xs).held) 4294967295)
def sumDec (vs : List SV) (T : Tab) : Option Canon := match vs with
 | [.ptr l _ _] => match T l with
   | some (.vals xs ty) => match Nat.beq ty 159 with
     | true => some { vs0 := [.ptr 60 true 0], T0 := [(60, .vals xs 159)], vl := [(60, .lab l 0)], e0 := { val := .slc 100 true 0 32 32, new := [.ints .u8 (D.sumV xs) 5], wr := [(60, .vals xs 159)] }, conds := [D.okV xs 0] }
     | false => none
   | _ => none
 | _ => none
theorem sum_ok (Γ : Env) (hg : Γ.glob = globs) : SumOK Tryz.prog Γ 54 (canonS globs 100 sumDec) := by
 refine canonS_ok hg fun vs T c hd hc => ?_
 unfold sumDec at hd
 split at hd
 case h_2 => cases hd
 split at hd
 case h_2 => cases hd
 split at hd
 case h_2 => cases hd
 rename_i xs ty _ _ _
 cases hd
 obtain ⟨h1, n, h2, h3⟩ : D.okV xs 0 := hc _ (by simp)
 have := (sum_call h2 h3 Γ hg).same (l0 := 60) (by simp only [look_cons_eq]; rfl) rfl
 rw [← h1] at this
 exact this
end Go.Proofs.YtjomfjihopegmaaGreatDoor.Sx
end
section
open Go
set_option maxRecDepth 100000
namespace Go.Proofs.YtjomfjihopegmaaGreatDoor.Sx
noncomputable def exS : Nat → Option Sum := addS exR 42 (canonS globs 100 ifDec)
theorem exS_ok : ∀ f S, exS f = some S → ∀ Γ : Env, Γ.glob = globs → SumOK Tryz.prog Γ f S := addS_ok exR_ok 42 _ if_ok
noncomputable def ΓW : Env := env exS 4
theorem ΓW_ty : TyOK Tryz.prog ΓW := env_ty exS 4
theorem ΓW_ok : SumsOK Tryz.prog ΓW := env_ok exS exS_ok 4
def wrT (S : D.HS) (d : List Int) : Tab := fun l => look l [(60, .own (hC S) 159), (61, .rov .u8 d)]
def wrVs (n : Nat) : List SV := [.ptr 60 true 0, .ros 61 n]
noncomputable def wrM (S : D.HS) (d : List Int) (cf : Cf) (K : List Fr) (s : St) : Option Cfg := mrun ΓW (cutT 100 (wrT S d)) 100 Tryz.f53.ntmps [1] 400 2000 cf K s
def wrGs (n : Nat) : List (Nat × SV) := [(0, .ptr 60 true 0), (1, .ros 100 n)]
def wrTb (S : D.HS) (d : List Int) : List (Nat × SB) := [(60, .own (hC S) 159), (100, .rov .u8 d)]
noncomputable def wrR : Option Cfg := wrM ⟨[], 0, [], 0⟩ [] (.go (codeOf Tryz.f53)) [] (st0 (wrVs 0) 100)
noncomputable def cfgC (r : Option Cfg) : Code := match r with
 | some ⟨.go (.loop L), _, _⟩ => L
 | _ => .skip
noncomputable def cfgF (r : Option Cfg) : List Fr := match r with
 | some ⟨_, K, _⟩ => K
 | _ => []
noncomputable def wrL : Code := cfgC wrR
noncomputable def wrK : List Fr := cfgF wrR
def qE (st : List Int) (cnt : Int) (blk : List Int) (h : Int) (S' : D.HS) : List Prop := ((List.range 8).map fun j => st.getD j 0 = S'.st.getD j 0) ++ ((cnt = S'.cnt) :: (((List.range 64).map fun j => blk.getD j 0 = S'.blk.getD j 0) ++ [h = (S'.held : Int)]))
theorem w_0 (S S' : D.HS) (d d' : List Int) (n : Nat) : toC 100 Tryz.f53.ntmps (cutT 100 (wrT S d)) [.ali 1] (wrGs n) (wrTb S' d') 101 [60] [] (wrM S d (.go (codeOf Tryz.f53)) [] ((st0 (wrVs n) 100).hint [])) =
  some (.go (.loop wrL), wrK, (n = n) :: (qE S.st S.cnt S.blk S.held S' ++ [d = d'])) := by kernel_rfl
def oB (h : Nat) : Nat := if (64 : Int) = (h : Int) then 11 else 11 + (h : Int).toNat * 1
def splB (b d : List Int) (o m : Nat) : List Int := b.take (o - 11) ++ d.take m ++ b.drop (o - 11 + (d.take m).length)
def cB (n m : Nat) : Prop := (0 : Int) ≤ (m : Int) ∧ (m : Int) ≤ (n : Int) ∧ (n : Int) ≤ (n : Int)
def mB (d : List Int) (h : Nat) : Nat := d.length.min (64 - (h : Int).toNat)
def tailB (d d' : List Int) (n m : Nat) : List Prop := [(d.drop (m : Int).toNat).take ((n : Int).toNat - (m : Int).toNat) = d']
theorem w_1 (S S0 S' : D.HS) (d d0 d' : List Int) (n n' : Nat) : toC 100 Tryz.f53.ntmps (cutT 100 (wrT S0 d0)) [] (wrGs n') (wrTb S' d') 101 [60] [] (wrM S0 d0 (.go wrL) [] ((stOf (wrGs n) (wrTb S d) 101 [60] []).hint [true, true])) =
  some (.at .normal, [], [cB n (d.length.min 64), (11 ≤ 11 ∧ 11 + (d.take (d.length.min 64)).length ≤ 11 + 64)] ++ (prOb (D.start S.st (IntKind.u64.wrap (S.cnt + 64)) 0) (D.words S.blk) ++
   ([((S.held : Int) == 64) = true, ((S.held : Int) == 64) = ((S.held : Int) == 64), decide ((n : Int) > 0) = true, decide ((n : Int) > 0) = decide ((n : Int) > 0), (n : Int).toNat - ((d.length.min 64 : Nat) : Int).toNat = n'] ++
    (qE (D.press S.st S.blk (IntKind.u64.wrap (S.cnt + 64)) 0) (IntKind.u64.wrap (S.cnt + 64)) (splB (bytesI 64 S.blk) d 11 (d.length.min 64)) (IntKind.i64.wrap (0 + (d.length.min 64 : Nat))) S' ++ tailB d d' n (d.length.min 64))))) := by kernel_rfl
theorem w_2 (S S0 S' : D.HS) (d d0 d' : List Int) (n n' : Nat) : toC 100 Tryz.f53.ntmps (cutT 100 (wrT S0 d0)) [] (wrGs n') (wrTb S' d') 101 [60] [] (wrM S0 d0 (.go wrL) [] ((stOf (wrGs n) (wrTb S d) 101 [60] []).hint [true, false])) =
  some (.at .normal, [], [cB n (mB d S.held), (11 ≤ oB S.held ∧ oB S.held + (d.take (mB d S.held)).length ≤ 11 + 64), (0 : Int) ≤ 64 ∧ (64 : Int) ≤ (64 : Nat) ∧ (0 : Int) ≤ 64 ∧ (64 : Int) ≤ 64 ∧ 0 ≤ (S.held : Int) ∧ (S.held : Int) ≤ 64] ++
   ([((S.held : Int) == 64) = false, ((S.held : Int) == 64) = ((S.held : Int) == 64), decide ((n : Int) > 0) = true, decide ((n : Int) > 0) = decide ((n : Int) > 0), (n : Int).toNat - (mB d S.held : Int).toNat = n'] ++
    (qE S.st S.cnt (splB (bytesI 64 S.blk) d (oB S.held) (mB d S.held)) (IntKind.i64.wrap ((S.held : Int) + (mB d S.held : Nat))) S' ++ tailB d d' n (mB d S.held)))) := by kernel_rfl
theorem w_3 (S S0 : D.HS) (d d0 : List Int) (n : Nat) : toC 100 Tryz.f53.ntmps (cutT 100 (wrT S0 d0)) [] (wrGs n) (wrTb S d) 101 [60] [] (wrM S0 d0 (.go wrL) [] ((stOf (wrGs n) (wrTb S d) 101 [60] []).hint [false])) =
  some (.at (.exit 0), [], [decide ((n : Int) > 0) = false, decide ((n : Int) > 0) = decide ((n : Int) > 0), n = n] ++ (qE S.st S.cnt S.blk S.held S ++ [d = d])) := by kernel_rfl
theorem w_4 (S S0 : D.HS) (d d0 : List Int) (n : Nat) : endC ΓW (wrT S0 d0) 100 100 Tryz.f53 [] (wrM S0 d0 (.at (.exit 0)) wrK ((stOf (wrGs n) (wrTb S d) 101 [60] []).hint [])) = some { val := .tup [], wr := [(60, .own (hC S) 159)] } := by kernel_rfl
end Go.Proofs.YtjomfjihopegmaaGreatDoor.Sx
end
section
open Go
set_option maxRecDepth 100000
namespace Go.Proofs.YtjomfjihopegmaaGreatDoor.Sx
theorem getD_range {α : Type} (f : Nat → α) (d : α) {n j : Nat} (h : j < n) : ((List.range n).map f).getD j d = f j := by
 simp [List.getD_eq_getElem?_getD, h]
theorem qE_ok {st blk : List Int} {cnt h : Int} {S' : D.HS} (h1 : st = S'.st) (h2 : cnt = S'.cnt) (h3 : blk = S'.blk) (h4 : h = (S'.held : Int)) : ∀ q ∈ qE st cnt blk h S', q := by
 subst h1 h2 h3 h4
 intro q hq
 simp only [qE, List.mem_append, List.mem_map, List.mem_cons, List.not_mem_nil, or_false] at hq
 rcases hq with ⟨j, _, rfl⟩ | rfl | ⟨j, _, rfl⟩ | rfl <;> first | rfl | trivial
theorem wr_call {S : D.HS} {n : Nat} (d : List Int) (hS : S.WF n) (hn : n + d.length ≤ 1000000000000) :
  CallOK Tryz.prog ΓW 53 (wrVs d.length) (wrT S d) 100 100 { val := .tup [], wr := [(60, .own (hC (S.take d)) 159)] } := by
 refine call_G ΓW_ty ΓW_ok Tryz.func53 (by kernel_rfl) rfl (Nat.le_of_ble_eq_true (by kernel_rfl)) rfl [] ?_
 intro w0 M V0 Q hb H
 have hty := ΓW_ty
 have hsum := ΓW_ok
 have mem1 : ∀ {p : Prop} {l : List Prop}, p → (∀ q ∈ l, q) → ∀ q ∈ p :: l, q := fun hp hl q hq => (List.mem_cons.1 hq).elim (fun e => e ▸ hp) (hl q)
 have app : ∀ {l l' : List Prop}, (∀ q ∈ l, q) → (∀ q ∈ l', q) → ∀ q ∈ l ++ l', q := fun h1 h2 q hq => (List.mem_append.1 hq).elim (h1 q) (h2 q)
 have nil : ∀ q ∈ ([] : List Prop), q := fun q hq => by cases hq
 refine G.toC hty hsum mix hb [] (w_0 S S d d d.length) (mem1 rfl (app (qE_ok rfl rfl rfl rfl) (mem1 rfl nil))) ?_
 refine G.loop (fun r s => ∃ (S1 : D.HS) (d2 : List Int) (n1 : Nat), S1.WF n1 ∧ n1 + d2.length ≤ 1000000000000 ∧ S1.take d2 = S.take d ∧ r = d2.length ∧ s = stOf (wrGs d2.length) (wrTb S1 d2) 101 [60] []) (r0 := d.length)
  ⟨S, d, n, hS, hn, rfl, rfl, rfl⟩ ?_
 rintro r s ⟨S1, d2, n1, hw, hn1, he, rfl, rfl⟩
 by_cases hz : d2.length = 0
 ·have hd : d2 = [] := List.length_eq_zero_iff.1 hz
  subst hd
  have hf : decide (((List.length ([] : List Int) : Nat) : Int) > 0) = false := by decide
  refine G.toC hty hsum mix hb [false] (w_3 S1 S [] d 0) (app (mem1 hf (mem1 rfl (mem1 rfl nil))) (app (qE_ok rfl rfl rfl rfl) (mem1 rfl nil))) (G.leave (by simp) ?_)
  have he : S1 = S.take d := he
  subst he
  exact G.finC (cl := []) hty hsum mix [] H (w_4 _ S [] d 0) nil rfl rfl rfl
 have hpos : decide ((d2.length : Int) > 0) = true := decide_eq_true (by omega)
 have hne : d2 ≠ [] := fun e => hz (by rw [e]; rfl)
 obtain ⟨st, cnt, blk, held⟩ := S1
 have hw' := hw
 obtain ⟨w1, w2, w3, w4, w5⟩ := hw
 simp only at w1 w2 w3 w4 w5
 have chunk : ∀ (S2 : D.HS) (m : Nat), S2.blk.length = 64 → S2.held < 64 → m = min d2.length (64 - S2.held) → S2.WF n1 →
   (⟨S2.st, S2.cnt, S2.blk.take S2.held ++ d2.take m ++ S2.blk.drop (S2.held + (d2.take m).length), S2.held + m⟩ : D.HS) = S2.take (d2.take m) ∧ (S2.take (d2.take m)).WF (n1 + m) ∧ 0 < m ∧ m ≤ d2.length ∧ S2.held + m ≤ 64 := by
  intro S2 m hb2 hh hm hw2
  have hml : (d2.take m).length = m := by rw [List.length_take]; omega
  refine ⟨?_, ?_, by omega, by omega, by omega⟩
  ·rw [D.take_fit hb2 (by rw [hml]; omega), hml]
  ·have := D.WF_take (d := d2.take m) hw2
   rwa [hml] at this
 have next : ∀ (S2 : D.HS) (m : Nat), S2.take d2 = S.take d → (S2.take (d2.take m)).take (d2.drop m) = S.take d := by
  intro S2 m h
  rw [← h]
  show List.foldl _ (List.foldl _ _ _) _ = _
  rw [← List.foldl_append, List.take_append_drop]
  rfl
 by_cases h64 : held = 64
 ·subst h64
  have hcw : IntKind.u64.wrap (cnt + 64) = cnt + 64 := IntWalk.u64_in _ (by omega)
  have hfull : (⟨D.press st blk (cnt + 64) 0, cnt + 64, blk, 0⟩ : D.HS).take d2 = S.take d := by rw [← he]; exact (D.take_full (S := ⟨st, cnt, blk, 64⟩) rfl hne).symm
  obtain ⟨c1, c2, c3, c4, c5⟩ := chunk ⟨D.press st blk (cnt + 64) 0, cnt + 64, blk, 0⟩ (min d2.length 64) w2 (show (0 : Nat) < 64 by decide) rfl ⟨D.press_length _ _ _ _, w2, Nat.zero_le _, by simp only; omega, by simp only; omega⟩
  have hmin : d2.length.min 64 = min d2.length 64 := rfl
  generalize min d2.length 64 = m at *
  have hnx := next _ m hfull
  refine G.roundC hty hsum mix hb [true, true] (w_1 ⟨st, cnt, blk, 64⟩ S ((⟨D.press st blk (cnt + 64) 0, cnt + 64, blk, 0⟩ : D.HS).take (d2.take m)) d2 d (d2.drop m) d2.length (d2.drop m).length) ?_ (d2.drop m).length (by rw [List.length_drop]; omega) ⟨_, _, n1 + m, c2, by rw [List.length_drop]; omega, hnx, rfl, rfl⟩
  rw [hmin]
  have hml : (d2.take m).length = m := by rw [List.length_take]; omega
  refine app (mem1 ⟨by omega, by omega, by omega⟩ (mem1 ⟨by omega, by rw [hml]; simp only at c5; omega⟩ nil)) (app ?_ (app (mem1 (by rfl) (mem1 rfl (mem1 hpos (mem1 rfl (mem1 (by rw [List.length_drop]; omega) nil))))) (app ?_ (mem1 ?_ nil))))
  ·exact of_allP (l := prOb _ _) (show _ ∧ _ ∧ _ ∧ _ ∧ True from ⟨by simp [D.start, bytesI], by simp [D.words], ⟨rfl, rfl⟩, rfl, trivial⟩)
  ·simp only [hcw]
   rw [← c1]
   refine qE_ok rfl rfl ?_ ?_
   ·simp only [splB, bytesI_eq w2]
   ·show IntKind.i64.wrap _ = ((_ + _ : Nat) : Int)
    rw [IntWalk.i64_in _ (by simp only at *; omega)]
    simp only; omega
  ·rw [Int.toNat_natCast, Int.toNat_natCast, List.take_of_length_le (by simp)]
 ·have hh : held < 64 := by omega
  have hob : oB held = 11 + held := by unfold oB; rw [if_neg (by omega), Int.toNat_natCast]; omega
  have hmb : mB d2 held = min d2.length (64 - held) := rfl
  obtain ⟨c1, c2, c3, c4, c5⟩ := chunk ⟨st, cnt, blk, held⟩ (min d2.length (64 - held)) w2 hh rfl hw'
  have hnx := next _ (min d2.length (64 - held)) he
  refine G.roundC hty hsum mix hb [true, false] (w_2 ⟨st, cnt, blk, held⟩ S ((⟨st, cnt, blk, held⟩ : D.HS).take (d2.take (min d2.length (64 - held)))) d2 d (d2.drop (min d2.length (64 - held))) d2.length (d2.drop (min d2.length (64 - held))).length) ?_ (d2.drop (min d2.length (64 - held))).length (by rw [List.length_drop]; omega) ⟨_, _, n1 + min d2.length (64 - held), c2, by rw [List.length_drop]; omega, hnx, rfl, rfl⟩
  have e1 : mB d2 (⟨st, cnt, blk, held⟩ : D.HS).held = min d2.length (64 - held) := hmb
  have e2 : oB (⟨st, cnt, blk, held⟩ : D.HS).held = 11 + held := hob
  rw [e1, e2]
  clear e1 e2
  generalize min d2.length (64 - held) = m at *
  have hml : (d2.take m).length = m := by rw [List.length_take]; omega
  simp only at c1 c5
  refine app (mem1 ⟨by omega, by omega, by omega⟩ (mem1 ⟨by omega, by omega⟩ (mem1 ⟨by omega, by omega, by omega, by omega, Int.natCast_nonneg _, by simp only; omega⟩ nil))) (app (mem1 (by simpa using by omega) (mem1 rfl (mem1 hpos (mem1 rfl (mem1 (by rw [List.length_drop]; omega) nil))))) (app ?_ (mem1 ?_ nil)))
  ·rw [← c1]
   refine qE_ok rfl rfl ?_ ?_
   ·simp only [splB, bytesI_eq w2, Nat.add_sub_cancel_left]
   ·show IntKind.i64.wrap _ = ((_ + _ : Nat) : Int)
    rw [IntWalk.i64_in _ (by simp only at *; omega)]
    simp only; omega
  ·rw [Int.toNat_natCast, Int.toNat_natCast, List.take_of_length_le (by simp)]
end Go.Proofs.YtjomfjihopegmaaGreatDoor.Sx
end
section
open Go
set_option maxRecDepth 100000
namespace Go.Proofs.YtjomfjihopegmaaGreatDoor.Sx
theorem wrv_call {S : D.HS} {n : Nat} (d : List Int) (hS : S.WF n) (hn : n + d.length ≤ 1000000000000) (Γ : Env) (hg : Γ.glob = globs) :
  CallOK Tryz.prog Γ 53 [.ptr 60 true 0, .ros 61 d.length] (fun l => look l [(60, .vals (hV S) 159), (61, .rov .u8 d)]) 100 100 { val := .tup [], wr := [(60, .vals (hV (S.take d)) 159)] } := by
 have hw := D.WF_take (d := d) hS
 exact ((wr_call d hS hn).whole (C := .vals (hV S) 159) (C' := .vals (hV (S.take d)) 159) (o' := []) rfl rfl (fun V => (hC_ok hS.sl hS.bl V).symm) rfl rfl (fun V => hC_ok hw.sl hw.bl V)).words (by rw [hg]; rfl) (fun _ => rfl) (fun _ _ h => h) (fun _ => rfl) rfl rfl
def D.wrV (xs : List Value) (d : List Int) : List Value := hV ((unH xs).take d)
def D.v0 : List Value := hV D.S0
def hshV : SB → Option (List Value)
 | .vals xs ty => match Nat.beq ty 159 with
   | true => some xs
   | false => none
 | .own _ ty => match Nat.beq ty 159 with
   | true => some D.v0
   | false => none
 | _ => none
def wrDec (vs : List SV) (T : Tab) : Option Canon := match vs with
 | [.ptr l _ _, p] => match T l with
   | some B => match hshV B, seqRo T .u8 p with
     | some xs, some (ob, d) => some { vs0 := [.ptr 60 true 0, .ros 61 d.length], T0 := [(60, .vals xs 159), (61, .rov .u8 d)], vl := [(60, .lab l 0), (61, .arg 1)], e0 := { val := .tup [], wr := [(60, .vals (D.wrV xs d) 159)] }, conds := D.okV xs d.length :: ob }
     | _, _ => none
   | none => none
 | _ => none
theorem wr_ok (Γ : Env) (hg : Γ.glob = globs) : SumOK Tryz.prog Γ 53 (canonS globs 100 wrDec) := by
 refine canonS_ok hg fun vs T c hd hc => ?_
 unfold wrDec at hd
 split at hd
 case h_2 => cases hd
 split at hd
 case h_2 => cases hd
 split at hd
 case h_2 => cases hd
 rename_i xs ob d _ _
 cases hd
 obtain ⟨h1, n, h2, h3⟩ : D.okV xs d.length := hc _ (by simp)
 have := wrv_call d h2 h3 Γ hg
 rw [← h1] at this
 exact this
theorem unH_st (ms : List Int) : unH (hV (D.st ms)) = D.st ms := unH_hV (D.WF_st ms).sl (D.WF_st ms).bl
theorem v0_eq : D.v0 = hV (D.st []) := rfl
theorem wrV_st (ms d : List Int) : D.wrV (hV (D.st ms)) d = hV (D.st (ms ++ d)) := by unfold D.wrV; rw [unH_st, D.st_append]
theorem okV_st (ms : List Int) {k : Nat} (h : ms.length + k ≤ 1000000000000) : D.okV (hV (D.st ms)) k := ⟨by rw [unH_st], ms.length, by rw [unH_st]; exact D.WF_st ms, h⟩
theorem sum_eq (ms : List Int) : D.sumV (hV (D.st ms)) = D.hash ms := by
 unfold D.sumV
 rw [unH_st, D.st_fin]; rfl
noncomputable def exD : Nat → Option Sum := addS (addS exS 53 (canonS globs 100 wrDec)) 54 (canonS globs 100 sumDec)
theorem exD_ok : ∀ f S, exD f = some S → ∀ Γ : Env, Γ.glob = globs → SumOK Tryz.prog Γ f S := addS_ok (addS_ok exS_ok 53 _ wr_ok) 54 _ sum_ok
end Go.Proofs.YtjomfjihopegmaaGreatDoor.Sx
end
section
open Go
set_option maxRecDepth 100000
namespace Go.Proofs.YtjomfjihopegmaaGreatDoor.Sx
theorem find184 : Extern.find Tryz.f153 = some (Extern.Atomic.update (Op.intArith .add) .i64 true) := by rfl
theorem find101 : Extern.find Tryz.f55 = some (Extern.Atomic.loadT (.int .i64)) := by rfl
theorem next184 : Extern.findNext Tryz.f153 = none := by rfl
theorem next101 : Extern.findNext Tryz.f55 = none := by rfl
def atAdd : Sum := fun vs T _ _ => match vs with
 | [.ptr l true off, .int _ .i64 d] => match T l with
   | some (.own cs ty) => match cs[off]? with
     | some (.int _ .i64 c) => some { val := .int false .i64 (IntKind.i64.wrap (c + d)), wr := [(l, .own (cs.take off ++ [.int false .i64 (IntKind.i64.wrap (c + d))] ++ cs.drop (off + 1)) ty)] }
     | _ => none
   | _ => none
 | _ => none
theorem atAdd_ok (Γ : Env) : SumOK Tryz.prog Γ 153 atAdd := by
 intro vs T lab F e he ho w0 M V T2 w xs hsub hT hg hf hF hx o a K Q hK
 unfold atAdd at he
 split at he
 case h_2 => cases he
 rename_i l off s d
 split at he
 case h_2 => cases he
 rename_i cells ty hB
 split at he
 case h_2 => cases he
 rename_i s2 c hc
 cases he
 simp only [denL, den, Option.bind_some, Option.map_some, Option.some.injEq, Option.map_eq_some_iff, Option.bind_eq_some_iff] at hx
 obtain ⟨x, ⟨p, hβ, rfl⟩, ys, rfl, rfl⟩ := hx
 obtain ⟨b, o'⟩ := p
 obtain ⟨us, hu, b', hb', hh⟩ := hT.ok l _ (hsub l _ hB)
 rw [hβ] at hb'
 cases hb'
 have hu : denL V cells = some us := hu
 obtain ⟨v, hv1, hv2⟩ := denL_get hu off _ hc
 cases hv2
 have hlt : off < us.length := (List.getElem?_eq_some_iff.1 hv1).1
 have hcell : w.cell? ⟨b, 0 + off, none⟩ = some (.int .i64 c) := by rw [cell_of_row w b (0 + off) _ _ _ hh]; simpa using hv1
 have hfz : w.frozen? ⟨b, 0 + off, none⟩ = false := by simp [World.frozen?, hh]
 have hs : ∀ z : Int, (store (⟨b, 0 + off, none⟩ : Addr) (.int .i64 z)).run Tryz.prog w = .ok () (w.setCell ⟨b, 0 + off, none⟩ (.int .i64 z)) := fun z => by
  rw [run_store Tryz.prog w _ _ _ rfl, hcell]
  simpa using hfz
 have hrow : w.setCell ⟨b, 0 + off, none⟩ (.int .i64 (IntKind.i64.wrap (c + d))) = w.setRow b (us.take off ++ [Value.int .i64 (IntKind.i64.wrap (c + d))] ++ us.drop (off + 1)).toArray := by
  have h1 := run_storeCells_at Tryz.prog b (0 + off) ty [.int .i64 (IntKind.i64.wrap (c + d))] 0 us.toArray w hh (by simp; omega) (fun q hq => by simp only [List.mem_singleton] at hq; subst hq; rfl)
  have e0 : (⟨b, 0 + off, none⟩ : Addr).add 0 = ⟨b, 0 + off, none⟩ := by simp [Addr.add]
  simp only [storeCells, e0, Sem.run_bind, hs, Result.andThen_ok, Sem.run_pure, Result.ok.injEq, true_and] at h1
  simpa using h1
 have hr := run_call_add (P := Tryz.prog) Tryz.func153 rfl rfl next184 .i64 find184 (a := ⟨b, 0 + off, none⟩) (x := c) (y := d) (s := IntKind.i64.wrap (c + d)) hcell hfz rfl
 rw [hr, Oper.upon_value, hrow]
 refine hK V _ _ (V.ext_refl lab) rfl ?_
 have := hT.write (B0 := .own cells ty) (B := .own (cells.take off ++ [.int false .i64 (IntKind.i64.wrap (c + d))] ++ cells.drop (off + 1)) ty) (hsub l _ hB) hβ rfl (by simp [SB.blk, hβ]) hh
  (cs := us.take off ++ [Value.int .i64 (IntKind.i64.wrap (c + d))] ++ us.drop (off + 1)) (denL_append (denL_append (denL_take off hu) rfl) (denL_drop _ hu)) (.inl rfl) lab (.int false .i64 (IntKind.i64.wrap (c + d))) []
 exact this
def atLd : Sum := fun vs T _ _ => match vs with
 | [.ptr l true off] => match T l with
   | some (.own cs _) => match cs[off]? with
     | some (.int s .i64 c) => some { val := .int s .i64 c }
     | _ => none
   | _ => none
 | _ => none
theorem atLd_ok (Γ : Env) : SumOK Tryz.prog Γ 55 atLd := by
 intro vs T lab F e he ho w0 M V T2 w xs hsub hT hg hf hF hx o a K Q hK
 unfold atLd at he
 split at he
 case h_2 => cases he
 rename_i l off
 split at he
 case h_2 => cases he
 rename_i cells ty hB
 split at he
 case h_2 => cases he
 rename_i s2 c hc
 cases he
 simp only [denL, den, Option.map_some, Option.some.injEq, Option.map_eq_some_iff, Option.bind_eq_some_iff] at hx
 obtain ⟨x, ⟨p, hβ, rfl⟩, ys, rfl, rfl⟩ := hx
 obtain ⟨b, o'⟩ := p
 obtain ⟨us, hu, b', hb', hh⟩ := hT.ok l _ (hsub l _ hB)
 rw [hβ] at hb'
 cases hb'
 have hu : denL V cells = some us := hu
 obtain ⟨v, hv1, hv2⟩ := denL_get hu off _ hc
 cases hv2
 have hcell : w.cell? ⟨b, 0 + off, none⟩ = some (.int .i64 c) := by rw [cell_of_row w b (0 + off) _ _ _ hh]; simpa using hv1
 rw [run_call_load (P := Tryz.prog) Tryz.func55 rfl rfl next101 .i64 find101 hcell, Oper.upon_value]
 exact hK V _ w (V.ext_refl lab) rfl (by rw [upd_none T2 lab rfl rfl]; exact hT)
noncomputable def exAt : Nat → Option Sum := addS (addS exR 153 atAdd) 55 atLd
theorem exAt_ok : ∀ f S, exAt f = some S → ∀ Γ : Env, Γ.glob = globs → SumOK Tryz.prog Γ f S := addS_ok (addS_ok exR_ok 153 _ fun Γ _ => atAdd_ok Γ) 55 _ fun Γ _ => atLd_ok Γ
def lgC (n : Int) (l : Nat) : List SV := [.int false .i64 n, .buf l]
def lgL (evs : List (Int × Int)) : List (Nat × SB) := [(57, .own (lgC evs.length 58) 58), (58, .rowp evs 192)]
def lgT (evs : List (Int × Int)) : Tab := fun l => look l (lgL evs)
def puE (k v : Int) (x : SV) (evs : List (Int × Int)) : Eff := { obl := [(evs.length + 1) * 16 ≤ 140737488355328 ∧ evs.length + 1 ≤ 9223372036854775807], val := x, new := [.rowp (evs ++ [(k, v)]) 192], wr := [(57, .own [.int false .i64 (IntKind.i64.wrap ((evs.length : Int) + 1)), .buf 100] 58), (58, .gone)] }
theorem if_1 (evs : List (Int × Int)) : interp (env exAt 4) Tryz.f42 true [] 600 [.ptr 57 true 0, .bool true true] (lgT evs) 100 100 = some (puE 1 1 (.bool true true) evs) := by kernel_rfl
theorem if_0 (evs : List (Int × Int)) : interp (env exAt 4) Tryz.f42 true [] 600 [.ptr 57 true 0, .bool true false] (lgT evs) 100 100 = some (puE 1 0 (.bool true false) evs) := by kernel_rfl
theorem at_0 (evs : List (Int × Int)) (i : Int) : interp (env exAt 4) Tryz.f43 true [] 600 [.ptr 57 true 0, .int false .i64 i] (lgT evs) 100 100 = some (puE 2 i (.int false .i64 i) evs) := by kernel_rfl
theorem op_0 (evs : List (Int × Int)) (i : Int) : interp (env exAt 4) Tryz.f44 true [] 600 [.ptr 57 true 0, .int false .i64 i] (lgT evs) 100 100 = some (puE 3 i (.tup []) evs) := by kernel_rfl
def lgE (x : SV) (evs : List (Int × Int)) : Eff := { val := x, new := [.rowp evs 192], wr := [(57, .own (lgC evs.length 100) 58), (58, .gone)] }
theorem pu_call {f : Nat} {fn : Func} {vs : List SV} {k v : Int} {x : SV} {evs : List (Int × Int)} (hs : SumOK Tryz.prog (env exAt 4) f (interp (env exAt 4) fn true [] 600)) (hr : interp (env exAt 4) fn true [] 600 vs (lgT evs) 100 100 = some (puE k v x evs)) (hl : evs.length ≤ 1000000000000) (Γ : Env) (hg : Γ.glob = globs) :
  CallOK Tryz.prog Γ f vs (lgT evs) 100 100 (lgE x (evs ++ [(k, v)])) := by
 have h1 := hs.call hr (by
  intro q hq
  simp only [puE, List.mem_singleton] at hq
  subst hq
  omega)
 have e : IntKind.i64.wrap ((evs.length : Int) + 1) = ((evs ++ [(k, v)]).length : Int) := by
  rw [IntWalk.i64_in _ (by omega)]; simp
 refine h1.words (by rw [hg]; rfl) (fun _ => rfl) (fun _ _ h => h) (fun _ => rfl) rfl ?_
 simp only [puE, lgE, lgC, e]
theorem ifL_call (s b : Bool) {evs : List (Int × Int)} (hl : evs.length ≤ 1000000000000) (Γ : Env) (hg : Γ.glob = globs) :
  CallOK Tryz.prog Γ 42 [.ptr 57 true 0, .bool s b] (lgT evs) 100 100 (lgE (.bool s b) (evs ++ [(1, if b then 1 else 0)])) := by
 have hs : SumOK Tryz.prog (env exAt 4) 42 (interp (env exAt 4) Tryz.f42 true [] 600) := interp_ok (env_ty exAt 4) (env_ok exAt exAt_ok 4) mix Tryz.func42 (by kernel_rfl) true [] 600
 cases b with
 | true => exact (pu_call hs (if_1 evs) hl Γ hg).words rfl (fun _ => rfl) (fun _ _ h => h) (fun _ => rfl) rfl rfl
 | false => exact (pu_call hs (if_0 evs) hl Γ hg).words rfl (fun _ => rfl) (fun _ _ h => h) (fun _ => rfl) rfl rfl
theorem atL_call (s : Bool) (i : Int) {evs : List (Int × Int)} (hl : evs.length ≤ 1000000000000) (Γ : Env) (hg : Γ.glob = globs) :
  CallOK Tryz.prog Γ 43 [.ptr 57 true 0, .int s .i64 i] (lgT evs) 100 100 (lgE (.int s .i64 i) (evs ++ [(2, i)])) := by
 have hs : SumOK Tryz.prog (env exAt 4) 43 (interp (env exAt 4) Tryz.f43 true [] 600) := interp_ok (env_ty exAt 4) (env_ok exAt exAt_ok 4) mix Tryz.func43 (by kernel_rfl) true [] 600
 exact (pu_call hs (at_0 evs i) hl Γ hg).words rfl (fun _ => rfl) (fun _ _ h => h) (fun _ => rfl) rfl rfl
theorem opL_call (s : Bool) (i : Int) {evs : List (Int × Int)} (hl : evs.length ≤ 1000000000000) (Γ : Env) (hg : Γ.glob = globs) :
  CallOK Tryz.prog Γ 44 [.ptr 57 true 0, .int s .i64 i] (lgT evs) 100 100 (lgE (.tup []) (evs ++ [(3, i)])) := by
 have hs : SumOK Tryz.prog (env exAt 4) 44 (interp (env exAt 4) Tryz.f44 true [] 600) := interp_ok (env_ty exAt 4) (env_ok exAt exAt_ok 4) mix Tryz.func44 (by kernel_rfl) true [] 600
 exact (pu_call hs (op_0 evs i) hl Γ hg).words rfl (fun _ => rfl) (fun _ _ h => h) (fun _ => rfl) rfl rfl
def lgIn (T : Tab) (L : Nat) : Option (Nat × List (Int × Int)) := match T L with
 | some (.own [.int _ .i64 _, .buf l2] ty) => match Nat.beq ty 58, T l2 with
   | true, some (.rowp evs t2) => match Nat.beq t2 192 with
     | true => some (l2, evs)
     | false => none
   | _, _ => none
 | _ => none
def lgVl (L l2 : Nat) : List (Nat × Src0) := [(57, .lab L 0), (58, .lab l2 0)]
def lgCan (vs0 : List SV) (x : SV) (e : Int × Int) (T : Tab) (L : Nat) : Option Canon := match lgIn T L with
 | some (l2, evs) => some { vs0 := vs0, T0 := lgL evs, vl := lgVl L l2, e0 := lgE x (evs ++ [e]), conds := [evs.length ≤ 1000000000000] }
 | none => none
def ifLDec (vs : List SV) (T : Tab) : Option Canon := match vs with
 | [.raw (.pointer none), .bool s b] => some { vs0 := [.raw (.pointer none), .bool s b], T0 := [], vl := [], e0 := { val := .bool s b } }
 | [.ptr L _ _, .bool s b] => lgCan [.ptr 57 true 0, .bool s b] (.bool s b) (1, if b then 1 else 0) T L
 | _ => none
def atLDec (vs : List SV) (T : Tab) : Option Canon := match vs with
 | [.ptr L _ _, .int s .i64 i] => lgCan [.ptr 57 true 0, .int s .i64 i] (.int s .i64 i) (2, i) T L
 | _ => none
def opLDec (vs : List SV) (T : Tab) : Option Canon := match vs with
 | [.ptr L _ _, .int s .i64 i] => lgCan [.ptr 57 true 0, .int s .i64 i] (.tup []) (3, i) T L
 | _ => none
theorem ifL_ok (Γ : Env) (hg : Γ.glob = globs) : SumOK Tryz.prog Γ 42 (canonS globs 100 ifLDec) := by
 refine canonS_ok hg fun vs T c hd hc => ?_
 unfold ifLDec at hd
 split at hd
 ·cases hd; exact if_call _ _ Γ hg
 ·unfold lgCan at hd
  split at hd
  case h_2 => cases hd
  cases hd
  exact ifL_call _ _ (hc _ (by simp)) Γ hg
 ·cases hd
theorem atL_ok (Γ : Env) (hg : Γ.glob = globs) : SumOK Tryz.prog Γ 43 (canonS globs 100 atLDec) := by
 refine canonS_ok hg fun vs T c hd hc => ?_
 unfold atLDec at hd
 split at hd
 case h_2 => cases hd
 unfold lgCan at hd
 split at hd
 case h_2 => cases hd
 cases hd
 exact atL_call _ _ (hc _ (by simp)) Γ hg
theorem opL_ok (Γ : Env) (hg : Γ.glob = globs) : SumOK Tryz.prog Γ 44 (canonS globs 100 opLDec) := by
 refine canonS_ok hg fun vs T c hd hc => ?_
 unfold opLDec at hd
 split at hd
 case h_2 => cases hd
 unfold lgCan at hd
 split at hd
 case h_2 => cases hd
 cases hd
 exact opL_call _ _ (hc _ (by simp)) Γ hg
noncomputable def exL : Nat → Option Sum := addS (addS (addS exAt 42 (canonS globs 100 ifLDec)) 43 (canonS globs 100 atLDec)) 44 (canonS globs 100 opLDec)
theorem exL_ok : ∀ f S, exL f = some S → ∀ Γ : Env, Γ.glob = globs → SumOK Tryz.prog Γ f S := addS_ok (addS_ok (addS_ok exAt_ok 42 _ ifL_ok) 43 _ atL_ok) 44 _ opL_ok
end Go.Proofs.YtjomfjihopegmaaGreatDoor.Sx
end
section
open Go
set_option maxRecDepth 100000
namespace Go.Proofs.YtjomfjihopegmaaGreatDoor.Sx
noncomputable def ΓWL : Env := env exL 4
theorem ΓWL_ty : TyOK Tryz.prog ΓWL := env_ty exL 4
theorem ΓWL_ok : SumsOK Tryz.prog ΓWL := env_ok exL exL_ok 4
def hL (S : D.HS) : List SV := [.ptr 57 true 0, .int true .i64 32] ++ (intsV .u32 8 S.st ++ (.int false .u64 S.cnt :: (intsV .u8 64 S.blk ++ [.int false .i64 (S.held : Int)])))
def vlL (S : D.HS) (d : List Int) (evs : List (Int × Int)) : List (Nat × SB) := (60, .own (hL S) 159) :: (61, .rov .u8 d) :: lgL evs
def vlT (S : D.HS) (d : List Int) (evs : List (Int × Int)) : Tab := fun l => look l (vlL S d evs)
noncomputable def vlM (S : D.HS) (d : List Int) (evs : List (Int × Int)) (cf : Cf) (K : List Fr) (s : St) : Option Cfg := mrun ΓWL (cutT 100 (vlT S d evs)) 100 Tryz.f53.ntmps [1] 400 2000 cf K s
def vlTb (S : D.HS) (d : List Int) (evs : List (Int × Int)) : List (Nat × SB) := [(60, .own (hL S) 159), (57, .own (lgC evs.length 101) 58), (58, .gone), (100, .rov .u8 d), (101, .rowp evs 192)]
noncomputable def vlR : Option Cfg := vlM ⟨[], 0, [], 0⟩ [] [] (.go (codeOf Tryz.f53)) [] (st0 (wrVs 0) 100)
noncomputable def vlLp : Code := cfgC vlR
noncomputable def vlK : List Fr := cfgF vlR
def iE (b : Bool) : Int × Int := (1, if b then 1 else 0)
def lgO (x : Prop) (evs : List (Int × Int)) (r : List Prop) : List Prop := (evs.length ≤ 1000000000000) :: x :: ((evs.length : Int) = (evs.length : Int)) :: (evs = evs) :: r
def lgO' (evs : List (Int × Int)) (r : List Prop) : List Prop := (evs.length ≤ 1000000000000) :: ((evs.length : Int) = (evs.length : Int)) :: (evs = evs) :: r
def ev1 (n : Nat) (evs : List (Int × Int)) : List (Int × Int) := evs ++ [iE (decide ((n : Int) > 0))]
def ev2 (n h : Nat) (evs : List (Int × Int)) : List (Int × Int) := ev1 n evs ++ [iE ((h : Int) == 64)]
def ev3 (n h : Nat) (evs : List (Int × Int)) : List (Int × Int) := ev2 n h evs ++ [(2, (h : Int))]
def ev4 (n h m : Nat) (evs : List (Int × Int)) : List (Int × Int) := ev3 n h evs ++ [(2, (m : Int))]
def ev3' (n h : Nat) (evs : List (Int × Int)) : List (Int × Int) := ev2 n h evs ++ [(3, 31)]
def ev4' (n h : Nat) (evs : List (Int × Int)) : List (Int × Int) := ev3' n h evs ++ [(2, 0)]
def ev5' (n h m : Nat) (evs : List (Int × Int)) : List (Int × Int) := ev4' n h evs ++ [(2, (m : Int))]
theorem v_0 (S S' : D.HS) (d d' : List Int) (n : Nat) (evs evs' : List (Int × Int)) : toC 100 Tryz.f53.ntmps (cutT 100 (vlT S d evs)) [.ali 1, .mvb 57 1] (wrGs n) (vlTb S' d' evs') 102 [60, 57, 58] [] (vlM S d evs (.go (codeOf Tryz.f53)) [] ((st0 (wrVs n) 100).hint [])) =
  some (.go (.loop vlLp), vlK, (n = n) :: (qE S.st S.cnt S.blk S.held S' ++ [(evs.length : Int) = (evs'.length : Int), d = d', evs = evs'])) := by kernel_rfl
theorem v_3 (S S0 : D.HS) (d d0 : List Int) (n : Nat) (evs0 evs evs' : List (Int × Int)) : toC 100 Tryz.f53.ntmps (cutT 100 (vlT S0 d0 evs0)) [] (wrGs n) (vlTb S d evs') 102 [60, 57, 58] [] (vlM S0 d0 evs0 (.go vlLp) [] ((stOf (wrGs n) (vlTb S d evs) 102 [60, 57, 58] []).hint [false])) =
  some (.at (.exit 0), [], (decide ((n : Int) > 0) = false) :: lgO (decide ((n : Int) > 0) = decide ((n : Int) > 0)) evs ((n = n) :: (qE S.st S.cnt S.blk S.held S ++ [((ev1 n evs).length : Int) = (evs'.length : Int), d = d, ev1 n evs = evs']))) := by kernel_rfl
theorem v_2 (S S0 S' : D.HS) (d d0 d' : List Int) (n n' : Nat) (evs0 evs evs' : List (Int × Int)) : toC 100 Tryz.f53.ntmps (cutT 100 (vlT S0 d0 evs0)) [] (wrGs n') (vlTb S' d' evs') 102 [60, 57, 58] [] (vlM S0 d0 evs0 (.go vlLp) [] ((stOf (wrGs n) (vlTb S d evs) 102 [60, 57, 58] []).hint [true, false])) =
  some (.at .normal, [], cB n (mB d S.held) :: lgO ((mB d S.held : Int) = (mB d S.held : Int)) (ev3 n S.held evs) ((11 ≤ oB S.held ∧ oB S.held + (d.take (mB d S.held)).length ≤ 11 + 64) :: ((0 : Int) ≤ 64 ∧ (64 : Int) ≤ (64 : Nat) ∧ (0 : Int) ≤ 64 ∧ (64 : Int) ≤ 64 ∧ 0 ≤ (S.held : Int) ∧ (S.held : Int) ≤ 64) ::
   lgO ((S.held : Int) = (S.held : Int)) (ev2 n S.held evs) ((((S.held : Int) == 64) = false) :: lgO (((S.held : Int) == 64) = ((S.held : Int) == 64)) (ev1 n evs) ((decide ((n : Int) > 0) = true) :: lgO (decide ((n : Int) > 0) = decide ((n : Int) > 0)) evs
    (((n : Int).toNat - (mB d S.held : Int).toNat = n') :: (qE S.st S.cnt (splB (bytesI 64 S.blk) d (oB S.held) (mB d S.held)) (IntKind.i64.wrap ((S.held : Int) + (mB d S.held : Nat))) S' ++ (((ev4 n S.held (mB d S.held) evs).length : Int) = (evs'.length : Int)) :: (tailB d d' n (mB d S.held) ++ [ev4 n S.held (mB d S.held) evs = evs']))))))) := by kernel_rfl
theorem v_4 (S S0 : D.HS) (d d0 : List Int) (n : Nat) (evs0 evs : List (Int × Int)) : endC ΓWL (vlT S0 d0 evs0) 100 100 Tryz.f53 [] (vlM S0 d0 evs0 (.at (.exit 0)) vlK ((stOf (wrGs n) (vlTb S d evs) 102 [60, 57, 58] []).hint [])) =
  some { val := .tup [], new := [.rowp evs 192], wr := [(60, .own (hL S) 159), (57, .own (lgC evs.length 100) 58), (58, .gone)] } := by kernel_rfl
theorem v_1 (S S0 S' : D.HS) (d d0 d' : List Int) (n n' : Nat) (evs0 evs evs' : List (Int × Int)) : toC 100 Tryz.f53.ntmps (cutT 100 (vlT S0 d0 evs0)) [] (wrGs n') (vlTb S' d' evs') 102 [60, 57, 58] [] (vlM S0 d0 evs0 (.go vlLp) [] ((stOf (wrGs n) (vlTb S d evs) 102 [60, 57, 58] []).hint [true, true])) =
  some (.at .normal, [], cB n (d.length.min 64) :: lgO (((d.length.min 64 : Nat) : Int) = ((d.length.min 64 : Nat) : Int)) (ev4' n S.held evs) ((11 ≤ 11 ∧ 11 + (d.take (d.length.min 64)).length ≤ 11 + 64) :: lgO' (ev3' n S.held evs) (prOb (D.start S.st (IntKind.u64.wrap (S.cnt + 64)) 0) (D.words S.blk) ++
   lgO' (ev2 n S.held evs) ((((S.held : Int) == 64) = true) :: lgO (((S.held : Int) == 64) = ((S.held : Int) == 64)) (ev1 n evs) ((decide ((n : Int) > 0) = true) :: lgO (decide ((n : Int) > 0) = decide ((n : Int) > 0)) evs
    (((n : Int).toNat - ((d.length.min 64 : Nat) : Int).toNat = n') :: (qE (D.press S.st S.blk (IntKind.u64.wrap (S.cnt + 64)) 0) (IntKind.u64.wrap (S.cnt + 64)) (splB (bytesI 64 S.blk) d 11 (d.length.min 64)) (IntKind.i64.wrap (0 + (d.length.min 64 : Nat))) S' ++ (((ev5' n S.held (d.length.min 64) evs).length : Int) = (evs'.length : Int)) :: (tailB d d' n (d.length.min 64) ++ [ev5' n S.held (d.length.min 64) evs = evs'])))))))) := by kernel_rfl
end Go.Proofs.YtjomfjihopegmaaGreatDoor.Sx
end
section
open Go
set_option maxRecDepth 100000
namespace Go.Proofs.YtjomfjihopegmaaGreatDoor.Sx
def D.wrE (h n : Nat) : List (Int × Int) :=
 if n = 0 then [(1, 0)]
 else if 64 ≤ h then (1, 1) :: (1, 1) :: (3, 31) :: (2, 0) :: (2, ((min n 64 : Nat) : Int)) :: D.wrE (min n 64) (n - min n 64)
 else (1, 1) :: (1, 0) :: (2, (h : Int)) :: (2, ((min n (64 - h) : Nat) : Int)) :: D.wrE (h + min n (64 - h)) (n - min n (64 - h))
termination_by n
decreasing_by all_goals omega
theorem D.wrE_zero (h : Nat) : D.wrE h 0 = [(1, 0)] := by rw [D.wrE]; simp
theorem D.wrE_full {n : Nat} (hn : n ≠ 0) : D.wrE 64 n = (1, 1) :: (1, 1) :: (3, 31) :: (2, 0) :: (2, ((min n 64 : Nat) : Int)) :: D.wrE (min n 64) (n - min n 64) := by rw [D.wrE]; simp [hn]
theorem D.wrE_part {h n : Nat} (hn : n ≠ 0) (hh : h < 64) : D.wrE h n = (1, 1) :: (1, 0) :: (2, (h : Int)) :: (2, ((min n (64 - h) : Nat) : Int)) :: D.wrE (h + min n (64 - h)) (n - min n (64 - h)) := by
 rw [D.wrE]; simp [hn, show ¬ 64 ≤ h by omega]
theorem D.wrE_len (n : Nat) : ∀ h, (D.wrE h n).length ≤ 5 * n + 1 := by
 induction n using Nat.strongRecOn with
 | ind n ih =>
   intro h
   rw [D.wrE]
   split
   ·simp
   ·split
    ·have := ih (n - min n 64) (by omega) (min n 64)
     simp only [List.length_cons]; omega
    ·have := ih (n - min n (64 - h)) (by omega) (h + min n (64 - h))
     simp only [List.length_cons]; omega
theorem mem1L {p : Prop} {l : List Prop} (hp : p) (hl : ∀ q ∈ l, q) : ∀ q ∈ p :: l, q := fun q hq => (List.mem_cons.1 hq).elim (fun e => e ▸ hp) (hl q)
theorem iE_t : iE true = (1, 1) := rfl
theorem iE_f : iE false = (1, 0) := rfl
theorem lgO_ok {x : Prop} {evs : List (Int × Int)} {r : List Prop} (h1 : evs.length ≤ 1000000000000) (h2 : x) (h3 : ∀ q ∈ r, q) : ∀ q ∈ lgO x evs r, q := mem1L h1 (mem1L h2 (mem1L rfl (mem1L rfl h3)))
theorem lgO'_ok {evs : List (Int × Int)} {r : List Prop} (h1 : evs.length ≤ 1000000000000) (h3 : ∀ q ∈ r, q) : ∀ q ∈ lgO' evs r, q := mem1L h1 (mem1L rfl (mem1L rfl h3))
def hsE (S : D.HS) (evs : List (Int × Int)) : Eff := { val := .tup [], new := [.rowp evs 192], wr := [(60, .own (hL S) 159), (57, .own (lgC evs.length 100) 58), (58, .gone)] }
theorem wrL_call {S : D.HS} {n : Nat} (d : List Int) (evs : List (Int × Int)) (hS : S.WF n) (hn : n + d.length ≤ 1000000000000) (hl : evs.length + 5 * d.length + 10 ≤ 1000000000000) :
  CallOK Tryz.prog ΓWL 53 (wrVs d.length) (vlT S d evs) 100 100 (hsE (S.take d) (evs ++ D.wrE S.held d.length)) := by
 refine call_G ΓWL_ty ΓWL_ok Tryz.func53 (by kernel_rfl) rfl (Nat.le_of_ble_eq_true (by kernel_rfl)) rfl [] ?_
 intro w0 M V0 Q hb H
 have hty := ΓWL_ty
 have hsum := ΓWL_ok
 have mem1 : ∀ {p : Prop} {l : List Prop}, p → (∀ q ∈ l, q) → ∀ q ∈ p :: l, q := fun hp hl q hq => (List.mem_cons.1 hq).elim (fun e => e ▸ hp) (hl q)
 have app : ∀ {l l' : List Prop}, (∀ q ∈ l, q) → (∀ q ∈ l', q) → ∀ q ∈ l ++ l', q := fun h1 h2 q hq => (List.mem_append.1 hq).elim (h1 q) (h2 q)
 have nil : ∀ q ∈ ([] : List Prop), q := fun q hq => by cases hq
 refine G.toC hty hsum mix hb [] (v_0 S S d d d.length evs evs) (mem1 rfl (app (qE_ok rfl rfl rfl rfl) (mem1 rfl (mem1 rfl (mem1 rfl nil))))) ?_
 refine G.loop (fun r s => ∃ (S1 : D.HS) (d2 : List Int) (n1 : Nat) (ev : List (Int × Int)), S1.WF n1 ∧ n1 + d2.length ≤ 1000000000000 ∧ S1.take d2 = S.take d ∧ ev ++ D.wrE S1.held d2.length = evs ++ D.wrE S.held d.length ∧ ev.length + 5 * d2.length + 10 ≤ 1000000000000 ∧ r = d2.length ∧ s = stOf (wrGs d2.length) (vlTb S1 d2 ev) 102 [60, 57, 58] []) (r0 := d.length)
  ⟨S, d, n, evs, hS, hn, rfl, rfl, hl, rfl, rfl⟩ ?_
 rintro r s ⟨S1, d2, n1, ev, hw, hn1, he, hev, hel, rfl, rfl⟩
 by_cases hz : d2.length = 0
 ·have hd : d2 = [] := List.length_eq_zero_iff.1 hz
  subst hd
  have hf : decide (((List.length ([] : List Int) : Nat) : Int) > 0) = false := by decide
  refine G.toC hty hsum mix hb [false] (v_3 S1 S [] d 0 evs ev (evs ++ D.wrE S.held d.length)) (mem1 hf (lgO_ok (by omega) rfl (mem1 rfl (app (qE_ok rfl rfl rfl rfl) ?_)))) (G.leave (by simp) ?_)
  ·have e : ev1 0 ev = evs ++ D.wrE S.held d.length := by rw [← hev, List.length_nil, D.wrE_zero]; rfl
   rw [e]
   exact mem1 rfl (mem1 rfl (mem1 rfl nil))
  have he : S1 = S.take d := he
  subst he
  exact G.finC (cl := []) hty hsum mix [] H (v_4 _ S [] d 0 evs _) nil rfl rfl rfl
 have hpos : decide ((d2.length : Int) > 0) = true := decide_eq_true (by omega)
 have hne : d2 ≠ [] := fun e => hz (by rw [e]; rfl)
 obtain ⟨st, cnt, blk, held⟩ := S1
 have hw' := hw
 obtain ⟨w1, w2, w3, w4, w5⟩ := hw
 simp only at w1 w2 w3 w4 w5
 have chunk : ∀ (S2 : D.HS) (m : Nat), S2.blk.length = 64 → S2.held < 64 → m = min d2.length (64 - S2.held) → S2.WF n1 →
   (⟨S2.st, S2.cnt, S2.blk.take S2.held ++ d2.take m ++ S2.blk.drop (S2.held + (d2.take m).length), S2.held + m⟩ : D.HS) = S2.take (d2.take m) ∧ (S2.take (d2.take m)).WF (n1 + m) ∧ 0 < m ∧ m ≤ d2.length ∧ S2.held + m ≤ 64 := by
  intro S2 m hb2 hh hm hw2
  have hml : (d2.take m).length = m := by rw [List.length_take]; omega
  refine ⟨?_, ?_, by omega, by omega, by omega⟩
  ·rw [D.take_fit hb2 (by rw [hml]; omega), hml]
  ·have := D.WF_take (d := d2.take m) hw2
   rwa [hml] at this
 have next : ∀ (S2 : D.HS) (m : Nat), S2.take d2 = S.take d → (S2.take (d2.take m)).take (d2.drop m) = S.take d := by
  intro S2 m h
  rw [← h]
  show List.foldl _ (List.foldl _ _ _) _ = _
  rw [← List.foldl_append, List.take_append_drop]
  rfl
 by_cases h64 : held = 64
 ·subst h64
  have hcw : IntKind.u64.wrap (cnt + 64) = cnt + 64 := IntWalk.u64_in _ (by omega)
  have hfull : (⟨D.press st blk (cnt + 64) 0, cnt + 64, blk, 0⟩ : D.HS).take d2 = S.take d := by rw [← he]; exact (D.take_full (S := ⟨st, cnt, blk, 64⟩) rfl hne).symm
  obtain ⟨c1, c2, c3, c4, c5⟩ := chunk ⟨D.press st blk (cnt + 64) 0, cnt + 64, blk, 0⟩ (min d2.length 64) w2 (show (0 : Nat) < 64 by decide) rfl ⟨D.press_length _ _ _ _, w2, Nat.zero_le _, by simp only; omega, by simp only; omega⟩
  have hmin : d2.length.min 64 = min d2.length 64 := rfl
  have hn0 : d2.length ≠ 0 := hz
  rw [D.wrE_full hn0] at hev
  generalize min d2.length 64 = m at *
  have hnx := next _ m hfull
  have hdt : decide ((d2.length : Int) > 0) = true := hpos
  have e4 : ev5' d2.length 64 m ev = ev ++ [(1, 1), (1, 1), (3, 31), (2, 0), (2, (m : Int))] := by
   unfold ev5' ev4' ev3' ev2 ev1
   rw [hdt, show (((64 : Nat) : Int) == 64) = true from rfl, iE_t]
   simp only [List.append_assoc, List.cons_append, List.nil_append]
  have hheld : ((⟨D.press st blk (cnt + 64) 0, cnt + 64, blk, 0⟩ : D.HS).take (d2.take m)).held = m := by rw [← c1]; exact Nat.zero_add m
  have l1 : (ev1 d2.length ev).length = ev.length + 1 := by simp [ev1]
  have l2 : (ev2 d2.length 64 ev).length = ev.length + 2 := by simp [ev2, l1]
  have l3 : (ev3' d2.length 64 ev).length = ev.length + 3 := by simp [ev3', l2]
  have l4 : (ev4' d2.length 64 ev).length = ev.length + 4 := by simp [ev4', l3]
  refine G.roundC hty hsum mix hb [true, true] (v_1 ⟨st, cnt, blk, 64⟩ S ((⟨D.press st blk (cnt + 64) 0, cnt + 64, blk, 0⟩ : D.HS).take (d2.take m)) d2 d (d2.drop m) d2.length (d2.drop m).length evs ev (ev5' d2.length 64 m ev)) ?_ (d2.drop m).length (by rw [List.length_drop]; omega) ⟨_, _, n1 + m, _, c2, by rw [List.length_drop]; omega, hnx, ?_, by rw [e4, List.length_append, List.length_drop]; simp only [List.length_cons, List.length_nil]; omega, rfl, rfl⟩
  rotate_left
  ·rw [hheld, e4, ← hev, List.length_drop]
   simp only [List.append_assoc, List.cons_append, List.nil_append]
  rw [hmin]
  have hml : (d2.take m).length = m := by rw [List.length_take]; omega
  refine mem1 ⟨by omega, by omega, by omega⟩ (lgO_ok (by rw [l4]; omega) rfl (mem1 ⟨by omega, by rw [hml]; simp only at c5; omega⟩ (lgO'_ok (by rw [l3]; omega) (app ?_ (lgO'_ok (by rw [l2]; omega) (mem1 (by rfl) (lgO_ok (by rw [l1]; omega) rfl (mem1 hpos (lgO_ok (by omega) rfl (mem1 (by rw [List.length_drop]; omega) (app ?_ (mem1 rfl (app (mem1 ?_ nil) (mem1 rfl nil))))))))))))))
  ·exact of_allP (l := prOb _ _) (show _ ∧ _ ∧ _ ∧ _ ∧ True from ⟨by simp [D.start, bytesI], by simp [D.words], ⟨rfl, rfl⟩, rfl, trivial⟩)
  ·simp only [hcw]
   rw [← c1]
   refine qE_ok rfl rfl ?_ ?_
   ·simp only [splB, bytesI_eq w2]
   ·show IntKind.i64.wrap _ = ((_ + _ : Nat) : Int)
    rw [IntWalk.i64_in _ (by simp only at *; omega)]
    simp only; omega
  ·rw [Int.toNat_natCast, Int.toNat_natCast, List.take_of_length_le (by simp)]
 ·have hh : held < 64 := by omega
  have hob : oB held = 11 + held := by unfold oB; rw [if_neg (by omega), Int.toNat_natCast]; omega
  have hmb : mB d2 held = min d2.length (64 - held) := rfl
  obtain ⟨c1, c2, c3, c4, c5⟩ := chunk ⟨st, cnt, blk, held⟩ (min d2.length (64 - held)) w2 hh rfl hw'
  have hnx := next _ (min d2.length (64 - held)) he
  rw [D.wrE_part hz hh] at hev
  have h64f : ((held : Int) == 64) = false := by simpa using by omega
  have e4 : ev4 d2.length held (min d2.length (64 - held)) ev = ev ++ [(1, 1), (1, 0), (2, (held : Int)), (2, ((min d2.length (64 - held) : Nat) : Int))] := by
   unfold ev4 ev3 ev2 ev1
   rw [hpos, h64f, iE_t, iE_f]
   simp only [List.append_assoc, List.cons_append, List.nil_append]
  have hheld : ((⟨st, cnt, blk, held⟩ : D.HS).take (d2.take (min d2.length (64 - held)))).held = held + min d2.length (64 - held) := by rw [← c1]
  have l1 : (ev1 d2.length ev).length = ev.length + 1 := by simp [ev1]
  have l2 : (ev2 d2.length held ev).length = ev.length + 2 := by simp [ev2, l1]
  have l3 : (ev3 d2.length held ev).length = ev.length + 3 := by simp [ev3, l2]
  refine G.roundC hty hsum mix hb [true, false] (v_2 ⟨st, cnt, blk, held⟩ S ((⟨st, cnt, blk, held⟩ : D.HS).take (d2.take (min d2.length (64 - held)))) d2 d (d2.drop (min d2.length (64 - held))) d2.length (d2.drop (min d2.length (64 - held))).length evs ev (ev4 d2.length held (min d2.length (64 - held)) ev)) ?_ (d2.drop (min d2.length (64 - held))).length (by rw [List.length_drop]; omega) ⟨_, _, n1 + min d2.length (64 - held), _, c2, by rw [List.length_drop]; omega, hnx, ?_, by rw [e4, List.length_append, List.length_drop]; simp only [List.length_cons, List.length_nil]; omega, rfl, rfl⟩
  rotate_left
  ·rw [hheld, e4, ← hev, List.length_drop]
   simp only [List.append_assoc, List.cons_append, List.nil_append]
  have e1 : mB d2 (⟨st, cnt, blk, held⟩ : D.HS).held = min d2.length (64 - held) := hmb
  have e2 : oB (⟨st, cnt, blk, held⟩ : D.HS).held = 11 + held := hob
  rw [e1, e2]
  clear e1 e2
  generalize min d2.length (64 - held) = m at *
  have hml : (d2.take m).length = m := by rw [List.length_take]; omega
  simp only at c1 c5
  refine mem1 ⟨by omega, by omega, by omega⟩ (lgO_ok (by rw [l3]; omega) rfl (mem1 ⟨by omega, by omega⟩ (mem1 ⟨by omega, by omega, by omega, by omega, Int.natCast_nonneg _, by simp only; omega⟩ (lgO_ok (by rw [l2]; omega) rfl (mem1 (by simpa using by omega) (lgO_ok (by rw [l1]; omega) rfl (mem1 hpos (lgO_ok (by omega) rfl (mem1 (by rw [List.length_drop]; omega) (app ?_ (mem1 rfl (app (mem1 ?_ nil) (mem1 rfl nil)))))))))))))
  ·rw [← c1]
   refine qE_ok rfl rfl ?_ ?_
   ·simp only [splB, bytesI_eq w2, Nat.add_sub_cancel_left]
   ·show IntKind.i64.wrap _ = ((_ + _ : Nat) : Int)
    rw [IntWalk.i64_in _ (by simp only at *; omega)]
    simp only; omega
  ·rw [Int.toNat_natCast, Int.toNat_natCast, List.take_of_length_le (by simp)]
end Go.Proofs.YtjomfjihopegmaaGreatDoor.Sx
end
section
open Go
set_option maxRecDepth 100000
namespace Go.Proofs.YtjomfjihopegmaaGreatDoor.Sx
noncomputable def ΓH : Env := env exD 7
theorem ΓH_ty : TyOK Tryz.prog ΓH := env_ty exD 7
theorem ΓH_ok : SumsOK Tryz.prog ΓH := env_ok exD exD_ok 7
def fastV (l : Nat) : List SV := [.int true .i64 1, .fn (.func 13) [] [.ptr l true 0], .fn (.func 15) [] [.ptr l true 0], .fn (.func 17) [] [.ptr l true 0], .fn (.func 19) [] [.ptr l true 0], .fn (.func 21) [] [.ptr l true 0], .fn (.func 23) [] [.ptr l true 0]]
def pcV : List (List Int) → Nat → List SV
 | [], _ => []
 | d :: r, l => .ros l d.length :: pcV r (l + 1)
def pcB : List (List Int) → Nat → List (Nat × SB)
 | [], _ => []
 | d :: r, l => (l, .rov .u8 d) :: pcB r (l + 1)
def cp (n : Nat) (ys : List Int) : List Int := (List.replicate n (0 : Int)).take 0 ++ ys.take (ys.length.min n) ++ (List.replicate n (0 : Int)).drop (0 + (ys.take (ys.length.min n)).length)
def ar (n : Nat) (xs : List Int) : List Int := (xs.drop 0).take n
def kO (n : Nat) (ys : List Int) : Prop := 0 ≤ 0 ∧ 0 + (ys.take (ys.length.min n)).length ≤ n
def freshC : List SV := [.raw (.pointer none), .int true .i64 32] ++ (D.h0.map (.int true .u32) ++ (.int true .u64 0 :: (List.replicate 64 (.int true .u8 0) ++ [.int true .i64 0])))
def fO : Prop := ∀ V : Val, denL V freshC = some D.v0
def rO (X : List Value) (d : List Int) : List Prop := [D.okV X d.length, d.length = d.length, d.length = d.length, X = X, d = d]
def rF (k : Nat) (d : List Int) : List Prop := [D.okV D.v0 d.length, k = k, d.length = d.length, fO, d = d]
def aO (X : List Value) (n : Nat) (b : List Int) (q : Prop) : List Prop := [D.okV X (ar n b).length, (n ≤ b.length ∧ n ≤ n), (n ≤ b.length ∧ n ≤ n), (ar n b).length = (ar n b).length, q, ar n b = ar n b, (n ≤ b.length ∧ n ≤ n)]
def sO (X : List Value) : List Prop := [kO 32 (ar 32 (D.sumV X)), 32 ≤ (D.sumV X).length, D.okV X 0, X = X]
def hS (X : List Value) : List Int := cp 32 (ar 32 (D.sumV X))
def lO (n k : Nat) (xs : List Int) : List Prop := List.replicate k (xs.length = n)
end Go.Proofs.YtjomfjihopegmaaGreatDoor.Sx
end
section
open Go
set_option maxRecDepth 100000
namespace Go.Proofs.YtjomfjihopegmaaGreatDoor.Sx
theorem mem1 {p : Prop} {l : List Prop} (hp : p) (hl : ∀ q ∈ l, q) : ∀ q ∈ p :: l, q := fun q hq => (List.mem_cons.1 hq).elim (fun e => e ▸ hp) (hl q)
theorem memA {l l' : List Prop} (h1 : ∀ q ∈ l, q) (h2 : ∀ q ∈ l', q) : ∀ q ∈ l ++ l', q := fun q hq => (List.mem_append.1 hq).elim (h1 q) (h2 q)
theorem mem0 : ∀ q ∈ ([] : List Prop), q := fun q hq => by cases hq
theorem cp_eq {n : Nat} {ys : List Int} (h : ys.length ≤ n) : cp n ys = ys ++ List.replicate (n - ys.length) 0 := by
 unfold cp
 rw [show ys.length.min n = ys.length from Nat.min_eq_left h, List.take_length, List.take_zero, List.nil_append, Nat.zero_add, List.drop_replicate]
theorem cp_length {n : Nat} {ys : List Int} (h : ys.length ≤ n) : (cp n ys).length = n := by rw [cp_eq h]; simp; omega
theorem cp_same {n : Nat} {ys : List Int} (h : ys.length = n) : cp n ys = ys := by rw [cp_eq (by omega), h]; simp
theorem ar_same {n : Nat} {xs : List Int} (h : xs.length = n) : ar n xs = xs := by unfold ar; rw [List.drop_zero, ← h, List.take_length]
theorem kO_ok {n : Nat} {ys : List Int} (h : ys.length ≤ n) : kO n ys := by
 refine ⟨Nat.le_refl _, ?_⟩
 rw [List.length_take]
 have : ys.length.min n = ys.length := Nat.min_eq_left h
 omega
theorem lO_ok {n k : Nat} {xs : List Int} (h : xs.length = n) : ∀ q ∈ lO n k xs, q := fun q hq => by rw [List.eq_of_mem_replicate hq]; exact h
theorem fO_ok : fO := fun _ => rfl
theorem hS_st (ms : List Int) : hS (hV (D.st ms)) = D.hash ms := by
 unfold hS
 rw [sum_eq, ar_same (D.hash_length _), cp_same (D.hash_length _)]
theorem hS_len (ms : List Int) : (hS (hV (D.st ms))).length = 32 := by rw [hS_st]; exact D.hash_length _
theorem rO_ok (ms : List Int) {d : List Int} (h : ms.length + d.length ≤ 1000000000000) : ∀ q ∈ rO (hV (D.st ms)) d, q :=
 mem1 (okV_st ms h) (mem1 rfl (mem1 rfl (mem1 rfl (mem1 rfl mem0))))
theorem rF_ok (k : Nat) {d : List Int} (h : d.length ≤ 1000000000000) : ∀ q ∈ rF k d, q :=
 mem1 (okV_st [] (by simpa using h)) (mem1 rfl (mem1 rfl (mem1 fO_ok (mem1 rfl mem0))))
theorem aO_ok (ms : List Int) {n : Nat} {b : List Int} {p : Prop} (hb : b.length = n) (hp : p) (h : ms.length + n ≤ 1000000000000) : ∀ q ∈ aO (hV (D.st ms)) n b p, q := by
 have e : n ≤ b.length ∧ n ≤ n := by omega
 exact mem1 (okV_st ms (by rw [ar_same hb, hb]; exact h)) (mem1 e (mem1 e (mem1 rfl (mem1 hp (mem1 rfl (mem1 e mem0))))))
theorem sO_ok (ms : List Int) (h : ms.length ≤ 1000000000000) : ∀ q ∈ sO (hV (D.st ms)), q := by
 have hl : (D.sumV (hV (D.st ms))).length = 32 := by rw [sum_eq]; exact D.hash_length _
 exact mem1 (kO_ok (by rw [ar_same hl, hl]; exact Nat.le_refl _)) (mem1 (by omega) (mem1 (okV_st ms h) (mem1 rfl mem0)))
end Go.Proofs.YtjomfjihopegmaaGreatDoor.Sx
end
section
open Go
set_option maxRecDepth 100000
namespace Go.Proofs.YtjomfjihopegmaaGreatDoor.Sx
def slT (S : D.HS) (evs : List (Int × Int)) : Tab := fun l => look l ((60, .own (hL S) 159) :: lgL evs)
def slO (st b : List Int) (cnt : Int) (held : Nat) (evs : List (Int × Int)) : List Prop :=
 prOb (D.start st (IntKind.u64.wrap (cnt + IntKind.u64.wrap (held : Int))) 4294967295) (D.words (clr held b)) ++ (((List.range 64).map fun j => 64 - j ≤ (clr held b).length) ++
  lgO' (evs ++ [(2, (held : Int))]) ((0 ≤ oS held ∧ oS held + (List.replicate (64 - (held : Int).toNat) (0 : Int)).length ≤ 0 + b.length) :: ((0 : Int) ≤ 64 ∧ (64 : Int) ≤ (64 : Nat) ∧ (0 : Int) ≤ 64 ∧ (64 : Int) ≤ 64 ∧ 0 ≤ (held : Int) ∧ (held : Int) ≤ 64) :: lgO ((held : Int) = (held : Int)) evs []))
theorem sl_run (st blk : List Int) (cnt : Int) (held : Nat) (evs : List (Int × Int)) : interp (env exL 4) Tryz.f54 true [] 2000 [.ptr 60 true 0] (slT ⟨st, cnt, blk, held⟩ evs) 100 100 =
  some { obl := slO st (bytesI 64 blk) cnt held evs, val := .slc 100 true 0 32 32, new := [.own ((D.bytes (D.press st (clr held (bytesI 64 blk)) (IntKind.u64.wrap (cnt + IntKind.u64.wrap (held : Int))) 4294967295)).map (.int false .u8)) 5, .rowp (evs ++ [(2, (held : Int))] ++ [(3, 31)]) 192], wr := [(57, .own (lgC (evs ++ [(2, (held : Int))] ++ [(3, 31)]).length 101) 58), (58, .gone)] } := by kernel_rfl
def hshL (cs : List SV) : Option (Nat × D.HS) := match cs with
 | .ptr L true 0 :: .int _ .i64 z :: r => match beqI z 32, intsK .u32 (r.take 8), (r.drop 8) with
   | true, some st, .int _ .u64 cnt :: r2 => match intsK .u8 (r2.take 64), r2.drop 64 with
     | some blk, [.int _ .i64 h] => some (L, ⟨st, cnt, blk, h.toNat⟩)
     | _, _ => none
   | _, _, _ => none
 | _ => none
def D.nf (S : D.HS) : D.HS := ⟨(List.range 8).map fun j => S.st.getD j 0, S.cnt, bytesI 64 S.blk, (S.held : Int).toNat⟩
theorem hshL_hL (S : D.HS) : hshL (hL S) = some (57, D.nf S) := by kernel_rfl
theorem D.nf_eq {S : D.HS} (h1 : S.st.length = 8) (h2 : S.blk.length = 64) : D.nf S = S := by
 obtain ⟨st, cnt, blk, held⟩ := S
 have e : (List.range 8).map (fun j => st.getD j 0) = st := by
  have : ∀ (n : Nat) (xs : List Int), xs.length = n → (List.range n).map (fun j => xs.getD j 0) = xs := by
   intro n xs h
   apply List.ext_getElem
   ·simp [h]
   ·intro i h1 h2
    simp [List.getD_eq_getElem?_getD, h2]
  exact this 8 st h1
 unfold D.nf
 simp only [e, bytesI_eq h2, Int.toNat_natCast]
def D.smE (h : Nat) : List (Int × Int) := [(2, (h : Int)), (3, 31)]
def D.sumB (S : D.HS) : List Int := D.bytes (D.press S.st (S.blk.take S.held ++ List.replicate (64 - S.held) 0) (S.cnt + S.held) 4294967295)
def smF (S : D.HS) (evs : List (Int × Int)) : Eff := { val := .slc 100 true 0 32 32, new := [.ints .u8 (D.sumB S) 5, .rowp evs 192], wr := [(60, .own (hL S) 159), (57, .own (lgC evs.length 101) 58), (58, .gone)] }
theorem slL_call {S : D.HS} {n : Nat} {evs : List (Int × Int)} (hS : S.WF n) (hn : n ≤ 1000000000000) (hl : evs.length + 10 ≤ 1000000000000) (Γ : Env) (hg : Γ.glob = globs) :
  CallOK Tryz.prog Γ 54 [.ptr 60 true 0] (slT S evs) 100 100 (smF S (evs ++ D.smE S.held)) := by
 obtain ⟨st, cnt, blk, held⟩ := S
 obtain ⟨w1, w2, w3, w4, w5⟩ := hS
 simp only at w1 w2 w3 w4 w5
 have hs : SumOK Tryz.prog (env exL 4) 54 (interp (env exL 4) Tryz.f54 true [] 2000) :=
  interp_ok (env_ty exL 4) (env_ok exL exL_ok 4) mix Tryz.func54 (by kernel_rfl) true [] 2000
 have hc : IntKind.u64.wrap (cnt + IntKind.u64.wrap (held : Int)) = cnt + held := by
  rw [IntWalk.u64_in (held : Int) (by omega), IntWalk.u64_in _ (by omega)]
 have hX := clr_eq w2 w3
 have hXl : (clr held blk).length = 64 := by rw [hX]; simp; omega
 have h1 := hs.call (sl_run st blk cnt held evs) (by
  rw [bytesI_eq w2]
  have hpr : ∀ q ∈ prOb (D.start st (IntKind.u64.wrap (cnt + IntKind.u64.wrap (held : Int))) 4294967295) (D.words (clr held blk)), q :=
   of_allP (l := prOb _ _) (show allP (prOb _ _) from (⟨by simp [D.start, bytesI], by simp [D.words], ⟨rfl, rfl⟩, rfl, trivial⟩ : _ ∧ _ ∧ _ ∧ _ ∧ True))
  unfold slO
  refine memA hpr (memA ?_ (lgO'_ok (by simp; omega) (mem1 ?_ (mem1 (by omega) (lgO_ok (by omega) rfl mem0)))))
  ·intro q hq
   simp only [List.mem_map, List.mem_range] at hq
   obtain ⟨j, hj, rfl⟩ := hq
   rw [hXl]; omega
  ·refine ⟨Nat.zero_le _, ?_⟩
   unfold oS
   rw [List.length_replicate, Int.toNat_natCast, w2]
   split <;> omega)
 rw [bytesI_eq w2, hX, hc] at h1
 have e3 : evs ++ [(2, (held : Int))] ++ [(3, 31)] = evs ++ D.smE held := by rw [List.append_assoc]; rfl
 rw [e3] at h1
 exact ((h1.new1 (C := .ints .u8 _ 5) (o' := []) rfl rfl (fun V => denL_map_int V _ _) rfl).same (l0 := 60) (by simp only [slT, look_cons_eq]) rfl).words (by rw [hg]; rfl) (fun _ => rfl) (fun _ _ h => h) (fun _ => rfl) rfl rfl
def slDec (vs : List SV) (T : Tab) : Option Canon := match vs with
 | [.ptr l _ _] => match T l with
   | some (.own cs ty) => match Nat.beq ty 159, hshL cs with
     | true, some (L, S) => match lgIn T L with
       | some (l2, evs) => some { vs0 := [.ptr 60 true 0], T0 := (60, .own (hL S) 159) :: lgL evs, vl := (60, .lab l 0) :: lgVl L l2, e0 := smF S (evs ++ D.smE S.held), conds := [∃ n, S.WF n ∧ n ≤ 1000000000000, evs.length + 10 ≤ 1000000000000] }
       | none => none
     | _, _ => none
   | _ => none
 | _ => none
theorem slL_ok (Γ : Env) (hg : Γ.glob = globs) : SumOK Tryz.prog Γ 54 (canonS globs 100 slDec) := by
 refine canonS_ok hg fun vs T c hd hc => ?_
 unfold slDec at hd
 split at hd
 case h_2 => cases hd
 split at hd
 case h_2 => cases hd
 split at hd
 case h_2 => cases hd
 split at hd
 case h_2 => cases hd
 cases hd
 obtain ⟨n, h1, h2⟩ := hc _ List.mem_cons_self
 exact slL_call h1 h2 (hc _ (by simp)) Γ hg
theorem wrvL_call {S : D.HS} {n : Nat} (d : List Int) {evs : List (Int × Int)} (hS : S.WF n) (hn : n + d.length ≤ 1000000000000) (hl : evs.length + 5 * d.length + 10 ≤ 1000000000000) (Γ : Env) (hg : Γ.glob = globs) :
  CallOK Tryz.prog Γ 53 [.ptr 60 true 0, .ros 61 d.length] (vlT S d evs) 100 100 (hsE (S.take d) (evs ++ D.wrE S.held d.length)) :=
 (wrL_call d evs hS hn hl).words (by rw [hg]; rfl) (fun _ => rfl) (fun _ _ h => h) (fun _ => rfl) rfl rfl
def wrLDec (vs : List SV) (T : Tab) : Option Canon := match vs with
 | [.ptr l _ _, p] => match T l with
   | some (.own cs ty) => match Nat.beq ty 159, hshL cs, seqRo T .u8 p with
     | true, some (L, S), some (ob, d) => match lgIn T L with
       | some (l2, evs) => some { vs0 := [.ptr 60 true 0, .ros 61 d.length], T0 := vlL S d evs, vl := (60, .lab l 0) :: (61, .arg 1) :: lgVl L l2, e0 := hsE (S.take d) (evs ++ D.wrE S.held d.length), conds := (∃ n, S.WF n ∧ n + d.length ≤ 1000000000000) :: (evs.length + 5 * d.length + 10 ≤ 1000000000000) :: ob }
       | none => none
     | _, _, _ => none
   | _ => none
 | _ => none
theorem wrL_ok (Γ : Env) (hg : Γ.glob = globs) : SumOK Tryz.prog Γ 53 (canonS globs 100 wrLDec) := by
 refine canonS_ok hg fun vs T c hd hc => ?_
 unfold wrLDec at hd
 split at hd
 case h_2 => cases hd
 split at hd
 case h_2 => cases hd
 split at hd
 case h_2 => cases hd
 split at hd
 case h_2 => cases hd
 cases hd
 obtain ⟨n, h1, h2⟩ := hc _ List.mem_cons_self
 exact wrvL_call _ h1 h2 (hc _ (by simp)) Γ hg
noncomputable def exLD : Nat → Option Sum := addS (addS exL 53 (canonS globs 100 wrLDec)) 54 (canonS globs 100 slDec)
theorem exLD_ok : ∀ f S, exLD f = some S → ∀ Γ : Env, Γ.glob = globs → SumOK Tryz.prog Γ f S := addS_ok (addS_ok exL_ok 53 _ wrL_ok) 54 _ slL_ok
end Go.Proofs.YtjomfjihopegmaaGreatDoor.Sx
end
section
open Go
set_option maxRecDepth 100000
namespace Go.Proofs.YtjomfjihopegmaaGreatDoor.Sx
noncomputable def ΓO : Env := env exD 4
theorem ΓO_ty : TyOK Tryz.prog ΓO := env_ty exD 4
theorem ΓO_ok : SumsOK Tryz.prog ΓO := env_ok exD exD_ok 4
def ofVs (n : Nat) : List SV := [.raw (.pointer none), .rsl 62 n]
def ofT (ds : List (List Int)) : Tab := fun l => look l [(62, .rol ds)]
noncomputable def ofM (ds : List (List Int)) (cf : Cf) (K : List Fr) (s : St) : Option Cfg := mrun ΓO (cutT 100 (ofT ds)) 100 Tryz.f24.ntmps [3] 400 2000 cf K s
def ofGs (n : Nat) (i : Int) : List (Nat × SV) := [(0, .raw (.pointer none)), (1, .rsl 62 n), (4, .ptr 100 true 0), (5, .ptr 101 true 0), (7, .int false .i64 i)]
def ofTb (X : List Value) : List (Nat × SB) := [(100, .own (List.replicate 32 (.int true .u8 0)) 23), (101, .vals X 159)]
noncomputable def ofR : Option Cfg := ofM [] (.go (codeOf Tryz.f24)) [] ((st0 (ofVs 0) 100).hint [])
noncomputable def ofLp : Code := cfgC ofR
noncomputable def ofK : List Fr := cfgF ofR
theorem of_0 (ds : List (List Int)) (X : List Value) (n : Nat) (i : Int) : toC 100 Tryz.f24.ntmps (cutT 100 (ofT ds)) [] (ofGs n i) (ofTb X) 102 [] [] (ofM ds (.go (codeOf Tryz.f24)) [] ((st0 (ofVs n) 100).hint [])) =
  some (.go (.loop ofLp), ofK, [n = n, 0 = i, ∀ V, denL V freshC = some X]) := by kernel_rfl
theorem of_1 (ds : List (List Int)) (X X' : List Value) (n : Nat) (i i' : Int) : toC 100 Tryz.f24.ntmps (cutT 100 (ofT ds)) [] (ofGs n i') (ofTb X') 102 [] [] (ofM ds (.go ofLp) [] ((stOf (ofGs n i) (ofTb X) 102 [] []).hint [true])) =
  some (.at .normal, [], [D.okV X (ds.getD i.toNat []).length, i.toNat = i.toNat ∧ (ds.getD i.toNat []).length = (ds.getD i.toNat []).length, (ds.getD i.toNat []).length = (ds.getD i.toNat []).length, X = X,
   ds.getD i.toNat [] = ds.getD i.toNat [], i.toNat < ds.length, 0 ≤ i ∧ i < n, decide (i < n) = true, decide (i < n) = decide (i < n), n = n, IntKind.i64.wrap (i + 1) = i', D.wrV X (ds.getD i.toNat []) = X']) := by kernel_rfl
theorem of_2 (ds : List (List Int)) (X : List Value) (n : Nat) (i : Int) : toC 100 Tryz.f24.ntmps (cutT 100 (ofT ds)) [] (ofGs n i) (ofTb X) 102 [] [] (ofM ds (.go ofLp) [] ((stOf (ofGs n i) (ofTb X) 102 [] []).hint [false])) =
  some (.at (.exit 0), [], [decide (i < n) = false, decide (i < n) = decide (i < n), n = n, i = i, X = X]) := by kernel_rfl
theorem of_3 (ds : List (List Int)) (X : List Value) (n : Nat) (i : Int) : endC ΓO (ofT ds) 100 100 Tryz.f24 [] (ofM ds (.at (.exit 0)) ofK ((stOf (ofGs n i) (ofTb X) 102 [] []).hint [])) =
  some { obl := lO 32 3 (hS X) ++ sO X, val := .ai .u8 (hS X) } := by kernel_rfl
theorem flat_take {ds : List (List Int)} {i : Nat} (h : i < ds.length) : (ds.take (i + 1)).flatten = (ds.take i).flatten ++ ds.getD i [] := by
 rw [List.take_add_one, List.flatten_append, List.getElem?_eq_getElem h]
 simp [List.getD_eq_getElem?_getD, h]
theorem flat_len {ds : List (List Int)} {i : Nat} (h : i < ds.length) : (ds.take i).flatten.length + (ds.getD i []).length ≤ ds.flatten.length := by
 have e : ds.flatten = (ds.take (i + 1)).flatten ++ (ds.drop (i + 1)).flatten := by rw [← List.flatten_append, List.take_append_drop]
 rw [e, flat_take h]
 simp
theorem of_call (ds : List (List Int)) (hl : ds.flatten.length ≤ 100000000000) (hn : ds.length ≤ 1000000000) (Γ : Env) (hg : Γ.glob = globs) :
  CallOK Tryz.prog Γ 24 (ofVs ds.length) (ofT ds) 100 100 { val := .ai .u8 (D.hash ds.flatten) } := by
 refine CallOK.words (Γ := ΓO) ?_ (by rw [hg]; rfl) (fun _ => rfl) (fun _ _ h => h) (fun _ => rfl) rfl rfl
 refine call_G ΓO_ty ΓO_ok Tryz.func24 (by kernel_rfl) rfl (Nat.le_of_ble_eq_true (by kernel_rfl)) rfl [] ?_
 intro w0 M V0 Q hb H
 have hty := ΓO_ty
 have hsum := ΓO_ok
 refine G.toC hty hsum mix hb [] (of_0 ds (hV (D.st [])) ds.length 0) (mem1 rfl (mem1 rfl (mem1 fO_ok mem0))) ?_
 refine G.loop (fun r s => ∃ i : Nat, i ≤ ds.length ∧ r = ds.length - i ∧ s = stOf (ofGs ds.length i) (ofTb (hV (D.st (ds.take i).flatten))) 102 [] []) (r0 := ds.length) ⟨0, Nat.zero_le _, rfl, rfl⟩ ?_
 rintro r s ⟨i, hi, rfl, rfl⟩
 by_cases hlt : i < ds.length
 ·have hf := flat_len hlt
  refine G.roundC hty hsum mix hb [true] (of_1 ds _ (hV (D.st (ds.take (i + 1)).flatten)) ds.length i ((i + 1 : Nat) : Int)) ?_ (ds.length - (i + 1)) (by omega) ⟨i + 1, hlt, rfl, rfl⟩
  rw [Int.toNat_natCast]
  refine mem1 (okV_st _ (by omega)) (mem1 ⟨rfl, rfl⟩ (mem1 rfl (mem1 rfl (mem1 rfl (mem1 hlt (mem1 (by omega) (mem1 (decide_eq_true (by omega)) (mem1 rfl (mem1 rfl (mem1 ?_ (mem1 ?_ mem0)))))))))))
  ·rw [IntWalk.i64_in _ (by omega)]; omega
  ·rw [wrV_st, flat_take hlt]
 ·have e : i = ds.length := by omega
  subst e
  refine G.toC hty hsum mix hb [false] (of_2 ds _ ds.length _) (mem1 (decide_eq_false (by omega)) (mem1 rfl (mem1 rfl (mem1 rfl (mem1 rfl mem0))))) (G.leave (by simp) ?_)
  rw [List.take_length]
  refine G.finC (cl := []) hty hsum mix [] H (of_3 ds _ ds.length _) ?_ ?_ rfl rfl
  ·exact memA (lO_ok (hS_len _)) (sO_ok _ (by omega))
  ·show SV.ai .u8 (hS _) = _
   rw [hS_st]
def lsIn (T : Tab) : SV → Option (List (List Int))
 | .rsl l _ => match T l with
   | some B => listB B
   | none => none
 | .slc l _ _ _ _ => match T l with
   | some B => match cellsB B with
     | some cs => (rdP T cs).map (·.2)
     | none => none
   | none => none
 | .slcR l _ _ _ => match T l with
   | some (.rowe pre _ ds _) => (rdP T pre).map fun p => p.2 ++ ds
   | _ => none
 | _ => none
def ofDec (vs : List SV) (T : Tab) : Option Canon := match vs with
 | [.raw (.pointer none), p] => match lsIn T p with
   | some ds => some { vs0 := ofVs ds.length, T0 := [(62, .rol ds)], vl := [(62, .lst 1)], e0 := { val := .ai .u8 (D.hash ds.flatten) }, conds := [ds.flatten.length ≤ 100000000000, ds.length ≤ 1000000000] }
   | none => none
 | _ => none
theorem of_ok (Γ : Env) (hg : Γ.glob = globs) : SumOK Tryz.prog Γ 24 (canonS globs 100 ofDec) := by
 refine canonS_ok hg fun vs T c hd hc => ?_
 unfold ofDec at hd
 split at hd
 case h_2 => cases hd
 split at hd
 case h_2 => cases hd
 cases hd
 exact of_call _ (hc _ (by simp)) (hc _ (by simp)) Γ hg
end Go.Proofs.YtjomfjihopegmaaGreatDoor.Sx
end
section
open Go
set_option maxRecDepth 100000
namespace Go.Proofs.YtjomfjihopegmaaGreatDoor.Sx
noncomputable def ΓOL : Env := env exLD 4
theorem ΓOL_ty : TyOK Tryz.prog ΓOL := env_ty exLD 4
theorem ΓOL_ok : SumsOK Tryz.prog ΓOL := env_ok exLD exLD_ok 4
def olVs (n : Nat) : List SV := [.ptr 57 true 0, .rsl 62 n]
def olL (ds : List (List Int)) (evs : List (Int × Int)) : List (Nat × SB) := (62, .rol ds) :: lgL evs
def olT (ds : List (List Int)) (evs : List (Int × Int)) : Tab := fun l => look l (olL ds evs)
noncomputable def olM (ds : List (List Int)) (evs : List (Int × Int)) (cf : Cf) (K : List Fr) (s : St) : Option Cfg := mrun ΓOL (cutT 100 (olT ds evs)) 100 Tryz.f24.ntmps [3] 400 2000 cf K s
def olGs (n : Nat) (i : Int) : List (Nat × SV) := [(0, .ptr 57 true 0), (1, .rsl 62 n), (4, .ptr 100 true 0), (5, .ptr 101 true 0), (7, .int false .i64 i)]
def olTb (S : D.HS) (evs : List (Int × Int)) : List (Nat × SB) := [(57, .own (lgC evs.length 102) 58), (58, .gone), (100, .own (List.replicate 32 (.int true .u8 0)) 23), (101, .own (hL S) 159), (102, .rowp evs 192)]
noncomputable def olR : Option Cfg := olM [] [] (.go (codeOf Tryz.f24)) [] ((st0 (olVs 0) 100).hint [])
noncomputable def olLp : Code := cfgC olR
noncomputable def olK : List Fr := cfgF olR
def nE1 (evs : List (Int × Int)) : List (Int × Int) := evs ++ [iE false]
def nE2 (evs : List (Int × Int)) : List (Int × Int) := nE1 evs ++ [iE false]
def nE3 (evs : List (Int × Int)) : List (Int × Int) := nE2 evs ++ [iE false]
def nE4 (evs : List (Int × Int)) : List (Int × Int) := nE3 evs ++ [iE false]
theorem ol_0 (ds : List (List Int)) (evs evs' : List (Int × Int)) (S : D.HS) (n : Nat) (i : Int) : toC 100 Tryz.f24.ntmps (cutT 100 (olT ds evs)) [] (olGs n i) (olTb S evs') 103 [57, 58] [] (olM ds evs (.go (codeOf Tryz.f24)) [] ((st0 (olVs n) 100).hint [])) =
  some (.go (.loop olLp), olK, lgO' (nE3 evs) (lgO' (nE2 evs) (lgO' (nE1 evs) (lgO' evs ((n = n) :: (0 = i) :: (((nE4 evs).length : Int) = (evs'.length : Int)) :: (qE D.h0 0 (List.replicate 64 0) 0 S ++ [nE4 evs = evs'])))))) := by kernel_rfl
def oE1 (i : Int) (n : Nat) (evs : List (Int × Int)) : List (Int × Int) := evs ++ [iE (decide (i < n))]
def oE2 (i : Int) (n : Nat) (evs : List (Int × Int)) : List (Int × Int) := oE1 i n evs ++ [(2, i)]
theorem ol_2 (ds : List (List Int)) (evs0 evs evs' : List (Int × Int)) (S : D.HS) (n : Nat) (i : Int) : toC 100 Tryz.f24.ntmps (cutT 100 (olT ds evs0)) [] (olGs n i) (olTb S evs') 103 [57, 58] [] (olM ds evs0 (.go olLp) [] ((stOf (olGs n i) (olTb S evs) 103 [57, 58] []).hint [false])) =
  some (.at (.exit 0), [], (decide (i < n) = false) :: lgO (decide (i < n) = decide (i < n)) evs ((n = n) :: (i = i) :: (((oE1 i n evs).length : Int) = (evs'.length : Int)) :: (qE S.st S.cnt S.blk S.held S ++ [oE1 i n evs = evs']))) := by kernel_rfl
def oWO (S : D.HS) (d : List Int) (evs : List (Int × Int)) (x : List Prop) (r : List Prop) : List Prop :=
 (∃ m, (D.nf S).WF m ∧ m + d.length ≤ 1000000000000) :: (evs.length + 5 * d.length + 10 ≤ 1000000000000) :: (x ++ (qE S.st S.cnt S.blk S.held (D.nf S) ++ (d = d) :: ((evs.length : Int) = (evs.length : Int)) :: (evs = evs) :: r))
theorem ol_1 (ds : List (List Int)) (evs0 evs evs' : List (Int × Int)) (S S' : D.HS) (n : Nat) (i i' : Int) : toC 100 Tryz.f24.ntmps (cutT 100 (olT ds evs0)) [] (olGs n i') (olTb S' evs') 103 [57, 58] [] (olM ds evs0 (.go olLp) [] ((stOf (olGs n i) (olTb S evs) 103 [57, 58] []).hint [true])) =
  some (.at .normal, [], oWO S (ds.getD i.toNat []) (oE2 i n evs) [i.toNat = i.toNat ∧ (ds.getD i.toNat []).length = (ds.getD i.toNat []).length, (ds.getD i.toNat []).length = (ds.getD i.toNat []).length] ((i.toNat < ds.length) :: (0 ≤ i ∧ i < n) ::
   lgO (i = i) (oE1 i n evs) ((decide (i < n) = true) :: lgO (decide (i < n) = decide (i < n)) evs ((n = n) :: (IntKind.i64.wrap (i + 1) = i') ::
    (((oE2 i n evs ++ D.wrE (D.nf S).held (ds.getD i.toNat []).length).length : Int) = (evs'.length : Int)) :: (qE ((D.nf S).take (ds.getD i.toNat [])).st ((D.nf S).take (ds.getD i.toNat [])).cnt ((D.nf S).take (ds.getD i.toNat [])).blk ((D.nf S).take (ds.getD i.toNat [])).held S' ++ [oE2 i n evs ++ D.wrE (D.nf S).held (ds.getD i.toNat []).length = evs']))))) := by kernel_rfl
def hB (b : List Int) : List Int := cp 32 (ar 32 b)
def oSO (S : D.HS) (evs : List (Int × Int)) : List Prop :=
 kO 32 (ar 32 (D.sumB (D.nf S))) :: (32 ≤ (D.sumB (D.nf S)).length) :: (∃ m, (D.nf S).WF m ∧ m ≤ 1000000000000) :: (evs.length + 10 ≤ 1000000000000) :: (qE S.st S.cnt S.blk S.held (D.nf S) ++ [(evs.length : Int) = (evs.length : Int), evs = evs])
theorem ol_3 (ds : List (List Int)) (evs0 evs : List (Int × Int)) (S : D.HS) (n : Nat) (i : Int) : endC ΓOL (olT ds evs0) 100 100 Tryz.f24 [] (olM ds evs0 (.at (.exit 0)) olK ((stOf (olGs n i) (olTb S evs) 103 [57, 58] []).hint [])) =
  some { obl := lO 32 3 (hB (D.sumB (D.nf S))) ++ oSO S evs, val := .ai .u8 (hB (D.sumB (D.nf S))), new := [.rowp (evs ++ D.smE (D.nf S).held) 192], wr := [(57, .own (lgC (evs ++ D.smE (D.nf S).held).length 100) 58), (58, .gone)] } := by kernel_rfl
end Go.Proofs.YtjomfjihopegmaaGreatDoor.Sx
end
section
open Go
set_option maxRecDepth 100000
namespace Go.Proofs.YtjomfjihopegmaaGreatDoor.Sx
def D.heldW (h n : Nat) : Nat :=
 if n = 0 then h
 else if 64 ≤ h then D.heldW (min n 64) (n - min n 64)
 else D.heldW (h + min n (64 - h)) (n - min n (64 - h))
termination_by n
decreasing_by all_goals omega
theorem D.heldW_zero (h : Nat) : D.heldW h 0 = h := by rw [D.heldW]; simp
theorem D.heldW_full {n : Nat} (hn : n ≠ 0) : D.heldW 64 n = D.heldW (min n 64) (n - min n 64) := by rw [D.heldW]; simp [hn]
theorem D.heldW_part {h n : Nat} (hn : n ≠ 0) (hh : h < 64) : D.heldW h n = D.heldW (h + min n (64 - h)) (n - min n (64 - h)) := by
 rw [D.heldW]; simp [hn, show ¬ 64 ≤ h by omega]
theorem D.take_app (S : D.HS) (a b : List Int) : (S.take a).take b = S.take (a ++ b) := by
 show List.foldl _ (List.foldl _ _ _) _ = _
 rw [← List.foldl_append]; rfl
theorem D.take_held : ∀ (n : Nat) (d : List Int) (S : D.HS) (k : Nat), d.length = n → S.WF k → (S.take d).held = D.heldW S.held d.length := by
 intro n
 induction n using Nat.strongRecOn with
 | ind n ih =>
   intro d S k hd hS
   by_cases hz : d.length = 0
   ·have e : d = [] := List.length_eq_zero_iff.1 hz
    subst e
    rw [List.length_nil, D.heldW_zero]; rfl
   have hne : d ≠ [] := fun e => hz (by rw [e]; rfl)
   have part : ∀ (S2 : D.HS) (k2 : Nat), S2.WF k2 → S2.held < 64 → (S2.take d).held = D.heldW (S2.held + min d.length (64 - S2.held)) (d.length - min d.length (64 - S2.held)) := by
    intro S2 k2 h2 hh
    have hml : (d.take (min d.length (64 - S2.held))).length = min d.length (64 - S2.held) := by rw [List.length_take]; omega
    have e1 : (S2.take (d.take (min d.length (64 - S2.held)))).held = S2.held + min d.length (64 - S2.held) := by
     rw [D.take_fit h2.bl (by rw [hml]; omega), hml]
    have e2 := ih (d.length - min d.length (64 - S2.held)) (by omega) (d.drop (min d.length (64 - S2.held))) (S2.take (d.take (min d.length (64 - S2.held)))) _ (by rw [List.length_drop]) (D.WF_take h2)
    rw [D.take_app, List.take_append_drop, e1, List.length_drop] at e2
    exact e2
   by_cases h64 : S.held = 64
   ·rw [D.take_full h64 hne, h64, D.heldW_full hz]
    have hb := hS.bl
    have := part ⟨D.press S.st S.blk (S.cnt + 64) 0, S.cnt + 64, S.blk, 0⟩ k ⟨D.press_length _ _ _ _, hb, Nat.zero_le _, by have := hS.cnt; rw [h64] at this; simp only; omega, by have := hS.c0; simp only; omega⟩ (by simp)
    simpa using this
   ·have hh := hS.hl
    rw [part S k hS (by omega), D.heldW_part hz (by omega)]
def D.lsE : Nat → Nat → List Nat → List (Int × Int)
 | _, h, [] => (1, 0) :: D.smE h
 | i, h, n :: r => (1, 1) :: (2, (i : Int)) :: (D.wrE h n ++ D.lsE (i + 1) (D.heldW h n) r)
def D.hashE (lens : List Nat) : List (Int × Int) := (1, 0) :: (1, 0) :: (1, 0) :: (1, 0) :: D.lsE 0 0 lens
theorem D.lsE_at (ds : List (List Int)) {i : Nat} (h : i < ds.length) (hd : Nat) : D.lsE i hd ((ds.drop i).map List.length) = (1, 1) :: (2, (i : Int)) :: (D.wrE hd (ds.getD i []).length ++ D.lsE (i + 1) (D.heldW hd (ds.getD i []).length) ((ds.drop (i + 1)).map List.length)) := by
 rw [List.drop_eq_getElem_cons h, List.map_cons, D.lsE]
 simp [List.getD_eq_getElem?_getD, h]
theorem D.nf_st (ms : List Int) : D.nf (D.st ms) = D.st ms := D.nf_eq (D.WF_st ms).sl (D.WF_st ms).bl
theorem D.sumB_st (ms : List Int) : D.sumB (D.st ms) = D.hash ms := by
 unfold D.sumB
 rw [D.st_fin]; rfl
theorem hB_st (ms : List Int) : hB (D.sumB (D.st ms)) = D.hash ms := by
 unfold hB
 rw [D.sumB_st, ar_same (D.hash_length _), cp_same (D.hash_length _)]
theorem flat_drop {ds : List (List Int)} {i : Nat} (h : i < ds.length) : (ds.drop i).flatten.length = (ds.getD i []).length + (ds.drop (i + 1)).flatten.length := by
 rw [List.drop_eq_getElem_cons h, List.flatten_cons, List.length_append]
 simp [List.getD_eq_getElem?_getD, h]
def aiE (x : List Int) (evs : List (Int × Int)) : Eff := { val := .ai .u8 x, new := [.rowp evs 192], wr := [(57, .own (lgC evs.length 100) 58), (58, .gone)] }
theorem olL_call (ds : List (List Int)) (evs : List (Int × Int)) (hl : ds.flatten.length ≤ 100000000000) (hn : ds.length ≤ 1000000000) (hv : evs.length + 5 * ds.flatten.length + 10 * ds.length + 40 ≤ 1000000000000) (Γ : Env) (hg : Γ.glob = globs) :
  CallOK Tryz.prog Γ 24 (olVs ds.length) (olT ds evs) 100 100 (aiE (D.hash ds.flatten) (evs ++ D.hashE (ds.map List.length))) := by
 refine CallOK.words (Γ := ΓOL) ?_ (by rw [hg]; rfl) (fun _ => rfl) (fun _ _ h => h) (fun _ => rfl) rfl rfl
 refine call_G ΓOL_ty ΓOL_ok Tryz.func24 (by kernel_rfl) rfl (Nat.le_of_ble_eq_true (by kernel_rfl)) rfl [] ?_
 intro w0 M V0 Q hb H
 have hty := ΓOL_ty
 have hsum := ΓOL_ok
 have l1 : (nE1 evs).length = evs.length + 1 := by simp [nE1]
 have l2 : (nE2 evs).length = evs.length + 2 := by simp [nE2, l1]
 have l3 : (nE3 evs).length = evs.length + 3 := by simp [nE3, l2]
 have l4 : (nE4 evs).length = evs.length + 4 := by simp [nE4, l3]
 have e4 : nE4 evs = evs ++ [(1, 0), (1, 0), (1, 0), (1, 0)] := by
  unfold nE4 nE3 nE2 nE1
  rw [iE_f]
  simp only [List.append_assoc, List.cons_append, List.nil_append]
 have q0 : ∀ q ∈ qE D.h0 0 (List.replicate 64 0) 0 (D.st []), q := qE_ok (S' := D.st []) rfl rfl rfl rfl
 refine G.toC hty hsum mix hb [] (ol_0 ds evs (nE4 evs) (D.st []) ds.length 0) (lgO'_ok (by omega) (lgO'_ok (by omega) (lgO'_ok (by omega) (lgO'_ok (by omega) (mem1 rfl (mem1 rfl (mem1 rfl (memA q0 (mem1 rfl mem0))))))))) ?_
 refine G.loop (fun r s => ∃ (i : Nat) (ev : List (Int × Int)), i ≤ ds.length ∧ ev ++ D.lsE i (D.st (ds.take i).flatten).held ((ds.drop i).map List.length) = evs ++ D.hashE (ds.map List.length) ∧ ev.length + 5 * (ds.drop i).flatten.length + 10 * (ds.length - i) + 30 ≤ 1000000000000 ∧ r = ds.length - i ∧ s = stOf (olGs ds.length i) (olTb (D.st (ds.take i).flatten) ev) 103 [57, 58] []) (r0 := ds.length)
  ⟨0, nE4 evs, Nat.zero_le _, by rw [e4, List.append_assoc]; rfl, by rw [l4, List.drop_zero]; omega, rfl, rfl⟩ ?_
 rintro r s ⟨i, ev, hi, he, hel, rfl, rfl⟩
 have hW := D.WF_st (ds.take i).flatten
 have qn := qE_ok (S' := D.nf (D.st (ds.take i).flatten)) (st := (D.st (ds.take i).flatten).st) (cnt := (D.st (ds.take i).flatten).cnt) (blk := (D.st (ds.take i).flatten).blk) (h := ((D.st (ds.take i).flatten).held : Int)) (by rw [D.nf_st]) (by rw [D.nf_st]) (by rw [D.nf_st]) (by rw [D.nf_st])
 by_cases hlt : i < ds.length
 ·have hf := flat_len hlt
  have hfd := flat_drop hlt
  rw [D.lsE_at ds hlt] at he
  have hdec : decide ((i : Int) < (ds.length : Int)) = true := decide_eq_true (by omega)
  have hst : (D.st (ds.take i).flatten).take (ds.getD i []) = D.st (ds.take (i + 1)).flatten := by rw [D.st_append, flat_take hlt]
  have hheld : D.heldW (D.st (ds.take i).flatten).held (ds.getD i []).length = (D.st (ds.take (i + 1)).flatten).held := by rw [← hst]; exact (D.take_held _ _ _ _ rfl hW).symm
  have k1 : (oE1 i ds.length ev).length = ev.length + 1 := by simp [oE1]
  have k2 : (oE2 i ds.length ev).length = ev.length + 2 := by simp [oE2, k1]
  have ke : oE2 i ds.length ev = ev ++ [(1, 1), (2, (i : Int))] := by
   unfold oE2 oE1
   rw [hdec, iE_t, List.append_assoc]; rfl
  have hwl := D.wrE_len (ds.getD i []).length (D.st (ds.take i).flatten).held
  refine G.roundC hty hsum mix hb [true] (ol_1 ds evs ev (oE2 i ds.length ev ++ D.wrE (D.st (ds.take i).flatten).held (ds.getD i []).length) (D.st (ds.take i).flatten) (D.st (ds.take (i + 1)).flatten) ds.length i ((i + 1 : Nat) : Int)) ?_ (ds.length - (i + 1)) (by omega)
   ⟨i + 1, _, hlt, by rw [ke, ← he, hheld]; simp only [List.append_assoc, List.cons_append, List.nil_append], by rw [List.length_append, k2]; omega, rfl, rfl⟩
  unfold oWO
  rw [Int.toNat_natCast, D.nf_st, hst]
  rw [D.nf_st] at qn
  refine mem1 ⟨_, hW, by omega⟩ (mem1 (by rw [k2]; omega) (memA (mem1 ⟨rfl, rfl⟩ (mem1 rfl mem0)) (memA qn (mem1 rfl (mem1 rfl (mem1 rfl (mem1 hlt (mem1 (by omega) (lgO_ok (by rw [k1]; omega) rfl (mem1 hdec (lgO_ok (by omega) rfl (mem1 rfl (mem1 ?_ (mem1 rfl (memA (qE_ok rfl rfl rfl rfl) (mem1 rfl mem0))))))))))))))))
  rw [IntWalk.i64_in _ (by omega)]; omega
 ·have e : i = ds.length := by omega
  subst e
  rw [List.drop_length, List.map_nil, List.take_length] at he
  rw [List.take_length] at *
  have hdec : decide ((ds.length : Int) < (ds.length : Int)) = false := decide_eq_false (by omega)
  have k1 : (oE1 ds.length ds.length ev).length = ev.length + 1 := by simp [oE1]
  have ke : oE1 ds.length ds.length ev = ev ++ [(1, 0)] := by unfold oE1; rw [hdec, iE_f]
  refine G.toC hty hsum mix hb [false] (ol_2 ds evs ev (oE1 ds.length ds.length ev) _ ds.length _) (mem1 hdec (lgO_ok (by omega) rfl (mem1 rfl (mem1 rfl (mem1 rfl (memA (qE_ok rfl rfl rfl rfl) (mem1 rfl mem0))))))) (G.leave (by simp) ?_)
  have hfin : oE1 ds.length ds.length ev ++ D.smE (D.st ds.flatten).held = evs ++ D.hashE (ds.map List.length) := by
   rw [ke, ← he, List.append_assoc]; rfl
  have h3 := ol_3 ds evs (oE1 ds.length ds.length ev) (D.st ds.flatten) ds.length (ds.length : Int)
  unfold oSO at h3
  rw [D.nf_st] at qn h3
  rw [hfin] at h3
  have hsl : (D.sumB (D.st ds.flatten)).length = 32 := by rw [D.sumB_st]; exact D.hash_length _
  refine G.finC (cl := []) hty hsum mix [] H h3 ?_ ?_ rfl rfl
  ·exact memA (lO_ok (by rw [hB_st]; exact D.hash_length _)) (mem1 (kO_ok (by rw [ar_same hsl, hsl]; exact Nat.le_refl _)) (mem1 (by omega) (mem1 ⟨_, hW, by omega⟩ (mem1 (by rw [k1]; omega) (memA qn (mem1 rfl (mem1 rfl mem0)))))))
  ·show SV.ai .u8 (hB _) = _
   rw [hB_st]
   rfl
def olDec (vs : List SV) (T : Tab) : Option Canon := match vs with
 | [.ptr L _ _, p] => match lsIn T p, lgIn T L with
   | some ds, some (l2, evs) => some { vs0 := olVs ds.length, T0 := olL ds evs, vl := (62, .lst 1) :: lgVl L l2, e0 := aiE (D.hash ds.flatten) (evs ++ D.hashE (ds.map List.length)), conds := [ds.flatten.length ≤ 100000000000, ds.length ≤ 1000000000, evs.length + 5 * ds.flatten.length + 10 * ds.length + 40 ≤ 1000000000000] }
   | _, _ => none
 | _ => none
theorem olL_ok (Γ : Env) (hg : Γ.glob = globs) : SumOK Tryz.prog Γ 24 (canonS globs 100 olDec) := by
 refine canonS_ok hg fun vs T c hd hc => ?_
 unfold olDec at hd
 split at hd
 case h_2 => cases hd
 split at hd
 case h_2 => cases hd
 cases hd
 exact olL_call _ _ (hc _ (by simp)) (hc _ (by simp)) (hc _ (by simp)) Γ hg
end Go.Proofs.YtjomfjihopegmaaGreatDoor.Sx
end
section
open Go
set_option maxRecDepth 100000
namespace Go.Proofs.YtjomfjihopegmaaGreatDoor.Sx
noncomputable def ΓSm : Env := env exA 3
theorem ΓSm_ty : TyOK Tryz.prog ΓSm := env_ty _ 3
theorem ΓSm_ok : SumsOK Tryz.prog ΓSm := env_ok _ (fun f S h Γ _ => exA_ok f S h Γ) 3
def caC (l n : Nat) : List SV := .int true .i64 0 :: (List.replicate 64 (.int true .u8 0) ++ (.int true .u32 0 :: (List.replicate 28 (.int true .u8 0) ++ [.bool true false, .int true .i64 0, .int true .u8 0, .rsl l n])))
def sqVs : List SV := [.slc 63 true 0 1 1]
def sqL (ds : List (List Int)) : List (Nat × SB) := [(63, .own (caC 62 ds.length) 32), (62, .rol ds)]
def sqT (ds : List (List Int)) : Tab := fun l => look l (sqL ds)
noncomputable def sqM (ds : List (List Int)) (cf : Cf) (K : List Fr) (s : St) : Option Cfg := mrun ΓSm (cutT 100 (sqT ds)) 100 Tryz.f4.ntmps [8] 400 3000 cf K s
def sqGs (t j : Int) : List (Nat × SV) := [(0, .slc 63 true 0 1 1), (3, .int false .i64 t), (4, .int true .i64 0), (5, .int false .i64 j)]
noncomputable def sqR : Option Cfg := sqM [] (.go (codeOf Tryz.f4)) [] ((st0 sqVs 100).hint [false])
noncomputable def sqLp : Code := cfgC sqR
noncomputable def sqK : List Fr := cfgF sqR
theorem sq_0 (ds : List (List Int)) :
 interp ΓSm Tryz.f4 true [true] 1500 sqVs (sqT ds) 100 100 =
 some { obl := [decide ((↑ds.length : Int) > (60 : Int)) = true], val := SV.bool true false } := by kernel_rfl
theorem sq_1 (ds : List (List Int)) (t j : Int) :
 (toC 100 Tryz.f4.ntmps (cutT 100 (sqT ds)) [] (sqGs t j) [] 100 [] [] (sqM ds (.go (codeOf Tryz.f4)) [] ((st0 sqVs 100).hint [false]))) =
 some (.go (.loop sqLp), sqK,
  [decide ((↑ds.length : Int) > (60 : Int)) = false, (0 : Int) = t, (0 : Int) = j]) := by kernel_rfl
theorem sq_2 (ds : List (List Int)) (t j t' j' : Int) :
 toC 100 Tryz.f4.ntmps (cutT 100 (sqT ds)) [] (sqGs t' j') [] 100 [] [] (sqM ds (.go sqLp) [] ((stOf (sqGs t j) [] 100 [] []).hint [true, false])) =
 some
 (Cf.at Ex.normal, [],
  [j.toNat < ds.length, (0 : Int) ≤ j ∧ j < (↑ds.length : Int), decide ((↑(ds.getD j.toNat []).length : Int) > (20000 : Int)) = false, j.toNat < ds.length, (0 : Int) ≤ j ∧ j < (↑ds.length : Int),
   decide (j < (↑ds.length : Int)) = true, IntKind.i64.wrap (t + (↑(ds.getD j.toNat []).length : Int)) = t', IntKind.i64.wrap (j + (1 : Int)) = j']) := by kernel_rfl
theorem sq_3 (ds : List (List Int)) (t j : Int) :
 toC 100 Tryz.f4.ntmps (cutT 100 (sqT ds)) [] [(2, .bool true false)] [] 100 [] [] (sqM ds (.go sqLp) [] ((stOf (sqGs t j) [] 100 [] []).hint [true, true])) =
 some (Cf.at Ex.ret, [], [decide ((↑(ds.getD j.toNat []).length : Int) > (20000 : Int)) = true, j.toNat < ds.length, (0 : Int) ≤ j ∧ j < (↑ds.length : Int), decide (j < (↑ds.length : Int)) = true]) := by kernel_rfl
theorem sq_4 (ds : List (List Int)) (t j : Int) :
 toC 100 Tryz.f4.ntmps (cutT 100 (sqT ds)) [] (sqGs t j) [] 100 [] [] (sqM ds (.go sqLp) [] ((stOf (sqGs t j) [] 100 [] []).hint [false])) =
 some (Cf.at (Ex.exit 2), [], [decide (j < (↑ds.length : Int)) = false, t = t, j = j]) := by kernel_rfl
theorem sq_5 (ds : List (List Int)) (t j : Int) :
 endC ΓSm (sqT ds) 100 100 Tryz.f4 [] (sqM ds (.at (.exit 2)) sqK ((stOf (sqGs t j) [] 100 [] []).hint [])) =
 some { val := SV.bool false (decide (t ≤ (20000 : Int))) } := by kernel_rfl
theorem sq_6 (ds : List (List Int)) :
 endC ΓSm (sqT ds) 100 100 Tryz.f4 [] (sqM ds (.at .ret) sqK ((stOf [(2, .bool true false)] [] 100 [] []).hint [])) =
 some { val := SV.bool true false } := by kernel_rfl
def smallB (ds : List (List Int)) : Bool := decide (ds.length ≤ 60 ∧ (∀ d ∈ ds, d.length ≤ 20000) ∧ ds.flatten.length ≤ 20000)
theorem flat_any : ∀ {ds : List (List Int)} {d : List Int}, d ∈ ds → d.length ≤ ds.flatten.length
 | [], _, h => by cases h
 | e :: r, d, h => by
   simp only [List.flatten_cons, List.length_append]
   rcases List.mem_cons.1 h with rfl | h
   ·omega
   ·have := flat_any h; omega
theorem flat_le {b : Nat} {ds : List (List Int)} (h : ∀ d ∈ ds, d.length ≤ b) : ds.flatten.length ≤ ds.length * b := by
 induction ds with
 | nil => simp
 | cons d r ih =>
   have h1 := h d (by simp)
   have h2 := ih fun x hx => h x (by simp [hx])
   simp only [List.flatten_cons, List.length_append, List.length_cons, Nat.add_mul, Nat.one_mul]
   omega
theorem sq_loop {ds : List (List Int)} (hm : ds.length ≤ 60)
  {w0 : World} {M : Nat → Prop} {V0 : Val} {Q : Exit → Act → World → Prop} (hb : Base ΓSm (cutT 100 (sqT ds)) 100 V0)
  (h1 : (∃ d ∈ ds, 20000 < d.length) → G Tryz.prog ΓSm w0 M (cutT 100 (sqT ds)) Tryz.f4.ntmps 100 V0 (.at .ret) sqK (stOf [(2, .bool true false)] [] 100 [] []) Q)
  (h2 : (∀ d ∈ ds, d.length ≤ 20000) → G Tryz.prog ΓSm w0 M (cutT 100 (sqT ds)) Tryz.f4.ntmps 100 V0 (.at (.exit 2)) sqK (stOf (sqGs (ds.flatten.length : Int) ds.length) [] 100 [] []) Q) :
  G Tryz.prog ΓSm w0 M (cutT 100 (sqT ds)) Tryz.f4.ntmps 100 V0 (.go (.loop sqLp)) sqK (stOf (sqGs 0 0) [] 100 [] []) Q := by
 have hty := ΓSm_ty
 have hsum := ΓSm_ok
 refine G.loop (fun r s => ∃ i : Nat, i ≤ ds.length ∧ r = ds.length - i ∧ (∀ d ∈ ds.take i, d.length ≤ 20000) ∧ s = stOf (sqGs ((ds.take i).flatten.length : Int) i) [] 100 [] []) (r0 := ds.length) ⟨0, Nat.zero_le _, rfl, by simp, rfl⟩ ?_
 rintro r s ⟨i, hi, rfl, hs, rfl⟩
 by_cases hlt : i < ds.length
 ·have hg : ds[i] = ds.getD i [] := by simp [List.getD_eq_getElem?_getD, hlt]
  have hmem : ds.getD i [] ∈ ds := by rw [← hg]; exact List.getElem_mem hlt
  by_cases hbig : 20000 < (ds.getD i []).length
  ·refine G.toC hty hsum mix hb [true, true] (sq_3 ds _ i) ?_ (G.leave (by simp) (h1 ⟨_, hmem, hbig⟩))
   rw [Int.toNat_natCast]
   exact of_allP ⟨decide_eq_true (by omega), hlt, by omega, decide_eq_true (by omega), trivial⟩
  ·have hf := flat_le hs
   have hl : (ds.take i).length = i := by rw [List.length_take]; omega
   rw [hl] at hf
   refine G.roundC hty hsum mix hb [true, false] (sq_2 ds _ i ((ds.take (i + 1)).flatten.length : Int) ((i + 1 : Nat))) ?_ (ds.length - (i + 1)) (by omega) ⟨i + 1, hlt, rfl, fun d hd => ?_, rfl⟩
   ·rw [Int.toNat_natCast]
    refine of_allP ⟨hlt, by omega, decide_eq_false (by omega), hlt, by omega, decide_eq_true (by omega), ?_, ?_, trivial⟩
    ·rw [flat_take hlt, List.length_append, IntWalk.i64_in _ (by omega)]; omega
    ·rw [IntWalk.i64_in _ (by omega)]; omega
   ·rw [List.take_add_one, List.getElem?_eq_getElem hlt, hg] at hd
    rcases List.mem_append.1 hd with q | q
    ·exact hs d q
    ·simp only [Option.toList_some, List.mem_singleton] at q
     subst q; omega
 ·have e : i = ds.length := by omega
  subst e
  rw [List.take_length] at hs ⊢
  exact G.toC hty hsum mix hb [false] (sq_4 ds _ _) (of_allP ⟨decide_eq_false (by omega), rfl, rfl, trivial⟩) (G.leave (by simp) (h2 hs))
theorem sq_call (ds : List (List Int)) (Γ : Env) (hg : Γ.glob = globs) : CallOK Tryz.prog Γ 4 sqVs (sqT ds) 100 100 { val := .bool false (smallB ds) } := by
 have hs : ∀ hints, SumOK Tryz.prog ΓSm 4 (interp ΓSm Tryz.f4 true hints 1500) := fun hints => interp_ok ΓSm_ty ΓSm_ok mix Tryz.func4 (by kernel_rfl) true hints 1500
 by_cases m1 : (ds.length : Int) > 60
 ·rw [show smallB ds = false from decide_eq_false (by omega)]
  exact ((hs [true]).call (sq_0 ds) (of_allP ⟨decide_eq_true m1, trivial⟩)).words (by rw [hg]; rfl) (fun _ => rfl) (fun _ _ h => h) (fun _ => rfl) rfl rfl
 have hty := ΓSm_ty
 have hsum := ΓSm_ok
 have start : ∀ {w0 : World} {M : Nat → Prop} {V0 : Val} {Q : Exit → Act → World → Prop}, Base ΓSm (cutT 100 (sqT ds)) 100 V0 → G Tryz.prog ΓSm w0 M (cutT 100 (sqT ds)) Tryz.f4.ntmps 100 V0 (.go (.loop sqLp)) sqK (stOf (sqGs 0 0) [] 100 [] []) Q →
   G Tryz.prog ΓSm w0 M (cutT 100 (sqT ds)) Tryz.f4.ntmps 100 V0 (.go (codeOf Tryz.f4)) [] (st0 sqVs 100) Q := fun hb h =>
  G.toC hty hsum mix hb [false] (sq_1 ds 0 0) (of_allP ⟨decide_eq_false m1, rfl, rfl, trivial⟩) h
 by_cases hex : ∃ d ∈ ds, 20000 < d.length
 ·obtain ⟨d, hd, hbig⟩ := hex
  have := flat_any hd
  rw [show smallB ds = false from decide_eq_false (by omega)]
  refine CallOK.words (Γ := ΓSm) (e := { val := .bool true false }) ?_ (by rw [hg]; rfl) (fun _ => rfl) (fun _ _ h => h) (fun _ => rfl) rfl rfl
  refine call_G ΓSm_ty ΓSm_ok Tryz.func4 (by kernel_rfl) rfl (Nat.le_of_ble_eq_true (by kernel_rfl)) rfl [] ?_
  intro w0 M V0 Q hb H
  refine start hb (sq_loop (by omega) hb (fun _ => G.finC (cl := []) hty hsum mix [] H (sq_6 ds) mem0 rfl rfl rfl) fun h => ?_)
  have := h d hd
  omega
 ·refine CallOK.words (Γ := ΓSm) (e := { val := .bool false (decide ((ds.flatten.length : Int) ≤ 20000)) }) ?_ (by rw [hg]; rfl) (fun _ => rfl) (fun _ _ h => h) (fun _ => ?_) rfl rfl
  ·refine call_G ΓSm_ty ΓSm_ok Tryz.func4 (by kernel_rfl) rfl (Nat.le_of_ble_eq_true (by kernel_rfl)) rfl [] ?_
   intro w0 M V0 Q hb H
   exact start hb (sq_loop (by omega) hb (fun h => (hex h).elim) fun _ => G.finC (cl := []) hty hsum mix [] H (sq_5 ds _ _) mem0 rfl rfl rfl)
  ·have hall : ∀ d ∈ ds, d.length ≤ 20000 := fun d hd => Nat.le_of_not_lt fun h => hex ⟨d, hd, h⟩
   have : smallB ds = decide ((ds.flatten.length : Int) ≤ 20000) := by
    unfold smallB
    apply decide_eq_decide.2
    exact ⟨fun h => by have := h.2.2; omega, fun h => ⟨by omega, hall, by omega⟩⟩
   rw [this]
def sqDec (vs : List SV) (T : Tab) : Option Canon := match vs with
 | [.slc l true off len cap] => match T l, Nat.beq off 0, Nat.beq len 1, Nat.beq cap 1 with
   | some (.own cs ty), true, true, true => match cs.drop 97, Nat.beq ty 32 with
     | [.rsl l2 n], true => match T l2 with
       | some (.rol ds) => some { vs0 := sqVs, T0 := sqL ds, vl := [(63, .lab l 0), (62, .lab l2 0)], e0 := { val := .bool false (smallB ds), wr := [(63, .own (caC 62 ds.length) 32)] }, conds := [] }
       | _ => none
     | _, _ => none
   | _, _, _, _ => none
 | _ => none
theorem sqd_ok (Γ : Env) (hg : Γ.glob = globs) : SumOK Tryz.prog Γ 4 (canonS globs 100 sqDec) := by
 refine canonS_ok hg fun vs T c hd hc => ?_
 unfold sqDec at hd
 split at hd
 case h_2 => cases hd
 split at hd
 case h_2 => cases hd
 split at hd
 case h_2 => cases hd
 split at hd
 case h_2 => cases hd
 cases hd
 exact ((sq_call _ Γ hg).same (l0 := 63) (by simp only [sqT, sqL, look_cons_eq]) rfl).words rfl (fun _ => rfl) (fun _ _ h => h) (fun _ => rfl) rfl rfl
noncomputable def exS1 : Nat → Option Sum := addS exAt 4 (canonS globs 100 sqDec)
theorem exS1_ok : ∀ f S, exS1 f = some S → ∀ Γ : Env, Γ.glob = globs → SumOK Tryz.prog Γ f S := addS_ok exAt_ok 4 _ sqd_ok
end Go.Proofs.YtjomfjihopegmaaGreatDoor.Sx
end
section
open Go
set_option maxRecDepth 100000
namespace Go.Proofs.YtjomfjihopegmaaGreatDoor.Sx
noncomputable def ΓA : Env := env exA 3
def ordI : List Int := D.orders.flatten.map fun n : Nat => (n : Int)
def rowsI : List Int := [0, 4, 8, 12, 1, 5, 9, 13, 2, 6, 10, 14, 3, 7, 11, 15, 0, 5, 10, 15, 1, 6, 11, 12, 2, 7, 8, 13, 3, 4, 9, 14]
def glB : List (Nat × SB) := [(3, .roc (rowsI.map (.int true .i64))), (4, .roc (D.iv.map (.int true .u32))), (5, .roc (ordI.map (.int true .i64)))]
def swVs (c : Int) (la : Bool) : List SV := [.ptr 60 true 0, .ptr 61 true 0, .int false .u64 c, .bool true la]
def swL (st blk : List Int) : List (Nat × SB) := (60, .own (intsV .u32 8 st) 156) :: (61, .roc (intsV .u8 64 blk)) :: glB
def swT (st blk : List Int) : Tab := fun l => look l (swL st blk)
noncomputable def swM (st blk : List Int) (cf : Cf) (K : List Fr) (s : St) : Option Cfg := mrun ΓA (cutT 100 (swT st blk)) 100 Tryz.f114.ntmps [8] 400 2000 cf K s
def swGs (r : Nat) : List (Nat × SV) := [(0, .ptr 60 true 0), (1, .ptr 61 true 0), (8, .ptr 100 true 0), (44, .agg (ordI.map (.int true .i64))), (45, .int true .i64 r)]
def swTb (v : List Int) : List (Nat × SB) := [(100, .own (intsV .u32 16 v) 81)]
noncomputable def swR : Option Cfg := swM [] [] (.go (codeOf Tryz.f114)) [] ((st0 (swVs 0 false) 100).hint [])
noncomputable def swLp : Code := cfgC swR
noncomputable def swK : List Fr := cfgF swR
theorem sw_0 (st blk v : List Int) (c : Int) (la : Bool) : toC 100 Tryz.f114.ntmps (cutT 100 (swT st blk)) [] (swGs 0) (swTb v) 101 [] [] (swM st blk (.go (codeOf Tryz.f114)) [] ((st0 (swVs c la) 100).hint [])) =
  some (.go (.loop swLp), swK, [D.start st c (match la with | true => 4294967295 | false => 0) = bytesI 16 v]) := by cases la <;> kernel_rfl
end Go.Proofs.YtjomfjihopegmaaGreatDoor.Sx
end
