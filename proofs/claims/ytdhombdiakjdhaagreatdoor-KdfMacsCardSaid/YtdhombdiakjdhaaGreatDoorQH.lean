/- digest.press, in place and beside. -/
import Derived.Test.YtdhombdiakjdhaaGreatDoorQG
section
open Go
set_option maxRecDepth 100000
namespace Go.Proofs.YtdhombdiakjdhaaGreatDoor.Sx
theorem round_length (v m : List Int) (s : List Nat) : (D.roundM v m s).length = v.length := by
 simp only [D.roundM, D.round]
 simp only [D.mix, List.length_set]
theorem rounds_length (v m : List Int) : (D.rounds v m).length = v.length := by
 have : ∀ (l : List (List Nat)) (v : List Int), (l.foldl (fun v s => D.roundM v m s) v).length = v.length := by
  intro l
  induction l with
  | nil => intro v; rfl
  | cons s l ih => intro v; rw [List.foldl_cons, ih, round_length]
 exact this _ _
theorem rounds_call (v m : List Int) (ty : Nat) (hv : v.length = 16) (hm : m.length = 16) (Γ : Env) (hg : Γ.glob = globs) :
  CallOK Tryz.prog Γ 160 [.ptr 60 true 0, .ptr 61 true 0] (fun l => look l [(60, .ints .u32 v ty), (61, .roi .u32 m)]) 100 100 { val := .tup [], wr := [(60, .own (intsV .u32 16 (D.rounds v m)) ty)] } := by
 have hs : SumOK Tryz.prog (env exA 3) 160 (interp (env exA 3) Tryz.f160 true [] 400) :=
  interp_ok (env_ty exA 3) (exA_sums 3) mix Tryz.func160 (by kernel_rfl) true [] 400
 have h1 := hs.call (rounds_run v m ty) (by simp)
 rw [bytesI_eq hv] at h1
 have h2 := h1.whole (C := .ints .u32 v ty) (C' := .own (intsV .u32 16 (D.rounds v m)) ty) (o' := []) rfl rfl (fun V => (intsV_ok hv).symm) rfl rfl (fun V => (denL_map_int V _ _).trans (intsV_ok (by rw [rounds_length, hv])).symm)
 have h3 := h2.words (Γ' := Γ) (vs' := [.ptr 60 true 0, .ptr 61 true 0]) (T' := fun l => look l [(61, .roc (intsV .u32 16 m)), (60, .ints .u32 v ty)]) (by rw [hg]; rfl) (fun _ => rfl) (fun l B h => by rw [look_swap (by decide)]; exact h) (fun _ => rfl) rfl rfl
 have h4 := h3.wholeR (C := .roi .u32 m) rfl rfl (fun V => (intsV_ok hm).symm) rfl
 exact h4.words rfl (fun _ => rfl) (fun l B h => by rw [look_swap (by decide)]; exact h) (fun _ => rfl) rfl rfl
def intsB : SB → Option (IntKind × List Int × Nat)
 | .ints k xs t => some (k, xs, t)
 | .own cs t => (intsA cs).map fun p => (p.1, p.2, t)
 | _ => none
def roundsDec (vs : List SV) (T : Tab) : Option Canon := match vs with
 | [.ptr l _ _, .ptr l2 _ _] => match T l, T l2 with
   | some B, some B2 => match intsB B, intsB B2 with
     | some (.u32, v, ty), some (.u32, m, _) => some { vs0 := [.ptr 60 true 0, .ptr 61 true 0], T0 := [(60, .ints .u32 v ty), (61, .roi .u32 m)], vl := [(60, .lab l 0), (61, .lab l2 0)], e0 := { val := .tup [], wr := [(60, .own (intsV .u32 16 (D.rounds v m)) ty)] }, conds := [v.length = 16, m.length = 16] }
     | _, _ => none
   | _, _ => none
 | _ => none
theorem rounds_ok (Γ : Env) (hg : Γ.glob = globs) : SumOK Tryz.prog Γ 160 (canonS globs 100 roundsDec) := by
 refine canonS_ok hg fun vs T c hd hc => ?_
 unfold roundsDec at hd
 split at hd
 case h_2 => cases hd
 split at hd
 case h_2 => cases hd
 split at hd
 case h_2 => cases hd
 cases hd
 exact rounds_call _ _ _ (hc _ (by simp)) (hc _ (by simp)) Γ hg
theorem if_call (s b : Bool) (Γ : Env) (hg : Γ.glob = globs) : CallOK Tryz.prog Γ 64 [.raw (.pointer none), .bool s b] (fun l => look l []) 100 100 { val := .bool s b } := by
 have hs : SumOK Tryz.prog (env exA 2) 64 (interp (env exA 2) Tryz.f64 true [] 400) :=
  interp_ok (env_ty exA 2) (exA_sums 2) mix Tryz.func64 (by kernel_rfl) true [] 400
 have h1 : interp (env exA 2) Tryz.f64 true [] 400 [.raw (.pointer none), .bool true true] (fun _ => none) 100 100 = some { val := .bool true true } := by kernel_rfl
 have h2 : interp (env exA 2) Tryz.f64 true [] 400 [.raw (.pointer none), .bool true false] (fun _ => none) 100 100 = some { val := .bool true false } := by kernel_rfl
 cases b with
 | true => exact (hs.call h1 (by simp)).words (by rw [hg]; rfl) (fun _ => rfl) (fun _ _ h => by cases h) (fun _ => rfl) rfl rfl
 | false => exact (hs.call h2 (by simp)).words (by rw [hg]; rfl) (fun _ => rfl) (fun _ _ h => by cases h) (fun _ => rfl) rfl rfl
def ifDec (vs : List SV) (_ : Tab) : Option Canon := match vs with
 | [.raw (.pointer none), .bool s b] => some { vs0 := [.raw (.pointer none), .bool s b], T0 := [], vl := [], e0 := { val := .bool s b } }
 | _ => none
theorem if_ok (Γ : Env) (hg : Γ.glob = globs) : SumOK Tryz.prog Γ 64 (canonS globs 100 ifDec) := by
 refine canonS_ok hg fun vs T c hd hc => ?_
 unfold ifDec at hd
 split at hd
 case h_2 => cases hd
 cases hd
 exact if_call _ _ Γ hg
def addS (ex : Nat → Option Sum) (n : Nat) (S : Sum) : Nat → Option Sum := fun f => match Nat.beq f n with
 | true => some S
 | false => ex f
theorem addS_ok {ex : Nat → Option Sum} (hex : ∀ f S, ex f = some S → ∀ Γ : Env, Γ.glob = globs → SumOK Tryz.prog Γ f S) (n : Nat) (S : Sum) (hS : ∀ Γ : Env, Γ.glob = globs → SumOK Tryz.prog Γ n S) :
  ∀ f S', addS ex n S f = some S' → ∀ Γ : Env, Γ.glob = globs → SumOK Tryz.prog Γ f S' := by
 intro f S' h Γ hg
 unfold addS at h
 split at h
 ·rename_i hb; have := Nat.eq_of_beq_eq_true hb; subst this; cases h; exact hS Γ hg
 ·exact hex f S' h Γ hg
noncomputable def exR : Nat → Option Sum := addS exA 160 (canonS globs 100 roundsDec)
theorem exR_ok : ∀ f S, exR f = some S → ∀ Γ : Env, Γ.glob = globs → SumOK Tryz.prog Γ f S := addS_ok (fun f S h Γ _ => exA_ok f S h Γ) 160 _ rounds_ok
def hC (S : D.HS) : List SV := [.raw (.pointer none), .int true .i64 32] ++ (intsV .u32 8 S.st ++ (.int false .u64 S.cnt :: (intsV .u8 64 S.blk ++ [.int false .i64 (S.held : Int)])))
def hT (S : D.HS) : Tab := fun l => look l [(60, .own (hC S) 193)]
def prOb (v m : List Int) : List Prop := [v.length = 16, m.length = 16, v = v ∧ 231 = 231, m = m]
theorem pr_a (st blk : List Int) (cnt c : Int) (held : Nat) : interp (env exR 3) Tryz.f120 true [] 2000 [.ptr 60 true 0, .ptr 60 true 2, .ptr 60 true 11, .int false .u64 c, .int true .u32 0] (hT ⟨st, cnt, blk, held⟩) 100 100 =
  some { obl := prOb (D.start st c 0) (D.words blk), val := .tup [], wr := [(60, .own (hC ⟨D.press st blk c 0, cnt, blk, held⟩) 193)] } := by kernel_rfl
end Go.Proofs.YtdhombdiakjdhaaGreatDoor.Sx
end
section
open Go
set_option maxRecDepth 100000
namespace Go.Proofs.YtdhombdiakjdhaaGreatDoor.Sx
def oS (held : Nat) : Nat := if (64 : Int) = (held : Int) then 0 else 0 + (held : Int).toNat * 1
def clr (held : Nat) (b : List Int) : List Int := b.take (oS held) ++ List.replicate (64 - (held : Int).toNat) 0 ++ b.drop (oS held + (List.replicate (64 - (held : Int).toNat) (0 : Int)).length)
def sumOb (st b : List Int) (cnt : Int) (held : Nat) : List Prop :=
 prOb (D.start st (IntKind.u64.wrap (cnt + IntKind.u64.wrap (held : Int))) 4294967295) (D.words (clr held b)) ++ (((List.range 64).map fun j => 64 - j ≤ (clr held b).length) ++
  [0 ≤ oS held ∧ oS held + (List.replicate (64 - (held : Int).toNat) (0 : Int)).length ≤ 0 + b.length, (0 : Int) ≤ 64 ∧ (64 : Int) ≤ (64 : Nat) ∧ (0 : Int) ≤ 64 ∧ (64 : Int) ≤ 64 ∧ 0 ≤ (held : Int) ∧ (held : Int) ≤ 64])
theorem sum_run (st blk : List Int) (cnt : Int) (held : Nat) : interp (env exR 4) Tryz.f76 true [] 2000 [.ptr 60 true 0] (hT ⟨st, cnt, blk, held⟩) 100 100 =
  some { obl := sumOb st (bytesI 64 blk) cnt held, val := .slc 100 true 0 32 32, new := [.own ((D.bytes (D.press st (clr held (bytesI 64 blk)) (IntKind.u64.wrap (cnt + IntKind.u64.wrap (held : Int))) 4294967295)).map (.int false .u8)) 5] } := by kernel_rfl
theorem clr_eq {held : Nat} {b : List Int} (hb : b.length = 64) (hh : held ≤ 64) : clr held b = b.take held ++ List.replicate (64 - held) 0 := by
 unfold clr oS
 rw [Int.toNat_natCast]
 by_cases h : held = 64
 ·subst h
  rw [if_pos (by rfl)]
  simp [← hb]
 ·rw [if_neg (by omega)]
  simp
  omega
def hV (S : D.HS) : List Value := [.pointer none, .int .i64 32] ++ (S.st.map (Value.int .u32) ++ (.int .u64 S.cnt :: (S.blk.map (Value.int .u8) ++ [.int .i64 (S.held : Int)])))
theorem hC_ok {S : D.HS} (h1 : S.st.length = 8) (h2 : S.blk.length = 64) (V : Val) : denL V (hC S) = some (hV S) := by
 refine denL_append rfl (denL_append (intsV_ok h1) ?_)
 show (denL V (intsV .u8 64 S.blk ++ [.int false .i64 (S.held : Int)])).map _ = _
 rw [denL_append (intsV_ok h2) rfl]
 rfl
def toI : Value → Int
 | .int _ n => n
 | _ => 0
def unH (vs : List Value) : D.HS := ⟨((vs.drop 2).take 8).map toI, toI (vs.getD 10 undef), ((vs.drop 11).take 64).map toI, (toI (vs.getD 75 undef)).toNat⟩
theorem map_toI (k : IntKind) : ∀ xs : List Int, (xs.map (Value.int k)).map toI = xs
 | [] => rfl
 | x :: xs => by simp only [List.map_cons, map_toI k xs]; rfl
theorem unH_hV {S : D.HS} (h1 : S.st.length = 8) (h2 : S.blk.length = 64) : unH (hV S) = S := by
 obtain ⟨st, cnt, blk, held⟩ := S
 simp only at h1 h2
 have e1 : ((hV ⟨st, cnt, blk, held⟩).drop 2) = st.map (Value.int .u32) ++ (.int .u64 cnt :: (blk.map (Value.int .u8) ++ [.int .i64 (held : Int)])) := rfl
 have e2 : ((hV ⟨st, cnt, blk, held⟩).drop 2).take 8 = st.map (Value.int .u32) := by
  rw [e1]; exact List.take_left' (by simpa using h1)
 have e3 : ((hV ⟨st, cnt, blk, held⟩).drop 2).drop 8 = .int .u64 cnt :: (blk.map (Value.int .u8) ++ [.int .i64 (held : Int)]) := by
  rw [e1]; exact List.drop_left' (by simpa using h1)
 rw [List.drop_drop] at e3
 have e4 : (hV ⟨st, cnt, blk, held⟩).getD 10 undef = .int .u64 cnt := by
  rw [List.getD_eq_getElem?_getD, show (10 : Nat) = 2 + 8 + 0 from rfl, ← List.getElem?_drop, e3]; rfl
 have e5 : (hV ⟨st, cnt, blk, held⟩).drop 11 = blk.map (Value.int .u8) ++ [.int .i64 (held : Int)] := by
  rw [show (11 : Nat) = 2 + 8 + 1 from rfl, ← List.drop_drop, e3]; rfl
 have e6 : ((hV ⟨st, cnt, blk, held⟩).drop 11).take 64 = blk.map (Value.int .u8) := by
  rw [e5]; exact List.take_left' (by simpa using h2)
 have e7 : (hV ⟨st, cnt, blk, held⟩).getD 75 undef = .int .i64 (held : Int) := by
  rw [List.getD_eq_getElem?_getD, show (75 : Nat) = 11 + 64 from rfl, ← List.getElem?_drop, e5, List.getElem?_append_right (by simp [h2])]
  simp [h2]
 unfold unH
 rw [e2, e4, e6, e7, map_toI, map_toI]
 simp [toI]
theorem sum_call {S : D.HS} {n : Nat} (hS : S.WF n) (hn : n ≤ 1000000000000) (Γ : Env) (hg : Γ.glob = globs) :
  CallOK Tryz.prog Γ 76 [.ptr 60 true 0] (fun l => look l [(60, .vals (hV S) 193)]) 100 100 { val := .slc 100 true 0 32 32, new := [.ints .u8 (D.bytes (D.press S.st (S.blk.take S.held ++ List.replicate (64 - S.held) 0) (S.cnt + S.held) 4294967295)) 5] } := by
 obtain ⟨st, cnt, blk, held⟩ := S
 obtain ⟨w1, w2, w3, w4, w5⟩ := hS
 simp only at w1 w2 w3 w4 w5
 have hs : SumOK Tryz.prog (env exR 4) 76 (interp (env exR 4) Tryz.f76 true [] 2000) :=
  interp_ok (env_ty exR 4) (env_ok exR exR_ok 4) mix Tryz.func76 (by kernel_rfl) true [] 2000
 have hc : IntKind.u64.wrap (cnt + IntKind.u64.wrap (held : Int)) = cnt + held := by
  rw [IntWalk.u64_in (held : Int) (by omega), IntWalk.u64_in _ (by omega)]
 have hX := clr_eq w2 w3
 have hXl : (clr held blk).length = 64 := by rw [hX]; simp; omega
 have h1 := hs.call (sum_run st blk cnt held) (by
  rw [bytesI_eq w2]
  have hpr : ∀ q ∈ prOb (D.start st (IntKind.u64.wrap (cnt + IntKind.u64.wrap (held : Int))) 4294967295) (D.words (clr held blk)), q :=
   of_allP (l := prOb _ _) (show allP (prOb _ _) from (⟨by simp [D.start, bytesI], by simp [D.words], ⟨rfl, rfl⟩, rfl, trivial⟩ : _ ∧ _ ∧ _ ∧ _ ∧ True))
  intro q hq
  simp only [sumOb, List.mem_append, List.mem_map, List.mem_range] at hq
  rcases hq with hq | ⟨j, hj, rfl⟩ | hq
  ·exact hpr q hq
  ·rw [hXl]; omega
  ·simp only [List.mem_cons, List.not_mem_nil, or_false] at hq
   rcases hq with rfl | rfl
   ·refine ⟨Nat.zero_le _, ?_⟩
    unfold oS
    rw [List.length_replicate, Int.toNat_natCast, w2]
    split <;> omega
   ·omega)
 rw [bytesI_eq w2, hX, hc] at h1
 have h2 := h1.wholeR (C := .vals (hV ⟨st, cnt, blk, held⟩) 193) rfl rfl (fun V => (hC_ok w1 w2 V).symm) rfl
 exact (h2.new1 (C := .ints .u8 _ 5) (o' := []) rfl rfl (fun V => denL_map_int V _ _) rfl).words (by rw [hg]; rfl) (fun _ => rfl) (fun _ _ h => h) (fun _ => rfl) rfl rfl
theorem CallOK.same {P : Program} {Γ : Env} {f : FuncId} {vs : List SV} {T : Tab} {lab F l0 : Nat} {B : SB} {e : Eff} (h : CallOK P Γ f vs T lab F e) (hT : T l0 = some B) (hn : look l0 (e.tab lab) = none) :
  CallOK P Γ f vs T lab F { e with wr := (l0, B) :: e.wr } := by
 intro w0 M V T2 w ys hsub hT1 hg hf hF hx op a K Q hK
 refine h w0 M V T2 w ys hsub hT1 hg hf hF hx op a K Q fun V' x w' h1 h2 h3 => hK V' x w' h1 h2 ?_
 have e1 : upd T2 lab { e with wr := (l0, B) :: e.wr } = upd T2 lab e := by
  funext l
  simp only [upd, Eff.tab, List.cons_append] at hn ⊢
  by_cases q : l = l0
  ·subst q; rw [look_cons_eq, hn, hsub l B hT]
  ·rw [look_cons_ne (fun r => q r.symm)]
 rw [e1]
 exact h3
def D.okV (xs : List Value) (k : Nat) : Prop := xs = hV (unH xs) ∧ ∃ n, (unH xs).WF n ∧ n + k ≤ 1000000000000
def D.sumV (xs : List Value) : List Int := D.bytes (D.press (unH xs).st ((unH xs).blk.take (unH xs).held ++ List.replicate (64 - (unH xs).held) 0) ((unH xs).cnt + (unH xs).held) 4294967295)
def sumDec (vs : List SV) (T : Tab) : Option Canon := match vs with
 | [.ptr l _ _] => match T l with
   | some (.vals xs ty) => match Nat.beq ty 193 with
     | true => some { vs0 := [.ptr 60 true 0], T0 := [(60, .vals xs 193)], vl := [(60, .lab l 0)], e0 := { val := .slc 100 true 0 32 32, new := [.ints .u8 (D.sumV xs) 5], wr := [(60, .vals xs 193)] }, conds := [D.okV xs 0] }
     | false => none
   | _ => none
 | _ => none
theorem sum_ok (Γ : Env) (hg : Γ.glob = globs) : SumOK Tryz.prog Γ 76 (canonS globs 100 sumDec) := by
 refine canonS_ok hg fun vs T c hd hc => ?_
 unfold sumDec at hd
 split at hd
 case h_2 => cases hd
 split at hd
 case h_2 => cases hd
 split at hd
 case h_2 => cases hd
 rename_i xs ty _ _ _
 cases hd
 obtain ⟨h1, n, h2, h3⟩ : D.okV xs 0 := hc _ (by simp)
 have := (sum_call h2 h3 Γ hg).same (l0 := 60) (by simp only [look_cons_eq]; rfl) rfl
 rw [← h1] at this
 exact this
end Go.Proofs.YtdhombdiakjdhaaGreatDoor.Sx
end
section
open Go
set_option maxRecDepth 100000
namespace Go.Proofs.YtdhombdiakjdhaaGreatDoor.Sx
noncomputable def exS : Nat → Option Sum := addS exR 64 (canonS globs 100 ifDec)
theorem exS_ok : ∀ f S, exS f = some S → ∀ Γ : Env, Γ.glob = globs → SumOK Tryz.prog Γ f S := addS_ok exR_ok 64 _ if_ok
noncomputable def ΓW : Env := env exS 4
theorem ΓW_ty : TyOK Tryz.prog ΓW := env_ty exS 4
theorem ΓW_ok : SumsOK Tryz.prog ΓW := env_ok exS exS_ok 4
def wrT (S : D.HS) (d : List Int) : Tab := fun l => look l [(60, .own (hC S) 193), (61, .rov .u8 d)]
def wrVs (n : Nat) : List SV := [.ptr 60 true 0, .ros 61 n]
noncomputable def wrM (S : D.HS) (d : List Int) (cf : Cf) (K : List Fr) (s : St) : Option Cfg := mrun ΓW (cutT 100 (wrT S d)) 100 Tryz.f75.ntmps [1] 400 2000 cf K s
def wrGs (n : Nat) : List (Nat × SV) := [(0, .ptr 60 true 0), (1, .ros 100 n)]
def wrTb (S : D.HS) (d : List Int) : List (Nat × SB) := [(60, .own (hC S) 193), (100, .rov .u8 d)]
noncomputable def wrR : Option Cfg := wrM ⟨[], 0, [], 0⟩ [] (.go (codeOf Tryz.f75)) [] (st0 (wrVs 0) 100)
noncomputable def cfgC (r : Option Cfg) : Code := match r with
 | some ⟨.go (.loop L), _, _⟩ => L
 | _ => .skip
noncomputable def cfgF (r : Option Cfg) : List Fr := match r with
 | some ⟨_, K, _⟩ => K
 | _ => []
noncomputable def wrL : Code := cfgC wrR
noncomputable def wrK : List Fr := cfgF wrR
def qE (st : List Int) (cnt : Int) (blk : List Int) (h : Int) (S' : D.HS) : List Prop := ((List.range 8).map fun j => st.getD j 0 = S'.st.getD j 0) ++ ((cnt = S'.cnt) :: (((List.range 64).map fun j => blk.getD j 0 = S'.blk.getD j 0) ++ [h = (S'.held : Int)]))
theorem w_0 (S S' : D.HS) (d d' : List Int) (n : Nat) : toC 100 Tryz.f75.ntmps (cutT 100 (wrT S d)) [.ali 1] (wrGs n) (wrTb S' d') 101 [60] [] (wrM S d (.go (codeOf Tryz.f75)) [] ((st0 (wrVs n) 100).hint [])) =
  some (.go (.loop wrL), wrK, (n = n) :: (qE S.st S.cnt S.blk S.held S' ++ [d = d'])) := by kernel_rfl
def oB (h : Nat) : Nat := if (64 : Int) = (h : Int) then 11 else 11 + (h : Int).toNat * 1
def splB (b d : List Int) (o m : Nat) : List Int := b.take (o - 11) ++ d.take m ++ b.drop (o - 11 + (d.take m).length)
def cB (n m : Nat) : Prop := (0 : Int) ≤ (m : Int) ∧ (m : Int) ≤ (n : Int) ∧ (n : Int) ≤ (n : Int)
def mB (d : List Int) (h : Nat) : Nat := d.length.min (64 - (h : Int).toNat)
def tailB (d d' : List Int) (n m : Nat) : List Prop := [(d.drop (m : Int).toNat).take ((n : Int).toNat - (m : Int).toNat) = d']
theorem w_1 (S S0 S' : D.HS) (d d0 d' : List Int) (n n' : Nat) : toC 100 Tryz.f75.ntmps (cutT 100 (wrT S0 d0)) [] (wrGs n') (wrTb S' d') 101 [60] [] (wrM S0 d0 (.go wrL) [] ((stOf (wrGs n) (wrTb S d) 101 [60] []).hint [true, true])) =
  some (.at .normal, [], [cB n (d.length.min 64), (11 ≤ 11 ∧ 11 + (d.take (d.length.min 64)).length ≤ 11 + 64)] ++ (prOb (D.start S.st (IntKind.u64.wrap (S.cnt + 64)) 0) (D.words S.blk) ++
   ([((S.held : Int) == 64) = true, ((S.held : Int) == 64) = ((S.held : Int) == 64), decide ((n : Int) > 0) = true, decide ((n : Int) > 0) = decide ((n : Int) > 0), (n : Int).toNat - ((d.length.min 64 : Nat) : Int).toNat = n'] ++
    (qE (D.press S.st S.blk (IntKind.u64.wrap (S.cnt + 64)) 0) (IntKind.u64.wrap (S.cnt + 64)) (splB (bytesI 64 S.blk) d 11 (d.length.min 64)) (IntKind.i64.wrap (0 + (d.length.min 64 : Nat))) S' ++ tailB d d' n (d.length.min 64))))) := by kernel_rfl
theorem w_2 (S S0 S' : D.HS) (d d0 d' : List Int) (n n' : Nat) : toC 100 Tryz.f75.ntmps (cutT 100 (wrT S0 d0)) [] (wrGs n') (wrTb S' d') 101 [60] [] (wrM S0 d0 (.go wrL) [] ((stOf (wrGs n) (wrTb S d) 101 [60] []).hint [true, false])) =
  some (.at .normal, [], [cB n (mB d S.held), (11 ≤ oB S.held ∧ oB S.held + (d.take (mB d S.held)).length ≤ 11 + 64), (0 : Int) ≤ 64 ∧ (64 : Int) ≤ (64 : Nat) ∧ (0 : Int) ≤ 64 ∧ (64 : Int) ≤ 64 ∧ 0 ≤ (S.held : Int) ∧ (S.held : Int) ≤ 64] ++
   ([((S.held : Int) == 64) = false, ((S.held : Int) == 64) = ((S.held : Int) == 64), decide ((n : Int) > 0) = true, decide ((n : Int) > 0) = decide ((n : Int) > 0), (n : Int).toNat - (mB d S.held : Int).toNat = n'] ++
    (qE S.st S.cnt (splB (bytesI 64 S.blk) d (oB S.held) (mB d S.held)) (IntKind.i64.wrap ((S.held : Int) + (mB d S.held : Nat))) S' ++ tailB d d' n (mB d S.held)))) := by kernel_rfl
theorem w_3 (S S0 : D.HS) (d d0 : List Int) (n : Nat) : toC 100 Tryz.f75.ntmps (cutT 100 (wrT S0 d0)) [] (wrGs n) (wrTb S d) 101 [60] [] (wrM S0 d0 (.go wrL) [] ((stOf (wrGs n) (wrTb S d) 101 [60] []).hint [false])) =
  some (.at (.exit 0), [], [decide ((n : Int) > 0) = false, decide ((n : Int) > 0) = decide ((n : Int) > 0), n = n] ++ (qE S.st S.cnt S.blk S.held S ++ [d = d])) := by kernel_rfl
theorem w_4 (S S0 : D.HS) (d d0 : List Int) (n : Nat) : endC ΓW (wrT S0 d0) 100 100 Tryz.f75 [] (wrM S0 d0 (.at (.exit 0)) wrK ((stOf (wrGs n) (wrTb S d) 101 [60] []).hint [])) = some { val := .tup [], wr := [(60, .own (hC S) 193)] } := by kernel_rfl
end Go.Proofs.YtdhombdiakjdhaaGreatDoor.Sx
end
section
open Go
set_option maxRecDepth 100000
namespace Go.Proofs.YtdhombdiakjdhaaGreatDoor.Sx
theorem getD_range {α : Type} (f : Nat → α) (d : α) {n j : Nat} (h : j < n) : ((List.range n).map f).getD j d = f j := by
 simp [List.getD_eq_getElem?_getD, h]
theorem qE_ok {st blk : List Int} {cnt h : Int} {S' : D.HS} (h1 : st = S'.st) (h2 : cnt = S'.cnt) (h3 : blk = S'.blk) (h4 : h = (S'.held : Int)) : ∀ q ∈ qE st cnt blk h S', q := by
 subst h1 h2 h3 h4
 intro q hq
 simp only [qE, List.mem_append, List.mem_map, List.mem_cons, List.not_mem_nil, or_false] at hq
 rcases hq with ⟨j, _, rfl⟩ | rfl | ⟨j, _, rfl⟩ | rfl <;> first | rfl | trivial
theorem wr_call {S : D.HS} {n : Nat} (d : List Int) (hS : S.WF n) (hn : n + d.length ≤ 1000000000000) :
  CallOK Tryz.prog ΓW 75 (wrVs d.length) (wrT S d) 100 100 { val := .tup [], wr := [(60, .own (hC (S.take d)) 193)] } := by
 refine call_G ΓW_ty ΓW_ok Tryz.func75 (by kernel_rfl) rfl (Nat.le_of_ble_eq_true (by kernel_rfl)) rfl [] ?_
 intro w0 M V0 Q hb H
 have hty := ΓW_ty
 have hsum := ΓW_ok
 have mem1 : ∀ {p : Prop} {l : List Prop}, p → (∀ q ∈ l, q) → ∀ q ∈ p :: l, q := fun hp hl q hq => (List.mem_cons.1 hq).elim (fun e => e ▸ hp) (hl q)
 have app : ∀ {l l' : List Prop}, (∀ q ∈ l, q) → (∀ q ∈ l', q) → ∀ q ∈ l ++ l', q := fun h1 h2 q hq => (List.mem_append.1 hq).elim (h1 q) (h2 q)
 have nil : ∀ q ∈ ([] : List Prop), q := fun q hq => by cases hq
 refine G.toC hty hsum mix hb [] (w_0 S S d d d.length) (mem1 rfl (app (qE_ok rfl rfl rfl rfl) (mem1 rfl nil))) ?_
 refine G.loop (fun r s => ∃ (S1 : D.HS) (d2 : List Int) (n1 : Nat), S1.WF n1 ∧ n1 + d2.length ≤ 1000000000000 ∧ S1.take d2 = S.take d ∧ r = d2.length ∧ s = stOf (wrGs d2.length) (wrTb S1 d2) 101 [60] []) (r0 := d.length)
  ⟨S, d, n, hS, hn, rfl, rfl, rfl⟩ ?_
 rintro r s ⟨S1, d2, n1, hw, hn1, he, rfl, rfl⟩
 by_cases hz : d2.length = 0
 ·have hd : d2 = [] := List.length_eq_zero_iff.1 hz
  subst hd
  have hf : decide (((List.length ([] : List Int) : Nat) : Int) > 0) = false := by decide
  refine G.toC hty hsum mix hb [false] (w_3 S1 S [] d 0) (app (mem1 hf (mem1 rfl (mem1 rfl nil))) (app (qE_ok rfl rfl rfl rfl) (mem1 rfl nil))) (G.leave (by simp) ?_)
  have he : S1 = S.take d := he
  subst he
  exact G.finC (cl := []) hty hsum mix [] H (w_4 _ S [] d 0) nil rfl rfl rfl
 have hpos : decide ((d2.length : Int) > 0) = true := decide_eq_true (by omega)
 have hne : d2 ≠ [] := fun e => hz (by rw [e]; rfl)
 obtain ⟨st, cnt, blk, held⟩ := S1
 have hw' := hw
 obtain ⟨w1, w2, w3, w4, w5⟩ := hw
 simp only at w1 w2 w3 w4 w5
 have chunk : ∀ (S2 : D.HS) (m : Nat), S2.blk.length = 64 → S2.held < 64 → m = min d2.length (64 - S2.held) → S2.WF n1 →
   (⟨S2.st, S2.cnt, S2.blk.take S2.held ++ d2.take m ++ S2.blk.drop (S2.held + (d2.take m).length), S2.held + m⟩ : D.HS) = S2.take (d2.take m) ∧ (S2.take (d2.take m)).WF (n1 + m) ∧ 0 < m ∧ m ≤ d2.length ∧ S2.held + m ≤ 64 := by
  intro S2 m hb2 hh hm hw2
  have hml : (d2.take m).length = m := by rw [List.length_take]; omega
  refine ⟨?_, ?_, by omega, by omega, by omega⟩
  ·rw [D.take_fit hb2 (by rw [hml]; omega), hml]
  ·have := D.WF_take (d := d2.take m) hw2
   rwa [hml] at this
 have next : ∀ (S2 : D.HS) (m : Nat), S2.take d2 = S.take d → (S2.take (d2.take m)).take (d2.drop m) = S.take d := by
  intro S2 m h
  rw [← h]
  show List.foldl _ (List.foldl _ _ _) _ = _
  rw [← List.foldl_append, List.take_append_drop]
  rfl
 by_cases h64 : held = 64
 ·subst h64
  have hcw : IntKind.u64.wrap (cnt + 64) = cnt + 64 := IntWalk.u64_in _ (by omega)
  have hfull : (⟨D.press st blk (cnt + 64) 0, cnt + 64, blk, 0⟩ : D.HS).take d2 = S.take d := by rw [← he]; exact (D.take_full (S := ⟨st, cnt, blk, 64⟩) rfl hne).symm
  obtain ⟨c1, c2, c3, c4, c5⟩ := chunk ⟨D.press st blk (cnt + 64) 0, cnt + 64, blk, 0⟩ (min d2.length 64) w2 (show (0 : Nat) < 64 by decide) rfl ⟨D.press_length _ _ _ _, w2, Nat.zero_le _, by simp only; omega, by simp only; omega⟩
  have hmin : d2.length.min 64 = min d2.length 64 := rfl
  generalize min d2.length 64 = m at *
  have hnx := next _ m hfull
  refine G.roundC hty hsum mix hb [true, true] (w_1 ⟨st, cnt, blk, 64⟩ S ((⟨D.press st blk (cnt + 64) 0, cnt + 64, blk, 0⟩ : D.HS).take (d2.take m)) d2 d (d2.drop m) d2.length (d2.drop m).length) ?_ (d2.drop m).length (by rw [List.length_drop]; omega) ⟨_, _, n1 + m, c2, by rw [List.length_drop]; omega, hnx, rfl, rfl⟩
  rw [hmin]
  have hml : (d2.take m).length = m := by rw [List.length_take]; omega
  refine app (mem1 ⟨by omega, by omega, by omega⟩ (mem1 ⟨by omega, by rw [hml]; simp only at c5; omega⟩ nil)) (app ?_ (app (mem1 (by rfl) (mem1 rfl (mem1 hpos (mem1 rfl (mem1 (by rw [List.length_drop]; omega) nil))))) (app ?_ (mem1 ?_ nil))))
  ·exact of_allP (l := prOb _ _) (show _ ∧ _ ∧ _ ∧ _ ∧ True from ⟨by simp [D.start, bytesI], by simp [D.words], ⟨rfl, rfl⟩, rfl, trivial⟩)
  ·simp only [hcw]
   rw [← c1]
   refine qE_ok rfl rfl ?_ ?_
   ·simp only [splB, bytesI_eq w2]
   ·show IntKind.i64.wrap _ = ((_ + _ : Nat) : Int)
    rw [IntWalk.i64_in _ (by simp only at *; omega)]
    simp only; omega
  ·rw [Int.toNat_natCast, Int.toNat_natCast, List.take_of_length_le (by simp)]
 ·have hh : held < 64 := by omega
  have hob : oB held = 11 + held := by unfold oB; rw [if_neg (by omega), Int.toNat_natCast]; omega
  have hmb : mB d2 held = min d2.length (64 - held) := rfl
  obtain ⟨c1, c2, c3, c4, c5⟩ := chunk ⟨st, cnt, blk, held⟩ (min d2.length (64 - held)) w2 hh rfl hw'
  have hnx := next _ (min d2.length (64 - held)) he
  refine G.roundC hty hsum mix hb [true, false] (w_2 ⟨st, cnt, blk, held⟩ S ((⟨st, cnt, blk, held⟩ : D.HS).take (d2.take (min d2.length (64 - held)))) d2 d (d2.drop (min d2.length (64 - held))) d2.length (d2.drop (min d2.length (64 - held))).length) ?_ (d2.drop (min d2.length (64 - held))).length (by rw [List.length_drop]; omega) ⟨_, _, n1 + min d2.length (64 - held), c2, by rw [List.length_drop]; omega, hnx, rfl, rfl⟩
  have e1 : mB d2 (⟨st, cnt, blk, held⟩ : D.HS).held = min d2.length (64 - held) := hmb
  have e2 : oB (⟨st, cnt, blk, held⟩ : D.HS).held = 11 + held := hob
  rw [e1, e2]
  clear e1 e2
  generalize min d2.length (64 - held) = m at *
  have hml : (d2.take m).length = m := by rw [List.length_take]; omega
  simp only at c1 c5
  refine app (mem1 ⟨by omega, by omega, by omega⟩ (mem1 ⟨by omega, by omega⟩ (mem1 ⟨by omega, by omega, by omega, by omega, Int.natCast_nonneg _, by simp only; omega⟩ nil))) (app (mem1 (by simpa using by omega) (mem1 rfl (mem1 hpos (mem1 rfl (mem1 (by rw [List.length_drop]; omega) nil))))) (app ?_ (mem1 ?_ nil)))
  ·rw [← c1]
   refine qE_ok rfl rfl ?_ ?_
   ·simp only [splB, bytesI_eq w2, Nat.add_sub_cancel_left]
   ·show IntKind.i64.wrap _ = ((_ + _ : Nat) : Int)
    rw [IntWalk.i64_in _ (by simp only at *; omega)]
    simp only; omega
  ·rw [Int.toNat_natCast, Int.toNat_natCast, List.take_of_length_le (by simp)]
end Go.Proofs.YtdhombdiakjdhaaGreatDoor.Sx
end
section
open Go
set_option maxRecDepth 100000
namespace Go.Proofs.YtdhombdiakjdhaaGreatDoor.Sx
theorem wrv_call {S : D.HS} {n : Nat} (d : List Int) (hS : S.WF n) (hn : n + d.length ≤ 1000000000000) (Γ : Env) (hg : Γ.glob = globs) :
  CallOK Tryz.prog Γ 75 [.ptr 60 true 0, .ros 61 d.length] (fun l => look l [(60, .vals (hV S) 193), (61, .rov .u8 d)]) 100 100 { val := .tup [], wr := [(60, .vals (hV (S.take d)) 193)] } := by
 have hw := D.WF_take (d := d) hS
 exact ((wr_call d hS hn).whole (C := .vals (hV S) 193) (C' := .vals (hV (S.take d)) 193) (o' := []) rfl rfl (fun V => (hC_ok hS.sl hS.bl V).symm) rfl rfl (fun V => hC_ok hw.sl hw.bl V)).words (by rw [hg]; rfl) (fun _ => rfl) (fun _ _ h => h) (fun _ => rfl) rfl rfl
def D.wrV (xs : List Value) (d : List Int) : List Value := hV ((unH xs).take d)
def D.v0 : List Value := hV D.S0
def hshV : SB → Option (List Value)
 | .vals xs ty => match Nat.beq ty 193 with
   | true => some xs
   | false => none
 | .own _ ty => match Nat.beq ty 193 with
   | true => some D.v0
   | false => none
 | _ => none
def wrDec (vs : List SV) (T : Tab) : Option Canon := match vs with
 | [.ptr l _ _, p] => match T l with
   | some B => match hshV B, seqRo T .u8 p with
     | some xs, some (ob, d) => some { vs0 := [.ptr 60 true 0, .ros 61 d.length], T0 := [(60, .vals xs 193), (61, .rov .u8 d)], vl := [(60, .lab l 0), (61, .arg 1)], e0 := { val := .tup [], wr := [(60, .vals (D.wrV xs d) 193)] }, conds := D.okV xs d.length :: ob }
     | _, _ => none
   | none => none
 | _ => none
theorem wr_ok (Γ : Env) (hg : Γ.glob = globs) : SumOK Tryz.prog Γ 75 (canonS globs 100 wrDec) := by
 refine canonS_ok hg fun vs T c hd hc => ?_
 unfold wrDec at hd
 split at hd
 case h_2 => cases hd
 split at hd
 case h_2 => cases hd
 split at hd
 case h_2 => cases hd
 rename_i xs ob d _ _
 cases hd
 obtain ⟨h1, n, h2, h3⟩ : D.okV xs d.length := hc _ (by simp)
 have := wrv_call d h2 h3 Γ hg
 rw [← h1] at this
 exact this
theorem unH_st (ms : List Int) : unH (hV (D.st ms)) = D.st ms := unH_hV (D.WF_st ms).sl (D.WF_st ms).bl
theorem v0_eq : D.v0 = hV (D.st []) := rfl
theorem wrV_st (ms d : List Int) : D.wrV (hV (D.st ms)) d = hV (D.st (ms ++ d)) := by unfold D.wrV; rw [unH_st, D.st_append]
theorem okV_st (ms : List Int) {k : Nat} (h : ms.length + k ≤ 1000000000000) : D.okV (hV (D.st ms)) k := ⟨by rw [unH_st], ms.length, by rw [unH_st]; exact D.WF_st ms, h⟩
theorem sum_eq (ms : List Int) : D.sumV (hV (D.st ms)) = D.hash ms := by
 unfold D.sumV
 rw [unH_st, D.st_fin]; rfl
noncomputable def exD : Nat → Option Sum := addS (addS exS 75 (canonS globs 100 wrDec)) 76 (canonS globs 100 sumDec)
theorem exD_ok : ∀ f S, exD f = some S → ∀ Γ : Env, Γ.glob = globs → SumOK Tryz.prog Γ f S := addS_ok (addS_ok exS_ok 75 _ wr_ok) 76 _ sum_ok
end Go.Proofs.YtdhombdiakjdhaaGreatDoor.Sx
end
section
open Go
set_option maxRecDepth 100000
namespace Go.Proofs.YtdhombdiakjdhaaGreatDoor.Sx
noncomputable def ΓH : Env := env exD 7
theorem ΓH_ty : TyOK Tryz.prog ΓH := env_ty exD 7
theorem ΓH_ok : SumsOK Tryz.prog ΓH := env_ok exD exD_ok 7
def fastV (l : Nat) : List SV := [.int true .i64 1, .fn (.func 29) [] [.ptr l true 0], .fn (.func 31) [] [.ptr l true 0], .fn (.func 33) [] [.ptr l true 0], .fn (.func 35) [] [.ptr l true 0], .fn (.func 37) [] [.ptr l true 0], .fn (.func 39) [] [.ptr l true 0]]
def pcV : List (List Int) → Nat → List SV
 | [], _ => []
 | d :: r, l => .ros l d.length :: pcV r (l + 1)
def pcB : List (List Int) → Nat → List (Nat × SB)
 | [], _ => []
 | d :: r, l => (l, .rov .u8 d) :: pcB r (l + 1)
def hmL (key : List Int) (ps : List (List Int)) : List (Nat × SB) := (59, .roc [.raw (.pointer none)]) :: (61, .rov .u8 key) :: (62, .roc (pcV ps 63)) :: pcB ps 63
def hmVs (k n : Nat) : List SV := [.agg (fastV 59), .ros 61 k, .slc 62 true 0 n n]
def hmT (key : List Int) (ps : List (List Int)) : Tab := fun l => look l (hmL key ps)
noncomputable def hmM (key : List Int) (ps : List (List Int)) (cf : Cf) (K : List Fr) (s : St) : Option Cfg := mrun ΓH (cutT 100 (hmT key ps)) 100 Tryz.f11.ntmps [8] 400 2000 cf K s
def hmGs (n : Nat) (i : Int) : List (Nat × SV) := [(2, .slc 62 true 0 n n), (3, .ptr 100 true 0), (6, .ptr 101 true 0), (9, .ptr 102 true 0), (10, .ptr 103 true 0), (28, .int false .i64 i)]
def hmTb (a b : List Int) : List (Nat × SB) := [(100, .own (fastV 59) 33), (101, .own (List.replicate 32 (.int true .u8 0)) 24), (102, .ints .u8 a 76), (103, .ints .u8 b 76)]
noncomputable def hmR : Option Cfg := hmM [] [] (.go (codeOf Tryz.f11)) [] ((st0 (hmVs 0 0) 100).hint [false])
noncomputable def hmLp : Code := cfgC hmR
noncomputable def hmK : List Fr := cfgF hmR
def cp (n : Nat) (ys : List Int) : List Int := (List.replicate n (0 : Int)).take 0 ++ ys.take (ys.length.min n) ++ (List.replicate n (0 : Int)).drop (0 + (ys.take (ys.length.min n)).length)
def ar (n : Nat) (xs : List Int) : List Int := (xs.drop 0).take n
def kO (n : Nat) (ys : List Int) : Prop := 0 ≤ 0 ∧ 0 + (ys.take (ys.length.min n)).length ≤ n
def freshC : List SV := [.raw (.pointer none), .int true .i64 32] ++ (D.h0.map (.int true .u32) ++ (.int true .u64 0 :: (List.replicate 64 (.int true .u8 0) ++ [.int true .i64 0])))
def fO : Prop := ∀ V : Val, denL V freshC = some D.v0
def rO (X : List Value) (d : List Int) : List Prop := [D.okV X d.length, d.length = d.length, d.length = d.length, X = X, d = d]
def rF (k : Nat) (d : List Int) : List Prop := [D.okV D.v0 d.length, k = k, d.length = d.length, fO, d = d]
def aO (X : List Value) (n : Nat) (b : List Int) (q : Prop) : List Prop := [D.okV X (ar n b).length, (n ≤ b.length ∧ n ≤ n), (n ≤ b.length ∧ n ≤ n), (ar n b).length = (ar n b).length, q, ar n b = ar n b, (n ≤ b.length ∧ n ≤ n)]
def sO (X : List Value) : List Prop := [kO 32 (ar 32 (D.sumV X)), 32 ≤ (D.sumV X).length, D.okV X 0, X = X]
def hS (X : List Value) : List Int := cp 32 (ar 32 (D.sumV X))
def lO (n k : Nat) (xs : List Int) : List Prop := List.replicate k (xs.length = n)
theorem hm_0 (key a b : List Int) (ps : List (List Int)) (k n : Nat) (i : Int) (hn : n = 1 ∨ n = 2) : toC 100 Tryz.f11.ntmps (cutT 100 (hmT key ps)) [] (hmGs n i) (hmTb a b) 104 [] [] (hmM key ps (.go (codeOf Tryz.f11)) [] ((st0 (hmVs k n) 100).hint [false])) =
  some (.go (.loop hmLp), hmK, lO 64 4 (cp 64 key) ++ [kO 64 key, decide ((k : Int) > 64) = false, 0 = i, cp 64 key = a ∧ 76 = 76, cp 64 key = b ∧ 76 = 76]) := by rcases hn with rfl | rfl <;> kernel_rfl
theorem hm_1 (key a b : List Int) (ps : List (List Int)) (k n : Nat) (i : Int) (hn : n = 1 ∨ n = 2) : toC 100 Tryz.f11.ntmps (cutT 100 (hmT key ps)) [] (hmGs n i) (hmTb a b) 104 [] [] (hmM key ps (.go (codeOf Tryz.f11)) [] ((st0 (hmVs k n) 100).hint [true])) =
  some (.go (.loop hmLp), hmK, lO 64 4 (cp 64 (ar 32 (hS (D.wrV D.v0 key)))) ++ (kO 64 (ar 32 (hS (D.wrV D.v0 key))) :: (32 ≤ (hS (D.wrV D.v0 key)).length) :: (lO 32 8 (hS (D.wrV D.v0 key)) ++ (sO (D.wrV D.v0 key) ++ (rF k key ++
   [decide ((k : Int) > 64) = true, 0 = i, cp 64 (ar 32 (hS (D.wrV D.v0 key))) = a ∧ 76 = 76, cp 64 (ar 32 (hS (D.wrV D.v0 key))) = b ∧ 76 = 76]))))) := by rcases hn with rfl | rfl <;> kernel_rfl
theorem hm_2 (key a b a' b' : List Int) (ps : List (List Int)) (n : Nat) (i i' : Int) (hn : n = 1 ∨ n = 2) : toC 100 Tryz.f11.ntmps (cutT 100 (hmT key ps)) [] (hmGs n i') (hmTb a' b') 104 [] [] (hmM key ps (.go hmLp) [] ((stOf (hmGs n i) (hmTb a b) 104 [] []).hint [true])) =
  some (.at .normal, [], [0 + i.toNat * 1 < b.length, 0 ≤ i ∧ i < 64, 0 + i.toNat * 1 + 1 ≤ b.length, 0 ≤ i ∧ i < 64, 0 + i.toNat * 1 < a.length, 0 ≤ i ∧ i < 64, 0 + i.toNat * 1 + 1 ≤ a.length, 0 ≤ i ∧ i < 64, decide (i < 64) = true, IntKind.i64.wrap (i + 1) = i',
   a.set (0 + i.toNat * 1) (bXor .u8 (a.getD (0 + i.toNat * 1 + 0) 0) 54) = a' ∧ 76 = 76, b.set (0 + i.toNat * 1) (bXor .u8 (b.getD (0 + i.toNat * 1 + 0) 0) 92) = b' ∧ 76 = 76]) := by rcases hn with rfl | rfl <;> kernel_rfl
theorem hm_3 (key a b : List Int) (ps : List (List Int)) (n : Nat) (i : Int) (hn : n = 1 ∨ n = 2) : toC 100 Tryz.f11.ntmps (cutT 100 (hmT key ps)) [] (hmGs n i) (hmTb a b) 104 [] [] (hmM key ps (.go hmLp) [] ((stOf (hmGs n i) (hmTb a b) 104 [] []).hint [false])) =
  some (.at (.exit 0), [], [decide (i < 64) = false, i = i, a = a ∧ 76 = 76, b = b ∧ 76 = 76]) := by rcases hn with rfl | rfl <;> kernel_rfl
def oV (b : List Int) (X : List Value) : List Value := D.wrV (D.wrV D.v0 (ar 64 b)) (ar 32 (hS X))
def oO (b : List Int) (X : List Value) : List Prop := lO 32 9 (hS (oV b X)) ++ (sO (oV b X) ++ (aO (D.wrV D.v0 (ar 64 b)) 32 (hS X) (D.wrV D.v0 (ar 64 b) = D.wrV D.v0 (ar 64 b)) ++ (aO D.v0 64 b fO ++ (lO 32 8 (hS X) ++ sO X))))
theorem hm_4 (key a b d : List Int) (i : Int) : endC ΓH (hmT key [d]) 100 100 Tryz.f11 [] (hmM key [d] (.at (.exit 0)) hmK ((stOf (hmGs 1 i) (hmTb a b) 104 [] []).hint [])) =
  some { obl := oO b (D.wrV (D.wrV D.v0 (ar 64 a)) d) ++ (rO (D.wrV D.v0 (ar 64 a)) d ++ aO D.v0 64 a fO), val := .ai .u8 (hS (oV b (D.wrV (D.wrV D.v0 (ar 64 a)) d))) } := by kernel_rfl
theorem hm_5 (key a b d d2 : List Int) (i : Int) : endC ΓH (hmT key [d, d2]) 100 100 Tryz.f11 [] (hmM key [d, d2] (.at (.exit 0)) hmK ((stOf (hmGs 2 i) (hmTb a b) 104 [] []).hint [])) =
  some { obl := oO b (D.wrV (D.wrV (D.wrV D.v0 (ar 64 a)) d) d2) ++ (rO (D.wrV (D.wrV D.v0 (ar 64 a)) d) d2 ++ (rO (D.wrV D.v0 (ar 64 a)) d ++ aO D.v0 64 a fO)), val := .ai .u8 (hS (oV b (D.wrV (D.wrV (D.wrV D.v0 (ar 64 a)) d) d2))) } := by kernel_rfl
end Go.Proofs.YtdhombdiakjdhaaGreatDoor.Sx
end
section
open Go
set_option maxRecDepth 100000
namespace Go.Proofs.YtdhombdiakjdhaaGreatDoor.Sx
theorem mem1 {p : Prop} {l : List Prop} (hp : p) (hl : ∀ q ∈ l, q) : ∀ q ∈ p :: l, q := fun q hq => (List.mem_cons.1 hq).elim (fun e => e ▸ hp) (hl q)
theorem memA {l l' : List Prop} (h1 : ∀ q ∈ l, q) (h2 : ∀ q ∈ l', q) : ∀ q ∈ l ++ l', q := fun q hq => (List.mem_append.1 hq).elim (h1 q) (h2 q)
theorem mem0 : ∀ q ∈ ([] : List Prop), q := fun q hq => by cases hq
theorem cp_eq {n : Nat} {ys : List Int} (h : ys.length ≤ n) : cp n ys = ys ++ List.replicate (n - ys.length) 0 := by
 unfold cp
 rw [show ys.length.min n = ys.length from Nat.min_eq_left h, List.take_length, List.take_zero, List.nil_append, Nat.zero_add, List.drop_replicate]
theorem cp_length {n : Nat} {ys : List Int} (h : ys.length ≤ n) : (cp n ys).length = n := by rw [cp_eq h]; simp; omega
theorem cp_same {n : Nat} {ys : List Int} (h : ys.length = n) : cp n ys = ys := by rw [cp_eq (by omega), h]; simp
theorem ar_same {n : Nat} {xs : List Int} (h : xs.length = n) : ar n xs = xs := by unfold ar; rw [List.drop_zero, ← h, List.take_length]
theorem kO_ok {n : Nat} {ys : List Int} (h : ys.length ≤ n) : kO n ys := by
 refine ⟨Nat.le_refl _, ?_⟩
 rw [List.length_take]
 have : ys.length.min n = ys.length := Nat.min_eq_left h
 omega
theorem lO_ok {n k : Nat} {xs : List Int} (h : xs.length = n) : ∀ q ∈ lO n k xs, q := fun q hq => by rw [List.eq_of_mem_replicate hq]; exact h
theorem fO_ok : fO := fun _ => rfl
theorem hS_st (ms : List Int) : hS (hV (D.st ms)) = D.hash ms := by
 unfold hS
 rw [sum_eq, ar_same (D.hash_length _), cp_same (D.hash_length _)]
theorem hS_len (ms : List Int) : (hS (hV (D.st ms))).length = 32 := by rw [hS_st]; exact D.hash_length _
theorem rO_ok (ms : List Int) {d : List Int} (h : ms.length + d.length ≤ 1000000000000) : ∀ q ∈ rO (hV (D.st ms)) d, q :=
 mem1 (okV_st ms h) (mem1 rfl (mem1 rfl (mem1 rfl (mem1 rfl mem0))))
theorem rF_ok (k : Nat) {d : List Int} (h : d.length ≤ 1000000000000) : ∀ q ∈ rF k d, q :=
 mem1 (okV_st [] (by simpa using h)) (mem1 rfl (mem1 rfl (mem1 fO_ok (mem1 rfl mem0))))
theorem aO_ok (ms : List Int) {n : Nat} {b : List Int} {p : Prop} (hb : b.length = n) (hp : p) (h : ms.length + n ≤ 1000000000000) : ∀ q ∈ aO (hV (D.st ms)) n b p, q := by
 have e : n ≤ b.length ∧ n ≤ n := by omega
 exact mem1 (okV_st ms (by rw [ar_same hb, hb]; exact h)) (mem1 e (mem1 e (mem1 rfl (mem1 hp (mem1 rfl (mem1 e mem0))))))
theorem sO_ok (ms : List Int) (h : ms.length ≤ 1000000000000) : ∀ q ∈ sO (hV (D.st ms)), q := by
 have hl : (D.sumV (hV (D.st ms))).length = 32 := by rw [sum_eq]; exact D.hash_length _
 exact mem1 (kO_ok (by rw [ar_same hl, hl]; exact Nat.le_refl _)) (mem1 (by omega) (mem1 (okV_st ms h) (mem1 rfl mem0)))
def padN (k : List Int) (y : Int) (n : Nat) : List Int := (List.range 64).map fun j => if j < n then bXor .u8 (k.getD j 0) y else k.getD j 0
theorem padN_length (k : List Int) (y : Int) (n : Nat) : (padN k y n).length = 64 := by simp [padN]
theorem padN_zero {k : List Int} (h : k.length = 64) (y : Int) : padN k y 0 = k := by
 rw [show padN k y 0 = bytesI 64 k from by unfold padN bytesI; simp, bytesI_eq h]
theorem padN_succ (k : List Int) (y : Int) {n : Nat} (hn : n < 64) : (padN k y n).set n (bXor .u8 ((padN k y n).getD n 0) y) = padN k y (n + 1) := by
 have e : (padN k y n).getD n 0 = k.getD n 0 := by unfold padN; rw [getD_range _ _ hn, if_neg (by omega)]
 rw [e]
 apply List.ext_getElem
 ·simp [padN]
 ·intro i h1 h2
  rw [List.getElem_set]
  split
  ·rename_i q; subst q; simp [padN]
  ·rename_i q
   simp only [padN, List.getElem_map, List.getElem_range]
   by_cases h : i < n
   ·rw [if_pos h, if_pos (by omega)]
   ·rw [if_neg h, if_neg (by omega)]
theorem padN_cp {xs : List Int} (h : xs.length ≤ 64) (y : Int) : padN (cp 64 xs) y 64 = D.pad xs y := by
 unfold padN D.pad
 refine List.map_congr_left fun j hj => ?_
 have hj : j < 64 := by simpa using hj
 rw [if_pos hj, cp_eq h]
 congr 1
 simp only [List.getD_eq_getElem?_getD]
 by_cases hx : j < xs.length
 ·rw [List.getElem?_append_left hx]
 ·rw [List.getElem?_append_right (by omega), List.getElem?_eq_none (Nat.le_of_not_lt hx)]
  cases hz : (List.replicate (64 - xs.length) (0 : Int))[j - xs.length]? with
  | none => rfl
  | some z => rw [List.eq_of_mem_replicate (List.mem_of_getElem? hz)]; rfl
theorem hm_loop {key : List Int} {ps : List (List Int)} {n : Nat} (hn : n = 1 ∨ n = 2) {k : List Int} (hk : k.length = 64)
  {w0 : World} {M : Nat → Prop} {V0 : Val} {Q : Exit → Act → World → Prop} (hb : Base ΓH (cutT 100 (hmT key ps)) 100 V0)
  (h : G Tryz.prog ΓH w0 M (cutT 100 (hmT key ps)) Tryz.f11.ntmps 100 V0 (.at (.exit 0)) hmK (stOf (hmGs n 64) (hmTb (padN k 54 64) (padN k 92 64)) 104 [] []) Q) :
  G Tryz.prog ΓH w0 M (cutT 100 (hmT key ps)) Tryz.f11.ntmps 100 V0 (.go (.loop hmLp)) hmK (stOf (hmGs n 0) (hmTb k k) 104 [] []) Q := by
 have hty := ΓH_ty
 have hsum := ΓH_ok
 refine G.loop (fun r s => ∃ i : Nat, i ≤ 64 ∧ r = 64 - i ∧ s = stOf (hmGs n i) (hmTb (padN k 54 i) (padN k 92 i)) 104 [] []) (r0 := 64)
  ⟨0, by omega, rfl, by rw [padN_zero hk, padN_zero hk]; rfl⟩ ?_
 rintro r s ⟨i, hi, rfl, rfl⟩
 by_cases hlt : i < 64
 ·have e1 : 0 + (i : Int).toNat * 1 = i := by omega
  refine G.roundC hty hsum mix hb [true] (hm_2 key _ _ (padN k 54 (i + 1)) (padN k 92 (i + 1)) ps n i ((i + 1 : Nat) : Int) hn) ?_ (64 - (i + 1)) (by omega) ⟨i + 1, hlt, rfl, rfl⟩
  rw [e1, Nat.add_zero]
  have l1 := padN_length k 54 i
  have l2 := padN_length k 92 i
  refine mem1 (by omega) (mem1 (by omega) (mem1 (by omega) (mem1 (by omega) (mem1 (by omega) (mem1 (by omega) (mem1 (by omega) (mem1 (by omega) (mem1 (decide_eq_true (by omega)) (mem1 ?_ (mem1 ⟨padN_succ k 54 hlt, rfl⟩ (mem1 ⟨padN_succ k 92 hlt, rfl⟩ mem0)))))))))))
  rw [IntWalk.i64_in _ (by omega)]; omega
 ·have e : i = 64 := by omega
  subst e
  refine G.toC hty hsum mix hb [false] (hm_3 key _ _ ps n _ hn) (mem1 (by decide) (mem1 rfl (mem1 ⟨rfl, rfl⟩ (mem1 ⟨rfl, rfl⟩ mem0)))) (G.leave (by simp) h)
theorem hm_start {key : List Int} {ps : List (List Int)} {n : Nat} (hn : n = 1 ∨ n = 2) (hk : key.length ≤ 1000000000)
  {w0 : World} {M : Nat → Prop} {V0 : Val} {Q : Exit → Act → World → Prop} (hb : Base ΓH (cutT 100 (hmT key ps)) 100 V0)
  (h : G Tryz.prog ΓH w0 M (cutT 100 (hmT key ps)) Tryz.f11.ntmps 100 V0 (.at (.exit 0)) hmK (stOf (hmGs n 64) (hmTb (D.pad (D.key key) 54) (D.pad (D.key key) 92)) 104 [] []) Q) :
  G Tryz.prog ΓH w0 M (cutT 100 (hmT key ps)) Tryz.f11.ntmps 100 V0 (.go (codeOf Tryz.f11)) [] (st0 (hmVs key.length n) 100) Q := by
 have hty := ΓH_ty
 have hsum := ΓH_ok
 by_cases hl : key.length ≤ 64
 ·have ek : D.key key = key := by unfold D.key; rw [if_pos hl]
  rw [ek] at h
  refine G.toC hty hsum mix hb [false] (hm_0 key (cp 64 key) (cp 64 key) ps key.length n 0 hn) (memA (lO_ok (cp_length hl)) (mem1 (kO_ok hl) (mem1 (decide_eq_false (by omega)) (mem1 rfl (mem1 ⟨rfl, rfl⟩ (mem1 ⟨rfl, rfl⟩ mem0)))))) ?_
  refine hm_loop hn (cp_length hl) hb ?_
  rw [padN_cp hl, padN_cp hl]
  exact h
 ·have ek : D.key key = D.hash key := by unfold D.key; rw [if_neg hl]
  rw [ek] at h
  have hh := D.hash_length key
  have e0 : hS (D.wrV D.v0 key) = D.hash key := by rw [v0_eq, wrV_st, hS_st]; rfl
  have ex : D.wrV D.v0 key = hV (D.st key) := by rw [v0_eq, wrV_st]; rfl
  have ea : ar 32 (hS (D.wrV D.v0 key)) = D.hash key := by rw [e0, ar_same hh]
  refine G.toC hty hsum mix hb [true] (hm_1 key (cp 64 (D.hash key)) (cp 64 (D.hash key)) ps key.length n 0 hn) ?_ ?_
  ·rw [ea]
   refine memA (lO_ok (cp_length (by omega))) (mem1 (kO_ok (by omega)) (mem1 (by rw [e0]; omega) (memA (lO_ok (by rw [e0]; exact hh)) (memA (by rw [ex]; exact sO_ok key (by omega)) (memA (rF_ok _ (by omega)) (mem1 (decide_eq_true (by omega)) (mem1 rfl (mem1 ⟨rfl, rfl⟩ (mem1 ⟨rfl, rfl⟩ mem0)))))))))
  refine hm_loop hn (cp_length (by omega)) hb ?_
  rw [padN_cp (by omega), padN_cp (by omega)]
  exact h
theorem oO_ok {b ms : List Int} (hb : b.length = 64) (hm : ms.length ≤ 1000000000000) : ∀ q ∈ oO b (hV (D.st ms)), q := by
 have e : oV b (hV (D.st ms)) = hV (D.st (b ++ D.hash ms)) := by
  unfold oV
  rw [hS_st, ar_same hb, ar_same (D.hash_length _), v0_eq, wrV_st, wrV_st, List.nil_append]
 have hl := hS_len ms
 have hh := D.hash_length ms
 unfold oO
 rw [e]
 refine memA (lO_ok (hS_len _)) (memA (sO_ok _ (by simp [hb, hh])) (memA ?_ (memA ?_ (memA (lO_ok hl) (sO_ok ms hm)))))
 ·have e2 : D.wrV D.v0 (ar 64 b) = hV (D.st b) := by rw [ar_same hb, v0_eq, wrV_st, List.nil_append]
  rw [e2]
  exact aO_ok b hl rfl (by omega)
 ·rw [v0_eq]
  exact aO_ok [] hb fO_ok (by simp)
theorem oV_eq {b ms : List Int} (hb : b.length = 64) : hS (oV b (hV (D.st ms))) = D.hash (b ++ D.hash ms) := by
 unfold oV
 rw [hS_st, ar_same hb, ar_same (D.hash_length _), v0_eq, wrV_st, wrV_st, List.nil_append, hS_st]
theorem hmac_call (key d : List Int) (hk : key.length ≤ 1000000000) (hd : d.length ≤ 1000000000) (Γ : Env) (hg : Γ.glob = globs) :
  CallOK Tryz.prog Γ 11 (hmVs key.length 1) (hmT key [d]) 100 100 { val := .ai .u8 (D.hmac key d) } := by
 refine CallOK.words (Γ := ΓH) ?_ (by rw [hg]; rfl) (fun _ => rfl) (fun _ _ h => h) (fun _ => rfl) rfl rfl
 refine call_G ΓH_ty ΓH_ok Tryz.func11 (by kernel_rfl) rfl (Nat.le_of_ble_eq_true (by kernel_rfl)) rfl [] ?_
 intro w0 M V0 Q hb H
 refine hm_start (.inl rfl) hk hb ?_
 have ha := D.pad_length (D.key key) 54
 have hb2 := D.pad_length (D.key key) 92
 have ex : D.wrV (D.wrV D.v0 (ar 64 (D.pad (D.key key) 54))) d = hV (D.st (D.pad (D.key key) 54 ++ d)) := by rw [ar_same ha, v0_eq, wrV_st, wrV_st, List.nil_append]
 have ey : D.wrV D.v0 (ar 64 (D.pad (D.key key) 54)) = hV (D.st (D.pad (D.key key) 54)) := by rw [ar_same ha, v0_eq, wrV_st, List.nil_append]
 refine G.finC (cl := []) ΓH_ty ΓH_ok mix [] H (hm_4 key _ _ d _) ?_ ?_ rfl rfl
 ·rw [ex, ey]
  exact memA (oO_ok hb2 (by simp; omega)) (memA (rO_ok _ (by omega)) (by rw [v0_eq]; exact aO_ok [] ha fO_ok (by simp)))
 ·show SV.ai .u8 (hS (oV _ _)) = _
  rw [ex, oV_eq hb2]
  rfl
theorem hmac_call2 (key d d2 : List Int) (hk : key.length ≤ 1000000000) (hd : d.length ≤ 1000000000) (hd2 : d2.length ≤ 1000000000) (Γ : Env) (hg : Γ.glob = globs) :
  CallOK Tryz.prog Γ 11 (hmVs key.length 2) (hmT key [d, d2]) 100 100 { val := .ai .u8 (D.hmac key (d ++ d2)) } := by
 refine CallOK.words (Γ := ΓH) ?_ (by rw [hg]; rfl) (fun _ => rfl) (fun _ _ h => h) (fun _ => rfl) rfl rfl
 refine call_G ΓH_ty ΓH_ok Tryz.func11 (by kernel_rfl) rfl (Nat.le_of_ble_eq_true (by kernel_rfl)) rfl [] ?_
 intro w0 M V0 Q hb H
 refine hm_start (.inr rfl) hk hb ?_
 have ha := D.pad_length (D.key key) 54
 have hb2 := D.pad_length (D.key key) 92
 have ey : D.wrV D.v0 (ar 64 (D.pad (D.key key) 54)) = hV (D.st (D.pad (D.key key) 54)) := by rw [ar_same ha, v0_eq, wrV_st, List.nil_append]
 refine G.finC (cl := []) ΓH_ty ΓH_ok mix [] H (hm_5 key _ _ d d2 _) ?_ ?_ rfl rfl
 ·rw [ey, wrV_st, wrV_st]
  exact memA (oO_ok hb2 (by simp; omega)) (memA (rO_ok _ (by simp; omega)) (memA (rO_ok _ (by omega)) (by rw [v0_eq]; exact aO_ok [] ha fO_ok (by simp))))
 ·show SV.ai .u8 (hS (oV _ _)) = _
  rw [ey, wrV_st, wrV_st, oV_eq hb2, List.append_assoc]
  rfl
end Go.Proofs.YtdhombdiakjdhaaGreatDoor.Sx
end
section
open Go
set_option maxRecDepth 100000
namespace Go.Proofs.YtdhombdiakjdhaaGreatDoor.Sx
theorem SumOK.glob {P : Program} {Γ Γ' : Env} {f : FuncId} {S : Sum} (h : SumOK P Γ f S) (hg : Γ'.glob = Γ.glob) : SumOK P Γ' f S :=
 SumOK.of_calls fun _ _ _ _ _ he ho => (h.call he ho).words hg (fun _ => rfl) (fun _ _ h => h) (fun _ => rfl) rfl rfl
noncomputable def addH (ex : Nat → Option Sum) (f0 : Nat) (hs : List Bool) (f : Nat) : Option Sum := match Nat.beq f f0 with
 | true => match Tryz.prog.funcs[f0]? with
   | some fn => some (interp (env ex 9) fn true hs 400)
   | none => none
 | false => ex f
theorem addH_ok {ex : Nat → Option Sum} (hex : ∀ f S, ex f = some S → ∀ Γ : Env, Γ.glob = globs → SumOK Tryz.prog Γ f S) (f0 : Nat) (hs : List Bool) : ∀ f S, addH ex f0 hs f = some S → ∀ Γ : Env, Γ.glob = globs → SumOK Tryz.prog Γ f S := by
 intro f S h Γ hg
 unfold addH at h
 split at h
 ·rename_i e
  rw [Nat.eq_of_beq_eq_true e]
  split at h
  ·rename_i fn hfn
   cases h
   exact (interp_ok (env_ty ex 9) (env_ok ex hex 9) mix hfn (names f0 fn hfn) true hs 400).glob (by rw [hg]; rfl)
  ·cases h
 ·exact hex f S h Γ hg
theorem gr_0 (n : Int) : interp (env exA 3) Tryz.f78 true [false, true] 400 [.raw (.slice none 0 0), .int false .i64 n] (fun _ => none) 100 100 =
  some { obl := [0 < IntKind.i64.wrap (n - 0) ∧ IntKind.i64.wrap (n - 0) * 24 ≤ 140737488355328 ∧ IntKind.i64.wrap (n - 0) ≤ 9223372036854775807, decide (IntKind.i64.wrap (n - 0) > 0) = true, decide (n < 0) = false], val := .slcR 100 0 0 0, new := [.row 1 [] 22] } := by kernel_rfl
theorem gr_call {n : Int} (h0 : 0 < n) (h1 : n ≤ 1000000000) (Γ : Env) (hg : Γ.glob = globs) : CallOK Tryz.prog Γ 78 [.raw (.slice none 0 0), .int false .i64 n] (fun _ => none) 100 100 { val := .slcR 100 0 0 0, new := [.row 1 [] 22] } := by
 have hs : SumOK Tryz.prog (env exA 3) 78 (interp (env exA 3) Tryz.f78 true [false, true] 400) :=
  interp_ok (env_ty exA 3) (env_ok exA (fun f S h Γ _ => exA_ok f S h Γ) 3) mix Tryz.func78 (by kernel_rfl) true [false, true] 400
 have e : IntKind.i64.wrap (n - 0) = n := by rw [Int.sub_zero]; exact IntWalk.i64_in _ (by omega)
 have h := hs.call (gr_0 n) (by rw [e]; exact of_allP ⟨⟨h0, by omega, by omega⟩, decide_eq_true h0, decide_eq_false (by omega), trivial⟩)
 exact h.words (by rw [hg]; rfl) (fun _ => rfl) (fun _ _ h => h) (fun _ => rfl) rfl rfl
def grDec (vs : List SV) (_ : Tab) : Option Canon := match vs with
 | [.raw (.slice none 0 0), .int _ .i64 n] => some { vs0 := [.raw (.slice none 0 0), .int false .i64 n], T0 := [], vl := [], e0 := { val := .slcR 100 0 0 0, new := [.row 1 [] 22] }, conds := [0 < n, n ≤ 1000000000] }
 | _ => none
theorem gr_ok (Γ : Env) (hg : Γ.glob = globs) : SumOK Tryz.prog Γ 78 (canonS globs 100 grDec) := by
 refine canonS_ok hg fun vs T c hd hc => ?_
 unfold grDec at hd
 split at hd
 case h_2 => cases hd
 cases hd
 exact gr_call (hc _ (by simp)) (hc _ (by simp)) Γ hg
end Go.Proofs.YtdhombdiakjdhaaGreatDoor.Sx
end
section
open Go
set_option maxRecDepth 100000
namespace Go.Proofs.YtdhombdiakjdhaaGreatDoor.Sx
noncomputable def ΓO : Env := env exD 4
theorem ΓO_ty : TyOK Tryz.prog ΓO := env_ty exD 4
theorem ΓO_ok : SumsOK Tryz.prog ΓO := env_ok exD exD_ok 4
def ofVs (n : Nat) : List SV := [.raw (.pointer none), .rsl 62 n]
def ofT (ds : List (List Int)) : Tab := fun l => look l [(62, .rol ds)]
noncomputable def ofM (ds : List (List Int)) (cf : Cf) (K : List Fr) (s : St) : Option Cfg := mrun ΓO (cutT 100 (ofT ds)) 100 Tryz.f40.ntmps [3] 400 2000 cf K s
def ofGs (n : Nat) (i : Int) : List (Nat × SV) := [(0, .raw (.pointer none)), (1, .rsl 62 n), (4, .ptr 100 true 0), (5, .ptr 101 true 0), (7, .int false .i64 i)]
def ofTb (X : List Value) : List (Nat × SB) := [(100, .own (List.replicate 32 (.int true .u8 0)) 24), (101, .vals X 193)]
noncomputable def ofR : Option Cfg := ofM [] (.go (codeOf Tryz.f40)) [] ((st0 (ofVs 0) 100).hint [])
noncomputable def ofLp : Code := cfgC ofR
noncomputable def ofK : List Fr := cfgF ofR
theorem of_0 (ds : List (List Int)) (X : List Value) (n : Nat) (i : Int) : toC 100 Tryz.f40.ntmps (cutT 100 (ofT ds)) [] (ofGs n i) (ofTb X) 102 [] [] (ofM ds (.go (codeOf Tryz.f40)) [] ((st0 (ofVs n) 100).hint [])) =
  some (.go (.loop ofLp), ofK, [n = n, 0 = i, ∀ V, denL V freshC = some X]) := by kernel_rfl
theorem of_1 (ds : List (List Int)) (X X' : List Value) (n : Nat) (i i' : Int) : toC 100 Tryz.f40.ntmps (cutT 100 (ofT ds)) [] (ofGs n i') (ofTb X') 102 [] [] (ofM ds (.go ofLp) [] ((stOf (ofGs n i) (ofTb X) 102 [] []).hint [true])) =
  some (.at .normal, [], [D.okV X (ds.getD i.toNat []).length, i.toNat = i.toNat ∧ (ds.getD i.toNat []).length = (ds.getD i.toNat []).length, (ds.getD i.toNat []).length = (ds.getD i.toNat []).length, X = X,
   ds.getD i.toNat [] = ds.getD i.toNat [], i.toNat < ds.length, 0 ≤ i ∧ i < n, decide (i < n) = true, decide (i < n) = decide (i < n), n = n, IntKind.i64.wrap (i + 1) = i', D.wrV X (ds.getD i.toNat []) = X']) := by kernel_rfl
theorem of_2 (ds : List (List Int)) (X : List Value) (n : Nat) (i : Int) : toC 100 Tryz.f40.ntmps (cutT 100 (ofT ds)) [] (ofGs n i) (ofTb X) 102 [] [] (ofM ds (.go ofLp) [] ((stOf (ofGs n i) (ofTb X) 102 [] []).hint [false])) =
  some (.at (.exit 0), [], [decide (i < n) = false, decide (i < n) = decide (i < n), n = n, i = i, X = X]) := by kernel_rfl
theorem of_3 (ds : List (List Int)) (X : List Value) (n : Nat) (i : Int) : endC ΓO (ofT ds) 100 100 Tryz.f40 [] (ofM ds (.at (.exit 0)) ofK ((stOf (ofGs n i) (ofTb X) 102 [] []).hint [])) =
  some { obl := lO 32 3 (hS X) ++ sO X, val := .ai .u8 (hS X) } := by kernel_rfl
theorem flat_take {ds : List (List Int)} {i : Nat} (h : i < ds.length) : (ds.take (i + 1)).flatten = (ds.take i).flatten ++ ds.getD i [] := by
 rw [List.take_add_one, List.flatten_append, List.getElem?_eq_getElem h]
 simp [List.getD_eq_getElem?_getD, h]
theorem flat_len {ds : List (List Int)} {i : Nat} (h : i < ds.length) : (ds.take i).flatten.length + (ds.getD i []).length ≤ ds.flatten.length := by
 have e : ds.flatten = (ds.take (i + 1)).flatten ++ (ds.drop (i + 1)).flatten := by rw [← List.flatten_append, List.take_append_drop]
 rw [e, flat_take h]
 simp
theorem of_call (ds : List (List Int)) (hl : ds.flatten.length ≤ 100000000000) (hn : ds.length ≤ 1000000000) (Γ : Env) (hg : Γ.glob = globs) :
  CallOK Tryz.prog Γ 40 (ofVs ds.length) (ofT ds) 100 100 { val := .ai .u8 (D.hash ds.flatten) } := by
 refine CallOK.words (Γ := ΓO) ?_ (by rw [hg]; rfl) (fun _ => rfl) (fun _ _ h => h) (fun _ => rfl) rfl rfl
 refine call_G ΓO_ty ΓO_ok Tryz.func40 (by kernel_rfl) rfl (Nat.le_of_ble_eq_true (by kernel_rfl)) rfl [] ?_
 intro w0 M V0 Q hb H
 have hty := ΓO_ty
 have hsum := ΓO_ok
 refine G.toC hty hsum mix hb [] (of_0 ds (hV (D.st [])) ds.length 0) (mem1 rfl (mem1 rfl (mem1 fO_ok mem0))) ?_
 refine G.loop (fun r s => ∃ i : Nat, i ≤ ds.length ∧ r = ds.length - i ∧ s = stOf (ofGs ds.length i) (ofTb (hV (D.st (ds.take i).flatten))) 102 [] []) (r0 := ds.length) ⟨0, Nat.zero_le _, rfl, rfl⟩ ?_
 rintro r s ⟨i, hi, rfl, rfl⟩
 by_cases hlt : i < ds.length
 ·have hf := flat_len hlt
  refine G.roundC hty hsum mix hb [true] (of_1 ds _ (hV (D.st (ds.take (i + 1)).flatten)) ds.length i ((i + 1 : Nat) : Int)) ?_ (ds.length - (i + 1)) (by omega) ⟨i + 1, hlt, rfl, rfl⟩
  rw [Int.toNat_natCast]
  refine mem1 (okV_st _ (by omega)) (mem1 ⟨rfl, rfl⟩ (mem1 rfl (mem1 rfl (mem1 rfl (mem1 hlt (mem1 (by omega) (mem1 (decide_eq_true (by omega)) (mem1 rfl (mem1 rfl (mem1 ?_ (mem1 ?_ mem0)))))))))))
  ·rw [IntWalk.i64_in _ (by omega)]; omega
  ·rw [wrV_st, flat_take hlt]
 ·have e : i = ds.length := by omega
  subst e
  refine G.toC hty hsum mix hb [false] (of_2 ds _ ds.length _) (mem1 (decide_eq_false (by omega)) (mem1 rfl (mem1 rfl (mem1 rfl (mem1 rfl mem0))))) (G.leave (by simp) ?_)
  rw [List.take_length]
  refine G.finC (cl := []) hty hsum mix [] H (of_3 ds _ ds.length _) ?_ ?_ rfl rfl
  ·exact memA (lO_ok (hS_len _)) (sO_ok _ (by omega))
  ·show SV.ai .u8 (hS _) = _
   rw [hS_st]
def lsIn (T : Tab) : SV → Option (List (List Int))
 | .rsl l _ => match T l with
   | some B => listB B
   | none => none
 | .slc l _ _ _ _ => match T l with
   | some B => match cellsB B with
     | some cs => (rdP T cs).map (·.2)
     | none => none
   | none => none
 | .slcR l _ _ _ => match T l with
   | some (.rowe pre _ ds _) => (rdP T pre).map fun p => p.2 ++ ds
   | _ => none
 | _ => none
def ofDec (vs : List SV) (T : Tab) : Option Canon := match vs with
 | [.raw (.pointer none), p] => match lsIn T p with
   | some ds => some { vs0 := ofVs ds.length, T0 := [(62, .rol ds)], vl := [(62, .lst 1)], e0 := { val := .ai .u8 (D.hash ds.flatten) }, conds := [ds.flatten.length ≤ 100000000000, ds.length ≤ 1000000000] }
   | none => none
 | _ => none
theorem of_ok (Γ : Env) (hg : Γ.glob = globs) : SumOK Tryz.prog Γ 40 (canonS globs 100 ofDec) := by
 refine canonS_ok hg fun vs T c hd hc => ?_
 unfold ofDec at hd
 split at hd
 case h_2 => cases hd
 split at hd
 case h_2 => cases hd
 cases hd
 exact of_call _ (hc _ (by simp)) (hc _ (by simp)) Γ hg
end Go.Proofs.YtdhombdiakjdhaaGreatDoor.Sx
end
section
open Go
set_option maxRecDepth 100000
namespace Go.Proofs.YtdhombdiakjdhaaGreatDoor.Sx
noncomputable def ΓA : Env := env exA 3
def ordI : List Int := D.orders.flatten.map fun n : Nat => (n : Int)
def rowsI : List Int := [0, 4, 8, 12, 1, 5, 9, 13, 2, 6, 10, 14, 3, 7, 11, 15, 0, 5, 10, 15, 1, 6, 11, 12, 2, 7, 8, 13, 3, 4, 9, 14]
def glB : List (Nat × SB) := [(3, .roc (rowsI.map (.int true .i64))), (4, .roc (D.iv.map (.int true .u32))), (5, .roc (ordI.map (.int true .i64)))]
def swVs (c : Int) (la : Bool) : List SV := [.ptr 60 true 0, .ptr 61 true 0, .int false .u64 c, .bool true la]
def swL (st blk : List Int) : List (Nat × SB) := (60, .own (intsV .u32 8 st) 190) :: (61, .roc (intsV .u8 64 blk)) :: glB
def swT (st blk : List Int) : Tab := fun l => look l (swL st blk)
noncomputable def swM (st blk : List Int) (cf : Cf) (K : List Fr) (s : St) : Option Cfg := mrun ΓA (cutT 100 (swT st blk)) 100 Tryz.f144.ntmps [8] 400 2000 cf K s
def swGs (r : Nat) : List (Nat × SV) := [(0, .ptr 60 true 0), (1, .ptr 61 true 0), (8, .ptr 100 true 0), (44, .agg (ordI.map (.int true .i64))), (45, .int true .i64 r)]
def swTb (v : List Int) : List (Nat × SB) := [(100, .own (intsV .u32 16 v) 108)]
noncomputable def swR : Option Cfg := swM [] [] (.go (codeOf Tryz.f144)) [] ((st0 (swVs 0 false) 100).hint [])
noncomputable def swLp : Code := cfgC swR
noncomputable def swK : List Fr := cfgF swR
theorem sw_0 (st blk v : List Int) (c : Int) (la : Bool) : toC 100 Tryz.f144.ntmps (cutT 100 (swT st blk)) [] (swGs 0) (swTb v) 101 [] [] (swM st blk (.go (codeOf Tryz.f144)) [] ((st0 (swVs c la) 100).hint [])) =
  some (.go (.loop swLp), swK, [D.start st c (match la with | true => 4294967295 | false => 0) = bytesI 16 v]) := by cases la <;> kernel_rfl
end Go.Proofs.YtdhombdiakjdhaaGreatDoor.Sx
end
