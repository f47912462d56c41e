/- THE STATEMENT: SuiteCopies answers true for every key and list of pieces, and what was handed in reads as it did. Conditions: the listed package-level variables hold what the program's text lays; the card ties them. -/
import Derived.Test.YtjomfjihopegmaaGreatDoorQN
section
open Go Go.Proofs.YtjomfjihopegmaaGreatDoor
set_option maxRecDepth 100000
namespace Go.Proofs.YtjomfjihopegmaaGreatDoor.Suc
open Go.ChangeShapes Go.WideShapes Go.ChangeAt Go.RowKit Go.Proofs.YtjomfjihopegmaaGreatDoor.Sx
section
variable {H : Type} {enc : TypeId × Value → H} {P : Program}
theorem post_kept {f : Func} {s : ChangeSpec} {apart fresh handsOn again : Bool} {W W' : World} {args : Array Value} {v : Value} {ds gs : List (DataW H)} {before pa pv : List MemPlace}
  (hW : DataW.Whole enc P f.params.toList s.vars apart W args.toList ds gs before)
  (hres : ∀ (b : Nat) (sp : Nat → Bool) (hd : Bool), DataW.TrodAll enc P W' b sp hd f.resultTypes.toList (v.resultList f.resultTypes.size) (s.fn H (ds ++ gs)).results [])
  (hargs : ∀ sp : Nat → Bool, (∀ p ∈ before, sp p.block = true) → DataW.TrodAll enc P W' 0 sp true f.params.toList args.toList (s.fn H (ds ++ gs)).args pa)
  (hvars : ∀ sp : Nat → Bool, (∀ p ∈ before, sp p.block = true) → DataW.TrodVars enc P W' sp s.vars (s.fn H (ds ++ gs)).vars pv)
  (hps : before = pa ++ pv) (hb : Below W.heap.size W W')
  (hok : ∀ (j : Nat) (t : TypeId) (r : Value), f.resultTypes[j]? = some t → (v.resultList f.resultTypes.size)[j]? = some r → Value.okWide P W' .any 0 t r) :
  s.post enc P f apart fresh handsOn again W args v W' := by
 have lt : ∀ p ∈ before, p.block < W.heap.size := fun p hp => hW.lt p hp
 have old : ∀ p ∈ before, (fun b => decide (b < W.heap.size)) p.block = true := fun p hp => decide_eq_true (lt p hp)
 subst hps
 refine ⟨ds, gs, _, [], pa, pv, hW, hres _ _ _, hargs _ old, hvars _ old, World.keptBut_mono (fun p hp => ⟨hp, .inr (List.mem_append.1 hp)⟩) (hb.frame (· ∈ pa ++ pv)), fun _ => ?_⟩
 obtain ⟨_, _, _, _, _, hz, hn⟩ := hW
 refine ⟨hok, _, _, ([] ++ pa) ++ pv, ⟨[] ++ pa, pv, trodAll_append (hargs _ (fun _ _ => rfl)) (hres _ _ _), hvars _ (fun _ _ => rfl), rfl, fun b off hp => ?_, fun ha => by simpa using hn ha⟩, fun p hp _ => by simpa using hp⟩
 have hin : MemPlace.cell b off ∈ pa ++ pv := by simpa using hp
 rw [hb.frozen (lt _ hin)]
 exact hz b off hin
end
theorem own : ownKnob Tryz.prog.godebug = none := by kernel_rfl
theorem hc5 : Tryz.prog.cellsOf 5 = 1 := by kernel_rfl
theorem hc23 : Tryz.prog.cellsOf 23 = 32 := by kernel_rfl
theorem hc49 : Tryz.prog.cellsOf 49 = 1 := by kernel_rfl
theorem contract (H : Type) (enc : TypeId × Value → H) (W : World) (base : Nat) (args : Array Value) (ds gs : List (DataW H)) (before : List MemPlace)
  (hval : ∀ (j : Nat) t v, Tryz.f3.params[j]? = some t → args[j]? = some v → Value.okWide Tryz.prog W .any base t v)
  (hW : DataW.Whole enc Tryz.prog Tryz.f3.params.toList Rows.suiteCopiesSpec.vars false W args.toList ds gs before) (hL : laidMetH Tryz.prog Rows.suiteCopiesRow.laid W) :
  Calls Tryz.prog 3 args W fun e W' => ∃ v, e = .returned v ∧ Rows.suiteCopiesSpec.post enc Tryz.prog Tryz.f3 false true false false W args v W' := by
 rw [MakeChecks.laidMetH_plain _ _ _ (by kernel_rfl)] at hL
 have hW' := hW
 obtain ⟨p, q, hA0, hV, rfl, hfz, hnd⟩ := hW
 have hA : DataW.TrodAll enc Tryz.prog W 0 (fun _ => true) true Tryz.f3.params.toList args.toList ds p := hA0
 rw [Tryz.params3] at hA hval
 obtain ⟨v0, vs0, d0, ds0, p0, q0, hargs, rfl, rfl, h0, r0⟩ := trodAll_cons hA
 obtain ⟨v1, vs1, d1, ds1, p1, q1, rfl, rfl, rfl, h1, r1⟩ := trodAll_cons r0
 obtain ⟨rfl, rfl, rfl⟩ := trodAll_nil r1
 obtain rfl : args = #[v0, v1] := by cases args; simp_all
 obtain ⟨rfl, rfl⟩ := trodVars_none hV
 have ok0 := hval 0 23 v0 rfl rfl
 simp only [Value.okWide, show Tryz.prog.underlying 23 = some (.array 32 5) from Tryz.underlying23] at ok0
 obtain ⟨cs, rfl, _⟩ := ok0
 obtain ⟨a1, n1, c1, rfl⟩ := okWide_slice Tryz.underlying24 (hval 1 24 v1 rfl rfl)
 clear hA0
 simp only [List.append_nil] at hW'
 obtain ⟨f0, hf0⟩ := h0
 obtain ⟨f1, hf1⟩ := h1
 obtain ⟨c, hcl, e0, bc⟩ := arr_of_trod Tryz.underlying23 Tryz.underlying5 hc5 hc23 hf0
 obtain ⟨w1, us, dd, e1, rL, rl, rF, _, rv⟩ := ll_of_trod Tryz.underlying24 Tryz.underlying49 Tryz.underlying5 hc5 hc49 hf1
 simp only [Value.cells, List.cons.injEq, and_true] at e1
 subst e1
 have ecs : cs = (c.map (Value.int .u8)).toArray := by
  apply Array.ext'
  simpa [Value.cells] using e0
 subst ecs
 have hlt : ∀ x ∈ p0 ++ p1, x.block < W.heap.size := fun x hx => hW'.lt x (by simpa using hx)
 refine (walk hL hcl rL rl rF rv).mono fun e W' ⟨he, hb⟩ => ?_
 subst he
 have st : ∀ (t : TypeId) (v : Value) (d : DataW H) (ps : List MemPlace) (sp : Nat → Bool), t < Tryz.prog.types.size → Tryz.prog.readableRec t = true → (∀ x ∈ ps, x ∈ p0 ++ p1) → DataW.Trod enc Tryz.prog W 0 (fun _ => true) true t v d ps → (∀ p ∈ p0 ++ p1, sp p.block = true) →
   DataW.Trod enc Tryz.prog W' 0 sp true t v d ps := fun t v d ps sp ht hr hsub h hsp =>
  WideElems.Trod_stays (by kernel_rfl) hr ht h (fun x hx => hb.same (hlt x (hsub x hx))) (fun x hx => hsp x (hsub x hx))
 refine ⟨_, rfl, post_kept (pa := p0 ++ p1) (pv := []) hW' (fun _ _ _ => trodAll_cons_mk (shut_bool Tryz.underlying4 _) trodAll_mk0) (fun sp hsp => ?_) (fun _ _ => rfl) (by simp) hb (ok_one (by kernel_rfl) rfl (okWide_bool_mk Tryz.underlying4 _))⟩
 have hsp' : ∀ p ∈ p0 ++ p1, sp p.block = true := fun p hp => hsp p (by simpa using hp)
 have both := trodAll_cons_mk (st 23 _ _ p0 sp (of_decide_eq_true (by kernel_rfl)) (by kernel_rfl) (fun x hx => by simp [hx]) ⟨f0, hf0⟩ hsp')
  (trodAll_cons_mk (st 24 _ _ p1 sp (of_decide_eq_true (by kernel_rfl)) (by kernel_rfl) (fun x hx => by simp [hx]) ⟨f1, hf1⟩ hsp') trodAll_mk0)
 simp only [List.append_nil] at both
 exact both
theorem laid_met (os : Os) : laidMetH Tryz.prog Rows.suiteCopiesRow.laid ((World.laidAll Tryz.prog os Rows.suiteCopiesRow.laid).forCall (fun _ _ => 0) ⟨#[], #[.agg (Array.replicate 32 (.int .u8 0)), .slice none 0 0], []⟩).memory := by
 rw [MakeChecks.laidMetH_plain _ _ _ (by kernel_rfl)]
 exact laidMet_laidAll _ (by kernel_rfl) (by kernel_rfl)
theorem reads (os : Os) {H : Type} (enc : TypeId × Value → H) : ∃ places, DataW.whole enc Tryz.prog ((World.laidAll Tryz.prog os Rows.suiteCopiesRow.laid).forCall (fun _ _ => 0) ⟨#[], #[.agg (Array.replicate 32 (.int .u8 0)), .slice none 0 0], []⟩).memory Tryz.f3.params.toList Rows.suiteCopiesSpec.vars false
  #[Value.agg (Array.replicate 32 (Value.int .u8 0)), Value.slice none 0 0].toList 8 = some ([.agg (List.replicate 32 (.lit (.int .u8 0))), .nil], [], places) := ⟨[], by kernel_rfl⟩
noncomputable abbrev start (os : Os) : World := (World.laidAll Tryz.prog os Rows.suiteCopiesRow.laid).forCall (fun _ _ => 0) ⟨#[], #[.agg (Array.replicate 32 (.int .u8 0)), .slice none 0 0], []⟩
theorem start_zip (os : Os) : (start os).variablesZipB Tryz.prog = true := by kernel_rfl
theorem start_rest (os : Os) : ((start os).heap.toList.drop Tryz.prog.globals.size).take ((begin Tryz.prog (fun _ _ => 0) default).world.heap.size - Tryz.prog.globals.size) = (begin Tryz.prog (fun _ _ => 0) default).world.heap.toList.drop Tryz.prog.globals.size := by kernel_rfl
theorem start_ok (os : Os) : Input.okWideB Tryz.prog (start os) 3 ⟨#[], #[.agg (Array.replicate 32 (.int .u8 0)), .slice none 0 0], []⟩ = true := by kernel_rfl
theorem start_row (os : Os) {H : Type} (enc : TypeId × Value → H) : (OpenSpec.ofChange Rows.suiteCopiesSpec).preRow enc Tryz.prog Tryz.f3 Rows.suiteCopiesRow.domain false Rows.suiteCopiesRow.laid (start os).memory #[.agg (Array.replicate 32 (.int .u8 0)), .slice none 0 0] := by
 obtain ⟨places, hx⟩ := reads os enc
 exact OpenSpec.preRow_of_cond 8 hx (by kernel_rfl) (fun k hk => by cases hk) (by kernel_rfl) (laid_met os)
theorem witness (os : Os) {H : Type} (enc : TypeId × Value → H) : ∃ (w : World) (tape : Tape) (i : Input), w.os = os ∧ (w.forCall tape i).Shaped Tryz.checked.prog ∧ i.vars = [] ∧ Input.okWide Tryz.checked.prog (w.forCall tape i) .any w.heap.size 3 i ∧
  (OpenSpec.ofChange Rows.suiteCopiesSpec).preRow enc Tryz.checked.prog Tryz.f3 Rows.suiteCopiesRow.domain false Rows.suiteCopiesRow.laid (w.forCall tape i).memory i.args ∧ ({} : Assume).holds Tryz.checked.prog (lone (Frame.enter Tryz.checked.prog 3 i.args .normal) [] (w.forCall tape i)) :=
 ⟨World.laidAll Tryz.prog os Rows.suiteCopiesRow.laid, fun _ _ => 0, ⟨#[], #[.agg (Array.replicate 32 (.int .u8 0)), .slice none 0 0], []⟩, World.laidAll_os _ _ _, World.shaped_of_ZipB (start_zip os) (start_rest os), (Input.okWide_of_okWideB (base := 0) (start_ok os)).1, (Input.okWide_of_okWideB (start_ok os)).2, start_row os enc, by
  simp only [Assume.holds]
  exact ⟨by simp, by simp, by simp, by simp, by simp⟩⟩
theorem lifted (os : Os) (started : os.Started) (H : Type) (enc : TypeId × Value → H) (F : Stop.Interp) :
  ReturnsInHanded {} Tryz.checked os 3 .any ((OpenSpec.ofChange Rows.suiteCopiesSpec).preRow enc Tryz.prog Tryz.f3 Rows.suiteCopiesRow.domain false Rows.suiteCopiesRow.laid) (((OpenSpec.ofChange Rows.suiteCopiesSpec).at F).post enc Tryz.prog Tryz.f3 false true false false) := by
 refine returnsInHanded_of_row (C := Tryz.checked) (s := OpenSpec.ofChange Rows.suiteCopiesSpec) own started (by kernel_rfl) Tryz.func3 (witness os enc) ?_
 intro W base args ds gs before hval hW _ _ _ hL _ _
 exact contract H enc W base args ds gs before hval hW hL
theorem said : Rows.SuiteCopiesSaid :=
 OpenClaim.holds_of_cond 3 Tryz.f3 rfl rfl rfl rfl rfl rfl rfl ⟨rfl, rfl, rfl, rfl, rfl⟩ rfl rfl rfl rfl rfl (by kernel_rfl) Tryz.func3 facts
  (of_decide_eq_true (by kernel_rfl)) (by unfold Func.isWrapper; first | (rw [if_pos (by decide +kernel)]; kernel_rfl) | (rw [if_neg (by decide +kernel)]; exact ⟨rfl, rfl⟩))
  (fun os started H enc _ F => by rw [OpenClaim.pre_eq_preRow]; exact lifted os started H enc F)
theorem plain (f : FuncId) (fn : Func) (hf : Tryz.pinned.checked.prog.funcNamed "pintle/pintlelaw10.SuiteCopies" = some f) (hfn : Tryz.pinned.checked.prog.funcs[f]? = some fn) :
  true = Tryz.pinned.checked.prog.looks [] ∧ ∀ (j : Nat) t, fn.params[j]? = some t → Tryz.pinned.checked.prog.wantsStandIn t = false := by
 obtain rfl : f = 3 := Option.some.inj ((show Tryz.prog.funcNamed "pintle/pintlelaw10.SuiteCopies" = some 3 by kernel_rfl).symm.trans hf) |>.symm
 obtain rfl : fn = Tryz.f3 := (Option.some.inj (Tryz.func3.symm.trans hfn)).symm
 refine ⟨by kernel_rfl, fun j t ht => ?_⟩
 rw [Tryz.params3] at ht
 have ht : t = 23 ∨ t = 24 := by have := Array.mem_of_getElem? ht; simp at this; omega
 rcases ht with rfl | rfl
 ·exact (show Tryz.prog.wantsStandIn 23 = false by kernel_rfl)
 ·exact (show Tryz.prog.wantsStandIn 24 = false by kernel_rfl)
theorem card : Rows.SuiteCopiesCardSaid :=
 Claim7.holds_tied_plain_at .later [] _ _ _ _ said (fun _ h => by cases h) (by kernel_rfl) (fun _ h => by cases h) suiteCopies_row_tie rfl ⟨rfl, rfl⟩ (by kernel_rfl) rfl plain (by kernel_rfl)
end Go.Proofs.YtjomfjihopegmaaGreatDoor.Suc
end
