/- THE STATEMENT: GramOfNothing answers true for every list of bytes and every number, and the list reads as it did. Conditions: the listed package-level variables hold what the program's text lays; the card ties them. -/
import Derived.Test.YtaibhjpgbckbkaaGreatDoorRow
import Derived.Test.YtaibhjpgbckbkaaGreatDoorFacts
open Go
set_option maxRecDepth 100000
namespace Go.Proofs.YtaibhjpgbckbkaaGreatDoor.Gram
open Go.ChangeShapes Go.WideShapes Go.ChangeAt Go.RowKit Go.Proofs.YtaibhjpgbckbkaaGreatDoor.Sx

theorem cell_lt {w : World} {b o : Nat} {v : Value} (h : w.cell? ⟨b, o, none⟩ = some v) : b < w.heap.size := by
  unfold World.cell? at h
  simp only at h
  cases hb : w.heap[b]? with
  | none => rw [hb] at h; simp at h
  | some x => exact (Array.getElem?_eq_some_iff.1 hb).1

/-- What is listed stands in the memory, as the executor wants it. -/
theorem roc_err {V : Val} {w : World} {l e b o : Nat} (hl : V.β l = some (l, 0)) (he : V.β e = some (b, o)) (hc : w.cell? ⟨l, 0, none⟩ = some (.iface 367 (.pointer (some ⟨b, o, none⟩)))) : okB V w l (.roc [.ifc 367 (.ptr e true 0)]) := by
  refine ⟨[.iface 367 (.pointer (some ⟨b, o + 0, none⟩))], by simp [SB.cells, denL, den, he], l, 0, hl, cell_lt hc, fun j v hj => ?_⟩
  cases j with
  | zero => simp only [List.getElem?_cons_zero, Option.some.injEq] at hj; subst hj; simpa using hc
  | succ j => simp at hj

theorem roc_int {V : Val} {w : World} {l : Nat} {z : Int} (hl : V.β l = some (l, 0)) (hc : w.cell? ⟨l, 0, none⟩ = some (.int .i64 z)) : okB V w l (.roc [.int true .i64 z]) := by
  refine ⟨[.int .i64 z], by simp [SB.cells, denL, den], l, 0, hl, cell_lt hc, fun j v hj => ?_⟩
  cases j with
  | zero => simp only [List.getElem?_cons_zero, Option.some.injEq] at hj; subst hj; simpa using hc
  | succ j => simp at hj

theorem denL_ints (V : Val) (k : IntKind) : ∀ zs : List Int, denL V (zs.map (SV.int true k)) = some (zs.map (Value.int k))
  | [] => rfl
  | z :: r => by simp [denL, den, denL_ints V k r]

theorem roc_ints {V : Val} {w : World} {l : Nat} {k : IntKind} {zs : List Int} (h0 : 0 < zs.length) (hl : V.β l = some (l, 0)) (hc : ∀ (j : Nat) (z : Int), zs[j]? = some z → w.cell? ⟨l, j, none⟩ = some (.int k z)) : okB V w l (.roc (zs.map (SV.int true k))) := by
  refine ⟨zs.map (Value.int k), denL_ints V k zs, l, 0, hl, cell_lt (hc 0 zs[0] (List.getElem?_eq_getElem h0)), fun j v hj => ?_⟩
  rw [List.getElem?_map] at hj
  obtain ⟨z, hz, rfl⟩ := Option.map_eq_some_iff.1 hj
  simpa using hc j z hz

def flatZ : List Int := [0, 4, 8, 12, 1, 5, 9, 13, 2, 6, 10, 14, 3, 7, 11, 15, 0, 5, 10, 15, 1, 6, 11, 12, 2, 7, 8, 13, 3, 4, 9, 14]

theorem flat_rows (j : Nat) (z : Int) (h : flatZ[j]? = some z) : ∃ i k zs, j = i * 4 + k ∧ k < 4 ∧ rowsZ[i]? = some zs ∧ zs[k]? = some z := by
  have hj : j < 32 := (List.getElem?_eq_some_iff.1 h).1
  have key : ∀ j : Fin 32, (rowsZ[j.1 / 4]?).bind (·[j.1 % 4]?) = flatZ[j.1]? := by decide
  have := key ⟨j, hj⟩
  simp only [h, Option.bind_eq_some_iff] at this
  obtain ⟨zs, h1, h2⟩ := this
  exact ⟨j / 4, j % 4, zs, by omega, Nat.mod_lt _ (by omega), h1, h2⟩

abbrev listed : List (String × DataW Unit) := Rows.gramOfNothingRow.laid

theorem laid_ok {W : World} (h : laidMet Tryz.prog listed W) (v : Value) :
    ∃ V : Val, TabOK W (fun _ => False) V (fun l => Sx.look l laidT) W ∧ (∀ k l, Sx.look k globs = some l → V.β l = some (k, 0)) ∧ V.top 100 ∧ V.σ 60 = some v := by
  have pick : ∀ {x : String × DataW Unit} (i : Nat), listed[i]? = some x → x ∈ listed := fun i hi => List.mem_of_getElem? hi
  obtain ⟨b0, o0, e0⟩ := err_cell h "pintle/api.ErrArg" _ 0 (pick 2 rfl) (by kernel_rfl) (by kernel_rfl)
  obtain ⟨b1, o1, e1⟩ := err_cell h "pintle/api.ErrTurn" _ 1 (pick 8 rfl) (by kernel_rfl) (by kernel_rfl)
  obtain ⟨b2, o2, e2⟩ := err_cell h "pintle/api.ErrRoom" _ 2 (pick 3 rfl) (by kernel_rfl) (by kernel_rfl)
  obtain ⟨b3, o3, e3⟩ := err_cell h "pintle/api.ErrNonce" _ 3 (pick 6 rfl) (by kernel_rfl) (by kernel_rfl)
  obtain ⟨b4, o4, e4⟩ := err_cell h "pintle/api.ErrShort" _ 4 (pick 5 rfl) (by kernel_rfl) (by kernel_rfl)
  obtain ⟨b6, o6, e6⟩ := err_cell h "pintle/api.ErrOld" _ 6 (pick 9 rfl) (by kernel_rfl) (by kernel_rfl)
  obtain ⟨b7, o7, e7⟩ := err_cell h "pintle/api.ErrLong" _ 7 (pick 4 rfl) (by kernel_rfl) (by kernel_rfl)
  obtain ⟨b8, o8, e8⟩ := err_cell h "pintle/api.ErrAuth" _ 8 (pick 7 rfl) (by kernel_rfl) (by kernel_rfl)
  have i17 := int_cell h "math/big.karatsubaThreshold" 40 17 (pick 12 rfl) (by kernel_rfl) (by kernel_rfl)
  have i18 := int_cell h "math/big.divRecursiveThreshold" 40 18 (pick 11 rfl) (by kernel_rfl) (by kernel_rfl)
  have hb := begin_cells h (pick 15 rfl)
  have hr := rows_cells h (pick 16 rfl)
  let bl : List (Nat × (Nat × Nat)) := [(0, (0, 0)), (1, (1, 0)), (2, (2, 0)), (3, (3, 0)), (4, (4, 0)), (5, (5, 0)), (6, (6, 0)), (7, (7, 0)), (8, (8, 0)), (10, (10, 0)), (11, (11, 0)), (15, (15, 0)), (16, (16, 0)), (17, (17, 0)), (18, (18, 0)), (27, (27, 0)),
    (40, (b0, o0)), (41, (b1, o1)), (42, (b2, o2)), (43, (b3, o3)), (44, (b4, o4)), (46, (b6, o6)), (47, (b7, o7)), (48, (b8, o8))]
  refine ⟨⟨fun l => Sx.look l bl, fun l => if l = 60 then some v else none⟩, ⟨fun l B hl => ?_, fun l B l' B' n _ hl _ ho => ?_, fun l B n hl ho => ?_, FrameOK.refl _ _⟩, fun k l hk => ?_, fun l hl => ⟨?_, if_neg (by omega)⟩, by show (if 60 = 60 then some v else none) = some v; exact if_pos rfl⟩
  · have hm := look_mem hl
    simp only [laidT, blkT0, List.cons_append, List.nil_append, List.mem_cons, List.not_mem_nil, or_false, Prod.mk.injEq] at hm
    rcases hm with ⟨rfl, rfl⟩ | ⟨rfl, rfl⟩ | ⟨rfl, rfl⟩ | ⟨rfl, rfl⟩ | ⟨rfl, rfl⟩ | ⟨rfl, rfl⟩ | ⟨rfl, rfl⟩ | ⟨rfl, rfl⟩ | ⟨rfl, rfl⟩ | ⟨rfl, rfl⟩ | ⟨rfl, rfl⟩ | ⟨rfl, rfl⟩
    · exact roc_ints (zs := [1634760805, 857760878, 2036477234, 1797285236]) (by decide) rfl hb
    · exact roc_ints (zs := flatZ) (by decide) rfl fun j z hj => by
        obtain ⟨i, k, zs, rfl, hk, h1, h2⟩ := flat_rows j z hj
        exact hr i k zs z h1 h2 hk
    · exact roc_err rfl rfl e0
    · exact roc_err rfl rfl e1
    · exact roc_err rfl rfl e2
    · exact roc_err rfl rfl e3
    · exact roc_err rfl rfl e4
    · exact roc_err rfl rfl e6
    · exact roc_err rfl rfl e7
    · exact roc_err rfl rfl e8
    · exact roc_int rfl i17
    · exact roc_int rfl i18
  · obtain ⟨_, cs, rfl, _⟩ := lowR_ok (F := 100) (by kernel_rfl) l B hl; cases ho
  · obtain ⟨_, cs, rfl, _⟩ := lowR_ok (F := 100) (by kernel_rfl) l B hl; cases ho
  · have hm := look_mem hk
    simp only [globs, List.mem_cons, List.not_mem_nil, or_false, Prod.mk.injEq] at hm
    rcases hm with ⟨rfl, rfl⟩ | ⟨rfl, rfl⟩ | ⟨rfl, rfl⟩ | ⟨rfl, rfl⟩ | ⟨rfl, rfl⟩ | ⟨rfl, rfl⟩ | ⟨rfl, rfl⟩ | ⟨rfl, rfl⟩ | ⟨rfl, rfl⟩ | ⟨rfl, rfl⟩ | ⟨rfl, rfl⟩ | ⟨rfl, rfl⟩ | ⟨rfl, rfl⟩ | ⟨rfl, rfl⟩ | ⟨rfl, rfl⟩ | ⟨rfl, rfl⟩ <;> rfl
  · show Sx.look l bl = none
    cases hlk : Sx.look l bl with
    | none => rfl
    | some p =>
      exfalso
      have hm := look_mem hlk
      have hall : ∀ x ∈ bl, x.1 < 100 := by
        intro x hx
        simp only [bl, List.mem_cons, List.not_mem_nil, or_false] at hx
        rcases hx with rfl | rfl | rfl | rfl | rfl | rfl | rfl | rfl | rfl | rfl | rfl | rfl | rfl | rfl | rfl | rfl | rfl | rfl | rfl | rfl | rfl | rfl | rfl | rfl <;> (simp only; omega)
      have := hall _ hm
      simp only at this
      omega

/-- THE WALK, seen from outside. -/
theorem walk {W : World} (h : laidMet Tryz.prog listed W) (a : Option Addr) (len cap : Nat) (n : Int) :
    Calls Tryz.prog 4 #[.slice a len cap, .int .u64 n] W fun e w' => e = .returned (.bool true) ∧ Below W.heap.size W w' := by
  obtain ⟨V, h1, h2, h3, h4⟩ := laid_ok h (.slice a len cap)
  refine (law a len cap n W V h1 h2 h3 h4).mono fun e w' ⟨he, hf⟩ => ⟨he, ⟨hf.os, hf.tape, hf.output, hf.size, fun k hk => hf.block k hk (fun h => h)⟩⟩

section
variable {H : Type} {enc : TypeId × Value → H} {P : Program}
/-- The row's last step, where what was there stands as it did. -/
theorem post_kept {f : Func} {s : ChangeSpec} {apart fresh handsOn again : Bool} {W W' : World} {args : Array Value} {v : Value} {ds gs : List (DataW H)} {before pa pv : List MemPlace}
    (hW : DataW.Whole enc P f.params.toList s.vars apart W args.toList ds gs before)
    (hres : ∀ (b : Nat) (sp : Nat → Bool) (hd : Bool), DataW.TrodAll enc P W' b sp hd f.resultTypes.toList (v.resultList f.resultTypes.size) (s.fn H (ds ++ gs)).results [])
    (hargs : ∀ sp : Nat → Bool, (∀ p ∈ before, sp p.block = true) → DataW.TrodAll enc P W' 0 sp true f.params.toList args.toList (s.fn H (ds ++ gs)).args pa)
    (hvars : ∀ sp : Nat → Bool, (∀ p ∈ before, sp p.block = true) → DataW.TrodVars enc P W' sp s.vars (s.fn H (ds ++ gs)).vars pv)
    (hps : before = pa ++ pv) (hb : Below W.heap.size W W')
    (hok : ∀ (j : Nat) (t : TypeId) (r : Value), f.resultTypes[j]? = some t → (v.resultList f.resultTypes.size)[j]? = some r → Value.okWide P W' .any 0 t r) :
    s.post enc P f apart fresh handsOn again W args v W' := by
  have lt : ∀ p ∈ before, p.block < W.heap.size := fun p hp => hW.lt p hp
  have old : ∀ p ∈ before, (fun b => decide (b < W.heap.size)) p.block = true := fun p hp => decide_eq_true (lt p hp)
  subst hps
  refine ⟨ds, gs, _, [], pa, pv, hW, hres _ _ _, hargs _ old, hvars _ old, World.keptBut_mono (fun p hp => ⟨hp, .inr (List.mem_append.1 hp)⟩) (hb.frame (· ∈ pa ++ pv)), fun _ => ?_⟩
  obtain ⟨_, _, _, _, _, hz, hn⟩ := hW
  refine ⟨hok, _, _, ([] ++ pa) ++ pv, ⟨[] ++ pa, pv, trodAll_append (hargs _ (fun _ _ => rfl)) (hres _ _ _), hvars _ (fun _ _ => rfl), rfl, fun b off hp => ?_, fun ha => by simpa using hn ha⟩, fun p hp _ => by simpa using hp⟩
  have hin : MemPlace.cell b off ∈ pa ++ pv := by simpa using hp
  rw [hb.frozen (lt _ hin)]
  exact hz b off hin
end

theorem own : ownKnob Tryz.prog.godebug = none := by kernel_rfl

/-- FOR EVERY ARGUMENT AND EVERY WORLD THAT HOLDS WHAT IS LISTED. -/
theorem contract (H : Type) (enc : TypeId × Value → H) (W : World) (base : Nat) (args : Array Value) (ds gs : List (DataW H)) (before : List MemPlace)
    (hval : ∀ (j : Nat) t v, Tryz.f4.params[j]? = some t → args[j]? = some v → Value.okWide Tryz.prog W .any base t v)
    (hW : DataW.Whole enc Tryz.prog Tryz.f4.params.toList Rows.gramOfNothingSpec.vars false W args.toList ds gs before) (hL : laidMetH Tryz.prog Rows.gramOfNothingRow.laid W) :
    Calls Tryz.prog 4 args W fun e W' => ∃ v, e = .returned v ∧ Rows.gramOfNothingSpec.post enc Tryz.prog Tryz.f4 false true false false W args v W' := by
  rw [MakeChecks.laidMetH_plain _ _ _ (by kernel_rfl)] at hL
  have hW' := hW
  obtain ⟨p, q, hA0, hV, rfl, hfz, hnd⟩ := hW
  have hA : DataW.TrodAll enc Tryz.prog W 0 (fun _ => true) true Tryz.f4.params.toList args.toList ds p := hA0
  rw [Tryz.params4] at hA hval
  obtain ⟨v0, vs0, d0, ds0, p0, q0, hargs, rfl, rfl, h0, r0⟩ := trodAll_cons hA
  obtain ⟨v1, vs1, d1, ds1, p1, q1, rfl, rfl, rfl, h1, r1⟩ := trodAll_cons r0
  obtain ⟨rfl, rfl, rfl⟩ := trodAll_nil r1
  obtain rfl : args = #[v0, v1] := by cases args; simp_all
  obtain ⟨rfl, rfl⟩ := trodVars_none hV
  obtain ⟨a, len, cap, rfl⟩ := okWide_slice Tryz.underlying47 (hval 0 47 v0 rfl rfl)
  obtain ⟨n, rfl, rfl, rfl, hn⟩ := open_int Tryz.underlying26 (hval 1 26 v1 rfl rfl) h1
  clear hA0
  simp only [List.append_nil] at hW'
  refine (walk hL a len cap n).mono fun e W' ⟨he, hb⟩ => ?_
  subst he
  have hc5 : Tryz.prog.cellsOf 5 = 1 := by kernel_rfl
  refine ⟨_, rfl, post_kept (pa := p0) (pv := []) hW' (fun _ _ _ => trodAll_cons_mk (shut_bool Tryz.underlying4 _) trodAll_mk0) (fun sp hsp => ?_) (fun _ _ => rfl) (by simp) hb (ok_one (by kernel_rfl) rfl (okWide_bool_mk Tryz.underlying4 _))⟩
  have again : DataW.Trod enc Tryz.prog W' 0 sp true 47 (.slice a len cap) d0 p0 := by
    obtain ⟨fuel, hf⟩ := h0
    rcases open_ints Tryz.underlying47 Tryz.underlying5 hc5 hf with ⟨hcs, hx⟩ | ⟨ad, len', cap', zs, hcs, _, hle, hmax, hall, hx, hcell, hwf⟩
    · simp only [Value.cells, List.cons.injEq, and_true, Value.slice.injEq] at hcs
      obtain ⟨rfl, rfl, rfl⟩ := hcs
      simp only [Prod.mk.injEq] at hx
      obtain ⟨rfl, rfl⟩ := hx
      exact shut_slice_nil Tryz.underlying47
    · simp only [Value.cells, List.cons.injEq, and_true, Value.slice.injEq] at hcs
      obtain ⟨rfl, rfl, rfl⟩ := hcs
      simp only [Prod.mk.injEq] at hx
      obtain ⟨rfl, rfl⟩ := hx
      simp only [if_true] at hall
      refine ⟨2, ?_⟩
      have hsame : ∀ i, i < zs.length → W'.cell? (ad.add i) = some (.int .u8 (zs.getD i 0)) := by
        intro i hi
        have hc := hcell i hi
        obtain ⟨bk, off, spot⟩ := ad
        have hlt : bk < W.heap.size := by
          have h2 : (⟨bk, off, spot⟩ : Addr).add i = ⟨bk, off + i, none⟩ ∨ (⟨bk, off, spot⟩ : Addr).add i = ⟨bk, off, spot⟩ := by
            unfold Addr.add; split
            · exact .inr rfl
            · exact .inl rfl
          rcases h2 with h2 | h2
          · rw [h2] at hc; exact cell_lt hc
          · rw [h2] at hc
            have : spot = none := World.cell?_spot hc
            subst this
            exact cell_lt hc
        rw [hb.cell (by unfold Addr.add; split <;> exact hlt)]
        exact hc
      refine shut_ints 0 Tryz.underlying47 Tryz.underlying5 hc5 (Nat.zero_le _) hle hmax ?_ hsame hwf
      by_cases hz : zs.length = 0
      · split <;> omega
      · have : sp ad.block = true := hsp (.cell ad.block ad.off) (by
          cases hzl : zs.length with
          | zero => exact absurd hzl hz
          | succ m => simp [MemPlace.row, List.range_succ_eq_map])
        rw [if_pos this]; exact hall
  have both := trodAll_cons_mk again (trodAll_cons_mk (shut_int (w := W') Tryz.underlying26 hn) trodAll_mk0)
  rw [List.append_nil, List.append_nil] at both
  exact both

theorem laid_met (os : Os) : laidMetH Tryz.prog Rows.gramOfNothingRow.laid ((World.laidAll Tryz.prog os Rows.gramOfNothingRow.laid).forCall (fun _ _ => 0) ⟨#[], #[.slice none 0 0, .int .u64 0], []⟩).memory := by
  rw [MakeChecks.laidMetH_plain _ _ _ (by kernel_rfl)]
  exact laidMet_laidAll _ (by kernel_rfl) (by kernel_rfl)
theorem reads (os : Os) {H : Type} (enc : TypeId × Value → H) : ∃ places, DataW.whole enc Tryz.prog ((World.laidAll Tryz.prog os Rows.gramOfNothingRow.laid).forCall (fun _ _ => 0) ⟨#[], #[.slice none 0 0, .int .u64 0], []⟩).memory Tryz.f4.params.toList Rows.gramOfNothingSpec.vars false
    #[Value.slice none 0 0, Value.int .u64 0].toList 8 = some ([.nil, .lit (.int .u64 0)], [], places) := ⟨[], by kernel_rfl⟩

/-- The world of the witness: what is listed is laid, nothing else. -/
noncomputable abbrev start (os : Os) : World := (World.laidAll Tryz.prog os Rows.gramOfNothingRow.laid).forCall (fun _ _ => 0) ⟨#[], #[.slice none 0 0, .int .u64 0], []⟩
theorem start_zip (os : Os) : (start os).variablesZipB Tryz.prog = true := by kernel_rfl
theorem start_rest (os : Os) : ((start os).heap.toList.drop Tryz.prog.globals.size).take ((begin Tryz.prog (fun _ _ => 0) default).world.heap.size - Tryz.prog.globals.size) = (begin Tryz.prog (fun _ _ => 0) default).world.heap.toList.drop Tryz.prog.globals.size := by kernel_rfl
theorem start_ok (os : Os) : Input.okWideB Tryz.prog (start os) 4 ⟨#[], #[.slice none 0 0, .int .u64 0], []⟩ = true := by kernel_rfl

theorem start_row (os : Os) {H : Type} (enc : TypeId × Value → H) : (OpenSpec.ofChange Rows.gramOfNothingSpec).preRow enc Tryz.prog Tryz.f4 Rows.gramOfNothingRow.domain false Rows.gramOfNothingRow.laid (start os).memory #[.slice none 0 0, .int .u64 0] := by
  obtain ⟨places, hx⟩ := reads os enc
  exact OpenSpec.preRow_of_cond 8 hx (by kernel_rfl) (fun k hk => by cases hk) (by kernel_rfl) (laid_met os)

theorem witness (os : Os) {H : Type} (enc : TypeId × Value → H) : ∃ (w : World) (tape : Tape) (i : Input), w.os = os ∧ (w.forCall tape i).Shaped Tryz.checked.prog ∧ i.vars = [] ∧ Input.okWide Tryz.checked.prog (w.forCall tape i) .any w.heap.size 4 i ∧
    (OpenSpec.ofChange Rows.gramOfNothingSpec).preRow enc Tryz.checked.prog Tryz.f4 Rows.gramOfNothingRow.domain false Rows.gramOfNothingRow.laid (w.forCall tape i).memory i.args ∧ ({} : Assume).holds Tryz.checked.prog (lone (Frame.enter Tryz.checked.prog 4 i.args .normal) [] (w.forCall tape i)) :=
  ⟨World.laidAll Tryz.prog os Rows.gramOfNothingRow.laid, fun _ _ => 0, ⟨#[], #[.slice none 0 0, .int .u64 0], []⟩, World.laidAll_os _ _ _, World.shaped_of_ZipB (start_zip os) (start_rest os), (Input.okWide_of_okWideB (base := 0) (start_ok os)).1, (Input.okWide_of_okWideB (start_ok os)).2, start_row os enc, by
    simp only [Assume.holds]
    exact ⟨by simp, by simp, by simp, by simp, by simp⟩⟩

theorem lifted (os : Os) (started : os.Started) (H : Type) (enc : TypeId × Value → H) (F : Stop.Interp) :
    ReturnsInHanded {} Tryz.checked os 4 .any ((OpenSpec.ofChange Rows.gramOfNothingSpec).preRow enc Tryz.prog Tryz.f4 Rows.gramOfNothingRow.domain false Rows.gramOfNothingRow.laid) (((OpenSpec.ofChange Rows.gramOfNothingSpec).at F).post enc Tryz.prog Tryz.f4 false true false false) := by
  refine returnsInHanded_of_row (C := Tryz.checked) (s := OpenSpec.ofChange Rows.gramOfNothingSpec) own started (by kernel_rfl) Tryz.func4 (witness os enc) ?_
  intro W base args ds gs before hval hW _ _ _ hL _ _
  exact contract H enc W base args ds gs before hval hW hL

theorem said : Rows.GramOfNothingSaid :=
  OpenClaim.holds_of_cond 4 Tryz.f4 rfl rfl rfl rfl rfl rfl rfl ⟨rfl, rfl, rfl, rfl, rfl⟩ rfl rfl rfl rfl rfl (by kernel_rfl) Tryz.func4 facts
    (of_decide_eq_true (by kernel_rfl)) (by unfold Func.isWrapper; first | (rw [if_pos (by decide +kernel)]; kernel_rfl) | (rw [if_neg (by decide +kernel)]; exact ⟨rfl, rfl⟩))
    (fun os started H enc _ F => by rw [OpenClaim.pre_eq_preRow]; exact lifted os started H enc F)

/-- No parameter wants a stand-in; the program's own looks are as the card says. -/
theorem plain (f : FuncId) (fn : Func) (hf : Tryz.pinned.checked.prog.funcNamed "pintle/pintlelaw25.GramOfNothing" = some f) (hfn : Tryz.pinned.checked.prog.funcs[f]? = some fn) :
    true = Tryz.pinned.checked.prog.looks [] ∧ ∀ (j : Nat) t, fn.params[j]? = some t → Tryz.pinned.checked.prog.wantsStandIn t = false := by
  obtain rfl : f = 4 := Option.some.inj ((show Tryz.prog.funcNamed "pintle/pintlelaw25.GramOfNothing" = some 4 by kernel_rfl).symm.trans hf) |>.symm
  obtain rfl : fn = Tryz.f4 := (Option.some.inj (Tryz.func4.symm.trans hfn)).symm
  refine ⟨by kernel_rfl, fun j t ht => ?_⟩
  rw [Tryz.params4] at ht
  have ht : t = 47 ∨ t = 26 := by simpa using Array.mem_of_getElem? ht
  rcases ht with rfl | rfl
  · exact (show Tryz.prog.wantsStandIn 47 = false by kernel_rfl)
  · exact (show Tryz.prog.wantsStandIn 26 = false by kernel_rfl)

/-- THE CARD. -/
theorem card : Rows.GramOfNothingCardSaid :=
  Claim7.holds_tied_plain_at .later [] _ _ _ _ said (fun _ h => by cases h) (by kernel_rfl) (fun _ h => by cases h) gramOfNothing_row_tie rfl ⟨rfl, rfl⟩ (by kernel_rfl) rfl plain (by kernel_rfl)

end Go.Proofs.YtaibhjpgbckbkaaGreatDoor.Gram
