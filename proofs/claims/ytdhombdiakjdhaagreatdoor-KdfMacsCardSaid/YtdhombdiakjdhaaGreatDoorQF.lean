/- The program's functions as summaries: what the executor asks of the program holds, by closed facts. -/
import Derived.Test.YtdhombdiakjdhaaGreatDoorProg
import Derived.KernelRfl
import Derived.Test.YtdhombdiakjdhaaGreatDoorQE
section
open Go
set_option maxRecDepth 100000
namespace Go.Proofs.YtdhombdiakjdhaaGreatDoor.Sx
def tws : List (Nat × Nat) := []
def exA (_ : Nat) : Option Sum := none
def globs : List (Nat × Nat) := [(3, 3), (4, 4), (5, 5)]
theorem mix : Tryz.prog.follows .mixedOrders = true := by kernel_rfl
theorem noNum : Tryz.prog.funcs.toList.all (fun fn => !(fn.name == "runtime.NumGoroutine")) = true := by kernel_rfl
theorem names (f : Nat) (fn : Func) (h : Tryz.prog.funcs[f]? = some fn) : (fn.name == "runtime.NumGoroutine") = false := by
 have hm : fn ∈ Tryz.prog.funcs.toList := by
  have := Array.mem_of_getElem? h
  simpa using this
 have := List.all_eq_true.1 noNum fn hm
 simpa using this
theorem exA_ok (f : Nat) (S : Sum) (h : exA f = some S) (Γ : Env) : SumOK Tryz.prog Γ f S := by cases h
def cmps : List Nat := [89]
theorem ev_cmp : (Tryz.prog.info? 89).all (fun i => i.comparable) = true := by kernel_rfl
theorem ev_held : Tryz.prog.stoodInHeld 89 = false := by kernel_rfl
theorem cmps_ok (t : Nat) (h : cmps.elem t = true) : (∀ i, Tryz.prog.info? t = some i → i.comparable = true) ∧ Tryz.prog.stoodInHeld t = false := by
 have e : t = 89 := by simpa [cmps] using h
 subst e
 refine ⟨fun i hi => ?_, ev_held⟩
 have := ev_cmp
 rw [hi] at this
 simpa using this
theorem progOK (ex : Nat → Option Sum) (hex : ∀ f S, ex f = some S → ∀ Γ : Env, Γ.glob = globs → SumOK Tryz.prog Γ f S) : ProgOK Tryz.prog globs cmps ex tws :=
 ⟨mix, names, cmps_ok, ⟨_, rfl⟩, (fun f g h => by simp [look, tws] at h), hex⟩
noncomputable def env (ex : Nat → Option Sum) (n : Nat) : Env := envN Tryz.prog globs cmps ex tws 400 n
theorem env_ok (ex : Nat → Option Sum) (hex : ∀ f S, ex f = some S → ∀ Γ : Env, Γ.glob = globs → SumOK Tryz.prog Γ f S) (n : Nat) : SumsOK Tryz.prog (env ex n) := envN_ok (progOK ex hex) 400 n
theorem env_ty (ex : Nat → Option Sum) (n : Nat) : TyOK Tryz.prog (env ex n) := TyOK.prog envN_ty.1
end Go.Proofs.YtdhombdiakjdhaaGreatDoor.Sx
end
section
open Go
namespace Go.Proofs.YtdhombdiakjdhaaGreatDoor.Sx
def allP : List Prop → Prop
 | [] => True
 | p :: r => p ∧ allP r
theorem of_allP : ∀ {l : List Prop}, allP l → ∀ q ∈ l, q
 | [], _, q, hq => by cases hq
 | p :: r, h, q, hq => by
   rcases List.mem_cons.1 hq with rfl | hq
   ·exact h.1
   ·exact of_allP h.2 q hq
theorem denL_map_int (V : Val) (k : IntKind) : ∀ xs : List Int, denL V (xs.map (SV.int false k)) = some (xs.map (Value.int k))
 | [] => rfl
 | x :: xs => by simp [denL, den, denL_map_int V k xs]
theorem den_agg_ai (V : Val) (k : IntKind) (xs : List Int) : den V (.agg (xs.map (SV.int false k))) = den V (.ai k xs) := by
 simp only [den, denL_map_int, Option.map_some]
theorem den_intsV_ai (V : Val) {k : IntKind} {n : Nat} {xs : List Int} (h : xs.length = n) : den V (.agg (intsV k n xs)) = den V (.ai k xs) := by
 simp only [den, intsV_ok h, Option.map_some]
theorem CallOK.words {P : Program} {Γ Γ' : Env} {f : FuncId} {vs vs' : List SV} {T T' : Tab} {lab F : Nat} {e e' : Eff} (h : CallOK P Γ f vs T lab F e) (hg : Γ'.glob = Γ.glob) (hv : ∀ V, denL V vs' = denL V vs) (hT : ∀ l B, T l = some B → T' l = some B)
  (he : ∀ V, den V e.val = den V e'.val) (hn : e'.new = e.new) (hw : e'.wr = e.wr) : CallOK P Γ' f vs' T' lab F e' := by
 intro w0 M V T2 w xs hsub hTab hgl hf hF hx o a K Q hK
 refine h w0 M V T2 w xs (fun l B hl => hsub l B (hT l B hl)) hTab (fun n l hl => hgl n l (by rw [hg]; exact hl)) hf hF ((hv V).symm.trans hx) o a K Q fun V' x w' h1 h2 h3 => hK V' x w' h1 ((he V').symm.trans h2) ?_
 have : upd T2 lab e' = upd T2 lab e := by funext l; simp only [upd, Eff.tab, hn, hw]
 rw [this]
 exact h3
noncomputable def st0 (vs : List SV) (F : Nat) : St := { g := (initG vs 0 .lf).getD .lf, tb := .lf, nx := F, ws := [], ob := [], hs := [] }
def codeOf (f : Func) : Code := f.body.getD .skip
theorem wrap_u32_add (a : Int) (j : Nat) : IntKind.u32.wrap (IntKind.u32.wrap (a + j) + 1) = IntKind.u32.wrap (a + (j + 1 : Nat)) := by
 simp only [IntKind.wrap_u32]; omega
end Go.Proofs.YtdhombdiakjdhaaGreatDoor.Sx
end
section
open Go
set_option maxRecDepth 100000
namespace Go.Proofs.YtdhombdiakjdhaaGreatDoor.Sx
theorem exA_sums (n : Nat) : SumsOK Tryz.prog (env exA n) := env_ok exA (fun f S h Γ _ => exA_ok f S h Γ) n
def m16 (m : List Int) : List SV := [.int false .u32 (m.getD 0 0), .int false .u32 (m.getD 1 0), .int false .u32 (m.getD 2 0), .int false .u32 (m.getD 3 0), .int false .u32 (m.getD 4 0), .int false .u32 (m.getD 5 0), .int false .u32 (m.getD 6 0), .int false .u32 (m.getD 7 0),
 .int false .u32 (m.getD 8 0), .int false .u32 (m.getD 9 0), .int false .u32 (m.getD 10 0), .int false .u32 (m.getD 11 0), .int false .u32 (m.getD 12 0), .int false .u32 (m.getD 13 0), .int false .u32 (m.getD 14 0), .int false .u32 (m.getD 15 0)]
def id16 : List Nat := [0, 1, 2, 3, 4, 5, 6, 7, 8, 9, 10, 11, 12, 13, 14, 15]
theorem round_run (v m : List Int) (ty : Nat) : interp (env exA 2) Tryz.f188 true [] 400 (.ptr 60 true 0 :: m16 m) (fun l => look l [(60, .own (intsV .u32 16 v) ty)]) 100 100 =
  some { val := .tup [], wr := [(60, .own ((D.roundM (bytesI 16 v) m id16).map (.int false .u32)) ty)] } := by kernel_rfl
end Go.Proofs.YtdhombdiakjdhaaGreatDoor.Sx
end
