/- The program's functions as summaries: what the executor asks of the program holds, by closed facts. -/
import Derived.Test.YtaibhjpgbckbkaaGreatDoorSxC
import Derived.Test.YtaibhjpgbckbkaaGreatDoorChecked
import Derived.KernelRfl
open Go
set_option maxRecDepth 100000
namespace Go.Proofs.YtaibhjpgbckbkaaGreatDoor.Sx

/-- The assembly's functions and their twins. -/
def tws : List (Nat × Nat) := [(129, 96), (138, 95), (150, 97), (205, 98), (207, 100), (210, 99)]

def exA (f : Nat) : Option Sum := match Nat.beq f 171 with
  | true => some (carryS false)
  | false => match Nat.beq f 154 with
    | true => some (carryS true)
    | false => none

/-- The package-level variables that are read, by their labels. -/
def globs : List (Nat × Nat) := [(0, 0), (1, 1), (2, 2), (3, 3), (4, 4), (5, 5), (6, 6), (7, 7), (8, 8), (10, 10), (11, 11), (15, 15), (16, 16), (17, 17), (18, 18), (27, 27)]

theorem mix : Tryz.prog.follows .mixedOrders = true := by kernel_rfl
theorem noNum : Tryz.prog.funcs.toList.all (fun fn => !(fn.name == "runtime.NumGoroutine")) = true := by kernel_rfl
theorem names (f : Nat) (fn : Func) (h : Tryz.prog.funcs[f]? = some fn) : (fn.name == "runtime.NumGoroutine") = false := by
  have hm : fn ∈ Tryz.prog.funcs.toList := by
    have := Array.mem_of_getElem? h
    simpa using this
  have := List.all_eq_true.1 noNum fn hm
  simpa using this

theorem twin129 : ∀ (args : Array Value) (w : World), (callFunc 129 args).run Tryz.prog w = (callFunc 96 args).run Tryz.prog w :=
  twin_ok (twin := "math/big.subVV_g") Tryz.func129 Tryz.func96 rfl rfl (by kernel_rfl) (by kernel_rfl) (by kernel_rfl) (by kernel_rfl) rfl rfl
theorem twin138 : ∀ (args : Array Value) (w : World), (callFunc 138 args).run Tryz.prog w = (callFunc 95 args).run Tryz.prog w :=
  twin_ok (twin := "math/big.addVV_g") Tryz.func138 Tryz.func95 rfl rfl (by kernel_rfl) (by kernel_rfl) (by kernel_rfl) (by kernel_rfl) rfl rfl
theorem twin150 : ∀ (args : Array Value) (w : World), (callFunc 150 args).run Tryz.prog w = (callFunc 97 args).run Tryz.prog w :=
  twin_ok (twin := "math/big.lshVU_g") Tryz.func150 Tryz.func97 rfl rfl (by kernel_rfl) (by kernel_rfl) (by kernel_rfl) (by kernel_rfl) rfl rfl
theorem twin205 : ∀ (args : Array Value) (w : World), (callFunc 205 args).run Tryz.prog w = (callFunc 98 args).run Tryz.prog w :=
  twin_ok (twin := "math/big.rshVU_g") Tryz.func205 Tryz.func98 rfl rfl (by kernel_rfl) (by kernel_rfl) (by kernel_rfl) (by kernel_rfl) rfl rfl
theorem twin207 : ∀ (args : Array Value) (w : World), (callFunc 207 args).run Tryz.prog w = (callFunc 100 args).run Tryz.prog w :=
  twin_ok (twin := "math/big.addMulVVWW_g") Tryz.func207 Tryz.func100 rfl rfl (by kernel_rfl) (by kernel_rfl) (by kernel_rfl) (by kernel_rfl) rfl rfl
theorem twin210 : ∀ (args : Array Value) (w : World), (callFunc 210 args).run Tryz.prog w = (callFunc 99 args).run Tryz.prog w :=
  twin_ok (twin := "math/big.mulAddVWW_g") Tryz.func210 Tryz.func99 rfl rfl (by kernel_rfl) (by kernel_rfl) (by kernel_rfl) (by kernel_rfl) rfl rfl

theorem tws_ok (f g : Nat) (h : look f tws = some g) : ∀ (args : Array Value) (w : World), (callFunc f args).run Tryz.prog w = (callFunc g args).run Tryz.prog w := by
  have hm := look_mem h
  simp only [tws, List.mem_cons, List.not_mem_nil, or_false, Prod.mk.injEq] at hm
  rcases hm with ⟨rfl, rfl⟩ | ⟨rfl, rfl⟩ | ⟨rfl, rfl⟩ | ⟨rfl, rfl⟩ | ⟨rfl, rfl⟩ | ⟨rfl, rfl⟩
  · exact twin129
  · exact twin138
  · exact twin150
  · exact twin205
  · exact twin207
  · exact twin210

theorem add64_ok (Γ : Env) : SumOK Tryz.prog Γ 171 (carryS false) := carryS_ok false fun args w => by
  rw [run_callFunc_extern Tryz.func171 (by kernel_rfl) (by kernel_rfl) (by kernel_rfl) (e := add64Entry) (by kernel_rfl)]
  simp only [Sem.run_bind, Sem.run_pure]
theorem sub64_ok (Γ : Env) : SumOK Tryz.prog Γ 154 (carryS true) := carryS_ok true fun args w => by
  rw [run_callFunc_extern Tryz.func154 (by kernel_rfl) (by kernel_rfl) (by kernel_rfl) (e := sub64E) (by kernel_rfl)]
  simp only [Sem.run_bind, Sem.run_pure]

theorem exA_ok (f : Nat) (S : Sum) (h : exA f = some S) (Γ : Env) : SumOK Tryz.prog Γ f S := by
  unfold exA at h
  split at h
  · rename_i hb; have := Nat.eq_of_beq_eq_true hb; subst this; cases h; exact add64_ok Γ
  · split at h
    · rename_i hb; have := Nat.eq_of_beq_eq_true hb; subst this; cases h; exact sub64_ok Γ
    · cases h

/-- The interface values of errors hold pointers, which can be compared. -/
theorem cmp367 (t : Nat) (h : ([367] : List Nat).elem t = true) (i : TypeInfo) (hi : Tryz.prog.info? t = some i) : i.comparable = true := by
  have : t = 367 := by simpa using h
  subst this
  have h2 : (Tryz.prog.info? 367).map (·.comparable) = some true := by kernel_rfl
  rw [hi] at h2
  simpa using h2

/-- WHAT HOLDS OF THE PROGRAM, with further summaries. -/
theorem progOK (ex : Nat → Option Sum) (hex : ∀ f S, ex f = some S → ∀ Γ : Env, Γ.glob = globs → SumOK Tryz.prog Γ f S) : ProgOK Tryz.prog globs [367] ex tws :=
  ⟨mix, names, cmp367, ⟨_, rfl⟩, tws_ok, hex⟩

/-- The functions, each by its body; calls to a depth of n. -/
noncomputable def env (ex : Nat → Option Sum) (n : Nat) : Env := envN Tryz.prog globs [367] ex tws 400 n
theorem env_ok (ex : Nat → Option Sum) (hex : ∀ f S, ex f = some S → ∀ Γ : Env, Γ.glob = globs → SumOK Tryz.prog Γ f S) (n : Nat) : SumsOK Tryz.prog (env ex n) := envN_ok (progOK ex hex) 400 n
theorem env_ty (ex : Nat → Option Sum) (n : Nat) : TyOK Tryz.prog (env ex n) := TyOK.prog envN_ty.1

end Go.Proofs.YtaibhjpgbckbkaaGreatDoor.Sx
