/- The statement of KdfKeys: the call, seen from outside. -/
import Derived.Test.YtdhombdiakjdhaaGreatDoorQR
section
open Go Go.Proofs.YtdhombdiakjdhaaGreatDoor
set_option maxRecDepth 100000
namespace Go.Proofs.YtdhombdiakjdhaaGreatDoor.Kdk
open Go.ChangeShapes Go.WideShapes Go.ChangeAt Go.RowKit Go.Proofs.YtdhombdiakjdhaaGreatDoor.Sx Go.Proofs.YtdhombdiakjdhaaGreatDoor.Kdp

/-- THE CALL, seen from outside. -/
theorem walk {W : World} (h : laidMet Tryz.prog listed W) {vb : Value} {c data : List Int} (hb : RdOK W .u8 vb data) (h1 : Bts c) (h2 : c.length = 32) (h3 : Bts data) :
    Calls Tryz.prog 6 #[.agg (c.map (Value.int .u8)).toArray, vb] W fun e w' => e = .returned (.bool true) ∧ Below W.heap.size W w' := by
  obtain ⟨V, k1, k2, k3, k4⟩ := laid_ok h [(61, .rov .u8 data)] [(61, vb)] rfl fun V hV x hx => by
    simp only [List.mem_cons, List.not_mem_nil, or_false] at hx
    subst hx
    exact ⟨⟨_, rfl, vb, by rw [hV]; rfl, hb⟩, rfl, trivial⟩
  have k5 : V.σ 61 = some vb := (k4 61).trans rfl
  refine calls (f6_call h1 h2 h3 (env exA 0) rfl) Tryz.func6 (by kernel_rfl) (c := codeOf Tryz.f6) rfl k1 (fun n l hn => k2 n l hn) (fun l hl1 _ => k3 l hl1) k3 (xs := [.agg (c.map (Value.int .u8)).toArray, vb]) ?_ fun V' x w' _ hx hT => ?_
  · simp only [f6Vs, denL, den, k5, Option.bind_some, ros_den hb, Option.map_some]
  · have hx : den V' (.bool true true) = some x := hx
    simp only [den, Option.some.injEq] at hx
    subst hx
    exact ⟨rfl, hT.frame.os, hT.frame.tape, hT.frame.output, hT.frame.size, fun k hk => hT.frame.block k hk (fun h => h)⟩

end Go.Proofs.YtdhombdiakjdhaaGreatDoor.Kdk
end
