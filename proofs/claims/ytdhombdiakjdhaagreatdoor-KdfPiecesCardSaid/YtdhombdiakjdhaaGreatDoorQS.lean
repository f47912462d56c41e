/- The statement of KdfPieces: the call, seen from outside. -/
import Derived.Test.YtdhombdiakjdhaaGreatDoorQR
section
open Go Go.Proofs.YtdhombdiakjdhaaGreatDoor
set_option maxRecDepth 100000
namespace Go.Proofs.YtdhombdiakjdhaaGreatDoor.Kdp
open Go.ChangeShapes Go.WideShapes Go.ChangeAt Go.RowKit Go.Proofs.YtdhombdiakjdhaaGreatDoor.Sx

/-- THE CALL, seen from outside. -/
theorem walk {W : World} (h : laidMet Tryz.prog listed W) {va vb vc : Value} {key data cuts : List Int} {e : Bool} (ha : RdOK W .u8 va key) (hb : RdOK W .u8 vb data) (hc : RdOK W .i64 vc cuts) (h1 : Bts key) :
    Calls Tryz.prog 4 #[va, vb, vc, .bool e] W fun e w' => e = .returned (.bool true) ∧ Below W.heap.size W w' := by
  obtain ⟨V, k1, k2, k3, k4⟩ := laid_ok h [(61, .rov .u8 key), (62, .rof data), (63, .rov .i64 cuts)] [(61, va), (62, vb), (63, vc)] rfl fun V hV x hx => by
    simp only [List.mem_cons, List.not_mem_nil, or_false] at hx
    rcases hx with rfl | rfl | rfl
    · exact ⟨⟨_, rfl, va, by rw [hV]; rfl, ha⟩, rfl, trivial⟩
    · exact ⟨⟨_, rfl, trivial⟩, rfl, vb, by rw [hV]; rfl, ro_frozen hb⟩
    · exact ⟨⟨_, rfl, vc, by rw [hV]; rfl, hc⟩, rfl, trivial⟩
  have k5 : V.σ 61 = some va := (k4 61).trans rfl
  have k6 : V.σ 62 = some vb := (k4 62).trans rfl
  have k7 : V.σ 63 = some vc := (k4 63).trans rfl
  refine calls (f4_call (data := data) (cuts := cuts) e h1 (env exA 0) rfl) Tryz.func4 (by kernel_rfl) (c := codeOf Tryz.f4) rfl k1 (fun n l hn => k2 n l hn) (fun l hl1 _ => k3 l hl1) k3 (xs := [va, vb, vc, .bool e]) ?_ fun V' x w' _ hx hT => ?_
  · simp only [f4Vs, denL, den, k5, k6, k7, Option.bind_some, ros_den ha, ros_den hb, ros_den hc, Option.map_some]
  · have hx : den V' (.bool true true) = some x := hx
    simp only [den, Option.some.injEq] at hx
    subst hx
    exact ⟨rfl, hT.frame.os, hT.frame.tape, hT.frame.output, hT.frame.size, fun k hk => hT.frame.block k hk (fun h => h)⟩

end Go.Proofs.YtdhombdiakjdhaaGreatDoor.Kdp
end
