/- KdfKeys: runs. -/
import Derived.Test.YtdhombdiakjdhaaGreatDoorQP
section
open Go
set_option maxRecDepth 100000
namespace Go.Proofs.YtdhombdiakjdhaaGreatDoor.Sx

theorem f6_0 (c d : List Int) (n : Nat) :
  interp (env exN 4) Tryz.f6 true [true] 3000 (f6Vs c n) (f6T d) 100 100 =
  some { obl := [decide ((↑n : Int) > (20000 : Int)) = true], val := SV.bool true true } := by kernel_rfl
theorem f6_1 (c d : List Int) (n : Nat) :
  interp (env exN 4) Tryz.f6 true [false, false, false, false, false, false, false, false, false, false, false, false, false, false, false, false, false, false, false, false, false] 3000 (f6Vs c n) (f6T d) 100 100 =
  some
  {
    obl :=
      [false = false, (0 : Int) = (0 : Int), (0 : Nat) ≤ (1000000000000 : Nat),
        List.take (d.length + (70 : Nat)) (List.drop (0 : Nat) (d ++ List.replicate (70 : Nat) (171 : Int))) = d ++ List.replicate (70 : Nat) (171 : Int), d.length ≤ (1000000000 : Nat),
        (0 : Nat) + (d.length + (70 : Nat)) ≤ (d ++ List.replicate (70 : Nat) (171 : Int)).length ∧ d.length + (70 : Nat) ≤ d.length + (70 : Nat), (0 : Nat) = (0 : Nat),
        d.length + (70 : Nat) = d.length + (70 : Nat), d.length + (70 : Nat) = d.length + (70 : Nat),
        (0 : Nat) + (d.length + (70 : Nat)) ≤ (d ++ List.replicate (70 : Nat) (171 : Int)).length ∧ d.length + (70 : Nat) ≤ d.length + (70 : Nat),
        d.length + (70 : Nat) = (List.take (d.length + (70 : Nat)) (List.drop (0 : Nat) (d ++ List.replicate (70 : Nat) (171 : Int)))).length, n = n, d.length = d.length,
        List.take (d.length + (70 : Nat)) (List.drop (0 : Nat) (d ++ List.replicate (70 : Nat) (171 : Int))) = d ++ List.replicate (70 : Nat) (171 : Int),
        (0 : Nat) + (d.length + (70 : Nat)) ≤ (d ++ List.replicate (70 : Nat) (171 : Int)).length ∧ d.length + (70 : Nat) ≤ d.length + (70 : Nat), d = d,
        (!decide (D.kc c (List.take ((↑n : Int).toNat - (0 : Nat)) (List.drop (0 : Nat) (d ++ List.replicate (70 : Nat) (171 : Int)))) = D.kc c d)) = false,
        (D.kc c (List.take ((↑n : Int).toNat - (0 : Nat)) (List.drop (0 : Nat) (d ++ List.replicate (70 : Nat) (171 : Int))))).length = (32 : Nat) ∧ (D.kc c d).length = (32 : Nat),
        (D.kc c d).length = (32 : Nat), (D.kc c (List.take ((↑n : Int).toNat - (0 : Nat)) (List.drop (0 : Nat) (d ++ List.replicate (70 : Nat) (171 : Int))))).length = (32 : Nat),
        (!decide (D.kb c (List.take ((↑n : Int).toNat - (0 : Nat)) (List.drop (0 : Nat) (d ++ List.replicate (70 : Nat) (171 : Int)))) = D.kb c d)) = false,
        (D.kb c (List.take ((↑n : Int).toNat - (0 : Nat)) (List.drop (0 : Nat) (d ++ List.replicate (70 : Nat) (171 : Int))))).length = (32 : Nat) ∧ (D.kb c d).length = (32 : Nat),
        (D.kb c d).length = (32 : Nat), (D.kb c (List.take ((↑n : Int).toNat - (0 : Nat)) (List.drop (0 : Nat) (d ++ List.replicate (70 : Nat) (171 : Int))))).length = (32 : Nat),
        (!decide (D.ka c (List.take ((↑n : Int).toNat - (0 : Nat)) (List.drop (0 : Nat) (d ++ List.replicate (70 : Nat) (171 : Int)))) = D.ka c d)) = false,
        (D.ka c (List.take ((↑n : Int).toNat - (0 : Nat)) (List.drop (0 : Nat) (d ++ List.replicate (70 : Nat) (171 : Int))))).length = (32 : Nat) ∧ (D.ka c d).length = (32 : Nat),
        (D.ka c d).length = (32 : Nat), (D.ka c (List.take ((↑n : Int).toNat - (0 : Nat)) (List.drop (0 : Nat) (d ++ List.replicate (70 : Nat) (171 : Int))))).length = (32 : Nat),
        (!decide (D.kb c (List.take ((↑n : Int).toNat - (0 : Nat)) (List.drop (0 : Nat) (d ++ List.replicate (70 : Nat) (171 : Int)))) = D.kb c d)) = false,
        (D.kb c (List.take ((↑n : Int).toNat - (0 : Nat)) (List.drop (0 : Nat) (d ++ List.replicate (70 : Nat) (171 : Int))))).length = (32 : Nat) ∧ (D.kb c d).length = (32 : Nat),
        (D.kb c d).length = (32 : Nat), (D.kb c (List.take ((↑n : Int).toNat - (0 : Nat)) (List.drop (0 : Nat) (d ++ List.replicate (70 : Nat) (171 : Int))))).length = (32 : Nat),
        (!decide (D.ka c (List.take ((↑n : Int).toNat - (0 : Nat)) (List.drop (0 : Nat) (d ++ List.replicate (70 : Nat) (171 : Int)))) = D.ka c d)) = false,
        (D.ka c (List.take ((↑n : Int).toNat - (0 : Nat)) (List.drop (0 : Nat) (d ++ List.replicate (70 : Nat) (171 : Int))))).length = (32 : Nat) ∧ (D.ka c d).length = (32 : Nat),
        (D.ka c d).length = (32 : Nat), (D.ka c (List.take ((↑n : Int).toNat - (0 : Nat)) (List.drop (0 : Nat) (d ++ List.replicate (70 : Nat) (171 : Int))))).length = (32 : Nat),
        (D.kc c (List.take ((↑n : Int).toNat - (0 : Nat)) (List.drop (0 : Nat) (d ++ List.replicate (70 : Nat) (171 : Int))))).length = (32 : Nat),
        (D.kb c (List.take ((↑n : Int).toNat - (0 : Nat)) (List.drop (0 : Nat) (d ++ List.replicate (70 : Nat) (171 : Int))))).length = (32 : Nat),
        (D.ka c (List.take ((↑n : Int).toNat - (0 : Nat)) (List.drop (0 : Nat) (d ++ List.replicate (70 : Nat) (171 : Int))))).length = (32 : Nat), c.length = (32 : Nat),
        (List.take ((↑n : Int).toNat - (0 : Nat)) (List.drop (0 : Nat) (d ++ List.replicate (70 : Nat) (171 : Int)))).length ≤ (1000000000 : Nat), c = c, (0 : Nat) = (0 : Nat),
        (↑n : Int).toNat - (0 : Nat) = (↑n : Int).toNat - (0 : Nat), (↑(d.length + (70 : Nat)) : Int).toNat - (0 : Nat) = (↑(d.length + (70 : Nat)) : Int).toNat - (0 : Nat),
        (0 : Nat) + ((↑n : Int).toNat - (0 : Nat)) ≤ (d ++ List.replicate (70 : Nat) (171 : Int)).length ∧ (↑n : Int).toNat - (0 : Nat) ≤ (↑(d.length + (70 : Nat)) : Int).toNat - (0 : Nat),
        (List.take ((↑n : Int).toNat - (0 : Nat)) (List.drop (0 : Nat) (d ++ List.replicate (70 : Nat) (171 : Int)))).length =
          (List.take ((↑n : Int).toNat - (0 : Nat)) (List.drop (0 : Nat) (d ++ List.replicate (70 : Nat) (171 : Int)))).length,
        List.take ((↑n : Int).toNat - (0 : Nat)) (List.drop (0 : Nat) (d ++ List.replicate (70 : Nat) (171 : Int))) =
          List.take ((↑n : Int).toNat - (0 : Nat)) (List.drop (0 : Nat) (d ++ List.replicate (70 : Nat) (171 : Int))),
        (0 : Nat) + ((↑n : Int).toNat - (0 : Nat)) ≤ (d ++ List.replicate (70 : Nat) (171 : Int)).length ∧ (↑n : Int).toNat - (0 : Nat) ≤ (↑(d.length + (70 : Nat)) : Int).toNat - (0 : Nat),
        (0 : Int) ≤ (↑(d.length + (70 : Nat)) : Int) ∧
          (↑(d.length + (70 : Nat)) : Int) ≤ (↑(d.length + (70 : Nat)) : Int) ∧ (0 : Int) ≤ (↑n : Int) ∧ (↑n : Int) ≤ (↑(d.length + (70 : Nat)) : Int) ∧ (0 : Int) ≤ (0 : Int) ∧ (0 : Int) ≤ (↑n : Int),
        c.length = (32 : Nat), (D.kb c (List.take ((↑n : Int).toNat - (0 : Nat)) (List.drop (0 : Nat) (d ++ List.replicate (70 : Nat) (171 : Int))))).length = (32 : Nat),
        (D.ka c (List.take ((↑n : Int).toNat - (0 : Nat)) (List.drop (0 : Nat) (d ++ List.replicate (70 : Nat) (171 : Int))))).length = (32 : Nat), c.length = (32 : Nat),
        (List.take ((↑n : Int).toNat - (0 : Nat)) (List.drop (0 : Nat) (d ++ List.replicate (70 : Nat) (171 : Int)))).length ≤ (1000000000 : Nat), c = c, (0 : Nat) = (0 : Nat),
        (↑n : Int).toNat - (0 : Nat) = (↑n : Int).toNat - (0 : Nat), (↑(d.length + (70 : Nat)) : Int).toNat - (0 : Nat) = (↑(d.length + (70 : Nat)) : Int).toNat - (0 : Nat),
        (0 : Nat) + ((↑n : Int).toNat - (0 : Nat)) ≤ (d ++ List.replicate (70 : Nat) (171 : Int)).length ∧ (↑n : Int).toNat - (0 : Nat) ≤ (↑(d.length + (70 : Nat)) : Int).toNat - (0 : Nat),
        (List.take ((↑n : Int).toNat - (0 : Nat)) (List.drop (0 : Nat) (d ++ List.replicate (70 : Nat) (171 : Int)))).length =
          (List.take ((↑n : Int).toNat - (0 : Nat)) (List.drop (0 : Nat) (d ++ List.replicate (70 : Nat) (171 : Int)))).length,
        List.take ((↑n : Int).toNat - (0 : Nat)) (List.drop (0 : Nat) (d ++ List.replicate (70 : Nat) (171 : Int))) =
          List.take ((↑n : Int).toNat - (0 : Nat)) (List.drop (0 : Nat) (d ++ List.replicate (70 : Nat) (171 : Int))),
        (0 : Nat) + ((↑n : Int).toNat - (0 : Nat)) ≤ (d ++ List.replicate (70 : Nat) (171 : Int)).length ∧ (↑n : Int).toNat - (0 : Nat) ≤ (↑(d.length + (70 : Nat)) : Int).toNat - (0 : Nat),
        (0 : Int) ≤ (↑(d.length + (70 : Nat)) : Int) ∧
          (↑(d.length + (70 : Nat)) : Int) ≤ (↑(d.length + (70 : Nat)) : Int) ∧ (0 : Int) ≤ (↑n : Int) ∧ (↑n : Int) ≤ (↑(d.length + (70 : Nat)) : Int) ∧ (0 : Int) ≤ (0 : Int) ∧ (0 : Int) ≤ (↑n : Int),
        c.length = (32 : Nat), false = false, (0 : Int) = (0 : Int), (0 : Nat) ≤ (1000000000000 : Nat),
        List.take (d.length + (70 : Nat)) (List.drop (0 : Nat) (d ++ List.replicate (70 : Nat) (171 : Int))) = d ++ List.replicate (70 : Nat) (171 : Int), d.length ≤ (1000000000 : Nat),
        (0 : Nat) + (d.length + (70 : Nat)) ≤ (d ++ List.replicate (70 : Nat) (171 : Int)).length ∧ d.length + (70 : Nat) ≤ d.length + (70 : Nat), (0 : Nat) = (0 : Nat),
        d.length + (70 : Nat) = d.length + (70 : Nat), d.length + (70 : Nat) = d.length + (70 : Nat),
        (0 : Nat) + (d.length + (70 : Nat)) ≤ (d ++ List.replicate (70 : Nat) (171 : Int)).length ∧ d.length + (70 : Nat) ≤ d.length + (70 : Nat),
        d.length + (70 : Nat) = (List.take (d.length + (70 : Nat)) (List.drop (0 : Nat) (d ++ List.replicate (70 : Nat) (171 : Int)))).length, n = n, d.length = d.length,
        List.take (d.length + (70 : Nat)) (List.drop (0 : Nat) (d ++ List.replicate (70 : Nat) (171 : Int))) = d ++ List.replicate (70 : Nat) (171 : Int),
        (0 : Nat) + (d.length + (70 : Nat)) ≤ (d ++ List.replicate (70 : Nat) (171 : Int)).length ∧ d.length + (70 : Nat) ≤ d.length + (70 : Nat), d = d,
        (!decide (D.kc c (List.take ((↑n : Int).toNat - (0 : Nat)) (List.drop (0 : Nat) (d ++ List.replicate (70 : Nat) (171 : Int)))) = D.kc c d)) = false,
        (D.kc c (List.take ((↑n : Int).toNat - (0 : Nat)) (List.drop (0 : Nat) (d ++ List.replicate (70 : Nat) (171 : Int))))).length = (32 : Nat) ∧ (D.kc c d).length = (32 : Nat),
        (D.kc c d).length = (32 : Nat), (D.kc c (List.take ((↑n : Int).toNat - (0 : Nat)) (List.drop (0 : Nat) (d ++ List.replicate (70 : Nat) (171 : Int))))).length = (32 : Nat),
        (!decide (D.kb c (List.take ((↑n : Int).toNat - (0 : Nat)) (List.drop (0 : Nat) (d ++ List.replicate (70 : Nat) (171 : Int)))) = D.kb c d)) = false,
        (D.kb c (List.take ((↑n : Int).toNat - (0 : Nat)) (List.drop (0 : Nat) (d ++ List.replicate (70 : Nat) (171 : Int))))).length = (32 : Nat) ∧ (D.kb c d).length = (32 : Nat),
        (D.kb c d).length = (32 : Nat), (D.kb c (List.take ((↑n : Int).toNat - (0 : Nat)) (List.drop (0 : Nat) (d ++ List.replicate (70 : Nat) (171 : Int))))).length = (32 : Nat),
        (!decide (D.ka c (List.take ((↑n : Int).toNat - (0 : Nat)) (List.drop (0 : Nat) (d ++ List.replicate (70 : Nat) (171 : Int)))) = D.ka c d)) = false,
        (D.ka c (List.take ((↑n : Int).toNat - (0 : Nat)) (List.drop (0 : Nat) (d ++ List.replicate (70 : Nat) (171 : Int))))).length = (32 : Nat) ∧ (D.ka c d).length = (32 : Nat),
        (D.ka c d).length = (32 : Nat), (D.ka c (List.take ((↑n : Int).toNat - (0 : Nat)) (List.drop (0 : Nat) (d ++ List.replicate (70 : Nat) (171 : Int))))).length = (32 : Nat),
        (!decide (D.kb c (List.take ((↑n : Int).toNat - (0 : Nat)) (List.drop (0 : Nat) (d ++ List.replicate (70 : Nat) (171 : Int)))) = D.kb c d)) = false,
        (D.kb c (List.take ((↑n : Int).toNat - (0 : Nat)) (List.drop (0 : Nat) (d ++ List.replicate (70 : Nat) (171 : Int))))).length = (32 : Nat) ∧ (D.kb c d).length = (32 : Nat),
        (D.kb c d).length = (32 : Nat), (D.kb c (List.take ((↑n : Int).toNat - (0 : Nat)) (List.drop (0 : Nat) (d ++ List.replicate (70 : Nat) (171 : Int))))).length = (32 : Nat),
        (!decide (D.ka c (List.take ((↑n : Int).toNat - (0 : Nat)) (List.drop (0 : Nat) (d ++ List.replicate (70 : Nat) (171 : Int)))) = D.ka c d)) = false,
        (D.ka c (List.take ((↑n : Int).toNat - (0 : Nat)) (List.drop (0 : Nat) (d ++ List.replicate (70 : Nat) (171 : Int))))).length = (32 : Nat) ∧ (D.ka c d).length = (32 : Nat),
        (D.ka c d).length = (32 : Nat), (D.ka c (List.take ((↑n : Int).toNat - (0 : Nat)) (List.drop (0 : Nat) (d ++ List.replicate (70 : Nat) (171 : Int))))).length = (32 : Nat),
        (D.kc c (List.take ((↑n : Int).toNat - (0 : Nat)) (List.drop (0 : Nat) (d ++ List.replicate (70 : Nat) (171 : Int))))).length = (32 : Nat),
        (D.kb c (List.take ((↑n : Int).toNat - (0 : Nat)) (List.drop (0 : Nat) (d ++ List.replicate (70 : Nat) (171 : Int))))).length = (32 : Nat),
        (D.ka c (List.take ((↑n : Int).toNat - (0 : Nat)) (List.drop (0 : Nat) (d ++ List.replicate (70 : Nat) (171 : Int))))).length = (32 : Nat), c.length = (32 : Nat),
        (List.take ((↑n : Int).toNat - (0 : Nat)) (List.drop (0 : Nat) (d ++ List.replicate (70 : Nat) (171 : Int)))).length ≤ (1000000000 : Nat), c = c, (0 : Nat) = (0 : Nat),
        (↑n : Int).toNat - (0 : Nat) = (↑n : Int).toNat - (0 : Nat), (↑(d.length + (70 : Nat)) : Int).toNat - (0 : Nat) = (↑(d.length + (70 : Nat)) : Int).toNat - (0 : Nat),
        (0 : Nat) + ((↑n : Int).toNat - (0 : Nat)) ≤ (d ++ List.replicate (70 : Nat) (171 : Int)).length ∧ (↑n : Int).toNat - (0 : Nat) ≤ (↑(d.length + (70 : Nat)) : Int).toNat - (0 : Nat),
        (List.take ((↑n : Int).toNat - (0 : Nat)) (List.drop (0 : Nat) (d ++ List.replicate (70 : Nat) (171 : Int)))).length =
          (List.take ((↑n : Int).toNat - (0 : Nat)) (List.drop (0 : Nat) (d ++ List.replicate (70 : Nat) (171 : Int)))).length,
        List.take ((↑n : Int).toNat - (0 : Nat)) (List.drop (0 : Nat) (d ++ List.replicate (70 : Nat) (171 : Int))) =
          List.take ((↑n : Int).toNat - (0 : Nat)) (List.drop (0 : Nat) (d ++ List.replicate (70 : Nat) (171 : Int))),
        (0 : Nat) + ((↑n : Int).toNat - (0 : Nat)) ≤ (d ++ List.replicate (70 : Nat) (171 : Int)).length ∧ (↑n : Int).toNat - (0 : Nat) ≤ (↑(d.length + (70 : Nat)) : Int).toNat - (0 : Nat),
        (0 : Int) ≤ (↑(d.length + (70 : Nat)) : Int) ∧
          (↑(d.length + (70 : Nat)) : Int) ≤ (↑(d.length + (70 : Nat)) : Int) ∧ (0 : Int) ≤ (↑n : Int) ∧ (↑n : Int) ≤ (↑(d.length + (70 : Nat)) : Int) ∧ (0 : Int) ≤ (0 : Int) ∧ (0 : Int) ≤ (↑n : Int),
        c.length = (32 : Nat), (D.kb c (List.take ((↑n : Int).toNat - (0 : Nat)) (List.drop (0 : Nat) (d ++ List.replicate (70 : Nat) (171 : Int))))).length = (32 : Nat),
        (D.ka c (List.take ((↑n : Int).toNat - (0 : Nat)) (List.drop (0 : Nat) (d ++ List.replicate (70 : Nat) (171 : Int))))).length = (32 : Nat), c.length = (32 : Nat),
        (List.take ((↑n : Int).toNat - (0 : Nat)) (List.drop (0 : Nat) (d ++ List.replicate (70 : Nat) (171 : Int)))).length ≤ (1000000000 : Nat), c = c, (0 : Nat) = (0 : Nat),
        (↑n : Int).toNat - (0 : Nat) = (↑n : Int).toNat - (0 : Nat), (↑(d.length + (70 : Nat)) : Int).toNat - (0 : Nat) = (↑(d.length + (70 : Nat)) : Int).toNat - (0 : Nat),
        (0 : Nat) + ((↑n : Int).toNat - (0 : Nat)) ≤ (d ++ List.replicate (70 : Nat) (171 : Int)).length ∧ (↑n : Int).toNat - (0 : Nat) ≤ (↑(d.length + (70 : Nat)) : Int).toNat - (0 : Nat),
        (List.take ((↑n : Int).toNat - (0 : Nat)) (List.drop (0 : Nat) (d ++ List.replicate (70 : Nat) (171 : Int)))).length =
          (List.take ((↑n : Int).toNat - (0 : Nat)) (List.drop (0 : Nat) (d ++ List.replicate (70 : Nat) (171 : Int)))).length,
        List.take ((↑n : Int).toNat - (0 : Nat)) (List.drop (0 : Nat) (d ++ List.replicate (70 : Nat) (171 : Int))) =
          List.take ((↑n : Int).toNat - (0 : Nat)) (List.drop (0 : Nat) (d ++ List.replicate (70 : Nat) (171 : Int))),
        (0 : Nat) + ((↑n : Int).toNat - (0 : Nat)) ≤ (d ++ List.replicate (70 : Nat) (171 : Int)).length ∧ (↑n : Int).toNat - (0 : Nat) ≤ (↑(d.length + (70 : Nat)) : Int).toNat - (0 : Nat),
        (0 : Int) ≤ (↑(d.length + (70 : Nat)) : Int) ∧
          (↑(d.length + (70 : Nat)) : Int) ≤ (↑(d.length + (70 : Nat)) : Int) ∧ (0 : Int) ≤ (↑n : Int) ∧ (↑n : Int) ≤ (↑(d.length + (70 : Nat)) : Int) ∧ (0 : Int) ≤ (0 : Int) ∧ (0 : Int) ≤ (↑n : Int),
        c.length = (32 : Nat),
        List.take
            ((↑([] ++ D.chE (List.take ((↑n : Int).toNat - (0 : Nat)) (List.drop (0 : Nat) (d ++ List.replicate (70 : Nat) (171 : Int)))).length ++
                        D.thE (List.take ((↑n : Int).toNat - (0 : Nat)) (List.drop (0 : Nat) (d ++ List.replicate (70 : Nat) (171 : Int)))).length).length :
                  Int).toNat -
              (↑([] ++ D.chE (List.take ((↑n : Int).toNat - (0 : Nat)) (List.drop (0 : Nat) (d ++ List.replicate (70 : Nat) (171 : Int)))).length).length : Int).toNat)
            (List.drop (↑([] ++ D.chE (List.take ((↑n : Int).toNat - (0 : Nat)) (List.drop (0 : Nat) (d ++ List.replicate (70 : Nat) (171 : Int)))).length).length : Int).toNat
              ([] ++ D.chE (List.take ((↑n : Int).toNat - (0 : Nat)) (List.drop (0 : Nat) (d ++ List.replicate (70 : Nat) (171 : Int)))).length ++
                D.thE (List.take ((↑n : Int).toNat - (0 : Nat)) (List.drop (0 : Nat) (d ++ List.replicate (70 : Nat) (171 : Int)))).length)) =
          D.thE (↑n : Int).toNat,
        (D.thE (↑n : Int).toNat).length ≤ (1000000000000 : Nat),
        (↑([] ++ D.chE (List.take ((↑n : Int).toNat - (0 : Nat)) (List.drop (0 : Nat) (d ++ List.replicate (70 : Nat) (171 : Int)))).length ++
                      D.thE (List.take ((↑n : Int).toNat - (0 : Nat)) (List.drop (0 : Nat) (d ++ List.replicate (70 : Nat) (171 : Int)))).length).length :
                Int).toNat -
            (↑([] ++ D.chE (List.take ((↑n : Int).toNat - (0 : Nat)) (List.drop (0 : Nat) (d ++ List.replicate (70 : Nat) (171 : Int)))).length).length : Int).toNat =
          (↑([] ++ D.chE (List.take ((↑n : Int).toNat - (0 : Nat)) (List.drop (0 : Nat) (d ++ List.replicate (70 : Nat) (171 : Int)))).length ++
                      D.thE (List.take ((↑n : Int).toNat - (0 : Nat)) (List.drop (0 : Nat) (d ++ List.replicate (70 : Nat) (171 : Int)))).length).length :
                Int).toNat -
            (↑([] ++ D.chE (List.take ((↑n : Int).toNat - (0 : Nat)) (List.drop (0 : Nat) (d ++ List.replicate (70 : Nat) (171 : Int)))).length).length : Int).toNat,
        (D.thE (↑n : Int).toNat).length =
          (List.take
              ((↑([] ++ D.chE (List.take ((↑n : Int).toNat - (0 : Nat)) (List.drop (0 : Nat) (d ++ List.replicate (70 : Nat) (171 : Int)))).length ++
                          D.thE (List.take ((↑n : Int).toNat - (0 : Nat)) (List.drop (0 : Nat) (d ++ List.replicate (70 : Nat) (171 : Int)))).length).length :
                    Int).toNat -
                (↑([] ++ D.chE (List.take ((↑n : Int).toNat - (0 : Nat)) (List.drop (0 : Nat) (d ++ List.replicate (70 : Nat) (171 : Int)))).length).length : Int).toNat)
              (List.drop (↑([] ++ D.chE (List.take ((↑n : Int).toNat - (0 : Nat)) (List.drop (0 : Nat) (d ++ List.replicate (70 : Nat) (171 : Int)))).length).length : Int).toNat
                ([] ++ D.chE (List.take ((↑n : Int).toNat - (0 : Nat)) (List.drop (0 : Nat) (d ++ List.replicate (70 : Nat) (171 : Int)))).length ++
                  D.thE (List.take ((↑n : Int).toNat - (0 : Nat)) (List.drop (0 : Nat) (d ++ List.replicate (70 : Nat) (171 : Int)))).length))).length,
        (D.thE (↑n : Int).toNat).length = (D.thE (↑n : Int).toNat).length,
        List.take
            ((↑([] ++ D.chE (List.take ((↑n : Int).toNat - (0 : Nat)) (List.drop (0 : Nat) (d ++ List.replicate (70 : Nat) (171 : Int)))).length ++
                        D.thE (List.take ((↑n : Int).toNat - (0 : Nat)) (List.drop (0 : Nat) (d ++ List.replicate (70 : Nat) (171 : Int)))).length).length :
                  Int).toNat -
              (↑([] ++ D.chE (List.take ((↑n : Int).toNat - (0 : Nat)) (List.drop (0 : Nat) (d ++ List.replicate (70 : Nat) (171 : Int)))).length).length : Int).toNat)
            (List.drop (↑([] ++ D.chE (List.take ((↑n : Int).toNat - (0 : Nat)) (List.drop (0 : Nat) (d ++ List.replicate (70 : Nat) (171 : Int)))).length).length : Int).toNat
              ([] ++ D.chE (List.take ((↑n : Int).toNat - (0 : Nat)) (List.drop (0 : Nat) (d ++ List.replicate (70 : Nat) (171 : Int)))).length ++
                D.thE (List.take ((↑n : Int).toNat - (0 : Nat)) (List.drop (0 : Nat) (d ++ List.replicate (70 : Nat) (171 : Int)))).length)) =
          D.thE (↑n : Int).toNat,
        D.thE (↑n : Int).toNat = D.thE (↑n : Int).toNat, (↑n : Int).toNat ≤ (1000000000 : Nat), (↑n : Int) = (↑(↑n : Int).toNat : Int),
        (0 : Int) ≤ (↑([] ++ D.chE (List.take ((↑n : Int).toNat - (0 : Nat)) (List.drop (0 : Nat) (d ++ List.replicate (70 : Nat) (171 : Int)))).length).length : Int) ∧
          (↑([] ++ D.chE (List.take ((↑n : Int).toNat - (0 : Nat)) (List.drop (0 : Nat) (d ++ List.replicate (70 : Nat) (171 : Int)))).length).length : Int) ≤
              (↑([] ++ D.chE (List.take ((↑n : Int).toNat - (0 : Nat)) (List.drop (0 : Nat) (d ++ List.replicate (70 : Nat) (171 : Int)))).length ++
                      D.thE (List.take ((↑n : Int).toNat - (0 : Nat)) (List.drop (0 : Nat) (d ++ List.replicate (70 : Nat) (171 : Int)))).length).length :
                Int) ∧
            (↑([] ++ D.chE (List.take ((↑n : Int).toNat - (0 : Nat)) (List.drop (0 : Nat) (d ++ List.replicate (70 : Nat) (171 : Int)))).length ++
                      D.thE (List.take ((↑n : Int).toNat - (0 : Nat)) (List.drop (0 : Nat) (d ++ List.replicate (70 : Nat) (171 : Int)))).length).length :
                Int) ≤
              (↑([] ++ D.chE (List.take ((↑n : Int).toNat - (0 : Nat)) (List.drop (0 : Nat) (d ++ List.replicate (70 : Nat) (171 : Int)))).length ++
                      D.thE (List.take ((↑n : Int).toNat - (0 : Nat)) (List.drop (0 : Nat) (d ++ List.replicate (70 : Nat) (171 : Int)))).length).length :
                Int),
        List.take ((↑([] ++ D.chE (List.take ((↑n : Int).toNat - (0 : Nat)) (List.drop (0 : Nat) (d ++ List.replicate (70 : Nat) (171 : Int)))).length).length : Int).toNat - (0 : Nat))
            (List.drop (0 : Nat)
              ([] ++ D.chE (List.take ((↑n : Int).toNat - (0 : Nat)) (List.drop (0 : Nat) (d ++ List.replicate (70 : Nat) (171 : Int)))).length ++
                D.thE (List.take ((↑n : Int).toNat - (0 : Nat)) (List.drop (0 : Nat) (d ++ List.replicate (70 : Nat) (171 : Int)))).length)) =
          D.chE (↑n : Int).toNat,
        (D.chE (↑n : Int).toNat).length ≤ (1000000000000 : Nat),
        (↑([] ++ D.chE (List.take ((↑n : Int).toNat - (0 : Nat)) (List.drop (0 : Nat) (d ++ List.replicate (70 : Nat) (171 : Int)))).length).length : Int).toNat - (0 : Nat) =
          (↑([] ++ D.chE (List.take ((↑n : Int).toNat - (0 : Nat)) (List.drop (0 : Nat) (d ++ List.replicate (70 : Nat) (171 : Int)))).length).length : Int).toNat - (0 : Nat),
        (D.chE (↑n : Int).toNat).length =
          (List.take ((↑([] ++ D.chE (List.take ((↑n : Int).toNat - (0 : Nat)) (List.drop (0 : Nat) (d ++ List.replicate (70 : Nat) (171 : Int)))).length).length : Int).toNat - (0 : Nat))
              (List.drop (0 : Nat)
                ([] ++ D.chE (List.take ((↑n : Int).toNat - (0 : Nat)) (List.drop (0 : Nat) (d ++ List.replicate (70 : Nat) (171 : Int)))).length ++
                  D.thE (List.take ((↑n : Int).toNat - (0 : Nat)) (List.drop (0 : Nat) (d ++ List.replicate (70 : Nat) (171 : Int)))).length))).length,
        (D.chE (↑n : Int).toNat).length = (D.chE (↑n : Int).toNat).length,
        List.take ((↑([] ++ D.chE (List.take ((↑n : Int).toNat - (0 : Nat)) (List.drop (0 : Nat) (d ++ List.replicate (70 : Nat) (171 : Int)))).length).length : Int).toNat - (0 : Nat))
            (List.drop (0 : Nat)
              ([] ++ D.chE (List.take ((↑n : Int).toNat - (0 : Nat)) (List.drop (0 : Nat) (d ++ List.replicate (70 : Nat) (171 : Int)))).length ++
                D.thE (List.take ((↑n : Int).toNat - (0 : Nat)) (List.drop (0 : Nat) (d ++ List.replicate (70 : Nat) (171 : Int)))).length)) =
          D.chE (↑n : Int).toNat,
        D.chE (↑n : Int).toNat = D.chE (↑n : Int).toNat, (↑n : Int).toNat ≤ (1000000000 : Nat), (↑n : Int) = (↑(↑n : Int).toNat : Int),
        (0 : Int) ≤ (0 : Int) ∧
          (0 : Int) ≤ (↑([] ++ D.chE (List.take ((↑n : Int).toNat - (0 : Nat)) (List.drop (0 : Nat) (d ++ List.replicate (70 : Nat) (171 : Int)))).length).length : Int) ∧
            (↑([] ++ D.chE (List.take ((↑n : Int).toNat - (0 : Nat)) (List.drop (0 : Nat) (d ++ List.replicate (70 : Nat) (171 : Int)))).length).length : Int) ≤
              (↑([] ++ D.chE (List.take ((↑n : Int).toNat - (0 : Nat)) (List.drop (0 : Nat) (d ++ List.replicate (70 : Nat) (171 : Int)))).length ++
                      D.thE (List.take ((↑n : Int).toNat - (0 : Nat)) (List.drop (0 : Nat) (d ++ List.replicate (70 : Nat) (171 : Int)))).length).length :
                Int),
        decide
            ((↑([] ++ D.chE (List.take ((↑n : Int).toNat - (0 : Nat)) (List.drop (0 : Nat) (d ++ List.replicate (70 : Nat) (171 : Int)))).length).length : Int) >
              (↑([] ++ D.chE (List.take ((↑n : Int).toNat - (0 : Nat)) (List.drop (0 : Nat) (d ++ List.replicate (70 : Nat) (171 : Int)))).length ++
                      D.thE (List.take ((↑n : Int).toNat - (0 : Nat)) (List.drop (0 : Nat) (d ++ List.replicate (70 : Nat) (171 : Int)))).length).length :
                Int)) =
          false,
        (↑([] ++ D.chE (List.take ((↑n : Int).toNat - (0 : Nat)) (List.drop (0 : Nat) (d ++ List.replicate (70 : Nat) (171 : Int)))).length ++
                  D.thE (List.take ((↑n : Int).toNat - (0 : Nat)) (List.drop (0 : Nat) (d ++ List.replicate (70 : Nat) (171 : Int)))).length).length :
            Int) =
          (↑([] ++ D.chE (List.take ((↑n : Int).toNat - (0 : Nat)) (List.drop (0 : Nat) (d ++ List.replicate (70 : Nat) (171 : Int)))).length ++
                  D.thE (List.take ((↑n : Int).toNat - (0 : Nat)) (List.drop (0 : Nat) (d ++ List.replicate (70 : Nat) (171 : Int)))).length).length :
            Int),
        ([] ++ D.chE (List.take ((↑n : Int).toNat - (0 : Nat)) (List.drop (0 : Nat) (d ++ List.replicate (70 : Nat) (171 : Int)))).length ++
              D.thE (List.take ((↑n : Int).toNat - (0 : Nat)) (List.drop (0 : Nat) (d ++ List.replicate (70 : Nat) (171 : Int)))).length).length ≤
          (1000000000000 : Nat),
        List.take (d.length + (70 : Nat)) (List.drop (0 : Nat) (d ++ List.replicate (70 : Nat) (171 : Int))) = d ++ List.replicate (70 : Nat) (171 : Int), d.length ≤ (1000000000 : Nat),
        (0 : Nat) + (d.length + (70 : Nat)) ≤ (d ++ List.replicate (70 : Nat) (171 : Int)).length ∧ d.length + (70 : Nat) ≤ d.length + (70 : Nat), (0 : Nat) = (0 : Nat),
        d.length + (70 : Nat) = d.length + (70 : Nat), d.length + (70 : Nat) = d.length + (70 : Nat),
        (0 : Nat) + (d.length + (70 : Nat)) ≤ (d ++ List.replicate (70 : Nat) (171 : Int)).length ∧ d.length + (70 : Nat) ≤ d.length + (70 : Nat),
        d.length + (70 : Nat) = (List.take (d.length + (70 : Nat)) (List.drop (0 : Nat) (d ++ List.replicate (70 : Nat) (171 : Int)))).length, n = n, d.length = d.length,
        List.take (d.length + (70 : Nat)) (List.drop (0 : Nat) (d ++ List.replicate (70 : Nat) (171 : Int))) = d ++ List.replicate (70 : Nat) (171 : Int),
        (0 : Nat) + (d.length + (70 : Nat)) ≤ (d ++ List.replicate (70 : Nat) (171 : Int)).length ∧ d.length + (70 : Nat) ≤ d.length + (70 : Nat), d = d,
        (!decide (D.kc c (List.take ((↑n : Int).toNat - (0 : Nat)) (List.drop (0 : Nat) (d ++ List.replicate (70 : Nat) (171 : Int)))) = D.kc c d)) = false,
        (D.kc c (List.take ((↑n : Int).toNat - (0 : Nat)) (List.drop (0 : Nat) (d ++ List.replicate (70 : Nat) (171 : Int))))).length = (32 : Nat) ∧ (D.kc c d).length = (32 : Nat),
        (D.kc c d).length = (32 : Nat), (D.kc c (List.take ((↑n : Int).toNat - (0 : Nat)) (List.drop (0 : Nat) (d ++ List.replicate (70 : Nat) (171 : Int))))).length = (32 : Nat),
        (!decide (D.kb c (List.take ((↑n : Int).toNat - (0 : Nat)) (List.drop (0 : Nat) (d ++ List.replicate (70 : Nat) (171 : Int)))) = D.kb c d)) = false,
        (D.kb c (List.take ((↑n : Int).toNat - (0 : Nat)) (List.drop (0 : Nat) (d ++ List.replicate (70 : Nat) (171 : Int))))).length = (32 : Nat) ∧ (D.kb c d).length = (32 : Nat),
        (D.kb c d).length = (32 : Nat), (D.kb c (List.take ((↑n : Int).toNat - (0 : Nat)) (List.drop (0 : Nat) (d ++ List.replicate (70 : Nat) (171 : Int))))).length = (32 : Nat),
        (!decide (D.ka c (List.take ((↑n : Int).toNat - (0 : Nat)) (List.drop (0 : Nat) (d ++ List.replicate (70 : Nat) (171 : Int)))) = D.ka c d)) = false,
        (D.ka c (List.take ((↑n : Int).toNat - (0 : Nat)) (List.drop (0 : Nat) (d ++ List.replicate (70 : Nat) (171 : Int))))).length = (32 : Nat) ∧ (D.ka c d).length = (32 : Nat),
        (D.ka c d).length = (32 : Nat), (D.ka c (List.take ((↑n : Int).toNat - (0 : Nat)) (List.drop (0 : Nat) (d ++ List.replicate (70 : Nat) (171 : Int))))).length = (32 : Nat),
        (!decide (D.kb c (List.take ((↑n : Int).toNat - (0 : Nat)) (List.drop (0 : Nat) (d ++ List.replicate (70 : Nat) (171 : Int)))) = D.kb c d)) = false,
        (D.kb c (List.take ((↑n : Int).toNat - (0 : Nat)) (List.drop (0 : Nat) (d ++ List.replicate (70 : Nat) (171 : Int))))).length = (32 : Nat) ∧ (D.kb c d).length = (32 : Nat),
        (D.kb c d).length = (32 : Nat), (D.kb c (List.take ((↑n : Int).toNat - (0 : Nat)) (List.drop (0 : Nat) (d ++ List.replicate (70 : Nat) (171 : Int))))).length = (32 : Nat),
        (!decide (D.ka c (List.take ((↑n : Int).toNat - (0 : Nat)) (List.drop (0 : Nat) (d ++ List.replicate (70 : Nat) (171 : Int)))) = D.ka c d)) = false,
        (D.ka c (List.take ((↑n : Int).toNat - (0 : Nat)) (List.drop (0 : Nat) (d ++ List.replicate (70 : Nat) (171 : Int))))).length = (32 : Nat) ∧ (D.ka c d).length = (32 : Nat),
        (D.ka c d).length = (32 : Nat), (D.ka c (List.take ((↑n : Int).toNat - (0 : Nat)) (List.drop (0 : Nat) (d ++ List.replicate (70 : Nat) (171 : Int))))).length = (32 : Nat),
        (D.kc c (List.take ((↑n : Int).toNat - (0 : Nat)) (List.drop (0 : Nat) (d ++ List.replicate (70 : Nat) (171 : Int))))).length = (32 : Nat),
        (D.kb c (List.take ((↑n : Int).toNat - (0 : Nat)) (List.drop (0 : Nat) (d ++ List.replicate (70 : Nat) (171 : Int))))).length = (32 : Nat),
        (D.ka c (List.take ((↑n : Int).toNat - (0 : Nat)) (List.drop (0 : Nat) (d ++ List.replicate (70 : Nat) (171 : Int))))).length = (32 : Nat), c.length = (32 : Nat),
        (List.take ((↑n : Int).toNat - (0 : Nat)) (List.drop (0 : Nat) (d ++ List.replicate (70 : Nat) (171 : Int)))).length ≤ (1000000000 : Nat),
        ([] ++ D.chE (List.take ((↑n : Int).toNat - (0 : Nat)) (List.drop (0 : Nat) (d ++ List.replicate (70 : Nat) (171 : Int)))).length).length +
              (10 : Nat) * (List.take ((↑n : Int).toNat - (0 : Nat)) (List.drop (0 : Nat) (d ++ List.replicate (70 : Nat) (171 : Int)))).length +
            (100000 : Nat) ≤
          (1000000000000 : Nat),
        c = c, (0 : Nat) = (0 : Nat), (↑n : Int).toNat - (0 : Nat) = (↑n : Int).toNat - (0 : Nat),
        (↑(d.length + (70 : Nat)) : Int).toNat - (0 : Nat) = (↑(d.length + (70 : Nat)) : Int).toNat - (0 : Nat),
        (0 : Nat) + ((↑n : Int).toNat - (0 : Nat)) ≤ (d ++ List.replicate (70 : Nat) (171 : Int)).length ∧ (↑n : Int).toNat - (0 : Nat) ≤ (↑(d.length + (70 : Nat)) : Int).toNat - (0 : Nat),
        (List.take ((↑n : Int).toNat - (0 : Nat)) (List.drop (0 : Nat) (d ++ List.replicate (70 : Nat) (171 : Int)))).length =
          (List.take ((↑n : Int).toNat - (0 : Nat)) (List.drop (0 : Nat) (d ++ List.replicate (70 : Nat) (171 : Int)))).length,
        List.take ((↑n : Int).toNat - (0 : Nat)) (List.drop (0 : Nat) (d ++ List.replicate (70 : Nat) (171 : Int))) =
          List.take ((↑n : Int).toNat - (0 : Nat)) (List.drop (0 : Nat) (d ++ List.replicate (70 : Nat) (171 : Int))),
        (0 : Nat) + ((↑n : Int).toNat - (0 : Nat)) ≤ (d ++ List.replicate (70 : Nat) (171 : Int)).length ∧ (↑n : Int).toNat - (0 : Nat) ≤ (↑(d.length + (70 : Nat)) : Int).toNat - (0 : Nat),
        (↑([] ++ D.chE (List.take ((↑n : Int).toNat - (0 : Nat)) (List.drop (0 : Nat) (d ++ List.replicate (70 : Nat) (171 : Int)))).length).length : Int) =
          (↑([] ++ D.chE (List.take ((↑n : Int).toNat - (0 : Nat)) (List.drop (0 : Nat) (d ++ List.replicate (70 : Nat) (171 : Int)))).length).length : Int),
        [] ++ D.chE (List.take ((↑n : Int).toNat - (0 : Nat)) (List.drop (0 : Nat) (d ++ List.replicate (70 : Nat) (171 : Int)))).length =
          [] ++ D.chE (List.take ((↑n : Int).toNat - (0 : Nat)) (List.drop (0 : Nat) (d ++ List.replicate (70 : Nat) (171 : Int)))).length,
        (0 : Int) ≤ (↑(d.length + (70 : Nat)) : Int) ∧
          (↑(d.length + (70 : Nat)) : Int) ≤ (↑(d.length + (70 : Nat)) : Int) ∧ (0 : Int) ≤ (↑n : Int) ∧ (↑n : Int) ≤ (↑(d.length + (70 : Nat)) : Int) ∧ (0 : Int) ≤ (0 : Int) ∧ (0 : Int) ≤ (↑n : Int),
        c.length = (32 : Nat), (D.kb c (List.take ((↑n : Int).toNat - (0 : Nat)) (List.drop (0 : Nat) (d ++ List.replicate (70 : Nat) (171 : Int))))).length = (32 : Nat),
        (D.ka c (List.take ((↑n : Int).toNat - (0 : Nat)) (List.drop (0 : Nat) (d ++ List.replicate (70 : Nat) (171 : Int))))).length = (32 : Nat), c.length = (32 : Nat),
        (List.take ((↑n : Int).toNat - (0 : Nat)) (List.drop (0 : Nat) (d ++ List.replicate (70 : Nat) (171 : Int)))).length ≤ (1000000000 : Nat),
        (0 : Nat) + (10 : Nat) * (List.take ((↑n : Int).toNat - (0 : Nat)) (List.drop (0 : Nat) (d ++ List.replicate (70 : Nat) (171 : Int)))).length + (100000 : Nat) ≤ (1000000000000 : Nat), c = c,
        (0 : Nat) = (0 : Nat), (↑n : Int).toNat - (0 : Nat) = (↑n : Int).toNat - (0 : Nat), (↑(d.length + (70 : Nat)) : Int).toNat - (0 : Nat) = (↑(d.length + (70 : Nat)) : Int).toNat - (0 : Nat),
        (0 : Nat) + ((↑n : Int).toNat - (0 : Nat)) ≤ (d ++ List.replicate (70 : Nat) (171 : Int)).length ∧ (↑n : Int).toNat - (0 : Nat) ≤ (↑(d.length + (70 : Nat)) : Int).toNat - (0 : Nat),
        (List.take ((↑n : Int).toNat - (0 : Nat)) (List.drop (0 : Nat) (d ++ List.replicate (70 : Nat) (171 : Int)))).length =
          (List.take ((↑n : Int).toNat - (0 : Nat)) (List.drop (0 : Nat) (d ++ List.replicate (70 : Nat) (171 : Int)))).length,
        List.take ((↑n : Int).toNat - (0 : Nat)) (List.drop (0 : Nat) (d ++ List.replicate (70 : Nat) (171 : Int))) =
          List.take ((↑n : Int).toNat - (0 : Nat)) (List.drop (0 : Nat) (d ++ List.replicate (70 : Nat) (171 : Int))),
        (0 : Nat) + ((↑n : Int).toNat - (0 : Nat)) ≤ (d ++ List.replicate (70 : Nat) (171 : Int)).length ∧ (↑n : Int).toNat - (0 : Nat) ≤ (↑(d.length + (70 : Nat)) : Int).toNat - (0 : Nat),
        (0 : Int) = (0 : Int), ([] : List (Int × Int)) = [],
        (0 : Int) ≤ (↑(d.length + (70 : Nat)) : Int) ∧
          (↑(d.length + (70 : Nat)) : Int) ≤ (↑(d.length + (70 : Nat)) : Int) ∧ (0 : Int) ≤ (↑n : Int) ∧ (↑n : Int) ≤ (↑(d.length + (70 : Nat)) : Int) ∧ (0 : Int) ≤ (0 : Int) ∧ (0 : Int) ≤ (↑n : Int),
        c.length = (32 : Nat), (D.kc c d).length = (32 : Nat), (D.kb c d).length = (32 : Nat), (D.ka c d).length = (32 : Nat), Bts c, c.length = (32 : Nat), Bts d, d.length ≤ (100000000 : Nat), c = c,
        n = n, d.length = d.length, d = d, c.length = (32 : Nat), (D.kb c d).length = (32 : Nat), (D.ka c d).length = (32 : Nat), Bts c, c.length = (32 : Nat), Bts d, d.length ≤ (100000000 : Nat),
        c = c, n = n, d.length = d.length, d = d, c.length = (32 : Nat), d.length ≤ (1000000000 : Nat), n = n, d.length = d.length, d = d, decide ((↑n : Int) > (20000 : Int)) = false],
    val := SV.bool true true } := by kernel_rfl
end Go.Proofs.YtdhombdiakjdhaaGreatDoor.Sx
end
