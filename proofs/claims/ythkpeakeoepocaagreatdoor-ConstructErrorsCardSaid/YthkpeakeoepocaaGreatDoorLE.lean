/- quadformlaw30.ConstructErrors returns true at every input: dimensions and determinants out of range are refused. -/
import Derived.Test.YthkpeakeoepocaaGreatDoorLEB
import Derived.Test.YthkpeakeoepocaaGreatDoorLEC
namespace Go.Proofs.YthkpeakeoepocaaGreatDoor
set_option linter.unusedSimpArgs false
set_option linter.unusedVariables false
open Go Go.AL Go.Proofs
set_option maxRecDepth 100000

theorem law_ret (n d : Int) (small : Bool) : Ret Tryz.prog G 3 [.int .i64 n, .int .i64 d, .bool small] [] (.bool true) [] := by
  cases small
  · cases h0 : decide (n < 1) with
    | true => exact law_00 n d h0
    | false =>
    cases h1 : decide (n > 8) with
    | true => exact law_01 n d h0 h1
    | false =>
    cases h2 : decide (d < 1) with
    | true => exact law_02 n d h0 h1 h2
    | false =>
    cases h3 : decide (d > 10000) with
    | true => exact law_03 n d h0 h1 h2 h3
    | false =>
    cases h4 : decide (n > 3) with
    | true => exact law_04 n d h0 h1 h2 h3 h4
    | false =>
    cases h5 : decide (d > 200) with
    | true => exact law_05 n d h0 h1 h2 h3 h4 h5
    | false =>
    exact law_06 n d h0 h1 h2 h3 h4 h5
  · cases h0 : decide ((n.tmod 10) < 1) with
    | true => exact law_10 n d h0
    | false =>
    cases h1 : decide ((n.tmod 10) > 8) with
    | true => exact law_11 n d h0 h1
    | false =>
    cases h2 : decide ((d.tmod 11000) < 1) with
    | true => exact law_12 n d h0 h1 h2
    | false =>
    cases h3 : decide ((d.tmod 11000) > 10000) with
    | true => exact law_13 n d h0 h1 h2 h3
    | false =>
    cases h4 : decide ((n.tmod 10) > 3) with
    | true => exact law_14 n d h0 h1 h2 h3 h4
    | false =>
    cases h5 : decide ((d.tmod 11000) > 200) with
    | true => exact law_15 n d h0 h1 h2 h3 h4 h5
    | false =>
    exact law_16 n d h0 h1 h2 h3 h4 h5
end Go.Proofs.YthkpeakeoepocaaGreatDoor
