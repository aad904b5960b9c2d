/- Results of some calls, by the kernel (genmemo.py). -/
import Derived.Test.YthkpeakeoepocaaGreatDoorXC
namespace Go.Proofs.YthkpeakeoepocaaGreatDoor.OO
set_option linter.unusedSimpArgs false
set_option linter.unusedVariables false
open Go Go.AL Go.Proofs
set_option maxRecDepth 1000000
def a5 : List AV := [(.int .i64 (.ofNat 2)), (.int .i64 (.ofNat 3))]
def v5 : AV := (.tup [(.vec [(.vec [(.vec [(.int .i64 (.ofNat 1)), (.int .i64 (.ofNat 0))] 2 (some 2)), (.vec [(.int .i64 (.ofNat 0)), (.int .i64 (.ofNat 3))] 2 (some 2))] 2 (some 2)), (.vec [(.vec [(.int .i64 (.ofNat 2)), (.int .i64 (.ofNat 1))] 2 (some 2)), (.vec [(.int .i64 (.ofNat 1)), (.int .i64 (.ofNat 2))] 2 (some 2))] 2 (some 2))] 2 none), (.int .i64 (.ofNat 0))])
theorem m5 : Ret Tryz.prog G 8 a5 [] v5 [] := run_ok (n := 1000) (by kernel_rfl)
def a8 : List AV := [(.int .i64 (.ofNat 2)), (.int .i64 (.ofNat 4))]
def v8 : AV := (.tup [(.vec [(.vec [(.vec [(.int .i64 (.ofNat 1)), (.int .i64 (.ofNat 0))] 2 (some 2)), (.vec [(.int .i64 (.ofNat 0)), (.int .i64 (.ofNat 4))] 2 (some 2))] 2 (some 2)), (.vec [(.vec [(.int .i64 (.ofNat 2)), (.int .i64 (.ofNat 0))] 2 (some 2)), (.vec [(.int .i64 (.ofNat 0)), (.int .i64 (.ofNat 2))] 2 (some 2))] 2 (some 2))] 2 none), (.int .i64 (.ofNat 0))])
theorem m8 : Ret Tryz.prog G 8 a8 [] v8 [] := run_ok (n := 1000) (by kernel_rfl)
def a29 : List AV := [(.vec [(.vec [(.int .i64 (.ofNat 1)), (.int .i64 (.ofNat 0))] 2 (some 2)), (.vec [(.int .i64 (.ofNat 0)), (.int .i64 (.ofNat 10))] 2 (some 2))] 2 (some 2)), (.int .i64 (.ofNat 200000))]
def v29 : AV := (.tup [(.agg [(.bool false), (.vec [(.int .u32 (.ofNat 4))] 1 (some 2))]), (.int .i64 (.ofNat 0))])
theorem m29 : Ret Tryz.prog G 13 a29 [] v29 [] := run_ok (n := 1000) (by kernel_rfl)
def a54 : List AV := [(.vec [(.vec [(.int .i64 (.ofNat 2)), (.int .i64 (.ofNat 0))] 2 (some 2)), (.vec [(.int .i64 (.ofNat 0)), (.int .i64 (.ofNat 8))] 2 (some 2))] 2 (some 2)), (.int .i64 (.ofNat 200000))]
def v54 : AV := (.tup [(.agg [(.bool false), (.vec [(.int .u32 (.ofNat 4))] 1 (some 2))]), (.int .i64 (.ofNat 0))])
theorem m54 : Ret Tryz.prog G 13 a54 [] v54 [] := run_ok (n := 1000) (by kernel_rfl)
def a112 : List AV := [(.vec [(.vec [(.int .i64 (.ofNat 2)), (.int .i64 (.ofNat 0))] 2 (some 2)), (.vec [(.int .i64 (.ofNat 0)), (.int .i64 (.ofNat 14))] 2 (some 2))] 2 (some 2)), (.int .i64 (.ofNat 200000))]
def v112 : AV := (.tup [(.agg [(.bool false), (.vec [(.int .u32 (.ofNat 4))] 1 (some 2))]), (.int .i64 (.ofNat 0))])
theorem m112 : Ret Tryz.prog G 13 a112 [] v112 [] := run_ok (n := 1000) (by kernel_rfl)
def a137 : List AV := [(.int .i64 (.ofNat 2)), (.int .i64 (.ofNat 33))]
def v137 : AV := (.tup [(.vec [(.vec [(.vec [(.int .i64 (.ofNat 1)), (.int .i64 (.ofNat 0))] 2 (some 2)), (.vec [(.int .i64 (.ofNat 0)), (.int .i64 (.ofNat 33))] 2 (some 2))] 2 (some 2)), (.vec [(.vec [(.int .i64 (.ofNat 2)), (.int .i64 (.ofNat 1))] 2 (some 2)), (.vec [(.int .i64 (.ofNat 1)), (.int .i64 (.ofNat 17))] 2 (some 2))] 2 (some 2)), (.vec [(.vec [(.int .i64 (.ofNat 3)), (.int .i64 (.ofNat 0))] 2 (some 2)), (.vec [(.int .i64 (.ofNat 0)), (.int .i64 (.ofNat 11))] 2 (some 2))] 2 (some 2)), (.vec [(.vec [(.int .i64 (.ofNat 6)), (.int .i64 (.ofNat 3))] 2 (some 2)), (.vec [(.int .i64 (.ofNat 3)), (.int .i64 (.ofNat 7))] 2 (some 2))] 2 (some 2))] 4 none), (.int .i64 (.ofNat 0))])
theorem m137 : Ret Tryz.prog G 8 a137 [] v137 [] := run_ok (n := 1000) (by kernel_rfl)
def a147 : List AV := [(.vec [(.vec [(.int .i64 (.ofNat 1)), (.int .i64 (.ofNat 0))] 2 (some 2)), (.vec [(.int .i64 (.ofNat 0)), (.int .i64 (.ofNat 35))] 2 (some 2))] 2 (some 2)), (.int .i64 (.ofNat 200000))]
def v147 : AV := (.tup [(.agg [(.bool false), (.vec [(.int .u32 (.ofNat 4))] 1 (some 2))]), (.int .i64 (.ofNat 0))])
theorem m147 : Ret Tryz.prog G 13 a147 [] v147 [] := run_ok (n := 1000) (by kernel_rfl)
def a158 : List AV := [(.vec [(.vec [(.int .i64 (.ofNat 4)), (.int .i64 (.ofNat 2))] 2 (some 2)), (.vec [(.int .i64 (.ofNat 2)), (.int .i64 (.ofNat 10))] 2 (some 2))] 2 (some 2)), (.int .i64 (.ofNat 200000))]
def v158 : AV := (.tup [(.agg [(.bool false), (.vec [(.int .u32 (.ofNat 4))] 1 (some 2))]), (.int .i64 (.ofNat 0))])
theorem m158 : Ret Tryz.prog G 13 a158 [] v158 [] := run_ok (n := 1000) (by kernel_rfl)
def a182 : List AV := [(.vec [(.vec [(.int .i64 (.ofNat 7)), (.int .i64 (.ofNat 3))] 2 (some 2)), (.vec [(.int .i64 (.ofNat 3)), (.int .i64 (.ofNat 7))] 2 (some 2))] 2 (some 2)), (.int .i64 (.ofNat 200000))]
def v182 : AV := (.tup [(.agg [(.bool false), (.vec [(.int .u32 (.ofNat 4))] 1 (some 2))]), (.int .i64 (.ofNat 0))])
theorem m182 : Ret Tryz.prog G 13 a182 [] v182 [] := run_ok (n := 1000) (by kernel_rfl)
def a205 : List AV := [(.vec [(.vec [(.int .i64 (.ofNat 6)), (.int .i64 (.ofNat 2))] 2 (some 2)), (.vec [(.int .i64 (.ofNat 2)), (.int .i64 (.ofNat 8))] 2 (some 2))] 2 (some 2)), (.int .i64 (.ofNat 200000))]
def v205 : AV := (.tup [(.agg [(.bool false), (.vec [(.int .u32 (.ofNat 2))] 1 (some 2))]), (.int .i64 (.ofNat 0))])
theorem m205 : Ret Tryz.prog G 13 a205 [] v205 [] := run_ok (n := 1000) (by kernel_rfl)
def a218 : List AV := [(.vec [(.vec [(.int .i64 (.ofNat 1)), (.int .i64 (.ofNat 0))] 2 (some 2)), (.vec [(.int .i64 (.ofNat 0)), (.int .i64 (.ofNat 47))] 2 (some 2))] 2 (some 2)), (.int .i64 (.ofNat 200000))]
def v218 : AV := (.tup [(.agg [(.bool false), (.vec [(.int .u32 (.ofNat 4))] 1 (some 2))]), (.int .i64 (.ofNat 0))])
theorem m218 : Ret Tryz.prog G 13 a218 [] v218 [] := run_ok (n := 1000) (by kernel_rfl)
def a220 : List AV := [(.vec [(.vec [(.int .i64 (.ofNat 3)), (.int .i64 (.ofNat 1))] 2 (some 2)), (.vec [(.int .i64 (.ofNat 1)), (.int .i64 (.ofNat 16))] 2 (some 2))] 2 (some 2)), (.int .i64 (.ofNat 200000))]
def v220 : AV := (.tup [(.agg [(.bool false), (.vec [(.int .u32 (.ofNat 2))] 1 (some 2))]), (.int .i64 (.ofNat 0))])
theorem m220 : Ret Tryz.prog G 13 a220 [] v220 [] := run_ok (n := 1000) (by kernel_rfl)
def a221 : List AV := [(.vec [(.vec [(.int .i64 (.ofNat 4)), (.int .i64 (.ofNat 1))] 2 (some 2)), (.vec [(.int .i64 (.ofNat 1)), (.int .i64 (.ofNat 12))] 2 (some 2))] 2 (some 2)), (.int .i64 (.ofNat 200000))]
def v221 : AV := (.tup [(.agg [(.bool false), (.vec [(.int .u32 (.ofNat 2))] 1 (some 2))]), (.int .i64 (.ofNat 0))])
theorem m221 : Ret Tryz.prog G 13 a221 [] v221 [] := run_ok (n := 1000) (by kernel_rfl)
def a224 : List AV := [(.int .i64 (.ofNat 2)), (.int .i64 (.ofNat 48))]
def v224 : AV := (.tup [(.vec [(.vec [(.vec [(.int .i64 (.ofNat 1)), (.int .i64 (.ofNat 0))] 2 (some 2)), (.vec [(.int .i64 (.ofNat 0)), (.int .i64 (.ofNat 48))] 2 (some 2))] 2 (some 2)), (.vec [(.vec [(.int .i64 (.ofNat 2)), (.int .i64 (.ofNat 0))] 2 (some 2)), (.vec [(.int .i64 (.ofNat 0)), (.int .i64 (.ofNat 24))] 2 (some 2))] 2 (some 2)), (.vec [(.vec [(.int .i64 (.ofNat 3)), (.int .i64 (.ofNat 0))] 2 (some 2)), (.vec [(.int .i64 (.ofNat 0)), (.int .i64 (.ofNat 16))] 2 (some 2))] 2 (some 2)), (.vec [(.vec [(.int .i64 (.ofNat 4)), (.int .i64 (.ofNat 0))] 2 (some 2)), (.vec [(.int .i64 (.ofNat 0)), (.int .i64 (.ofNat 12))] 2 (some 2))] 2 (some 2)), (.vec [(.vec [(.int .i64 (.ofNat 4)), (.int .i64 (.ofNat 2))] 2 (some 2)), (.vec [(.int .i64 (.ofNat 2)), (.int .i64 (.ofNat 13))] 2 (some 2))] 2 (some 2)), (.vec [(.vec [(.int .i64 (.ofNat 6)), (.int .i64 (.ofNat 0))] 2 (some 2)), (.vec [(.int .i64 (.ofNat 0)), (.int .i64 (.ofNat 8))] 2 (some 2))] 2 (some 2)), (.vec [(.vec [(.int .i64 (.ofNat 7)), (.int .i64 (.ofNat 1))] 2 (some 2)), (.vec [(.int .i64 (.ofNat 1)), (.int .i64 (.ofNat 7))] 2 (some 2))] 2 (some 2)), (.vec [(.vec [(.int .i64 (.ofNat 8)), (.int .i64 (.ofNat 4))] 2 (some 2)), (.vec [(.int .i64 (.ofNat 4)), (.int .i64 (.ofNat 8))] 2 (some 2))] 2 (some 2))] 8 none), (.int .i64 (.ofNat 0))])
theorem m224 : Ret Tryz.prog G 8 a224 [] v224 [] := run_ok (n := 1000) (by kernel_rfl)
def a230 : List AV := [(.vec [(.vec [(.int .i64 (.ofNat 6)), (.int .i64 (.ofNat 0))] 2 (some 2)), (.vec [(.int .i64 (.ofNat 0)), (.int .i64 (.ofNat 8))] 2 (some 2))] 2 (some 2)), (.int .i64 (.ofNat 200000))]
def v230 : AV := (.tup [(.agg [(.bool false), (.vec [(.int .u32 (.ofNat 4))] 1 (some 2))]), (.int .i64 (.ofNat 0))])
theorem m230 : Ret Tryz.prog G 13 a230 [] v230 [] := run_ok (n := 1000) (by kernel_rfl)
def a256 : List AV := [(.vec [(.vec [(.int .i64 (.ofNat 7)), (.int .i64 (.ofNat 2))] 2 (some 2)), (.vec [(.int .i64 (.ofNat 2)), (.int .i64 (.ofNat 8))] 2 (some 2))] 2 (some 2)), (.int .i64 (.ofNat 200000))]
def v256 : AV := (.tup [(.agg [(.bool false), (.vec [(.int .u32 (.ofNat 2))] 1 (some 2))]), (.int .i64 (.ofNat 0))])
theorem m256 : Ret Tryz.prog G 13 a256 [] v256 [] := run_ok (n := 1000) (by kernel_rfl)
def a259 : List AV := [(.vec [(.vec [(.int .i64 (.ofNat 2)), (.int .i64 (.ofNat 1))] 2 (some 2)), (.vec [(.int .i64 (.ofNat 1)), (.int .i64 (.ofNat 27))] 2 (some 2))] 2 (some 2)), (.int .i64 (.ofNat 200000))]
def v259 : AV := (.tup [(.agg [(.bool false), (.vec [(.int .u32 (.ofNat 4))] 1 (some 2))]), (.int .i64 (.ofNat 0))])
theorem m259 : Ret Tryz.prog G 13 a259 [] v259 [] := run_ok (n := 1000) (by kernel_rfl)
def a273 : List AV := [(.vec [(.vec [(.int .i64 (.ofNat 5)), (.int .i64 (.ofNat 0))] 2 (some 2)), (.vec [(.int .i64 (.ofNat 0)), (.int .i64 (.ofNat 11))] 2 (some 2))] 2 (some 2)), (.int .i64 (.ofNat 200000))]
def v273 : AV := (.tup [(.agg [(.bool false), (.vec [(.int .u32 (.ofNat 4))] 1 (some 2))]), (.int .i64 (.ofNat 0))])
theorem m273 : Ret Tryz.prog G 13 a273 [] v273 [] := run_ok (n := 1000) (by kernel_rfl)
def a292 : List AV := [(.vec [(.vec [(.int .i64 (.ofNat 1)), (.int .i64 (.ofNat 0))] 2 (some 2)), (.vec [(.int .i64 (.ofNat 0)), (.int .i64 (.ofNat 58))] 2 (some 2))] 2 (some 2)), (.int .i64 (.ofNat 200000))]
def v292 : AV := (.tup [(.agg [(.bool false), (.vec [(.int .u32 (.ofNat 4))] 1 (some 2))]), (.int .i64 (.ofNat 0))])
theorem m292 : Ret Tryz.prog G 13 a292 [] v292 [] := run_ok (n := 1000) (by kernel_rfl)
def a300 : List AV := [(.vec [(.vec [(.int .i64 (.ofNat 6)), (.int .i64 (.ofNat 1))] 2 (some 2)), (.vec [(.int .i64 (.ofNat 1)), (.int .i64 (.ofNat 10))] 2 (some 2))] 2 (some 2)), (.int .i64 (.ofNat 200000))]
def v300 : AV := (.tup [(.agg [(.bool false), (.vec [(.int .u32 (.ofNat 2))] 1 (some 2))]), (.int .i64 (.ofNat 0))])
theorem m300 : Ret Tryz.prog G 13 a300 [] v300 [] := run_ok (n := 1000) (by kernel_rfl)
end Go.Proofs.YthkpeakeoepocaaGreatDoor.OO

/- Results of some calls, by the kernel (genmemo.py). -/
namespace Go.Proofs.YthkpeakeoepocaaGreatDoor.OO
set_option linter.unusedSimpArgs false
set_option linter.unusedVariables false
open Go Go.AL Go.Proofs
set_option maxRecDepth 1000000
def a12 : List AV := [(.vec [(.vec [(.int .i64 (.ofNat 1)), (.int .i64 (.ofNat 0))] 2 (some 2)), (.vec [(.int .i64 (.ofNat 0)), (.int .i64 (.ofNat 5))] 2 (some 2))] 2 (some 2)), (.int .i64 (.ofNat 200000))]
def v12 : AV := (.tup [(.agg [(.bool false), (.vec [(.int .u32 (.ofNat 4))] 1 (some 2))]), (.int .i64 (.ofNat 0))])
theorem m12 : Ret Tryz.prog G 13 a12 [] v12 [] := run_ok (n := 1000) (by kernel_rfl)
def a16 : List AV := [(.vec [(.vec [(.int .i64 (.ofNat 2)), (.int .i64 (.ofNat 0))] 2 (some 2)), (.vec [(.int .i64 (.ofNat 0)), (.int .i64 (.ofNat 3))] 2 (some 2))] 2 (some 2)), (.int .i64 (.ofNat 200000))]
def v16 : AV := (.tup [(.agg [(.bool false), (.vec [(.int .u32 (.ofNat 4))] 1 (some 2))]), (.int .i64 (.ofNat 0))])
theorem m16 : Ret Tryz.prog G 13 a16 [] v16 [] := run_ok (n := 1000) (by kernel_rfl)
def a40 : List AV := [(.int .i64 (.ofNat 2)), (.int .i64 (.ofNat 13))]
def v40 : AV := (.tup [(.vec [(.vec [(.vec [(.int .i64 (.ofNat 1)), (.int .i64 (.ofNat 0))] 2 (some 2)), (.vec [(.int .i64 (.ofNat 0)), (.int .i64 (.ofNat 13))] 2 (some 2))] 2 (some 2)), (.vec [(.vec [(.int .i64 (.ofNat 2)), (.int .i64 (.ofNat 1))] 2 (some 2)), (.vec [(.int .i64 (.ofNat 1)), (.int .i64 (.ofNat 7))] 2 (some 2))] 2 (some 2))] 2 none), (.int .i64 (.ofNat 0))])
theorem m40 : Ret Tryz.prog G 8 a40 [] v40 [] := run_ok (n := 1000) (by kernel_rfl)
def a52 : List AV := [(.int .i64 (.ofNat 2)), (.int .i64 (.ofNat 16))]
def v52 : AV := (.tup [(.vec [(.vec [(.vec [(.int .i64 (.ofNat 1)), (.int .i64 (.ofNat 0))] 2 (some 2)), (.vec [(.int .i64 (.ofNat 0)), (.int .i64 (.ofNat 16))] 2 (some 2))] 2 (some 2)), (.vec [(.vec [(.int .i64 (.ofNat 2)), (.int .i64 (.ofNat 0))] 2 (some 2)), (.vec [(.int .i64 (.ofNat 0)), (.int .i64 (.ofNat 8))] 2 (some 2))] 2 (some 2)), (.vec [(.vec [(.int .i64 (.ofNat 4)), (.int .i64 (.ofNat 0))] 2 (some 2)), (.vec [(.int .i64 (.ofNat 0)), (.int .i64 (.ofNat 4))] 2 (some 2))] 2 (some 2)), (.vec [(.vec [(.int .i64 (.ofNat 4)), (.int .i64 (.ofNat 2))] 2 (some 2)), (.vec [(.int .i64 (.ofNat 2)), (.int .i64 (.ofNat 5))] 2 (some 2))] 2 (some 2))] 4 none), (.int .i64 (.ofNat 0))])
theorem m52 : Ret Tryz.prog G 8 a52 [] v52 [] := run_ok (n := 1000) (by kernel_rfl)
def a74 : List AV := [(.vec [(.vec [(.int .i64 (.ofNat 4)), (.int .i64 (.ofNat 2))] 2 (some 2)), (.vec [(.int .i64 (.ofNat 2)), (.int .i64 (.ofNat 6))] 2 (some 2))] 2 (some 2)), (.int .i64 (.ofNat 200000))]
def v74 : AV := (.tup [(.agg [(.bool false), (.vec [(.int .u32 (.ofNat 4))] 1 (some 2))]), (.int .i64 (.ofNat 0))])
theorem m74 : Ret Tryz.prog G 13 a74 [] v74 [] := run_ok (n := 1000) (by kernel_rfl)
def a78 : List AV := [(.vec [(.vec [(.int .i64 (.ofNat 3)), (.int .i64 (.ofNat 0))] 2 (some 2)), (.vec [(.int .i64 (.ofNat 0)), (.int .i64 (.ofNat 7))] 2 (some 2))] 2 (some 2)), (.int .i64 (.ofNat 200000))]
def v78 : AV := (.tup [(.agg [(.bool false), (.vec [(.int .u32 (.ofNat 4))] 1 (some 2))]), (.int .i64 (.ofNat 0))])
theorem m78 : Ret Tryz.prog G 13 a78 [] v78 [] := run_ok (n := 1000) (by kernel_rfl)
def a82 : List AV := [(.vec [(.vec [(.int .i64 (.ofNat 2)), (.int .i64 (.ofNat 0))] 2 (some 2)), (.vec [(.int .i64 (.ofNat 0)), (.int .i64 (.ofNat 11))] 2 (some 2))] 2 (some 2)), (.int .i64 (.ofNat 200000))]
def v82 : AV := (.tup [(.agg [(.bool false), (.vec [(.int .u32 (.ofNat 4))] 1 (some 2))]), (.int .i64 (.ofNat 0))])
theorem m82 : Ret Tryz.prog G 13 a82 [] v82 [] := run_ok (n := 1000) (by kernel_rfl)
def a83 : List AV := [(.int .i64 (.ofNat 2)), (.int .i64 (.ofNat 23))]
def v83 : AV := (.tup [(.vec [(.vec [(.vec [(.int .i64 (.ofNat 1)), (.int .i64 (.ofNat 0))] 2 (some 2)), (.vec [(.int .i64 (.ofNat 0)), (.int .i64 (.ofNat 23))] 2 (some 2))] 2 (some 2)), (.vec [(.vec [(.int .i64 (.ofNat 2)), (.int .i64 (.ofNat 1))] 2 (some 2)), (.vec [(.int .i64 (.ofNat 1)), (.int .i64 (.ofNat 12))] 2 (some 2))] 2 (some 2)), (.vec [(.vec [(.int .i64 (.ofNat 3)), (.int .i64 (.ofNat 1))] 2 (some 2)), (.vec [(.int .i64 (.ofNat 1)), (.int .i64 (.ofNat 8))] 2 (some 2))] 2 (some 2)), (.vec [(.vec [(.int .i64 (.ofNat 4)), (.int .i64 (.ofNat 1))] 2 (some 2)), (.vec [(.int .i64 (.ofNat 1)), (.int .i64 (.ofNat 6))] 2 (some 2))] 2 (some 2))] 4 none), (.int .i64 (.ofNat 0))])
theorem m83 : Ret Tryz.prog G 8 a83 [] v83 [] := run_ok (n := 1000) (by kernel_rfl)
def a106 : List AV := [(.vec [(.vec [(.int .i64 (.ofNat 2)), (.int .i64 (.ofNat 1))] 2 (some 2)), (.vec [(.int .i64 (.ofNat 1)), (.int .i64 (.ofNat 14))] 2 (some 2))] 2 (some 2)), (.int .i64 (.ofNat 200000))]
def v106 : AV := (.tup [(.agg [(.bool false), (.vec [(.int .u32 (.ofNat 4))] 1 (some 2))]), (.int .i64 (.ofNat 0))])
theorem m106 : Ret Tryz.prog G 13 a106 [] v106 [] := run_ok (n := 1000) (by kernel_rfl)
def a126 : List AV := [(.vec [(.vec [(.int .i64 (.ofNat 1)), (.int .i64 (.ofNat 0))] 2 (some 2)), (.vec [(.int .i64 (.ofNat 0)), (.int .i64 (.ofNat 31))] 2 (some 2))] 2 (some 2)), (.int .i64 (.ofNat 200000))]
def v126 : AV := (.tup [(.agg [(.bool false), (.vec [(.int .u32 (.ofNat 4))] 1 (some 2))]), (.int .i64 (.ofNat 0))])
theorem m126 : Ret Tryz.prog G 13 a126 [] v126 [] := run_ok (n := 1000) (by kernel_rfl)
def a138 : List AV := [(.vec [(.vec [(.int .i64 (.ofNat 1)), (.int .i64 (.ofNat 0))] 2 (some 2)), (.vec [(.int .i64 (.ofNat 0)), (.int .i64 (.ofNat 33))] 2 (some 2))] 2 (some 2)), (.int .i64 (.ofNat 200000))]
def v138 : AV := (.tup [(.agg [(.bool false), (.vec [(.int .u32 (.ofNat 4))] 1 (some 2))]), (.int .i64 (.ofNat 0))])
theorem m138 : Ret Tryz.prog G 13 a138 [] v138 [] := run_ok (n := 1000) (by kernel_rfl)
def a153 : List AV := [(.int .i64 (.ofNat 2)), (.int .i64 (.ofNat 36))]
def v153 : AV := (.tup [(.vec [(.vec [(.vec [(.int .i64 (.ofNat 1)), (.int .i64 (.ofNat 0))] 2 (some 2)), (.vec [(.int .i64 (.ofNat 0)), (.int .i64 (.ofNat 36))] 2 (some 2))] 2 (some 2)), (.vec [(.vec [(.int .i64 (.ofNat 2)), (.int .i64 (.ofNat 0))] 2 (some 2)), (.vec [(.int .i64 (.ofNat 0)), (.int .i64 (.ofNat 18))] 2 (some 2))] 2 (some 2)), (.vec [(.vec [(.int .i64 (.ofNat 3)), (.int .i64 (.ofNat 0))] 2 (some 2)), (.vec [(.int .i64 (.ofNat 0)), (.int .i64 (.ofNat 12))] 2 (some 2))] 2 (some 2)), (.vec [(.vec [(.int .i64 (.ofNat 4)), (.int .i64 (.ofNat 0))] 2 (some 2)), (.vec [(.int .i64 (.ofNat 0)), (.int .i64 (.ofNat 9))] 2 (some 2))] 2 (some 2)), (.vec [(.vec [(.int .i64 (.ofNat 4)), (.int .i64 (.ofNat 2))] 2 (some 2)), (.vec [(.int .i64 (.ofNat 2)), (.int .i64 (.ofNat 10))] 2 (some 2))] 2 (some 2)), (.vec [(.vec [(.int .i64 (.ofNat 5)), (.int .i64 (.ofNat 2))] 2 (some 2)), (.vec [(.int .i64 (.ofNat 2)), (.int .i64 (.ofNat 8))] 2 (some 2))] 2 (some 2)), (.vec [(.vec [(.int .i64 (.ofNat 6)), (.int .i64 (.ofNat 0))] 2 (some 2)), (.vec [(.int .i64 (.ofNat 0)), (.int .i64 (.ofNat 6))] 2 (some 2))] 2 (some 2))] 7 none), (.int .i64 (.ofNat 0))])
theorem m153 : Ret Tryz.prog G 8 a153 [] v153 [] := run_ok (n := 1000) (by kernel_rfl)
def a174 : List AV := [(.vec [(.vec [(.int .i64 (.ofNat 5)), (.int .i64 (.ofNat 1))] 2 (some 2)), (.vec [(.int .i64 (.ofNat 1)), (.int .i64 (.ofNat 8))] 2 (some 2))] 2 (some 2)), (.int .i64 (.ofNat 200000))]
def v174 : AV := (.tup [(.agg [(.bool false), (.vec [(.int .u32 (.ofNat 2))] 1 (some 2))]), (.int .i64 (.ofNat 0))])
theorem m174 : Ret Tryz.prog G 13 a174 [] v174 [] := run_ok (n := 1000) (by kernel_rfl)
def a207 : List AV := [(.vec [(.vec [(.int .i64 (.ofNat 1)), (.int .i64 (.ofNat 0))] 2 (some 2)), (.vec [(.int .i64 (.ofNat 0)), (.int .i64 (.ofNat 45))] 2 (some 2))] 2 (some 2)), (.int .i64 (.ofNat 200000))]
def v207 : AV := (.tup [(.agg [(.bool false), (.vec [(.int .u32 (.ofNat 4))] 1 (some 2))]), (.int .i64 (.ofNat 0))])
theorem m207 : Ret Tryz.prog G 13 a207 [] v207 [] := run_ok (n := 1000) (by kernel_rfl)
def a211 : List AV := [(.vec [(.vec [(.int .i64 (.ofNat 6)), (.int .i64 (.ofNat 3))] 2 (some 2)), (.vec [(.int .i64 (.ofNat 3)), (.int .i64 (.ofNat 9))] 2 (some 2))] 2 (some 2)), (.int .i64 (.ofNat 200000))]
def v211 : AV := (.tup [(.agg [(.bool false), (.vec [(.int .u32 (.ofNat 4))] 1 (some 2))]), (.int .i64 (.ofNat 0))])
theorem m211 : Ret Tryz.prog G 13 a211 [] v211 [] := run_ok (n := 1000) (by kernel_rfl)
def a215 : List AV := [(.vec [(.vec [(.int .i64 (.ofNat 2)), (.int .i64 (.ofNat 0))] 2 (some 2)), (.vec [(.int .i64 (.ofNat 0)), (.int .i64 (.ofNat 23))] 2 (some 2))] 2 (some 2)), (.int .i64 (.ofNat 200000))]
def v215 : AV := (.tup [(.agg [(.bool false), (.vec [(.int .u32 (.ofNat 4))] 1 (some 2))]), (.int .i64 (.ofNat 0))])
theorem m215 : Ret Tryz.prog G 13 a215 [] v215 [] := run_ok (n := 1000) (by kernel_rfl)
def a242 : List AV := [(.vec [(.vec [(.int .i64 (.ofNat 5)), (.int .i64 (.ofNat 0))] 2 (some 2)), (.vec [(.int .i64 (.ofNat 0)), (.int .i64 (.ofNat 10))] 2 (some 2))] 2 (some 2)), (.int .i64 (.ofNat 200000))]
def v242 : AV := (.tup [(.agg [(.bool false), (.vec [(.int .u32 (.ofNat 4))] 1 (some 2))]), (.int .i64 (.ofNat 0))])
theorem m242 : Ret Tryz.prog G 13 a242 [] v242 [] := run_ok (n := 1000) (by kernel_rfl)
def a260 : List AV := [(.vec [(.vec [(.int .i64 (.ofNat 3)), (.int .i64 (.ofNat 1))] 2 (some 2)), (.vec [(.int .i64 (.ofNat 1)), (.int .i64 (.ofNat 18))] 2 (some 2))] 2 (some 2)), (.int .i64 (.ofNat 200000))]
def v260 : AV := (.tup [(.agg [(.bool false), (.vec [(.int .u32 (.ofNat 2))] 1 (some 2))]), (.int .i64 (.ofNat 0))])
theorem m260 : Ret Tryz.prog G 13 a260 [] v260 [] := run_ok (n := 1000) (by kernel_rfl)
def a283 : List AV := [(.vec [(.vec [(.int .i64 (.ofNat 6)), (.int .i64 (.ofNat 2))] 2 (some 2)), (.vec [(.int .i64 (.ofNat 2)), (.int .i64 (.ofNat 10))] 2 (some 2))] 2 (some 2)), (.int .i64 (.ofNat 200000))]
def v283 : AV := (.tup [(.agg [(.bool false), (.vec [(.int .u32 (.ofNat 2))] 1 (some 2))]), (.int .i64 (.ofNat 0))])
theorem m283 : Ret Tryz.prog G 13 a283 [] v283 [] := run_ok (n := 1000) (by kernel_rfl)
end Go.Proofs.YthkpeakeoepocaaGreatDoor.OO

/- Results of some calls, by the kernel (genmemo.py). -/
namespace Go.Proofs.YthkpeakeoepocaaGreatDoor.OO
set_option linter.unusedSimpArgs false
set_option linter.unusedVariables false
open Go Go.AL Go.Proofs
set_option maxRecDepth 1000000
def a2 : List AV := [(.vec [(.vec [(.int .i64 (.ofNat 1)), (.int .i64 (.ofNat 0))] 2 (some 2)), (.vec [(.int .i64 (.ofNat 0)), (.int .i64 (.ofNat 1))] 2 (some 2))] 2 (some 2)), (.int .i64 (.ofNat 200000))]
def v2 : AV := (.tup [(.agg [(.bool false), (.vec [(.int .u32 (.ofNat 8))] 1 (some 2))]), (.int .i64 (.ofNat 0))])
theorem m2 : Ret Tryz.prog G 13 a2 [] v2 [] := run_ok (n := 1000) (by kernel_rfl)
def a7 : List AV := [(.vec [(.vec [(.int .i64 (.ofNat 2)), (.int .i64 (.ofNat 1))] 2 (some 2)), (.vec [(.int .i64 (.ofNat 1)), (.int .i64 (.ofNat 2))] 2 (some 2))] 2 (some 2)), (.int .i64 (.ofNat 200000))]
def v7 : AV := (.tup [(.agg [(.bool false), (.vec [(.int .u32 (.ofNat 12))] 1 (some 2))]), (.int .i64 (.ofNat 0))])
theorem m7 : Ret Tryz.prog G 13 a7 [] v7 [] := run_ok (n := 1000) (by kernel_rfl)
def a13 : List AV := [(.vec [(.vec [(.int .i64 (.ofNat 2)), (.int .i64 (.ofNat 1))] 2 (some 2)), (.vec [(.int .i64 (.ofNat 1)), (.int .i64 (.ofNat 3))] 2 (some 2))] 2 (some 2)), (.int .i64 (.ofNat 200000))]
def v13 : AV := (.tup [(.agg [(.bool false), (.vec [(.int .u32 (.ofNat 4))] 1 (some 2))]), (.int .i64 (.ofNat 0))])
theorem m13 : Ret Tryz.prog G 13 a13 [] v13 [] := run_ok (n := 1000) (by kernel_rfl)
def a44 : List AV := [(.vec [(.vec [(.int .i64 (.ofNat 1)), (.int .i64 (.ofNat 0))] 2 (some 2)), (.vec [(.int .i64 (.ofNat 0)), (.int .i64 (.ofNat 14))] 2 (some 2))] 2 (some 2)), (.int .i64 (.ofNat 200000))]
def v44 : AV := (.tup [(.agg [(.bool false), (.vec [(.int .u32 (.ofNat 4))] 1 (some 2))]), (.int .i64 (.ofNat 0))])
theorem m44 : Ret Tryz.prog G 13 a44 [] v44 [] := run_ok (n := 1000) (by kernel_rfl)
def a67 : List AV := [(.vec [(.vec [(.int .i64 (.ofNat 2)), (.int .i64 (.ofNat 1))] 2 (some 2)), (.vec [(.int .i64 (.ofNat 1)), (.int .i64 (.ofNat 10))] 2 (some 2))] 2 (some 2)), (.int .i64 (.ofNat 200000))]
def v67 : AV := (.tup [(.agg [(.bool false), (.vec [(.int .u32 (.ofNat 4))] 1 (some 2))]), (.int .i64 (.ofNat 0))])
theorem m67 : Ret Tryz.prog G 13 a67 [] v67 [] := run_ok (n := 1000) (by kernel_rfl)
def a76 : List AV := [(.vec [(.vec [(.int .i64 (.ofNat 1)), (.int .i64 (.ofNat 0))] 2 (some 2)), (.vec [(.int .i64 (.ofNat 0)), (.int .i64 (.ofNat 21))] 2 (some 2))] 2 (some 2)), (.int .i64 (.ofNat 200000))]
def v76 : AV := (.tup [(.agg [(.bool false), (.vec [(.int .u32 (.ofNat 4))] 1 (some 2))]), (.int .i64 (.ofNat 0))])
theorem m76 : Ret Tryz.prog G 13 a76 [] v76 [] := run_ok (n := 1000) (by kernel_rfl)
def a111 : List AV := [(.vec [(.vec [(.int .i64 (.ofNat 1)), (.int .i64 (.ofNat 0))] 2 (some 2)), (.vec [(.int .i64 (.ofNat 0)), (.int .i64 (.ofNat 28))] 2 (some 2))] 2 (some 2)), (.int .i64 (.ofNat 200000))]
def v111 : AV := (.tup [(.agg [(.bool false), (.vec [(.int .u32 (.ofNat 4))] 1 (some 2))]), (.int .i64 (.ofNat 0))])
theorem m111 : Ret Tryz.prog G 13 a111 [] v111 [] := run_ok (n := 1000) (by kernel_rfl)
def a115 : List AV := [(.int .i64 (.ofNat 2)), (.int .i64 (.ofNat 29))]
def v115 : AV := (.tup [(.vec [(.vec [(.vec [(.int .i64 (.ofNat 1)), (.int .i64 (.ofNat 0))] 2 (some 2)), (.vec [(.int .i64 (.ofNat 0)), (.int .i64 (.ofNat 29))] 2 (some 2))] 2 (some 2)), (.vec [(.vec [(.int .i64 (.ofNat 2)), (.int .i64 (.ofNat 1))] 2 (some 2)), (.vec [(.int .i64 (.ofNat 1)), (.int .i64 (.ofNat 15))] 2 (some 2))] 2 (some 2)), (.vec [(.vec [(.int .i64 (.ofNat 3)), (.int .i64 (.ofNat 1))] 2 (some 2)), (.vec [(.int .i64 (.ofNat 1)), (.int .i64 (.ofNat 10))] 2 (some 2))] 2 (some 2)), (.vec [(.vec [(.int .i64 (.ofNat 5)), (.int .i64 (.ofNat 1))] 2 (some 2)), (.vec [(.int .i64 (.ofNat 1)), (.int .i64 (.ofNat 6))] 2 (some 2))] 2 (some 2))] 4 none), (.int .i64 (.ofNat 0))])
theorem m115 : Ret Tryz.prog G 8 a115 [] v115 [] := run_ok (n := 1000) (by kernel_rfl)
def a124 : List AV := [(.vec [(.vec [(.int .i64 (.ofNat 5)), (.int .i64 (.ofNat 0))] 2 (some 2)), (.vec [(.int .i64 (.ofNat 0)), (.int .i64 (.ofNat 6))] 2 (some 2))] 2 (some 2)), (.int .i64 (.ofNat 200000))]
def v124 : AV := (.tup [(.agg [(.bool false), (.vec [(.int .u32 (.ofNat 4))] 1 (some 2))]), (.int .i64 (.ofNat 0))])
theorem m124 : Ret Tryz.prog G 13 a124 [] v124 [] := run_ok (n := 1000) (by kernel_rfl)
def a133 : List AV := [(.vec [(.vec [(.int .i64 (.ofNat 3)), (.int .i64 (.ofNat 1))] 2 (some 2)), (.vec [(.int .i64 (.ofNat 1)), (.int .i64 (.ofNat 11))] 2 (some 2))] 2 (some 2)), (.int .i64 (.ofNat 200000))]
def v133 : AV := (.tup [(.agg [(.bool false), (.vec [(.int .u32 (.ofNat 2))] 1 (some 2))]), (.int .i64 (.ofNat 0))])
theorem m133 : Ret Tryz.prog G 13 a133 [] v133 [] := run_ok (n := 1000) (by kernel_rfl)
def a152 : List AV := [(.vec [(.vec [(.int .i64 (.ofNat 6)), (.int .i64 (.ofNat 1))] 2 (some 2)), (.vec [(.int .i64 (.ofNat 1)), (.int .i64 (.ofNat 6))] 2 (some 2))] 2 (some 2)), (.int .i64 (.ofNat 200000))]
def v152 : AV := (.tup [(.agg [(.bool false), (.vec [(.int .u32 (.ofNat 4))] 1 (some 2))]), (.int .i64 (.ofNat 0))])
theorem m152 : Ret Tryz.prog G 13 a152 [] v152 [] := run_ok (n := 1000) (by kernel_rfl)
def a159 : List AV := [(.vec [(.vec [(.int .i64 (.ofNat 5)), (.int .i64 (.ofNat 2))] 2 (some 2)), (.vec [(.int .i64 (.ofNat 2)), (.int .i64 (.ofNat 8))] 2 (some 2))] 2 (some 2)), (.int .i64 (.ofNat 200000))]
def v159 : AV := (.tup [(.agg [(.bool false), (.vec [(.int .u32 (.ofNat 2))] 1 (some 2))]), (.int .i64 (.ofNat 0))])
theorem m159 : Ret Tryz.prog G 13 a159 [] v159 [] := run_ok (n := 1000) (by kernel_rfl)
def a169 : List AV := [(.int .i64 (.ofNat 2)), (.int .i64 (.ofNat 39))]
def v169 : AV := (.tup [(.vec [(.vec [(.vec [(.int .i64 (.ofNat 1)), (.int .i64 (.ofNat 0))] 2 (some 2)), (.vec [(.int .i64 (.ofNat 0)), (.int .i64 (.ofNat 39))] 2 (some 2))] 2 (some 2)), (.vec [(.vec [(.int .i64 (.ofNat 2)), (.int .i64 (.ofNat 1))] 2 (some 2)), (.vec [(.int .i64 (.ofNat 1)), (.int .i64 (.ofNat 20))] 2 (some 2))] 2 (some 2)), (.vec [(.vec [(.int .i64 (.ofNat 3)), (.int .i64 (.ofNat 0))] 2 (some 2)), (.vec [(.int .i64 (.ofNat 0)), (.int .i64 (.ofNat 13))] 2 (some 2))] 2 (some 2)), (.vec [(.vec [(.int .i64 (.ofNat 4)), (.int .i64 (.ofNat 1))] 2 (some 2)), (.vec [(.int .i64 (.ofNat 1)), (.int .i64 (.ofNat 10))] 2 (some 2))] 2 (some 2)), (.vec [(.vec [(.int .i64 (.ofNat 5)), (.int .i64 (.ofNat 1))] 2 (some 2)), (.vec [(.int .i64 (.ofNat 1)), (.int .i64 (.ofNat 8))] 2 (some 2))] 2 (some 2)), (.vec [(.vec [(.int .i64 (.ofNat 6)), (.int .i64 (.ofNat 3))] 2 (some 2)), (.vec [(.int .i64 (.ofNat 3)), (.int .i64 (.ofNat 8))] 2 (some 2))] 2 (some 2))] 6 none), (.int .i64 (.ofNat 0))])
theorem m169 : Ret Tryz.prog G 8 a169 [] v169 [] := run_ok (n := 1000) (by kernel_rfl)
def a189 : List AV := [(.int .i64 (.ofNat 2)), (.int .i64 (.ofNat 42))]
def v189 : AV := (.tup [(.vec [(.vec [(.vec [(.int .i64 (.ofNat 1)), (.int .i64 (.ofNat 0))] 2 (some 2)), (.vec [(.int .i64 (.ofNat 0)), (.int .i64 (.ofNat 42))] 2 (some 2))] 2 (some 2)), (.vec [(.vec [(.int .i64 (.ofNat 2)), (.int .i64 (.ofNat 0))] 2 (some 2)), (.vec [(.int .i64 (.ofNat 0)), (.int .i64 (.ofNat 21))] 2 (some 2))] 2 (some 2)), (.vec [(.vec [(.int .i64 (.ofNat 3)), (.int .i64 (.ofNat 0))] 2 (some 2)), (.vec [(.int .i64 (.ofNat 0)), (.int .i64 (.ofNat 14))] 2 (some 2))] 2 (some 2)), (.vec [(.vec [(.int .i64 (.ofNat 6)), (.int .i64 (.ofNat 0))] 2 (some 2)), (.vec [(.int .i64 (.ofNat 0)), (.int .i64 (.ofNat 7))] 2 (some 2))] 2 (some 2))] 4 none), (.int .i64 (.ofNat 0))])
theorem m189 : Ret Tryz.prog G 8 a189 [] v189 [] := run_ok (n := 1000) (by kernel_rfl)
def a194 : List AV := [(.int .i64 (.ofNat 2)), (.int .i64 (.ofNat 43))]
def v194 : AV := (.tup [(.vec [(.vec [(.vec [(.int .i64 (.ofNat 1)), (.int .i64 (.ofNat 0))] 2 (some 2)), (.vec [(.int .i64 (.ofNat 0)), (.int .i64 (.ofNat 43))] 2 (some 2))] 2 (some 2)), (.vec [(.vec [(.int .i64 (.ofNat 2)), (.int .i64 (.ofNat 1))] 2 (some 2)), (.vec [(.int .i64 (.ofNat 1)), (.int .i64 (.ofNat 22))] 2 (some 2))] 2 (some 2)), (.vec [(.vec [(.int .i64 (.ofNat 4)), (.int .i64 (.ofNat 1))] 2 (some 2)), (.vec [(.int .i64 (.ofNat 1)), (.int .i64 (.ofNat 11))] 2 (some 2))] 2 (some 2))] 3 none), (.int .i64 (.ofNat 0))])
theorem m194 : Ret Tryz.prog G 8 a194 [] v194 [] := run_ok (n := 1000) (by kernel_rfl)
def a225 : List AV := [(.vec [(.vec [(.int .i64 (.ofNat 1)), (.int .i64 (.ofNat 0))] 2 (some 2)), (.vec [(.int .i64 (.ofNat 0)), (.int .i64 (.ofNat 48))] 2 (some 2))] 2 (some 2)), (.int .i64 (.ofNat 200000))]
def v225 : AV := (.tup [(.agg [(.bool false), (.vec [(.int .u32 (.ofNat 4))] 1 (some 2))]), (.int .i64 (.ofNat 0))])
theorem m225 : Ret Tryz.prog G 13 a225 [] v225 [] := run_ok (n := 1000) (by kernel_rfl)
def a228 : List AV := [(.vec [(.vec [(.int .i64 (.ofNat 4)), (.int .i64 (.ofNat 0))] 2 (some 2)), (.vec [(.int .i64 (.ofNat 0)), (.int .i64 (.ofNat 12))] 2 (some 2))] 2 (some 2)), (.int .i64 (.ofNat 200000))]
def v228 : AV := (.tup [(.agg [(.bool false), (.vec [(.int .u32 (.ofNat 4))] 1 (some 2))]), (.int .i64 (.ofNat 0))])
theorem m228 : Ret Tryz.prog G 13 a228 [] v228 [] := run_ok (n := 1000) (by kernel_rfl)
def a243 : List AV := [(.vec [(.vec [(.int .i64 (.ofNat 6)), (.int .i64 (.ofNat 2))] 2 (some 2)), (.vec [(.int .i64 (.ofNat 2)), (.int .i64 (.ofNat 9))] 2 (some 2))] 2 (some 2)), (.int .i64 (.ofNat 200000))]
def v243 : AV := (.tup [(.agg [(.bool false), (.vec [(.int .u32 (.ofNat 2))] 1 (some 2))]), (.int .i64 (.ofNat 0))])
theorem m243 : Ret Tryz.prog G 13 a243 [] v243 [] := run_ok (n := 1000) (by kernel_rfl)
def a247 : List AV := [(.vec [(.vec [(.int .i64 (.ofNat 3)), (.int .i64 (.ofNat 0))] 2 (some 2)), (.vec [(.int .i64 (.ofNat 0)), (.int .i64 (.ofNat 17))] 2 (some 2))] 2 (some 2)), (.int .i64 (.ofNat 200000))]
def v247 : AV := (.tup [(.agg [(.bool false), (.vec [(.int .u32 (.ofNat 4))] 1 (some 2))]), (.int .i64 (.ofNat 0))])
theorem m247 : Ret Tryz.prog G 13 a247 [] v247 [] := run_ok (n := 1000) (by kernel_rfl)
def a268 : List AV := [(.vec [(.vec [(.int .i64 (.ofNat 7)), (.int .i64 (.ofNat 3))] 2 (some 2)), (.vec [(.int .i64 (.ofNat 3)), (.int .i64 (.ofNat 9))] 2 (some 2))] 2 (some 2)), (.int .i64 (.ofNat 200000))]
def v268 : AV := (.tup [(.agg [(.bool false), (.vec [(.int .u32 (.ofNat 2))] 1 (some 2))]), (.int .i64 (.ofNat 0))])
theorem m268 : Ret Tryz.prog G 13 a268 [] v268 [] := run_ok (n := 1000) (by kernel_rfl)
end Go.Proofs.YthkpeakeoepocaaGreatDoor.OO

/- Results of some calls, by the kernel (genmemo.py). -/
namespace Go.Proofs.YthkpeakeoepocaaGreatDoor.OO
set_option linter.unusedSimpArgs false
set_option linter.unusedVariables false
open Go Go.AL Go.Proofs
set_option maxRecDepth 1000000
def a27 : List AV := [(.vec [(.vec [(.int .i64 (.ofNat 3)), (.int .i64 (.ofNat 0))] 2 (some 2)), (.vec [(.int .i64 (.ofNat 0)), (.int .i64 (.ofNat 3))] 2 (some 2))] 2 (some 2)), (.int .i64 (.ofNat 200000))]
def v27 : AV := (.tup [(.agg [(.bool false), (.vec [(.int .u32 (.ofNat 8))] 1 (some 2))]), (.int .i64 (.ofNat 0))])
theorem m27 : Ret Tryz.prog G 13 a27 [] v27 [] := run_ok (n := 1000) (by kernel_rfl)
def a33 : List AV := [(.vec [(.vec [(.int .i64 (.ofNat 2)), (.int .i64 (.ofNat 1))] 2 (some 2)), (.vec [(.int .i64 (.ofNat 1)), (.int .i64 (.ofNat 6))] 2 (some 2))] 2 (some 2)), (.int .i64 (.ofNat 200000))]
def v33 : AV := (.tup [(.agg [(.bool false), (.vec [(.int .u32 (.ofNat 4))] 1 (some 2))]), (.int .i64 (.ofNat 0))])
theorem m33 : Ret Tryz.prog G 13 a33 [] v33 [] := run_ok (n := 1000) (by kernel_rfl)
def a36 : List AV := [(.vec [(.vec [(.int .i64 (.ofNat 1)), (.int .i64 (.ofNat 0))] 2 (some 2)), (.vec [(.int .i64 (.ofNat 0)), (.int .i64 (.ofNat 12))] 2 (some 2))] 2 (some 2)), (.int .i64 (.ofNat 200000))]
def v36 : AV := (.tup [(.agg [(.bool false), (.vec [(.int .u32 (.ofNat 4))] 1 (some 2))]), (.int .i64 (.ofNat 0))])
theorem m36 : Ret Tryz.prog G 13 a36 [] v36 [] := run_ok (n := 1000) (by kernel_rfl)
def a39 : List AV := [(.vec [(.vec [(.int .i64 (.ofNat 4)), (.int .i64 (.ofNat 2))] 2 (some 2)), (.vec [(.int .i64 (.ofNat 2)), (.int .i64 (.ofNat 4))] 2 (some 2))] 2 (some 2)), (.int .i64 (.ofNat 200000))]
def v39 : AV := (.tup [(.agg [(.bool false), (.vec [(.int .u32 (.ofNat 12))] 1 (some 2))]), (.int .i64 (.ofNat 0))])
theorem m39 : Ret Tryz.prog G 13 a39 [] v39 [] := run_ok (n := 1000) (by kernel_rfl)
def a45 : List AV := [(.vec [(.vec [(.int .i64 (.ofNat 2)), (.int .i64 (.ofNat 0))] 2 (some 2)), (.vec [(.int .i64 (.ofNat 0)), (.int .i64 (.ofNat 7))] 2 (some 2))] 2 (some 2)), (.int .i64 (.ofNat 200000))]
def v45 : AV := (.tup [(.agg [(.bool false), (.vec [(.int .u32 (.ofNat 4))] 1 (some 2))]), (.int .i64 (.ofNat 0))])
theorem m45 : Ret Tryz.prog G 13 a45 [] v45 [] := run_ok (n := 1000) (by kernel_rfl)
def a66 : List AV := [(.vec [(.vec [(.int .i64 (.ofNat 1)), (.int .i64 (.ofNat 0))] 2 (some 2)), (.vec [(.int .i64 (.ofNat 0)), (.int .i64 (.ofNat 19))] 2 (some 2))] 2 (some 2)), (.int .i64 (.ofNat 200000))]
def v66 : AV := (.tup [(.agg [(.bool false), (.vec [(.int .u32 (.ofNat 4))] 1 (some 2))]), (.int .i64 (.ofNat 0))])
theorem m66 : Ret Tryz.prog G 13 a66 [] v66 [] := run_ok (n := 1000) (by kernel_rfl)
def a69 : List AV := [(.int .i64 (.ofNat 2)), (.int .i64 (.ofNat 20))]
def v69 : AV := (.tup [(.vec [(.vec [(.vec [(.int .i64 (.ofNat 1)), (.int .i64 (.ofNat 0))] 2 (some 2)), (.vec [(.int .i64 (.ofNat 0)), (.int .i64 (.ofNat 20))] 2 (some 2))] 2 (some 2)), (.vec [(.vec [(.int .i64 (.ofNat 2)), (.int .i64 (.ofNat 0))] 2 (some 2)), (.vec [(.int .i64 (.ofNat 0)), (.int .i64 (.ofNat 10))] 2 (some 2))] 2 (some 2)), (.vec [(.vec [(.int .i64 (.ofNat 3)), (.int .i64 (.ofNat 1))] 2 (some 2)), (.vec [(.int .i64 (.ofNat 1)), (.int .i64 (.ofNat 7))] 2 (some 2))] 2 (some 2)), (.vec [(.vec [(.int .i64 (.ofNat 4)), (.int .i64 (.ofNat 0))] 2 (some 2)), (.vec [(.int .i64 (.ofNat 0)), (.int .i64 (.ofNat 5))] 2 (some 2))] 2 (some 2)), (.vec [(.vec [(.int .i64 (.ofNat 4)), (.int .i64 (.ofNat 2))] 2 (some 2)), (.vec [(.int .i64 (.ofNat 2)), (.int .i64 (.ofNat 6))] 2 (some 2))] 2 (some 2))] 5 none), (.int .i64 (.ofNat 0))])
theorem m69 : Ret Tryz.prog G 8 a69 [] v69 [] := run_ok (n := 1000) (by kernel_rfl)
def a79 : List AV := [(.vec [(.vec [(.int .i64 (.ofNat 5)), (.int .i64 (.ofNat 2))] 2 (some 2)), (.vec [(.int .i64 (.ofNat 2)), (.int .i64 (.ofNat 5))] 2 (some 2))] 2 (some 2)), (.int .i64 (.ofNat 200000))]
def v79 : AV := (.tup [(.agg [(.bool false), (.vec [(.int .u32 (.ofNat 4))] 1 (some 2))]), (.int .i64 (.ofNat 0))])
theorem m79 : Ret Tryz.prog G 13 a79 [] v79 [] := run_ok (n := 1000) (by kernel_rfl)
def a107 : List AV := [(.vec [(.vec [(.int .i64 (.ofNat 3)), (.int .i64 (.ofNat 0))] 2 (some 2)), (.vec [(.int .i64 (.ofNat 0)), (.int .i64 (.ofNat 9))] 2 (some 2))] 2 (some 2)), (.int .i64 (.ofNat 200000))]
def v107 : AV := (.tup [(.agg [(.bool false), (.vec [(.int .u32 (.ofNat 4))] 1 (some 2))]), (.int .i64 (.ofNat 0))])
theorem m107 : Ret Tryz.prog G 13 a107 [] v107 [] := run_ok (n := 1000) (by kernel_rfl)
def a108 : List AV := [(.vec [(.vec [(.int .i64 (.ofNat 4)), (.int .i64 (.ofNat 1))] 2 (some 2)), (.vec [(.int .i64 (.ofNat 1)), (.int .i64 (.ofNat 7))] 2 (some 2))] 2 (some 2)), (.int .i64 (.ofNat 200000))]
def v108 : AV := (.tup [(.agg [(.bool false), (.vec [(.int .u32 (.ofNat 2))] 1 (some 2))]), (.int .i64 (.ofNat 0))])
theorem m108 : Ret Tryz.prog G 13 a108 [] v108 [] := run_ok (n := 1000) (by kernel_rfl)
def a134 : List AV := [(.vec [(.vec [(.int .i64 (.ofNat 4)), (.int .i64 (.ofNat 0))] 2 (some 2)), (.vec [(.int .i64 (.ofNat 0)), (.int .i64 (.ofNat 8))] 2 (some 2))] 2 (some 2)), (.int .i64 (.ofNat 200000))]
def v134 : AV := (.tup [(.agg [(.bool false), (.vec [(.int .u32 (.ofNat 4))] 1 (some 2))]), (.int .i64 (.ofNat 0))])
theorem m134 : Ret Tryz.prog G 13 a134 [] v134 [] := run_ok (n := 1000) (by kernel_rfl)
def a139 : List AV := [(.vec [(.vec [(.int .i64 (.ofNat 2)), (.int .i64 (.ofNat 1))] 2 (some 2)), (.vec [(.int .i64 (.ofNat 1)), (.int .i64 (.ofNat 17))] 2 (some 2))] 2 (some 2)), (.int .i64 (.ofNat 200000))]
def v139 : AV := (.tup [(.agg [(.bool false), (.vec [(.int .u32 (.ofNat 4))] 1 (some 2))]), (.int .i64 (.ofNat 0))])
theorem m139 : Ret Tryz.prog G 13 a139 [] v139 [] := run_ok (n := 1000) (by kernel_rfl)
def a148 : List AV := [(.vec [(.vec [(.int .i64 (.ofNat 2)), (.int .i64 (.ofNat 1))] 2 (some 2)), (.vec [(.int .i64 (.ofNat 1)), (.int .i64 (.ofNat 18))] 2 (some 2))] 2 (some 2)), (.int .i64 (.ofNat 200000))]
def v148 : AV := (.tup [(.agg [(.bool false), (.vec [(.int .u32 (.ofNat 4))] 1 (some 2))]), (.int .i64 (.ofNat 0))])
theorem m148 : Ret Tryz.prog G 13 a148 [] v148 [] := run_ok (n := 1000) (by kernel_rfl)
def a165 : List AV := [(.vec [(.vec [(.int .i64 (.ofNat 1)), (.int .i64 (.ofNat 0))] 2 (some 2)), (.vec [(.int .i64 (.ofNat 0)), (.int .i64 (.ofNat 38))] 2 (some 2))] 2 (some 2)), (.int .i64 (.ofNat 200000))]
def v165 : AV := (.tup [(.agg [(.bool false), (.vec [(.int .u32 (.ofNat 4))] 1 (some 2))]), (.int .i64 (.ofNat 0))])
theorem m165 : Ret Tryz.prog G 13 a165 [] v165 [] := run_ok (n := 1000) (by kernel_rfl)
def a192 : List AV := [(.vec [(.vec [(.int .i64 (.ofNat 3)), (.int .i64 (.ofNat 0))] 2 (some 2)), (.vec [(.int .i64 (.ofNat 0)), (.int .i64 (.ofNat 14))] 2 (some 2))] 2 (some 2)), (.int .i64 (.ofNat 200000))]
def v192 : AV := (.tup [(.agg [(.bool false), (.vec [(.int .u32 (.ofNat 4))] 1 (some 2))]), (.int .i64 (.ofNat 0))])
theorem m192 : Ret Tryz.prog G 13 a192 [] v192 [] := run_ok (n := 1000) (by kernel_rfl)
def a213 : List AV := [(.int .i64 (.ofNat 2)), (.int .i64 (.ofNat 46))]
def v213 : AV := (.tup [(.vec [(.vec [(.vec [(.int .i64 (.ofNat 1)), (.int .i64 (.ofNat 0))] 2 (some 2)), (.vec [(.int .i64 (.ofNat 0)), (.int .i64 (.ofNat 46))] 2 (some 2))] 2 (some 2)), (.vec [(.vec [(.int .i64 (.ofNat 2)), (.int .i64 (.ofNat 0))] 2 (some 2)), (.vec [(.int .i64 (.ofNat 0)), (.int .i64 (.ofNat 23))] 2 (some 2))] 2 (some 2)), (.vec [(.vec [(.int .i64 (.ofNat 5)), (.int .i64 (.ofNat 2))] 2 (some 2)), (.vec [(.int .i64 (.ofNat 2)), (.int .i64 (.ofNat 10))] 2 (some 2))] 2 (some 2))] 3 none), (.int .i64 (.ofNat 0))])
theorem m213 : Ret Tryz.prog G 8 a213 [] v213 [] := run_ok (n := 1000) (by kernel_rfl)
def a216 : List AV := [(.vec [(.vec [(.int .i64 (.ofNat 5)), (.int .i64 (.ofNat 2))] 2 (some 2)), (.vec [(.int .i64 (.ofNat 2)), (.int .i64 (.ofNat 10))] 2 (some 2))] 2 (some 2)), (.int .i64 (.ofNat 200000))]
def v216 : AV := (.tup [(.agg [(.bool false), (.vec [(.int .u32 (.ofNat 2))] 1 (some 2))]), (.int .i64 (.ofNat 0))])
theorem m216 : Ret Tryz.prog G 13 a216 [] v216 [] := run_ok (n := 1000) (by kernel_rfl)
def a245 : List AV := [(.vec [(.vec [(.int .i64 (.ofNat 1)), (.int .i64 (.ofNat 0))] 2 (some 2)), (.vec [(.int .i64 (.ofNat 0)), (.int .i64 (.ofNat 51))] 2 (some 2))] 2 (some 2)), (.int .i64 (.ofNat 200000))]
def v245 : AV := (.tup [(.agg [(.bool false), (.vec [(.int .u32 (.ofNat 4))] 1 (some 2))]), (.int .i64 (.ofNat 0))])
theorem m245 : Ret Tryz.prog G 13 a245 [] v245 [] := run_ok (n := 1000) (by kernel_rfl)
def a262 : List AV := [(.int .i64 (.ofNat 2)), (.int .i64 (.ofNat 54))]
def v262 : AV := (.tup [(.vec [(.vec [(.vec [(.int .i64 (.ofNat 1)), (.int .i64 (.ofNat 0))] 2 (some 2)), (.vec [(.int .i64 (.ofNat 0)), (.int .i64 (.ofNat 54))] 2 (some 2))] 2 (some 2)), (.vec [(.vec [(.int .i64 (.ofNat 2)), (.int .i64 (.ofNat 0))] 2 (some 2)), (.vec [(.int .i64 (.ofNat 0)), (.int .i64 (.ofNat 27))] 2 (some 2))] 2 (some 2)), (.vec [(.vec [(.int .i64 (.ofNat 3)), (.int .i64 (.ofNat 0))] 2 (some 2)), (.vec [(.int .i64 (.ofNat 0)), (.int .i64 (.ofNat 18))] 2 (some 2))] 2 (some 2)), (.vec [(.vec [(.int .i64 (.ofNat 5)), (.int .i64 (.ofNat 1))] 2 (some 2)), (.vec [(.int .i64 (.ofNat 1)), (.int .i64 (.ofNat 11))] 2 (some 2))] 2 (some 2)), (.vec [(.vec [(.int .i64 (.ofNat 6)), (.int .i64 (.ofNat 0))] 2 (some 2)), (.vec [(.int .i64 (.ofNat 0)), (.int .i64 (.ofNat 9))] 2 (some 2))] 2 (some 2)), (.vec [(.vec [(.int .i64 (.ofNat 7)), (.int .i64 (.ofNat 3))] 2 (some 2)), (.vec [(.int .i64 (.ofNat 3)), (.int .i64 (.ofNat 9))] 2 (some 2))] 2 (some 2))] 6 none), (.int .i64 (.ofNat 0))])
theorem m262 : Ret Tryz.prog G 8 a262 [] v262 [] := run_ok (n := 1000) (by kernel_rfl)
end Go.Proofs.YthkpeakeoepocaaGreatDoor.OO
