/- Results of some calls, by the kernel (genmemo.py). -/
import Derived.Test.YthkpeakeoepocaaGreatDoorXC
namespace Go.Proofs.YthkpeakeoepocaaGreatDoor.OO
set_option linter.unusedSimpArgs false
set_option linter.unusedVariables false
open Go Go.AL Go.Proofs
set_option maxRecDepth 1000000
def a11 : List AV := [(.int .i64 (.ofNat 2)), (.int .i64 (.ofNat 5))]
def v11 : AV := (.tup [(.vec [(.vec [(.vec [(.int .i64 (.ofNat 1)), (.int .i64 (.ofNat 0))] 2 (some 2)), (.vec [(.int .i64 (.ofNat 0)), (.int .i64 (.ofNat 5))] 2 (some 2))] 2 (some 2)), (.vec [(.vec [(.int .i64 (.ofNat 2)), (.int .i64 (.ofNat 1))] 2 (some 2)), (.vec [(.int .i64 (.ofNat 1)), (.int .i64 (.ofNat 3))] 2 (some 2))] 2 (some 2))] 2 none), (.int .i64 (.ofNat 0))])
theorem m11 : Ret Tryz.prog G 8 a11 [] v11 [] := run_ok (n := 1000) (by kernel_rfl)
def a14 : List AV := [(.int .i64 (.ofNat 2)), (.int .i64 (.ofNat 6))]
def v14 : AV := (.tup [(.vec [(.vec [(.vec [(.int .i64 (.ofNat 1)), (.int .i64 (.ofNat 0))] 2 (some 2)), (.vec [(.int .i64 (.ofNat 0)), (.int .i64 (.ofNat 6))] 2 (some 2))] 2 (some 2)), (.vec [(.vec [(.int .i64 (.ofNat 2)), (.int .i64 (.ofNat 0))] 2 (some 2)), (.vec [(.int .i64 (.ofNat 0)), (.int .i64 (.ofNat 3))] 2 (some 2))] 2 (some 2))] 2 none), (.int .i64 (.ofNat 0))])
theorem m14 : Ret Tryz.prog G 8 a14 [] v14 [] := run_ok (n := 1000) (by kernel_rfl)
def a23 : List AV := [(.vec [(.vec [(.int .i64 (.ofNat 3)), (.int .i64 (.ofNat 1))] 2 (some 2)), (.vec [(.int .i64 (.ofNat 1)), (.int .i64 (.ofNat 3))] 2 (some 2))] 2 (some 2)), (.int .i64 (.ofNat 200000))]
def v23 : AV := (.tup [(.agg [(.bool false), (.vec [(.int .u32 (.ofNat 4))] 1 (some 2))]), (.int .i64 (.ofNat 0))])
theorem m23 : Ret Tryz.prog G 13 a23 [] v23 [] := run_ok (n := 1000) (by kernel_rfl)
def a46 : List AV := [(.vec [(.vec [(.int .i64 (.ofNat 3)), (.int .i64 (.ofNat 1))] 2 (some 2)), (.vec [(.int .i64 (.ofNat 1)), (.int .i64 (.ofNat 5))] 2 (some 2))] 2 (some 2)), (.int .i64 (.ofNat 200000))]
def v46 : AV := (.tup [(.agg [(.bool false), (.vec [(.int .u32 (.ofNat 2))] 1 (some 2))]), (.int .i64 (.ofNat 0))])
theorem m46 : Ret Tryz.prog G 13 a46 [] v46 [] := run_ok (n := 1000) (by kernel_rfl)
def a65 : List AV := [(.int .i64 (.ofNat 2)), (.int .i64 (.ofNat 19))]
def v65 : AV := (.tup [(.vec [(.vec [(.vec [(.int .i64 (.ofNat 1)), (.int .i64 (.ofNat 0))] 2 (some 2)), (.vec [(.int .i64 (.ofNat 0)), (.int .i64 (.ofNat 19))] 2 (some 2))] 2 (some 2)), (.vec [(.vec [(.int .i64 (.ofNat 2)), (.int .i64 (.ofNat 1))] 2 (some 2)), (.vec [(.int .i64 (.ofNat 1)), (.int .i64 (.ofNat 10))] 2 (some 2))] 2 (some 2)), (.vec [(.vec [(.int .i64 (.ofNat 4)), (.int .i64 (.ofNat 1))] 2 (some 2)), (.vec [(.int .i64 (.ofNat 1)), (.int .i64 (.ofNat 5))] 2 (some 2))] 2 (some 2))] 3 none), (.int .i64 (.ofNat 0))])
theorem m65 : Ret Tryz.prog G 8 a65 [] v65 [] := run_ok (n := 1000) (by kernel_rfl)
def a75 : List AV := [(.int .i64 (.ofNat 2)), (.int .i64 (.ofNat 21))]
def v75 : AV := (.tup [(.vec [(.vec [(.vec [(.int .i64 (.ofNat 1)), (.int .i64 (.ofNat 0))] 2 (some 2)), (.vec [(.int .i64 (.ofNat 0)), (.int .i64 (.ofNat 21))] 2 (some 2))] 2 (some 2)), (.vec [(.vec [(.int .i64 (.ofNat 2)), (.int .i64 (.ofNat 1))] 2 (some 2)), (.vec [(.int .i64 (.ofNat 1)), (.int .i64 (.ofNat 11))] 2 (some 2))] 2 (some 2)), (.vec [(.vec [(.int .i64 (.ofNat 3)), (.int .i64 (.ofNat 0))] 2 (some 2)), (.vec [(.int .i64 (.ofNat 0)), (.int .i64 (.ofNat 7))] 2 (some 2))] 2 (some 2)), (.vec [(.vec [(.int .i64 (.ofNat 5)), (.int .i64 (.ofNat 2))] 2 (some 2)), (.vec [(.int .i64 (.ofNat 2)), (.int .i64 (.ofNat 5))] 2 (some 2))] 2 (some 2))] 4 none), (.int .i64 (.ofNat 0))])
theorem m75 : Ret Tryz.prog G 8 a75 [] v75 [] := run_ok (n := 1000) (by kernel_rfl)
def a100 : List AV := [(.vec [(.vec [(.int .i64 (.ofNat 1)), (.int .i64 (.ofNat 0))] 2 (some 2)), (.vec [(.int .i64 (.ofNat 0)), (.int .i64 (.ofNat 26))] 2 (some 2))] 2 (some 2)), (.int .i64 (.ofNat 200000))]
def v100 : AV := (.tup [(.agg [(.bool false), (.vec [(.int .u32 (.ofNat 4))] 1 (some 2))]), (.int .i64 (.ofNat 0))])
theorem m100 : Ret Tryz.prog G 13 a100 [] v100 [] := run_ok (n := 1000) (by kernel_rfl)
def a122 : List AV := [(.vec [(.vec [(.int .i64 (.ofNat 2)), (.int .i64 (.ofNat 0))] 2 (some 2)), (.vec [(.int .i64 (.ofNat 0)), (.int .i64 (.ofNat 15))] 2 (some 2))] 2 (some 2)), (.int .i64 (.ofNat 200000))]
def v122 : AV := (.tup [(.agg [(.bool false), (.vec [(.int .u32 (.ofNat 4))] 1 (some 2))]), (.int .i64 (.ofNat 0))])
theorem m122 : Ret Tryz.prog G 13 a122 [] v122 [] := run_ok (n := 1000) (by kernel_rfl)
def a156 : List AV := [(.vec [(.vec [(.int .i64 (.ofNat 3)), (.int .i64 (.ofNat 0))] 2 (some 2)), (.vec [(.int .i64 (.ofNat 0)), (.int .i64 (.ofNat 12))] 2 (some 2))] 2 (some 2)), (.int .i64 (.ofNat 200000))]
def v156 : AV := (.tup [(.agg [(.bool false), (.vec [(.int .u32 (.ofNat 4))] 1 (some 2))]), (.int .i64 (.ofNat 0))])
theorem m156 : Ret Tryz.prog G 13 a156 [] v156 [] := run_ok (n := 1000) (by kernel_rfl)
def a167 : List AV := [(.vec [(.vec [(.int .i64 (.ofNat 3)), (.int .i64 (.ofNat 1))] 2 (some 2)), (.vec [(.int .i64 (.ofNat 1)), (.int .i64 (.ofNat 13))] 2 (some 2))] 2 (some 2)), (.int .i64 (.ofNat 200000))]
def v167 : AV := (.tup [(.agg [(.bool false), (.vec [(.int .u32 (.ofNat 2))] 1 (some 2))]), (.int .i64 (.ofNat 0))])
theorem m167 : Ret Tryz.prog G 13 a167 [] v167 [] := run_ok (n := 1000) (by kernel_rfl)
def a175 : List AV := [(.vec [(.vec [(.int .i64 (.ofNat 6)), (.int .i64 (.ofNat 3))] 2 (some 2)), (.vec [(.int .i64 (.ofNat 3)), (.int .i64 (.ofNat 8))] 2 (some 2))] 2 (some 2)), (.int .i64 (.ofNat 200000))]
def v175 : AV := (.tup [(.agg [(.bool false), (.vec [(.int .u32 (.ofNat 4))] 1 (some 2))]), (.int .i64 (.ofNat 0))])
theorem m175 : Ret Tryz.prog G 13 a175 [] v175 [] := run_ok (n := 1000) (by kernel_rfl)
def a193 : List AV := [(.vec [(.vec [(.int .i64 (.ofNat 6)), (.int .i64 (.ofNat 0))] 2 (some 2)), (.vec [(.int .i64 (.ofNat 0)), (.int .i64 (.ofNat 7))] 2 (some 2))] 2 (some 2)), (.int .i64 (.ofNat 200000))]
def v193 : AV := (.tup [(.agg [(.bool false), (.vec [(.int .u32 (.ofNat 4))] 1 (some 2))]), (.int .i64 (.ofNat 0))])
theorem m193 : Ret Tryz.prog G 13 a193 [] v193 [] := run_ok (n := 1000) (by kernel_rfl)
def a222 : List AV := [(.vec [(.vec [(.int .i64 (.ofNat 6)), (.int .i64 (.ofNat 1))] 2 (some 2)), (.vec [(.int .i64 (.ofNat 1)), (.int .i64 (.ofNat 8))] 2 (some 2))] 2 (some 2)), (.int .i64 (.ofNat 200000))]
def v222 : AV := (.tup [(.agg [(.bool false), (.vec [(.int .u32 (.ofNat 2))] 1 (some 2))]), (.int .i64 (.ofNat 0))])
theorem m222 : Ret Tryz.prog G 13 a222 [] v222 [] := run_ok (n := 1000) (by kernel_rfl)
def a261 : List AV := [(.vec [(.vec [(.int .i64 (.ofNat 6)), (.int .i64 (.ofNat 1))] 2 (some 2)), (.vec [(.int .i64 (.ofNat 1)), (.int .i64 (.ofNat 9))] 2 (some 2))] 2 (some 2)), (.int .i64 (.ofNat 200000))]
def v261 : AV := (.tup [(.agg [(.bool false), (.vec [(.int .u32 (.ofNat 2))] 1 (some 2))]), (.int .i64 (.ofNat 0))])
theorem m261 : Ret Tryz.prog G 13 a261 [] v261 [] := run_ok (n := 1000) (by kernel_rfl)
def a264 : List AV := [(.vec [(.vec [(.int .i64 (.ofNat 2)), (.int .i64 (.ofNat 0))] 2 (some 2)), (.vec [(.int .i64 (.ofNat 0)), (.int .i64 (.ofNat 27))] 2 (some 2))] 2 (some 2)), (.int .i64 (.ofNat 200000))]
def v264 : AV := (.tup [(.agg [(.bool false), (.vec [(.int .u32 (.ofNat 4))] 1 (some 2))]), (.int .i64 (.ofNat 0))])
theorem m264 : Ret Tryz.prog G 13 a264 [] v264 [] := run_ok (n := 1000) (by kernel_rfl)
def a271 : List AV := [(.vec [(.vec [(.int .i64 (.ofNat 2)), (.int .i64 (.ofNat 1))] 2 (some 2)), (.vec [(.int .i64 (.ofNat 1)), (.int .i64 (.ofNat 28))] 2 (some 2))] 2 (some 2)), (.int .i64 (.ofNat 200000))]
def v271 : AV := (.tup [(.agg [(.bool false), (.vec [(.int .u32 (.ofNat 4))] 1 (some 2))]), (.int .i64 (.ofNat 0))])
theorem m271 : Ret Tryz.prog G 13 a271 [] v271 [] := run_ok (n := 1000) (by kernel_rfl)
def a276 : List AV := [(.int .i64 (.ofNat 2)), (.int .i64 (.ofNat 56))]
def v276 : AV := (.tup [(.vec [(.vec [(.vec [(.int .i64 (.ofNat 1)), (.int .i64 (.ofNat 0))] 2 (some 2)), (.vec [(.int .i64 (.ofNat 0)), (.int .i64 (.ofNat 56))] 2 (some 2))] 2 (some 2)), (.vec [(.vec [(.int .i64 (.ofNat 2)), (.int .i64 (.ofNat 0))] 2 (some 2)), (.vec [(.int .i64 (.ofNat 0)), (.int .i64 (.ofNat 28))] 2 (some 2))] 2 (some 2)), (.vec [(.vec [(.int .i64 (.ofNat 3)), (.int .i64 (.ofNat 1))] 2 (some 2)), (.vec [(.int .i64 (.ofNat 1)), (.int .i64 (.ofNat 19))] 2 (some 2))] 2 (some 2)), (.vec [(.vec [(.int .i64 (.ofNat 4)), (.int .i64 (.ofNat 0))] 2 (some 2)), (.vec [(.int .i64 (.ofNat 0)), (.int .i64 (.ofNat 14))] 2 (some 2))] 2 (some 2)), (.vec [(.vec [(.int .i64 (.ofNat 4)), (.int .i64 (.ofNat 2))] 2 (some 2)), (.vec [(.int .i64 (.ofNat 2)), (.int .i64 (.ofNat 15))] 2 (some 2))] 2 (some 2)), (.vec [(.vec [(.int .i64 (.ofNat 5)), (.int .i64 (.ofNat 2))] 2 (some 2)), (.vec [(.int .i64 (.ofNat 2)), (.int .i64 (.ofNat 12))] 2 (some 2))] 2 (some 2)), (.vec [(.vec [(.int .i64 (.ofNat 6)), (.int .i64 (.ofNat 2))] 2 (some 2)), (.vec [(.int .i64 (.ofNat 2)), (.int .i64 (.ofNat 10))] 2 (some 2))] 2 (some 2)), (.vec [(.vec [(.int .i64 (.ofNat 7)), (.int .i64 (.ofNat 0))] 2 (some 2)), (.vec [(.int .i64 (.ofNat 0)), (.int .i64 (.ofNat 8))] 2 (some 2))] 2 (some 2)), (.vec [(.vec [(.int .i64 (.ofNat 8)), (.int .i64 (.ofNat 4))] 2 (some 2)), (.vec [(.int .i64 (.ofNat 4)), (.int .i64 (.ofNat 9))] 2 (some 2))] 2 (some 2))] 9 none), (.int .i64 (.ofNat 0))])
theorem m276 : Ret Tryz.prog G 8 a276 [] v276 [] := run_ok (n := 1000) (by kernel_rfl)
def a295 : List AV := [(.vec [(.vec [(.int .i64 (.ofNat 1)), (.int .i64 (.ofNat 0))] 2 (some 2)), (.vec [(.int .i64 (.ofNat 0)), (.int .i64 (.ofNat 59))] 2 (some 2))] 2 (some 2)), (.int .i64 (.ofNat 200000))]
def v295 : AV := (.tup [(.agg [(.bool false), (.vec [(.int .u32 (.ofNat 4))] 1 (some 2))]), (.int .i64 (.ofNat 0))])
theorem m295 : Ret Tryz.prog G 13 a295 [] v295 [] := run_ok (n := 1000) (by kernel_rfl)
def a309 : List AV := [(.vec [(.vec [(.int .i64 (.ofNat 6)), (.int .i64 (.ofNat 0))] 2 (some 2)), (.vec [(.int .i64 (.ofNat 0)), (.int .i64 (.ofNat 10))] 2 (some 2))] 2 (some 2)), (.int .i64 (.ofNat 200000))]
def v309 : AV := (.tup [(.agg [(.bool false), (.vec [(.int .u32 (.ofNat 4))] 1 (some 2))]), (.int .i64 (.ofNat 0))])
theorem m309 : Ret Tryz.prog G 13 a309 [] v309 [] := run_ok (n := 1000) (by kernel_rfl)
end Go.Proofs.YthkpeakeoepocaaGreatDoor.OO

/- Results of some calls, by the kernel (genmemo.py). -/
namespace Go.Proofs.YthkpeakeoepocaaGreatDoor.OO
set_option linter.unusedSimpArgs false
set_option linter.unusedVariables false
open Go Go.AL Go.Proofs
set_option maxRecDepth 1000000
def a20 : List AV := [(.int .i64 (.ofNat 2)), (.int .i64 (.ofNat 8))]
def v20 : AV := (.tup [(.vec [(.vec [(.vec [(.int .i64 (.ofNat 1)), (.int .i64 (.ofNat 0))] 2 (some 2)), (.vec [(.int .i64 (.ofNat 0)), (.int .i64 (.ofNat 8))] 2 (some 2))] 2 (some 2)), (.vec [(.vec [(.int .i64 (.ofNat 2)), (.int .i64 (.ofNat 0))] 2 (some 2)), (.vec [(.int .i64 (.ofNat 0)), (.int .i64 (.ofNat 4))] 2 (some 2))] 2 (some 2)), (.vec [(.vec [(.int .i64 (.ofNat 3)), (.int .i64 (.ofNat 1))] 2 (some 2)), (.vec [(.int .i64 (.ofNat 1)), (.int .i64 (.ofNat 3))] 2 (some 2))] 2 (some 2))] 3 none), (.int .i64 (.ofNat 0))])
theorem m20 : Ret Tryz.prog G 8 a20 [] v20 [] := run_ok (n := 1000) (by kernel_rfl)
def a22 : List AV := [(.vec [(.vec [(.int .i64 (.ofNat 2)), (.int .i64 (.ofNat 0))] 2 (some 2)), (.vec [(.int .i64 (.ofNat 0)), (.int .i64 (.ofNat 4))] 2 (some 2))] 2 (some 2)), (.int .i64 (.ofNat 200000))]
def v22 : AV := (.tup [(.agg [(.bool false), (.vec [(.int .u32 (.ofNat 4))] 1 (some 2))]), (.int .i64 (.ofNat 0))])
theorem m22 : Ret Tryz.prog G 13 a22 [] v22 [] := run_ok (n := 1000) (by kernel_rfl)
def a35 : List AV := [(.int .i64 (.ofNat 2)), (.int .i64 (.ofNat 12))]
def v35 : AV := (.tup [(.vec [(.vec [(.vec [(.int .i64 (.ofNat 1)), (.int .i64 (.ofNat 0))] 2 (some 2)), (.vec [(.int .i64 (.ofNat 0)), (.int .i64 (.ofNat 12))] 2 (some 2))] 2 (some 2)), (.vec [(.vec [(.int .i64 (.ofNat 2)), (.int .i64 (.ofNat 0))] 2 (some 2)), (.vec [(.int .i64 (.ofNat 0)), (.int .i64 (.ofNat 6))] 2 (some 2))] 2 (some 2)), (.vec [(.vec [(.int .i64 (.ofNat 3)), (.int .i64 (.ofNat 0))] 2 (some 2)), (.vec [(.int .i64 (.ofNat 0)), (.int .i64 (.ofNat 4))] 2 (some 2))] 2 (some 2)), (.vec [(.vec [(.int .i64 (.ofNat 4)), (.int .i64 (.ofNat 2))] 2 (some 2)), (.vec [(.int .i64 (.ofNat 2)), (.int .i64 (.ofNat 4))] 2 (some 2))] 2 (some 2))] 4 none), (.int .i64 (.ofNat 0))])
theorem m35 : Ret Tryz.prog G 8 a35 [] v35 [] := run_ok (n := 1000) (by kernel_rfl)
def a42 : List AV := [(.vec [(.vec [(.int .i64 (.ofNat 2)), (.int .i64 (.ofNat 1))] 2 (some 2)), (.vec [(.int .i64 (.ofNat 1)), (.int .i64 (.ofNat 7))] 2 (some 2))] 2 (some 2)), (.int .i64 (.ofNat 200000))]
def v42 : AV := (.tup [(.agg [(.bool false), (.vec [(.int .u32 (.ofNat 4))] 1 (some 2))]), (.int .i64 (.ofNat 0))])
theorem m42 : Ret Tryz.prog G 13 a42 [] v42 [] := run_ok (n := 1000) (by kernel_rfl)
def a48 : List AV := [(.vec [(.vec [(.int .i64 (.ofNat 1)), (.int .i64 (.ofNat 0))] 2 (some 2)), (.vec [(.int .i64 (.ofNat 0)), (.int .i64 (.ofNat 15))] 2 (some 2))] 2 (some 2)), (.int .i64 (.ofNat 200000))]
def v48 : AV := (.tup [(.agg [(.bool false), (.vec [(.int .u32 (.ofNat 4))] 1 (some 2))]), (.int .i64 (.ofNat 0))])
theorem m48 : Ret Tryz.prog G 13 a48 [] v48 [] := run_ok (n := 1000) (by kernel_rfl)
def a60 : List AV := [(.vec [(.vec [(.int .i64 (.ofNat 3)), (.int .i64 (.ofNat 1))] 2 (some 2)), (.vec [(.int .i64 (.ofNat 1)), (.int .i64 (.ofNat 6))] 2 (some 2))] 2 (some 2)), (.int .i64 (.ofNat 200000))]
def v60 : AV := (.tup [(.agg [(.bool false), (.vec [(.int .u32 (.ofNat 2))] 1 (some 2))]), (.int .i64 (.ofNat 0))])
theorem m60 : Ret Tryz.prog G 13 a60 [] v60 [] := run_ok (n := 1000) (by kernel_rfl)
def a77 : List AV := [(.vec [(.vec [(.int .i64 (.ofNat 2)), (.int .i64 (.ofNat 1))] 2 (some 2)), (.vec [(.int .i64 (.ofNat 1)), (.int .i64 (.ofNat 11))] 2 (some 2))] 2 (some 2)), (.int .i64 (.ofNat 200000))]
def v77 : AV := (.tup [(.agg [(.bool false), (.vec [(.int .u32 (.ofNat 4))] 1 (some 2))]), (.int .i64 (.ofNat 0))])
theorem m77 : Ret Tryz.prog G 13 a77 [] v77 [] := run_ok (n := 1000) (by kernel_rfl)
def a81 : List AV := [(.vec [(.vec [(.int .i64 (.ofNat 1)), (.int .i64 (.ofNat 0))] 2 (some 2)), (.vec [(.int .i64 (.ofNat 0)), (.int .i64 (.ofNat 22))] 2 (some 2))] 2 (some 2)), (.int .i64 (.ofNat 200000))]
def v81 : AV := (.tup [(.agg [(.bool false), (.vec [(.int .u32 (.ofNat 4))] 1 (some 2))]), (.int .i64 (.ofNat 0))])
theorem m81 : Ret Tryz.prog G 13 a81 [] v81 [] := run_ok (n := 1000) (by kernel_rfl)
def a101 : List AV := [(.vec [(.vec [(.int .i64 (.ofNat 2)), (.int .i64 (.ofNat 0))] 2 (some 2)), (.vec [(.int .i64 (.ofNat 0)), (.int .i64 (.ofNat 13))] 2 (some 2))] 2 (some 2)), (.int .i64 (.ofNat 200000))]
def v101 : AV := (.tup [(.agg [(.bool false), (.vec [(.int .u32 (.ofNat 4))] 1 (some 2))]), (.int .i64 (.ofNat 0))])
theorem m101 : Ret Tryz.prog G 13 a101 [] v101 [] := run_ok (n := 1000) (by kernel_rfl)
def a149 : List AV := [(.vec [(.vec [(.int .i64 (.ofNat 3)), (.int .i64 (.ofNat 1))] 2 (some 2)), (.vec [(.int .i64 (.ofNat 1)), (.int .i64 (.ofNat 12))] 2 (some 2))] 2 (some 2)), (.int .i64 (.ofNat 200000))]
def v149 : AV := (.tup [(.agg [(.bool false), (.vec [(.int .u32 (.ofNat 2))] 1 (some 2))]), (.int .i64 (.ofNat 0))])
theorem m149 : Ret Tryz.prog G 13 a149 [] v149 [] := run_ok (n := 1000) (by kernel_rfl)
def a166 : List AV := [(.vec [(.vec [(.int .i64 (.ofNat 2)), (.int .i64 (.ofNat 0))] 2 (some 2)), (.vec [(.int .i64 (.ofNat 0)), (.int .i64 (.ofNat 19))] 2 (some 2))] 2 (some 2)), (.int .i64 (.ofNat 200000))]
def v166 : AV := (.tup [(.agg [(.bool false), (.vec [(.int .u32 (.ofNat 4))] 1 (some 2))]), (.int .i64 (.ofNat 0))])
theorem m166 : Ret Tryz.prog G 13 a166 [] v166 [] := run_ok (n := 1000) (by kernel_rfl)
def a184 : List AV := [(.vec [(.vec [(.int .i64 (.ofNat 1)), (.int .i64 (.ofNat 0))] 2 (some 2)), (.vec [(.int .i64 (.ofNat 0)), (.int .i64 (.ofNat 41))] 2 (some 2))] 2 (some 2)), (.int .i64 (.ofNat 200000))]
def v184 : AV := (.tup [(.agg [(.bool false), (.vec [(.int .u32 (.ofNat 4))] 1 (some 2))]), (.int .i64 (.ofNat 0))])
theorem m184 : Ret Tryz.prog G 13 a184 [] v184 [] := run_ok (n := 1000) (by kernel_rfl)
def a187 : List AV := [(.vec [(.vec [(.int .i64 (.ofNat 5)), (.int .i64 (.ofNat 2))] 2 (some 2)), (.vec [(.int .i64 (.ofNat 2)), (.int .i64 (.ofNat 9))] 2 (some 2))] 2 (some 2)), (.int .i64 (.ofNat 200000))]
def v187 : AV := (.tup [(.agg [(.bool false), (.vec [(.int .u32 (.ofNat 2))] 1 (some 2))]), (.int .i64 (.ofNat 0))])
theorem m187 : Ret Tryz.prog G 13 a187 [] v187 [] := run_ok (n := 1000) (by kernel_rfl)
def a198 : List AV := [(.int .i64 (.ofNat 2)), (.int .i64 (.ofNat 44))]
def v198 : AV := (.tup [(.vec [(.vec [(.vec [(.int .i64 (.ofNat 1)), (.int .i64 (.ofNat 0))] 2 (some 2)), (.vec [(.int .i64 (.ofNat 0)), (.int .i64 (.ofNat 44))] 2 (some 2))] 2 (some 2)), (.vec [(.vec [(.int .i64 (.ofNat 2)), (.int .i64 (.ofNat 0))] 2 (some 2)), (.vec [(.int .i64 (.ofNat 0)), (.int .i64 (.ofNat 22))] 2 (some 2))] 2 (some 2)), (.vec [(.vec [(.int .i64 (.ofNat 3)), (.int .i64 (.ofNat 1))] 2 (some 2)), (.vec [(.int .i64 (.ofNat 1)), (.int .i64 (.ofNat 15))] 2 (some 2))] 2 (some 2)), (.vec [(.vec [(.int .i64 (.ofNat 4)), (.int .i64 (.ofNat 0))] 2 (some 2)), (.vec [(.int .i64 (.ofNat 0)), (.int .i64 (.ofNat 11))] 2 (some 2))] 2 (some 2)), (.vec [(.vec [(.int .i64 (.ofNat 4)), (.int .i64 (.ofNat 2))] 2 (some 2)), (.vec [(.int .i64 (.ofNat 2)), (.int .i64 (.ofNat 12))] 2 (some 2))] 2 (some 2)), (.vec [(.vec [(.int .i64 (.ofNat 5)), (.int .i64 (.ofNat 1))] 2 (some 2)), (.vec [(.int .i64 (.ofNat 1)), (.int .i64 (.ofNat 9))] 2 (some 2))] 2 (some 2)), (.vec [(.vec [(.int .i64 (.ofNat 6)), (.int .i64 (.ofNat 2))] 2 (some 2)), (.vec [(.int .i64 (.ofNat 2)), (.int .i64 (.ofNat 8))] 2 (some 2))] 2 (some 2))] 7 none), (.int .i64 (.ofNat 0))])
theorem m198 : Ret Tryz.prog G 8 a198 [] v198 [] := run_ok (n := 1000) (by kernel_rfl)
def a208 : List AV := [(.vec [(.vec [(.int .i64 (.ofNat 2)), (.int .i64 (.ofNat 1))] 2 (some 2)), (.vec [(.int .i64 (.ofNat 1)), (.int .i64 (.ofNat 23))] 2 (some 2))] 2 (some 2)), (.int .i64 (.ofNat 200000))]
def v208 : AV := (.tup [(.agg [(.bool false), (.vec [(.int .u32 (.ofNat 4))] 1 (some 2))]), (.int .i64 (.ofNat 0))])
theorem m208 : Ret Tryz.prog G 13 a208 [] v208 [] := run_ok (n := 1000) (by kernel_rfl)
def a249 : List AV := [(.vec [(.vec [(.int .i64 (.ofNat 5)), (.int .i64 (.ofNat 2))] 2 (some 2)), (.vec [(.int .i64 (.ofNat 2)), (.int .i64 (.ofNat 11))] 2 (some 2))] 2 (some 2)), (.int .i64 (.ofNat 200000))]
def v249 : AV := (.tup [(.agg [(.bool false), (.vec [(.int .u32 (.ofNat 2))] 1 (some 2))]), (.int .i64 (.ofNat 0))])
theorem m249 : Ret Tryz.prog G 13 a249 [] v249 [] := run_ok (n := 1000) (by kernel_rfl)
def a263 : List AV := [(.vec [(.vec [(.int .i64 (.ofNat 1)), (.int .i64 (.ofNat 0))] 2 (some 2)), (.vec [(.int .i64 (.ofNat 0)), (.int .i64 (.ofNat 54))] 2 (some 2))] 2 (some 2)), (.int .i64 (.ofNat 200000))]
def v263 : AV := (.tup [(.agg [(.bool false), (.vec [(.int .u32 (.ofNat 4))] 1 (some 2))]), (.int .i64 (.ofNat 0))])
theorem m263 : Ret Tryz.prog G 13 a263 [] v263 [] := run_ok (n := 1000) (by kernel_rfl)
def a279 : List AV := [(.vec [(.vec [(.int .i64 (.ofNat 3)), (.int .i64 (.ofNat 1))] 2 (some 2)), (.vec [(.int .i64 (.ofNat 1)), (.int .i64 (.ofNat 19))] 2 (some 2))] 2 (some 2)), (.int .i64 (.ofNat 200000))]
def v279 : AV := (.tup [(.agg [(.bool false), (.vec [(.int .u32 (.ofNat 2))] 1 (some 2))]), (.int .i64 (.ofNat 0))])
theorem m279 : Ret Tryz.prog G 13 a279 [] v279 [] := run_ok (n := 1000) (by kernel_rfl)
def a280 : List AV := [(.vec [(.vec [(.int .i64 (.ofNat 4)), (.int .i64 (.ofNat 0))] 2 (some 2)), (.vec [(.int .i64 (.ofNat 0)), (.int .i64 (.ofNat 14))] 2 (some 2))] 2 (some 2)), (.int .i64 (.ofNat 200000))]
def v280 : AV := (.tup [(.agg [(.bool false), (.vec [(.int .u32 (.ofNat 4))] 1 (some 2))]), (.int .i64 (.ofNat 0))])
theorem m280 : Ret Tryz.prog G 13 a280 [] v280 [] := run_ok (n := 1000) (by kernel_rfl)
def a299 : List AV := [(.vec [(.vec [(.int .i64 (.ofNat 5)), (.int .i64 (.ofNat 1))] 2 (some 2)), (.vec [(.int .i64 (.ofNat 1)), (.int .i64 (.ofNat 12))] 2 (some 2))] 2 (some 2)), (.int .i64 (.ofNat 200000))]
def v299 : AV := (.tup [(.agg [(.bool false), (.vec [(.int .u32 (.ofNat 2))] 1 (some 2))]), (.int .i64 (.ofNat 0))])
theorem m299 : Ret Tryz.prog G 13 a299 [] v299 [] := run_ok (n := 1000) (by kernel_rfl)
end Go.Proofs.YthkpeakeoepocaaGreatDoor.OO

/- Results of some calls, by the kernel (genmemo.py). -/
namespace Go.Proofs.YthkpeakeoepocaaGreatDoor.OO
set_option linter.unusedSimpArgs false
set_option linter.unusedVariables false
open Go Go.AL Go.Proofs
set_option maxRecDepth 1000000
def a19 : List AV := [(.vec [(.vec [(.int .i64 (.ofNat 2)), (.int .i64 (.ofNat 1))] 2 (some 2)), (.vec [(.int .i64 (.ofNat 1)), (.int .i64 (.ofNat 4))] 2 (some 2))] 2 (some 2)), (.int .i64 (.ofNat 200000))]
def v19 : AV := (.tup [(.agg [(.bool false), (.vec [(.int .u32 (.ofNat 4))] 1 (some 2))]), (.int .i64 (.ofNat 0))])
theorem m19 : Ret Tryz.prog G 13 a19 [] v19 [] := run_ok (n := 1000) (by kernel_rfl)
def a21 : List AV := [(.vec [(.vec [(.int .i64 (.ofNat 1)), (.int .i64 (.ofNat 0))] 2 (some 2)), (.vec [(.int .i64 (.ofNat 0)), (.int .i64 (.ofNat 8))] 2 (some 2))] 2 (some 2)), (.int .i64 (.ofNat 200000))]
def v21 : AV := (.tup [(.agg [(.bool false), (.vec [(.int .u32 (.ofNat 4))] 1 (some 2))]), (.int .i64 (.ofNat 0))])
theorem m21 : Ret Tryz.prog G 13 a21 [] v21 [] := run_ok (n := 1000) (by kernel_rfl)
def a25 : List AV := [(.vec [(.vec [(.int .i64 (.ofNat 1)), (.int .i64 (.ofNat 0))] 2 (some 2)), (.vec [(.int .i64 (.ofNat 0)), (.int .i64 (.ofNat 9))] 2 (some 2))] 2 (some 2)), (.int .i64 (.ofNat 200000))]
def v25 : AV := (.tup [(.agg [(.bool false), (.vec [(.int .u32 (.ofNat 4))] 1 (some 2))]), (.int .i64 (.ofNat 0))])
theorem m25 : Ret Tryz.prog G 13 a25 [] v25 [] := run_ok (n := 1000) (by kernel_rfl)
def a30 : List AV := [(.vec [(.vec [(.int .i64 (.ofNat 2)), (.int .i64 (.ofNat 0))] 2 (some 2)), (.vec [(.int .i64 (.ofNat 0)), (.int .i64 (.ofNat 5))] 2 (some 2))] 2 (some 2)), (.int .i64 (.ofNat 200000))]
def v30 : AV := (.tup [(.agg [(.bool false), (.vec [(.int .u32 (.ofNat 4))] 1 (some 2))]), (.int .i64 (.ofNat 0))])
theorem m30 : Ret Tryz.prog G 13 a30 [] v30 [] := run_ok (n := 1000) (by kernel_rfl)
def a38 : List AV := [(.vec [(.vec [(.int .i64 (.ofNat 3)), (.int .i64 (.ofNat 0))] 2 (some 2)), (.vec [(.int .i64 (.ofNat 0)), (.int .i64 (.ofNat 4))] 2 (some 2))] 2 (some 2)), (.int .i64 (.ofNat 200000))]
def v38 : AV := (.tup [(.agg [(.bool false), (.vec [(.int .u32 (.ofNat 4))] 1 (some 2))]), (.int .i64 (.ofNat 0))])
theorem m38 : Ret Tryz.prog G 13 a38 [] v38 [] := run_ok (n := 1000) (by kernel_rfl)
def a58 : List AV := [(.vec [(.vec [(.int .i64 (.ofNat 1)), (.int .i64 (.ofNat 0))] 2 (some 2)), (.vec [(.int .i64 (.ofNat 0)), (.int .i64 (.ofNat 17))] 2 (some 2))] 2 (some 2)), (.int .i64 (.ofNat 200000))]
def v58 : AV := (.tup [(.agg [(.bool false), (.vec [(.int .u32 (.ofNat 4))] 1 (some 2))]), (.int .i64 (.ofNat 0))])
theorem m58 : Ret Tryz.prog G 13 a58 [] v58 [] := run_ok (n := 1000) (by kernel_rfl)
def a92 : List AV := [(.vec [(.vec [(.int .i64 (.ofNat 4)), (.int .i64 (.ofNat 0))] 2 (some 2)), (.vec [(.int .i64 (.ofNat 0)), (.int .i64 (.ofNat 6))] 2 (some 2))] 2 (some 2)), (.int .i64 (.ofNat 200000))]
def v92 : AV := (.tup [(.agg [(.bool false), (.vec [(.int .u32 (.ofNat 4))] 1 (some 2))]), (.int .i64 (.ofNat 0))])
theorem m92 : Ret Tryz.prog G 13 a92 [] v92 [] := run_ok (n := 1000) (by kernel_rfl)
def a99 : List AV := [(.int .i64 (.ofNat 2)), (.int .i64 (.ofNat 26))]
def v99 : AV := (.tup [(.vec [(.vec [(.vec [(.int .i64 (.ofNat 1)), (.int .i64 (.ofNat 0))] 2 (some 2)), (.vec [(.int .i64 (.ofNat 0)), (.int .i64 (.ofNat 26))] 2 (some 2))] 2 (some 2)), (.vec [(.vec [(.int .i64 (.ofNat 2)), (.int .i64 (.ofNat 0))] 2 (some 2)), (.vec [(.int .i64 (.ofNat 0)), (.int .i64 (.ofNat 13))] 2 (some 2))] 2 (some 2)), (.vec [(.vec [(.int .i64 (.ofNat 3)), (.int .i64 (.ofNat 1))] 2 (some 2)), (.vec [(.int .i64 (.ofNat 1)), (.int .i64 (.ofNat 9))] 2 (some 2))] 2 (some 2)), (.vec [(.vec [(.int .i64 (.ofNat 5)), (.int .i64 (.ofNat 2))] 2 (some 2)), (.vec [(.int .i64 (.ofNat 2)), (.int .i64 (.ofNat 6))] 2 (some 2))] 2 (some 2))] 4 none), (.int .i64 (.ofNat 0))])
theorem m99 : Ret Tryz.prog G 8 a99 [] v99 [] := run_ok (n := 1000) (by kernel_rfl)
def a102 : List AV := [(.vec [(.vec [(.int .i64 (.ofNat 3)), (.int .i64 (.ofNat 1))] 2 (some 2)), (.vec [(.int .i64 (.ofNat 1)), (.int .i64 (.ofNat 9))] 2 (some 2))] 2 (some 2)), (.int .i64 (.ofNat 200000))]
def v102 : AV := (.tup [(.agg [(.bool false), (.vec [(.int .u32 (.ofNat 2))] 1 (some 2))]), (.int .i64 (.ofNat 0))])
theorem m102 : Ret Tryz.prog G 13 a102 [] v102 [] := run_ok (n := 1000) (by kernel_rfl)
def a142 : List AV := [(.int .i64 (.ofNat 2)), (.int .i64 (.ofNat 34))]
def v142 : AV := (.tup [(.vec [(.vec [(.vec [(.int .i64 (.ofNat 1)), (.int .i64 (.ofNat 0))] 2 (some 2)), (.vec [(.int .i64 (.ofNat 0)), (.int .i64 (.ofNat 34))] 2 (some 2))] 2 (some 2)), (.vec [(.vec [(.int .i64 (.ofNat 2)), (.int .i64 (.ofNat 0))] 2 (some 2)), (.vec [(.int .i64 (.ofNat 0)), (.int .i64 (.ofNat 17))] 2 (some 2))] 2 (some 2)), (.vec [(.vec [(.int .i64 (.ofNat 5)), (.int .i64 (.ofNat 1))] 2 (some 2)), (.vec [(.int .i64 (.ofNat 1)), (.int .i64 (.ofNat 7))] 2 (some 2))] 2 (some 2))] 3 none), (.int .i64 (.ofNat 0))])
theorem m142 : Ret Tryz.prog G 8 a142 [] v142 [] := run_ok (n := 1000) (by kernel_rfl)
def a164 : List AV := [(.int .i64 (.ofNat 2)), (.int .i64 (.ofNat 38))]
def v164 : AV := (.tup [(.vec [(.vec [(.vec [(.int .i64 (.ofNat 1)), (.int .i64 (.ofNat 0))] 2 (some 2)), (.vec [(.int .i64 (.ofNat 0)), (.int .i64 (.ofNat 38))] 2 (some 2))] 2 (some 2)), (.vec [(.vec [(.int .i64 (.ofNat 2)), (.int .i64 (.ofNat 0))] 2 (some 2)), (.vec [(.int .i64 (.ofNat 0)), (.int .i64 (.ofNat 19))] 2 (some 2))] 2 (some 2)), (.vec [(.vec [(.int .i64 (.ofNat 3)), (.int .i64 (.ofNat 1))] 2 (some 2)), (.vec [(.int .i64 (.ofNat 1)), (.int .i64 (.ofNat 13))] 2 (some 2))] 2 (some 2)), (.vec [(.vec [(.int .i64 (.ofNat 6)), (.int .i64 (.ofNat 2))] 2 (some 2)), (.vec [(.int .i64 (.ofNat 2)), (.int .i64 (.ofNat 7))] 2 (some 2))] 2 (some 2))] 4 none), (.int .i64 (.ofNat 0))])
theorem m164 : Ret Tryz.prog G 8 a164 [] v164 [] := run_ok (n := 1000) (by kernel_rfl)
def a185 : List AV := [(.vec [(.vec [(.int .i64 (.ofNat 2)), (.int .i64 (.ofNat 1))] 2 (some 2)), (.vec [(.int .i64 (.ofNat 1)), (.int .i64 (.ofNat 21))] 2 (some 2))] 2 (some 2)), (.int .i64 (.ofNat 200000))]
def v185 : AV := (.tup [(.agg [(.bool false), (.vec [(.int .u32 (.ofNat 4))] 1 (some 2))]), (.int .i64 (.ofNat 0))])
theorem m185 : Ret Tryz.prog G 13 a185 [] v185 [] := run_ok (n := 1000) (by kernel_rfl)
def a204 : List AV := [(.vec [(.vec [(.int .i64 (.ofNat 5)), (.int .i64 (.ofNat 1))] 2 (some 2)), (.vec [(.int .i64 (.ofNat 1)), (.int .i64 (.ofNat 9))] 2 (some 2))] 2 (some 2)), (.int .i64 (.ofNat 200000))]
def v204 : AV := (.tup [(.agg [(.bool false), (.vec [(.int .u32 (.ofNat 2))] 1 (some 2))]), (.int .i64 (.ofNat 0))])
theorem m204 : Ret Tryz.prog G 13 a204 [] v204 [] := run_ok (n := 1000) (by kernel_rfl)
def a212 : List AV := [(.vec [(.vec [(.int .i64 (.ofNat 7)), (.int .i64 (.ofNat 2))] 2 (some 2)), (.vec [(.int .i64 (.ofNat 2)), (.int .i64 (.ofNat 7))] 2 (some 2))] 2 (some 2)), (.int .i64 (.ofNat 200000))]
def v212 : AV := (.tup [(.agg [(.bool false), (.vec [(.int .u32 (.ofNat 4))] 1 (some 2))]), (.int .i64 (.ofNat 0))])
theorem m212 : Ret Tryz.prog G 13 a212 [] v212 [] := run_ok (n := 1000) (by kernel_rfl)
def a237 : List AV := [(.vec [(.vec [(.int .i64 (.ofNat 7)), (.int .i64 (.ofNat 0))] 2 (some 2)), (.vec [(.int .i64 (.ofNat 0)), (.int .i64 (.ofNat 7))] 2 (some 2))] 2 (some 2)), (.int .i64 (.ofNat 200000))]
def v237 : AV := (.tup [(.agg [(.bool false), (.vec [(.int .u32 (.ofNat 8))] 1 (some 2))]), (.int .i64 (.ofNat 0))])
theorem m237 : Ret Tryz.prog G 13 a237 [] v237 [] := run_ok (n := 1000) (by kernel_rfl)
def a244 : List AV := [(.int .i64 (.ofNat 2)), (.int .i64 (.ofNat 51))]
def v244 : AV := (.tup [(.vec [(.vec [(.vec [(.int .i64 (.ofNat 1)), (.int .i64 (.ofNat 0))] 2 (some 2)), (.vec [(.int .i64 (.ofNat 0)), (.int .i64 (.ofNat 51))] 2 (some 2))] 2 (some 2)), (.vec [(.vec [(.int .i64 (.ofNat 2)), (.int .i64 (.ofNat 1))] 2 (some 2)), (.vec [(.int .i64 (.ofNat 1)), (.int .i64 (.ofNat 26))] 2 (some 2))] 2 (some 2)), (.vec [(.vec [(.int .i64 (.ofNat 3)), (.int .i64 (.ofNat 0))] 2 (some 2)), (.vec [(.int .i64 (.ofNat 0)), (.int .i64 (.ofNat 17))] 2 (some 2))] 2 (some 2)), (.vec [(.vec [(.int .i64 (.ofNat 4)), (.int .i64 (.ofNat 1))] 2 (some 2)), (.vec [(.int .i64 (.ofNat 1)), (.int .i64 (.ofNat 13))] 2 (some 2))] 2 (some 2)), (.vec [(.vec [(.int .i64 (.ofNat 5)), (.int .i64 (.ofNat 2))] 2 (some 2)), (.vec [(.int .i64 (.ofNat 2)), (.int .i64 (.ofNat 11))] 2 (some 2))] 2 (some 2)), (.vec [(.vec [(.int .i64 (.ofNat 6)), (.int .i64 (.ofNat 3))] 2 (some 2)), (.vec [(.int .i64 (.ofNat 3)), (.int .i64 (.ofNat 10))] 2 (some 2))] 2 (some 2))] 6 none), (.int .i64 (.ofNat 0))])
theorem m244 : Ret Tryz.prog G 8 a244 [] v244 [] := run_ok (n := 1000) (by kernel_rfl)
def a303 : List AV := [(.vec [(.vec [(.int .i64 (.ofNat 1)), (.int .i64 (.ofNat 0))] 2 (some 2)), (.vec [(.int .i64 (.ofNat 0)), (.int .i64 (.ofNat 60))] 2 (some 2))] 2 (some 2)), (.int .i64 (.ofNat 200000))]
def v303 : AV := (.tup [(.agg [(.bool false), (.vec [(.int .u32 (.ofNat 4))] 1 (some 2))]), (.int .i64 (.ofNat 0))])
theorem m303 : Ret Tryz.prog G 13 a303 [] v303 [] := run_ok (n := 1000) (by kernel_rfl)
def a304 : List AV := [(.vec [(.vec [(.int .i64 (.ofNat 2)), (.int .i64 (.ofNat 0))] 2 (some 2)), (.vec [(.int .i64 (.ofNat 0)), (.int .i64 (.ofNat 30))] 2 (some 2))] 2 (some 2)), (.int .i64 (.ofNat 200000))]
def v304 : AV := (.tup [(.agg [(.bool false), (.vec [(.int .u32 (.ofNat 4))] 1 (some 2))]), (.int .i64 (.ofNat 0))])
theorem m304 : Ret Tryz.prog G 13 a304 [] v304 [] := run_ok (n := 1000) (by kernel_rfl)
def a307 : List AV := [(.vec [(.vec [(.int .i64 (.ofNat 4)), (.int .i64 (.ofNat 2))] 2 (some 2)), (.vec [(.int .i64 (.ofNat 2)), (.int .i64 (.ofNat 16))] 2 (some 2))] 2 (some 2)), (.int .i64 (.ofNat 200000))]
def v307 : AV := (.tup [(.agg [(.bool false), (.vec [(.int .u32 (.ofNat 4))] 1 (some 2))]), (.int .i64 (.ofNat 0))])
theorem m307 : Ret Tryz.prog G 13 a307 [] v307 [] := run_ok (n := 1000) (by kernel_rfl)
end Go.Proofs.YthkpeakeoepocaaGreatDoor.OO

/- Results of some calls, by the kernel (genmemo.py). -/
namespace Go.Proofs.YthkpeakeoepocaaGreatDoor.OO
set_option linter.unusedSimpArgs false
set_option linter.unusedVariables false
open Go Go.AL Go.Proofs
set_option maxRecDepth 1000000
def a24 : List AV := [(.int .i64 (.ofNat 2)), (.int .i64 (.ofNat 9))]
def v24 : AV := (.tup [(.vec [(.vec [(.vec [(.int .i64 (.ofNat 1)), (.int .i64 (.ofNat 0))] 2 (some 2)), (.vec [(.int .i64 (.ofNat 0)), (.int .i64 (.ofNat 9))] 2 (some 2))] 2 (some 2)), (.vec [(.vec [(.int .i64 (.ofNat 2)), (.int .i64 (.ofNat 1))] 2 (some 2)), (.vec [(.int .i64 (.ofNat 1)), (.int .i64 (.ofNat 5))] 2 (some 2))] 2 (some 2)), (.vec [(.vec [(.int .i64 (.ofNat 3)), (.int .i64 (.ofNat 0))] 2 (some 2)), (.vec [(.int .i64 (.ofNat 0)), (.int .i64 (.ofNat 3))] 2 (some 2))] 2 (some 2))] 3 none), (.int .i64 (.ofNat 0))])
theorem m24 : Ret Tryz.prog G 8 a24 [] v24 [] := run_ok (n := 1000) (by kernel_rfl)
def a51 : List AV := [(.vec [(.vec [(.int .i64 (.ofNat 4)), (.int .i64 (.ofNat 1))] 2 (some 2)), (.vec [(.int .i64 (.ofNat 1)), (.int .i64 (.ofNat 4))] 2 (some 2))] 2 (some 2)), (.int .i64 (.ofNat 200000))]
def v51 : AV := (.tup [(.agg [(.bool false), (.vec [(.int .u32 (.ofNat 4))] 1 (some 2))]), (.int .i64 (.ofNat 0))])
theorem m51 : Ret Tryz.prog G 13 a51 [] v51 [] := run_ok (n := 1000) (by kernel_rfl)
def a63 : List AV := [(.vec [(.vec [(.int .i64 (.ofNat 2)), (.int .i64 (.ofNat 0))] 2 (some 2)), (.vec [(.int .i64 (.ofNat 0)), (.int .i64 (.ofNat 9))] 2 (some 2))] 2 (some 2)), (.int .i64 (.ofNat 200000))]
def v63 : AV := (.tup [(.agg [(.bool false), (.vec [(.int .u32 (.ofNat 4))] 1 (some 2))]), (.int .i64 (.ofNat 0))])
theorem m63 : Ret Tryz.prog G 13 a63 [] v63 [] := run_ok (n := 1000) (by kernel_rfl)
def a93 : List AV := [(.vec [(.vec [(.int .i64 (.ofNat 4)), (.int .i64 (.ofNat 2))] 2 (some 2)), (.vec [(.int .i64 (.ofNat 2)), (.int .i64 (.ofNat 7))] 2 (some 2))] 2 (some 2)), (.int .i64 (.ofNat 200000))]
def v93 : AV := (.tup [(.agg [(.bool false), (.vec [(.int .u32 (.ofNat 4))] 1 (some 2))]), (.int .i64 (.ofNat 0))])
theorem m93 : Ret Tryz.prog G 13 a93 [] v93 [] := run_ok (n := 1000) (by kernel_rfl)
def a104 : List AV := [(.int .i64 (.ofNat 2)), (.int .i64 (.ofNat 27))]
def v104 : AV := (.tup [(.vec [(.vec [(.vec [(.int .i64 (.ofNat 1)), (.int .i64 (.ofNat 0))] 2 (some 2)), (.vec [(.int .i64 (.ofNat 0)), (.int .i64 (.ofNat 27))] 2 (some 2))] 2 (some 2)), (.vec [(.vec [(.int .i64 (.ofNat 2)), (.int .i64 (.ofNat 1))] 2 (some 2)), (.vec [(.int .i64 (.ofNat 1)), (.int .i64 (.ofNat 14))] 2 (some 2))] 2 (some 2)), (.vec [(.vec [(.int .i64 (.ofNat 3)), (.int .i64 (.ofNat 0))] 2 (some 2)), (.vec [(.int .i64 (.ofNat 0)), (.int .i64 (.ofNat 9))] 2 (some 2))] 2 (some 2)), (.vec [(.vec [(.int .i64 (.ofNat 4)), (.int .i64 (.ofNat 1))] 2 (some 2)), (.vec [(.int .i64 (.ofNat 1)), (.int .i64 (.ofNat 7))] 2 (some 2))] 2 (some 2)), (.vec [(.vec [(.int .i64 (.ofNat 6)), (.int .i64 (.ofNat 3))] 2 (some 2)), (.vec [(.int .i64 (.ofNat 3)), (.int .i64 (.ofNat 6))] 2 (some 2))] 2 (some 2))] 5 none), (.int .i64 (.ofNat 0))])
theorem m104 : Ret Tryz.prog G 8 a104 [] v104 [] := run_ok (n := 1000) (by kernel_rfl)
def a127 : List AV := [(.vec [(.vec [(.int .i64 (.ofNat 2)), (.int .i64 (.ofNat 1))] 2 (some 2)), (.vec [(.int .i64 (.ofNat 1)), (.int .i64 (.ofNat 16))] 2 (some 2))] 2 (some 2)), (.int .i64 (.ofNat 200000))]
def v127 : AV := (.tup [(.agg [(.bool false), (.vec [(.int .u32 (.ofNat 4))] 1 (some 2))]), (.int .i64 (.ofNat 0))])
theorem m127 : Ret Tryz.prog G 13 a127 [] v127 [] := run_ok (n := 1000) (by kernel_rfl)
def a130 : List AV := [(.int .i64 (.ofNat 2)), (.int .i64 (.ofNat 32))]
def v130 : AV := (.tup [(.vec [(.vec [(.vec [(.int .i64 (.ofNat 1)), (.int .i64 (.ofNat 0))] 2 (some 2)), (.vec [(.int .i64 (.ofNat 0)), (.int .i64 (.ofNat 32))] 2 (some 2))] 2 (some 2)), (.vec [(.vec [(.int .i64 (.ofNat 2)), (.int .i64 (.ofNat 0))] 2 (some 2)), (.vec [(.int .i64 (.ofNat 0)), (.int .i64 (.ofNat 16))] 2 (some 2))] 2 (some 2)), (.vec [(.vec [(.int .i64 (.ofNat 3)), (.int .i64 (.ofNat 1))] 2 (some 2)), (.vec [(.int .i64 (.ofNat 1)), (.int .i64 (.ofNat 11))] 2 (some 2))] 2 (some 2)), (.vec [(.vec [(.int .i64 (.ofNat 4)), (.int .i64 (.ofNat 0))] 2 (some 2)), (.vec [(.int .i64 (.ofNat 0)), (.int .i64 (.ofNat 8))] 2 (some 2))] 2 (some 2)), (.vec [(.vec [(.int .i64 (.ofNat 4)), (.int .i64 (.ofNat 2))] 2 (some 2)), (.vec [(.int .i64 (.ofNat 2)), (.int .i64 (.ofNat 9))] 2 (some 2))] 2 (some 2)), (.vec [(.vec [(.int .i64 (.ofNat 6)), (.int .i64 (.ofNat 2))] 2 (some 2)), (.vec [(.int .i64 (.ofNat 2)), (.int .i64 (.ofNat 6))] 2 (some 2))] 2 (some 2))] 6 none), (.int .i64 (.ofNat 0))])
theorem m130 : Ret Tryz.prog G 8 a130 [] v130 [] := run_ok (n := 1000) (by kernel_rfl)
def a145 : List AV := [(.vec [(.vec [(.int .i64 (.ofNat 5)), (.int .i64 (.ofNat 1))] 2 (some 2)), (.vec [(.int .i64 (.ofNat 1)), (.int .i64 (.ofNat 7))] 2 (some 2))] 2 (some 2)), (.int .i64 (.ofNat 200000))]
def v145 : AV := (.tup [(.agg [(.bool false), (.vec [(.int .u32 (.ofNat 2))] 1 (some 2))]), (.int .i64 (.ofNat 0))])
theorem m145 : Ret Tryz.prog G 13 a145 [] v145 [] := run_ok (n := 1000) (by kernel_rfl)
def a168 : List AV := [(.vec [(.vec [(.int .i64 (.ofNat 6)), (.int .i64 (.ofNat 2))] 2 (some 2)), (.vec [(.int .i64 (.ofNat 2)), (.int .i64 (.ofNat 7))] 2 (some 2))] 2 (some 2)), (.int .i64 (.ofNat 200000))]
def v168 : AV := (.tup [(.agg [(.bool false), (.vec [(.int .u32 (.ofNat 2))] 1 (some 2))]), (.int .i64 (.ofNat 0))])
theorem m168 : Ret Tryz.prog G 13 a168 [] v168 [] := run_ok (n := 1000) (by kernel_rfl)
def a177 : List AV := [(.vec [(.vec [(.int .i64 (.ofNat 1)), (.int .i64 (.ofNat 0))] 2 (some 2)), (.vec [(.int .i64 (.ofNat 0)), (.int .i64 (.ofNat 40))] 2 (some 2))] 2 (some 2)), (.int .i64 (.ofNat 200000))]
def v177 : AV := (.tup [(.agg [(.bool false), (.vec [(.int .u32 (.ofNat 4))] 1 (some 2))]), (.int .i64 (.ofNat 0))])
theorem m177 : Ret Tryz.prog G 13 a177 [] v177 [] := run_ok (n := 1000) (by kernel_rfl)
def a186 : List AV := [(.vec [(.vec [(.int .i64 (.ofNat 3)), (.int .i64 (.ofNat 1))] 2 (some 2)), (.vec [(.int .i64 (.ofNat 1)), (.int .i64 (.ofNat 14))] 2 (some 2))] 2 (some 2)), (.int .i64 (.ofNat 200000))]
def v186 : AV := (.tup [(.agg [(.bool false), (.vec [(.int .u32 (.ofNat 2))] 1 (some 2))]), (.int .i64 (.ofNat 0))])
theorem m186 : Ret Tryz.prog G 13 a186 [] v186 [] := run_ok (n := 1000) (by kernel_rfl)
def a200 : List AV := [(.vec [(.vec [(.int .i64 (.ofNat 2)), (.int .i64 (.ofNat 0))] 2 (some 2)), (.vec [(.int .i64 (.ofNat 0)), (.int .i64 (.ofNat 22))] 2 (some 2))] 2 (some 2)), (.int .i64 (.ofNat 200000))]
def v200 : AV := (.tup [(.agg [(.bool false), (.vec [(.int .u32 (.ofNat 4))] 1 (some 2))]), (.int .i64 (.ofNat 0))])
theorem m200 : Ret Tryz.prog G 13 a200 [] v200 [] := run_ok (n := 1000) (by kernel_rfl)
def a219 : List AV := [(.vec [(.vec [(.int .i64 (.ofNat 2)), (.int .i64 (.ofNat 1))] 2 (some 2)), (.vec [(.int .i64 (.ofNat 1)), (.int .i64 (.ofNat 24))] 2 (some 2))] 2 (some 2)), (.int .i64 (.ofNat 200000))]
def v219 : AV := (.tup [(.agg [(.bool false), (.vec [(.int .u32 (.ofNat 4))] 1 (some 2))]), (.int .i64 (.ofNat 0))])
theorem m219 : Ret Tryz.prog G 13 a219 [] v219 [] := run_ok (n := 1000) (by kernel_rfl)
def a248 : List AV := [(.vec [(.vec [(.int .i64 (.ofNat 4)), (.int .i64 (.ofNat 1))] 2 (some 2)), (.vec [(.int .i64 (.ofNat 1)), (.int .i64 (.ofNat 13))] 2 (some 2))] 2 (some 2)), (.int .i64 (.ofNat 200000))]
def v248 : AV := (.tup [(.agg [(.bool false), (.vec [(.int .u32 (.ofNat 2))] 1 (some 2))]), (.int .i64 (.ofNat 0))])
theorem m248 : Ret Tryz.prog G 13 a248 [] v248 [] := run_ok (n := 1000) (by kernel_rfl)
def a258 : List AV := [(.vec [(.vec [(.int .i64 (.ofNat 1)), (.int .i64 (.ofNat 0))] 2 (some 2)), (.vec [(.int .i64 (.ofNat 0)), (.int .i64 (.ofNat 53))] 2 (some 2))] 2 (some 2)), (.int .i64 (.ofNat 200000))]
def v258 : AV := (.tup [(.agg [(.bool false), (.vec [(.int .u32 (.ofNat 4))] 1 (some 2))]), (.int .i64 (.ofNat 0))])
theorem m258 : Ret Tryz.prog G 13 a258 [] v258 [] := run_ok (n := 1000) (by kernel_rfl)
def a265 : List AV := [(.vec [(.vec [(.int .i64 (.ofNat 3)), (.int .i64 (.ofNat 0))] 2 (some 2)), (.vec [(.int .i64 (.ofNat 0)), (.int .i64 (.ofNat 18))] 2 (some 2))] 2 (some 2)), (.int .i64 (.ofNat 200000))]
def v265 : AV := (.tup [(.agg [(.bool false), (.vec [(.int .u32 (.ofNat 4))] 1 (some 2))]), (.int .i64 (.ofNat 0))])
theorem m265 : Ret Tryz.prog G 13 a265 [] v265 [] := run_ok (n := 1000) (by kernel_rfl)
def a267 : List AV := [(.vec [(.vec [(.int .i64 (.ofNat 6)), (.int .i64 (.ofNat 0))] 2 (some 2)), (.vec [(.int .i64 (.ofNat 0)), (.int .i64 (.ofNat 9))] 2 (some 2))] 2 (some 2)), (.int .i64 (.ofNat 200000))]
def v267 : AV := (.tup [(.agg [(.bool false), (.vec [(.int .u32 (.ofNat 4))] 1 (some 2))]), (.int .i64 (.ofNat 0))])
theorem m267 : Ret Tryz.prog G 13 a267 [] v267 [] := run_ok (n := 1000) (by kernel_rfl)
def a285 : List AV := [(.vec [(.vec [(.int .i64 (.ofNat 8)), (.int .i64 (.ofNat 4))] 2 (some 2)), (.vec [(.int .i64 (.ofNat 4)), (.int .i64 (.ofNat 9))] 2 (some 2))] 2 (some 2)), (.int .i64 (.ofNat 200000))]
def v285 : AV := (.tup [(.agg [(.bool false), (.vec [(.int .u32 (.ofNat 4))] 1 (some 2))]), (.int .i64 (.ofNat 0))])
theorem m285 : Ret Tryz.prog G 13 a285 [] v285 [] := run_ok (n := 1000) (by kernel_rfl)
def a296 : List AV := [(.vec [(.vec [(.int .i64 (.ofNat 2)), (.int .i64 (.ofNat 1))] 2 (some 2)), (.vec [(.int .i64 (.ofNat 1)), (.int .i64 (.ofNat 30))] 2 (some 2))] 2 (some 2)), (.int .i64 (.ofNat 200000))]
def v296 : AV := (.tup [(.agg [(.bool false), (.vec [(.int .u32 (.ofNat 4))] 1 (some 2))]), (.int .i64 (.ofNat 0))])
theorem m296 : Ret Tryz.prog G 13 a296 [] v296 [] := run_ok (n := 1000) (by kernel_rfl)
def a298 : List AV := [(.vec [(.vec [(.int .i64 (.ofNat 4)), (.int .i64 (.ofNat 1))] 2 (some 2)), (.vec [(.int .i64 (.ofNat 1)), (.int .i64 (.ofNat 15))] 2 (some 2))] 2 (some 2)), (.int .i64 (.ofNat 200000))]
def v298 : AV := (.tup [(.agg [(.bool false), (.vec [(.int .u32 (.ofNat 2))] 1 (some 2))]), (.int .i64 (.ofNat 0))])
theorem m298 : Ret Tryz.prog G 13 a298 [] v298 [] := run_ok (n := 1000) (by kernel_rfl)
end Go.Proofs.YthkpeakeoepocaaGreatDoor.OO
