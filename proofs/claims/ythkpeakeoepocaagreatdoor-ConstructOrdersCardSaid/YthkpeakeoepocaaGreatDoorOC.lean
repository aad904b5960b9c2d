/- Results of some calls, by the kernel (genmemo.py). -/
import Derived.Test.YthkpeakeoepocaaGreatDoorXC
namespace Go.Proofs.YthkpeakeoepocaaGreatDoor.OO
set_option linter.unusedSimpArgs false
set_option linter.unusedVariables false
open Go Go.AL Go.Proofs
set_option maxRecDepth 1000000
def a17 : List AV := [(.int .i64 (.ofNat 2)), (.int .i64 (.ofNat 7))]
def v17 : AV := (.tup [(.vec [(.vec [(.vec [(.int .i64 (.ofNat 1)), (.int .i64 (.ofNat 0))] 2 (some 2)), (.vec [(.int .i64 (.ofNat 0)), (.int .i64 (.ofNat 7))] 2 (some 2))] 2 (some 2)), (.vec [(.vec [(.int .i64 (.ofNat 2)), (.int .i64 (.ofNat 1))] 2 (some 2)), (.vec [(.int .i64 (.ofNat 1)), (.int .i64 (.ofNat 4))] 2 (some 2))] 2 (some 2))] 2 none), (.int .i64 (.ofNat 0))])
theorem m17 : Ret Tryz.prog G 8 a17 [] v17 [] := run_ok (n := 1000) (by kernel_rfl)
def a18 : List AV := [(.vec [(.vec [(.int .i64 (.ofNat 1)), (.int .i64 (.ofNat 0))] 2 (some 2)), (.vec [(.int .i64 (.ofNat 0)), (.int .i64 (.ofNat 7))] 2 (some 2))] 2 (some 2)), (.int .i64 (.ofNat 200000))]
def v18 : AV := (.tup [(.agg [(.bool false), (.vec [(.int .u32 (.ofNat 4))] 1 (some 2))]), (.int .i64 (.ofNat 0))])
theorem m18 : Ret Tryz.prog G 13 a18 [] v18 [] := run_ok (n := 1000) (by kernel_rfl)
def a28 : List AV := [(.int .i64 (.ofNat 2)), (.int .i64 (.ofNat 10))]
def v28 : AV := (.tup [(.vec [(.vec [(.vec [(.int .i64 (.ofNat 1)), (.int .i64 (.ofNat 0))] 2 (some 2)), (.vec [(.int .i64 (.ofNat 0)), (.int .i64 (.ofNat 10))] 2 (some 2))] 2 (some 2)), (.vec [(.vec [(.int .i64 (.ofNat 2)), (.int .i64 (.ofNat 0))] 2 (some 2)), (.vec [(.int .i64 (.ofNat 0)), (.int .i64 (.ofNat 5))] 2 (some 2))] 2 (some 2))] 2 none), (.int .i64 (.ofNat 0))])
theorem m28 : Ret Tryz.prog G 8 a28 [] v28 [] := run_ok (n := 1000) (by kernel_rfl)
def a86 : List AV := [(.vec [(.vec [(.int .i64 (.ofNat 3)), (.int .i64 (.ofNat 1))] 2 (some 2)), (.vec [(.int .i64 (.ofNat 1)), (.int .i64 (.ofNat 8))] 2 (some 2))] 2 (some 2)), (.int .i64 (.ofNat 200000))]
def v86 : AV := (.tup [(.agg [(.bool false), (.vec [(.int .u32 (.ofNat 2))] 1 (some 2))]), (.int .i64 (.ofNat 0))])
theorem m86 : Ret Tryz.prog G 13 a86 [] v86 [] := run_ok (n := 1000) (by kernel_rfl)
def a132 : List AV := [(.vec [(.vec [(.int .i64 (.ofNat 2)), (.int .i64 (.ofNat 0))] 2 (some 2)), (.vec [(.int .i64 (.ofNat 0)), (.int .i64 (.ofNat 16))] 2 (some 2))] 2 (some 2)), (.int .i64 (.ofNat 200000))]
def v132 : AV := (.tup [(.agg [(.bool false), (.vec [(.int .u32 (.ofNat 4))] 1 (some 2))]), (.int .i64 (.ofNat 0))])
theorem m132 : Ret Tryz.prog G 13 a132 [] v132 [] := run_ok (n := 1000) (by kernel_rfl)
def a135 : List AV := [(.vec [(.vec [(.int .i64 (.ofNat 4)), (.int .i64 (.ofNat 2))] 2 (some 2)), (.vec [(.int .i64 (.ofNat 2)), (.int .i64 (.ofNat 9))] 2 (some 2))] 2 (some 2)), (.int .i64 (.ofNat 200000))]
def v135 : AV := (.tup [(.agg [(.bool false), (.vec [(.int .u32 (.ofNat 4))] 1 (some 2))]), (.int .i64 (.ofNat 0))])
theorem m135 : Ret Tryz.prog G 13 a135 [] v135 [] := run_ok (n := 1000) (by kernel_rfl)
def a143 : List AV := [(.vec [(.vec [(.int .i64 (.ofNat 1)), (.int .i64 (.ofNat 0))] 2 (some 2)), (.vec [(.int .i64 (.ofNat 0)), (.int .i64 (.ofNat 34))] 2 (some 2))] 2 (some 2)), (.int .i64 (.ofNat 200000))]
def v143 : AV := (.tup [(.agg [(.bool false), (.vec [(.int .u32 (.ofNat 4))] 1 (some 2))]), (.int .i64 (.ofNat 0))])
theorem m143 : Ret Tryz.prog G 13 a143 [] v143 [] := run_ok (n := 1000) (by kernel_rfl)
def a181 : List AV := [(.vec [(.vec [(.int .i64 (.ofNat 5)), (.int .i64 (.ofNat 0))] 2 (some 2)), (.vec [(.int .i64 (.ofNat 0)), (.int .i64 (.ofNat 8))] 2 (some 2))] 2 (some 2)), (.int .i64 (.ofNat 200000))]
def v181 : AV := (.tup [(.agg [(.bool false), (.vec [(.int .u32 (.ofNat 4))] 1 (some 2))]), (.int .i64 (.ofNat 0))])
theorem m181 : Ret Tryz.prog G 13 a181 [] v181 [] := run_ok (n := 1000) (by kernel_rfl)
def a188 : List AV := [(.vec [(.vec [(.int .i64 (.ofNat 6)), (.int .i64 (.ofNat 1))] 2 (some 2)), (.vec [(.int .i64 (.ofNat 1)), (.int .i64 (.ofNat 7))] 2 (some 2))] 2 (some 2)), (.int .i64 (.ofNat 200000))]
def v188 : AV := (.tup [(.agg [(.bool false), (.vec [(.int .u32 (.ofNat 2))] 1 (some 2))]), (.int .i64 (.ofNat 0))])
theorem m188 : Ret Tryz.prog G 13 a188 [] v188 [] := run_ok (n := 1000) (by kernel_rfl)
def a214 : List AV := [(.vec [(.vec [(.int .i64 (.ofNat 1)), (.int .i64 (.ofNat 0))] 2 (some 2)), (.vec [(.int .i64 (.ofNat 0)), (.int .i64 (.ofNat 46))] 2 (some 2))] 2 (some 2)), (.int .i64 (.ofNat 200000))]
def v214 : AV := (.tup [(.agg [(.bool false), (.vec [(.int .u32 (.ofNat 4))] 1 (some 2))]), (.int .i64 (.ofNat 0))])
theorem m214 : Ret Tryz.prog G 13 a214 [] v214 [] := run_ok (n := 1000) (by kernel_rfl)
def a233 : List AV := [(.int .i64 (.ofNat 2)), (.int .i64 (.ofNat 49))]
def v233 : AV := (.tup [(.vec [(.vec [(.vec [(.int .i64 (.ofNat 1)), (.int .i64 (.ofNat 0))] 2 (some 2)), (.vec [(.int .i64 (.ofNat 0)), (.int .i64 (.ofNat 49))] 2 (some 2))] 2 (some 2)), (.vec [(.vec [(.int .i64 (.ofNat 2)), (.int .i64 (.ofNat 1))] 2 (some 2)), (.vec [(.int .i64 (.ofNat 1)), (.int .i64 (.ofNat 25))] 2 (some 2))] 2 (some 2)), (.vec [(.vec [(.int .i64 (.ofNat 5)), (.int .i64 (.ofNat 1))] 2 (some 2)), (.vec [(.int .i64 (.ofNat 1)), (.int .i64 (.ofNat 10))] 2 (some 2))] 2 (some 2)), (.vec [(.vec [(.int .i64 (.ofNat 7)), (.int .i64 (.ofNat 0))] 2 (some 2)), (.vec [(.int .i64 (.ofNat 0)), (.int .i64 (.ofNat 7))] 2 (some 2))] 2 (some 2))] 4 none), (.int .i64 (.ofNat 0))])
theorem m233 : Ret Tryz.prog G 8 a233 [] v233 [] := run_ok (n := 1000) (by kernel_rfl)
def a246 : List AV := [(.vec [(.vec [(.int .i64 (.ofNat 2)), (.int .i64 (.ofNat 1))] 2 (some 2)), (.vec [(.int .i64 (.ofNat 1)), (.int .i64 (.ofNat 26))] 2 (some 2))] 2 (some 2)), (.int .i64 (.ofNat 200000))]
def v246 : AV := (.tup [(.agg [(.bool false), (.vec [(.int .u32 (.ofNat 4))] 1 (some 2))]), (.int .i64 (.ofNat 0))])
theorem m246 : Ret Tryz.prog G 13 a246 [] v246 [] := run_ok (n := 1000) (by kernel_rfl)
def a253 : List AV := [(.vec [(.vec [(.int .i64 (.ofNat 2)), (.int .i64 (.ofNat 0))] 2 (some 2)), (.vec [(.int .i64 (.ofNat 0)), (.int .i64 (.ofNat 26))] 2 (some 2))] 2 (some 2)), (.int .i64 (.ofNat 200000))]
def v253 : AV := (.tup [(.agg [(.bool false), (.vec [(.int .u32 (.ofNat 4))] 1 (some 2))]), (.int .i64 (.ofNat 0))])
theorem m253 : Ret Tryz.prog G 13 a253 [] v253 [] := run_ok (n := 1000) (by kernel_rfl)
def a255 : List AV := [(.vec [(.vec [(.int .i64 (.ofNat 4)), (.int .i64 (.ofNat 2))] 2 (some 2)), (.vec [(.int .i64 (.ofNat 2)), (.int .i64 (.ofNat 14))] 2 (some 2))] 2 (some 2)), (.int .i64 (.ofNat 200000))]
def v255 : AV := (.tup [(.agg [(.bool false), (.vec [(.int .u32 (.ofNat 4))] 1 (some 2))]), (.int .i64 (.ofNat 0))])
theorem m255 : Ret Tryz.prog G 13 a255 [] v255 [] := run_ok (n := 1000) (by kernel_rfl)
def a275 : List AV := [(.vec [(.vec [(.int .i64 (.ofNat 8)), (.int .i64 (.ofNat 3))] 2 (some 2)), (.vec [(.int .i64 (.ofNat 3)), (.int .i64 (.ofNat 8))] 2 (some 2))] 2 (some 2)), (.int .i64 (.ofNat 200000))]
def v275 : AV := (.tup [(.agg [(.bool false), (.vec [(.int .u32 (.ofNat 4))] 1 (some 2))]), (.int .i64 (.ofNat 0))])
theorem m275 : Ret Tryz.prog G 13 a275 [] v275 [] := run_ok (n := 1000) (by kernel_rfl)
def a287 : List AV := [(.vec [(.vec [(.int .i64 (.ofNat 1)), (.int .i64 (.ofNat 0))] 2 (some 2)), (.vec [(.int .i64 (.ofNat 0)), (.int .i64 (.ofNat 57))] 2 (some 2))] 2 (some 2)), (.int .i64 (.ofNat 200000))]
def v287 : AV := (.tup [(.agg [(.bool false), (.vec [(.int .u32 (.ofNat 4))] 1 (some 2))]), (.int .i64 (.ofNat 0))])
theorem m287 : Ret Tryz.prog G 13 a287 [] v287 [] := run_ok (n := 1000) (by kernel_rfl)
def a301 : List AV := [(.vec [(.vec [(.int .i64 (.ofNat 7)), (.int .i64 (.ofNat 2))] 2 (some 2)), (.vec [(.int .i64 (.ofNat 2)), (.int .i64 (.ofNat 9))] 2 (some 2))] 2 (some 2)), (.int .i64 (.ofNat 200000))]
def v301 : AV := (.tup [(.agg [(.bool false), (.vec [(.int .u32 (.ofNat 2))] 1 (some 2))]), (.int .i64 (.ofNat 0))])
theorem m301 : Ret Tryz.prog G 13 a301 [] v301 [] := run_ok (n := 1000) (by kernel_rfl)
def a302 : List AV := [(.int .i64 (.ofNat 2)), (.int .i64 (.ofNat 60))]
def v302 : AV := (.tup [(.vec [(.vec [(.vec [(.int .i64 (.ofNat 1)), (.int .i64 (.ofNat 0))] 2 (some 2)), (.vec [(.int .i64 (.ofNat 0)), (.int .i64 (.ofNat 60))] 2 (some 2))] 2 (some 2)), (.vec [(.vec [(.int .i64 (.ofNat 2)), (.int .i64 (.ofNat 0))] 2 (some 2)), (.vec [(.int .i64 (.ofNat 0)), (.int .i64 (.ofNat 30))] 2 (some 2))] 2 (some 2)), (.vec [(.vec [(.int .i64 (.ofNat 3)), (.int .i64 (.ofNat 0))] 2 (some 2)), (.vec [(.int .i64 (.ofNat 0)), (.int .i64 (.ofNat 20))] 2 (some 2))] 2 (some 2)), (.vec [(.vec [(.int .i64 (.ofNat 4)), (.int .i64 (.ofNat 0))] 2 (some 2)), (.vec [(.int .i64 (.ofNat 0)), (.int .i64 (.ofNat 15))] 2 (some 2))] 2 (some 2)), (.vec [(.vec [(.int .i64 (.ofNat 4)), (.int .i64 (.ofNat 2))] 2 (some 2)), (.vec [(.int .i64 (.ofNat 2)), (.int .i64 (.ofNat 16))] 2 (some 2))] 2 (some 2)), (.vec [(.vec [(.int .i64 (.ofNat 5)), (.int .i64 (.ofNat 0))] 2 (some 2)), (.vec [(.int .i64 (.ofNat 0)), (.int .i64 (.ofNat 12))] 2 (some 2))] 2 (some 2)), (.vec [(.vec [(.int .i64 (.ofNat 6)), (.int .i64 (.ofNat 0))] 2 (some 2)), (.vec [(.int .i64 (.ofNat 0)), (.int .i64 (.ofNat 10))] 2 (some 2))] 2 (some 2)), (.vec [(.vec [(.int .i64 (.ofNat 8)), (.int .i64 (.ofNat 2))] 2 (some 2)), (.vec [(.int .i64 (.ofNat 2)), (.int .i64 (.ofNat 8))] 2 (some 2))] 2 (some 2))] 8 none), (.int .i64 (.ofNat 0))])
theorem m302 : Ret Tryz.prog G 8 a302 [] v302 [] := run_ok (n := 1000) (by kernel_rfl)
def a308 : List AV := [(.vec [(.vec [(.int .i64 (.ofNat 5)), (.int .i64 (.ofNat 0))] 2 (some 2)), (.vec [(.int .i64 (.ofNat 0)), (.int .i64 (.ofNat 12))] 2 (some 2))] 2 (some 2)), (.int .i64 (.ofNat 200000))]
def v308 : AV := (.tup [(.agg [(.bool false), (.vec [(.int .u32 (.ofNat 4))] 1 (some 2))]), (.int .i64 (.ofNat 0))])
theorem m308 : Ret Tryz.prog G 13 a308 [] v308 [] := run_ok (n := 1000) (by kernel_rfl)
end Go.Proofs.YthkpeakeoepocaaGreatDoor.OO

/- Results of some calls, by the kernel (genmemo.py). -/
namespace Go.Proofs.YthkpeakeoepocaaGreatDoor.OO
set_option linter.unusedSimpArgs false
set_option linter.unusedVariables false
open Go Go.AL Go.Proofs
set_option maxRecDepth 1000000
def a34 : List AV := [(.vec [(.vec [(.int .i64 (.ofNat 3)), (.int .i64 (.ofNat 1))] 2 (some 2)), (.vec [(.int .i64 (.ofNat 1)), (.int .i64 (.ofNat 4))] 2 (some 2))] 2 (some 2)), (.int .i64 (.ofNat 200000))]
def v34 : AV := (.tup [(.agg [(.bool false), (.vec [(.int .u32 (.ofNat 2))] 1 (some 2))]), (.int .i64 (.ofNat 0))])
theorem m34 : Ret Tryz.prog G 13 a34 [] v34 [] := run_ok (n := 1000) (by kernel_rfl)
def a37 : List AV := [(.vec [(.vec [(.int .i64 (.ofNat 2)), (.int .i64 (.ofNat 0))] 2 (some 2)), (.vec [(.int .i64 (.ofNat 0)), (.int .i64 (.ofNat 6))] 2 (some 2))] 2 (some 2)), (.int .i64 (.ofNat 200000))]
def v37 : AV := (.tup [(.agg [(.bool false), (.vec [(.int .u32 (.ofNat 4))] 1 (some 2))]), (.int .i64 (.ofNat 0))])
theorem m37 : Ret Tryz.prog G 13 a37 [] v37 [] := run_ok (n := 1000) (by kernel_rfl)
def a57 : List AV := [(.int .i64 (.ofNat 2)), (.int .i64 (.ofNat 17))]
def v57 : AV := (.tup [(.vec [(.vec [(.vec [(.int .i64 (.ofNat 1)), (.int .i64 (.ofNat 0))] 2 (some 2)), (.vec [(.int .i64 (.ofNat 0)), (.int .i64 (.ofNat 17))] 2 (some 2))] 2 (some 2)), (.vec [(.vec [(.int .i64 (.ofNat 2)), (.int .i64 (.ofNat 1))] 2 (some 2)), (.vec [(.int .i64 (.ofNat 1)), (.int .i64 (.ofNat 9))] 2 (some 2))] 2 (some 2)), (.vec [(.vec [(.int .i64 (.ofNat 3)), (.int .i64 (.ofNat 1))] 2 (some 2)), (.vec [(.int .i64 (.ofNat 1)), (.int .i64 (.ofNat 6))] 2 (some 2))] 2 (some 2))] 3 none), (.int .i64 (.ofNat 0))])
theorem m57 : Ret Tryz.prog G 8 a57 [] v57 [] := run_ok (n := 1000) (by kernel_rfl)
def a62 : List AV := [(.vec [(.vec [(.int .i64 (.ofNat 1)), (.int .i64 (.ofNat 0))] 2 (some 2)), (.vec [(.int .i64 (.ofNat 0)), (.int .i64 (.ofNat 18))] 2 (some 2))] 2 (some 2)), (.int .i64 (.ofNat 200000))]
def v62 : AV := (.tup [(.agg [(.bool false), (.vec [(.int .u32 (.ofNat 4))] 1 (some 2))]), (.int .i64 (.ofNat 0))])
theorem m62 : Ret Tryz.prog G 13 a62 [] v62 [] := run_ok (n := 1000) (by kernel_rfl)
def a91 : List AV := [(.vec [(.vec [(.int .i64 (.ofNat 3)), (.int .i64 (.ofNat 0))] 2 (some 2)), (.vec [(.int .i64 (.ofNat 0)), (.int .i64 (.ofNat 8))] 2 (some 2))] 2 (some 2)), (.int .i64 (.ofNat 200000))]
def v91 : AV := (.tup [(.agg [(.bool false), (.vec [(.int .u32 (.ofNat 4))] 1 (some 2))]), (.int .i64 (.ofNat 0))])
theorem m91 : Ret Tryz.prog G 13 a91 [] v91 [] := run_ok (n := 1000) (by kernel_rfl)
def a105 : List AV := [(.vec [(.vec [(.int .i64 (.ofNat 1)), (.int .i64 (.ofNat 0))] 2 (some 2)), (.vec [(.int .i64 (.ofNat 0)), (.int .i64 (.ofNat 27))] 2 (some 2))] 2 (some 2)), (.int .i64 (.ofNat 200000))]
def v105 : AV := (.tup [(.agg [(.bool false), (.vec [(.int .u32 (.ofNat 4))] 1 (some 2))]), (.int .i64 (.ofNat 0))])
theorem m105 : Ret Tryz.prog G 13 a105 [] v105 [] := run_ok (n := 1000) (by kernel_rfl)
def a120 : List AV := [(.int .i64 (.ofNat 2)), (.int .i64 (.ofNat 30))]
def v120 : AV := (.tup [(.vec [(.vec [(.vec [(.int .i64 (.ofNat 1)), (.int .i64 (.ofNat 0))] 2 (some 2)), (.vec [(.int .i64 (.ofNat 0)), (.int .i64 (.ofNat 30))] 2 (some 2))] 2 (some 2)), (.vec [(.vec [(.int .i64 (.ofNat 2)), (.int .i64 (.ofNat 0))] 2 (some 2)), (.vec [(.int .i64 (.ofNat 0)), (.int .i64 (.ofNat 15))] 2 (some 2))] 2 (some 2)), (.vec [(.vec [(.int .i64 (.ofNat 3)), (.int .i64 (.ofNat 0))] 2 (some 2)), (.vec [(.int .i64 (.ofNat 0)), (.int .i64 (.ofNat 10))] 2 (some 2))] 2 (some 2)), (.vec [(.vec [(.int .i64 (.ofNat 5)), (.int .i64 (.ofNat 0))] 2 (some 2)), (.vec [(.int .i64 (.ofNat 0)), (.int .i64 (.ofNat 6))] 2 (some 2))] 2 (some 2))] 4 none), (.int .i64 (.ofNat 0))])
theorem m120 : Ret Tryz.prog G 8 a120 [] v120 [] := run_ok (n := 1000) (by kernel_rfl)
def a125 : List AV := [(.int .i64 (.ofNat 2)), (.int .i64 (.ofNat 31))]
def v125 : AV := (.tup [(.vec [(.vec [(.vec [(.int .i64 (.ofNat 1)), (.int .i64 (.ofNat 0))] 2 (some 2)), (.vec [(.int .i64 (.ofNat 0)), (.int .i64 (.ofNat 31))] 2 (some 2))] 2 (some 2)), (.vec [(.vec [(.int .i64 (.ofNat 2)), (.int .i64 (.ofNat 1))] 2 (some 2)), (.vec [(.int .i64 (.ofNat 1)), (.int .i64 (.ofNat 16))] 2 (some 2))] 2 (some 2)), (.vec [(.vec [(.int .i64 (.ofNat 4)), (.int .i64 (.ofNat 1))] 2 (some 2)), (.vec [(.int .i64 (.ofNat 1)), (.int .i64 (.ofNat 8))] 2 (some 2))] 2 (some 2)), (.vec [(.vec [(.int .i64 (.ofNat 5)), (.int .i64 (.ofNat 2))] 2 (some 2)), (.vec [(.int .i64 (.ofNat 2)), (.int .i64 (.ofNat 7))] 2 (some 2))] 2 (some 2))] 4 none), (.int .i64 (.ofNat 0))])
theorem m125 : Ret Tryz.prog G 8 a125 [] v125 [] := run_ok (n := 1000) (by kernel_rfl)
def a136 : List AV := [(.vec [(.vec [(.int .i64 (.ofNat 6)), (.int .i64 (.ofNat 2))] 2 (some 2)), (.vec [(.int .i64 (.ofNat 2)), (.int .i64 (.ofNat 6))] 2 (some 2))] 2 (some 2)), (.int .i64 (.ofNat 200000))]
def v136 : AV := (.tup [(.agg [(.bool false), (.vec [(.int .u32 (.ofNat 4))] 1 (some 2))]), (.int .i64 (.ofNat 0))])
theorem m136 : Ret Tryz.prog G 13 a136 [] v136 [] := run_ok (n := 1000) (by kernel_rfl)
def a154 : List AV := [(.vec [(.vec [(.int .i64 (.ofNat 1)), (.int .i64 (.ofNat 0))] 2 (some 2)), (.vec [(.int .i64 (.ofNat 0)), (.int .i64 (.ofNat 36))] 2 (some 2))] 2 (some 2)), (.int .i64 (.ofNat 200000))]
def v154 : AV := (.tup [(.agg [(.bool false), (.vec [(.int .u32 (.ofNat 4))] 1 (some 2))]), (.int .i64 (.ofNat 0))])
theorem m154 : Ret Tryz.prog G 13 a154 [] v154 [] := run_ok (n := 1000) (by kernel_rfl)
def a155 : List AV := [(.vec [(.vec [(.int .i64 (.ofNat 2)), (.int .i64 (.ofNat 0))] 2 (some 2)), (.vec [(.int .i64 (.ofNat 0)), (.int .i64 (.ofNat 18))] 2 (some 2))] 2 (some 2)), (.int .i64 (.ofNat 200000))]
def v155 : AV := (.tup [(.agg [(.bool false), (.vec [(.int .u32 (.ofNat 4))] 1 (some 2))]), (.int .i64 (.ofNat 0))])
theorem m155 : Ret Tryz.prog G 13 a155 [] v155 [] := run_ok (n := 1000) (by kernel_rfl)
def a160 : List AV := [(.vec [(.vec [(.int .i64 (.ofNat 6)), (.int .i64 (.ofNat 0))] 2 (some 2)), (.vec [(.int .i64 (.ofNat 0)), (.int .i64 (.ofNat 6))] 2 (some 2))] 2 (some 2)), (.int .i64 (.ofNat 200000))]
def v160 : AV := (.tup [(.agg [(.bool false), (.vec [(.int .u32 (.ofNat 8))] 1 (some 2))]), (.int .i64 (.ofNat 0))])
theorem m160 : Ret Tryz.prog G 13 a160 [] v160 [] := run_ok (n := 1000) (by kernel_rfl)
def a197 : List AV := [(.vec [(.vec [(.int .i64 (.ofNat 4)), (.int .i64 (.ofNat 1))] 2 (some 2)), (.vec [(.int .i64 (.ofNat 1)), (.int .i64 (.ofNat 11))] 2 (some 2))] 2 (some 2)), (.int .i64 (.ofNat 200000))]
def v197 : AV := (.tup [(.agg [(.bool false), (.vec [(.int .u32 (.ofNat 2))] 1 (some 2))]), (.int .i64 (.ofNat 0))])
theorem m197 : Ret Tryz.prog G 13 a197 [] v197 [] := run_ok (n := 1000) (by kernel_rfl)
def a227 : List AV := [(.vec [(.vec [(.int .i64 (.ofNat 3)), (.int .i64 (.ofNat 0))] 2 (some 2)), (.vec [(.int .i64 (.ofNat 0)), (.int .i64 (.ofNat 16))] 2 (some 2))] 2 (some 2)), (.int .i64 (.ofNat 200000))]
def v227 : AV := (.tup [(.agg [(.bool false), (.vec [(.int .u32 (.ofNat 4))] 1 (some 2))]), (.int .i64 (.ofNat 0))])
theorem m227 : Ret Tryz.prog G 13 a227 [] v227 [] := run_ok (n := 1000) (by kernel_rfl)
def a254 : List AV := [(.vec [(.vec [(.int .i64 (.ofNat 4)), (.int .i64 (.ofNat 0))] 2 (some 2)), (.vec [(.int .i64 (.ofNat 0)), (.int .i64 (.ofNat 13))] 2 (some 2))] 2 (some 2)), (.int .i64 (.ofNat 200000))]
def v254 : AV := (.tup [(.agg [(.bool false), (.vec [(.int .u32 (.ofNat 4))] 1 (some 2))]), (.int .i64 (.ofNat 0))])
theorem m254 : Ret Tryz.prog G 13 a254 [] v254 [] := run_ok (n := 1000) (by kernel_rfl)
def a269 : List AV := [(.int .i64 (.ofNat 2)), (.int .i64 (.ofNat 55))]
def v269 : AV := (.tup [(.vec [(.vec [(.vec [(.int .i64 (.ofNat 1)), (.int .i64 (.ofNat 0))] 2 (some 2)), (.vec [(.int .i64 (.ofNat 0)), (.int .i64 (.ofNat 55))] 2 (some 2))] 2 (some 2)), (.vec [(.vec [(.int .i64 (.ofNat 2)), (.int .i64 (.ofNat 1))] 2 (some 2)), (.vec [(.int .i64 (.ofNat 1)), (.int .i64 (.ofNat 28))] 2 (some 2))] 2 (some 2)), (.vec [(.vec [(.int .i64 (.ofNat 4)), (.int .i64 (.ofNat 1))] 2 (some 2)), (.vec [(.int .i64 (.ofNat 1)), (.int .i64 (.ofNat 14))] 2 (some 2))] 2 (some 2)), (.vec [(.vec [(.int .i64 (.ofNat 5)), (.int .i64 (.ofNat 0))] 2 (some 2)), (.vec [(.int .i64 (.ofNat 0)), (.int .i64 (.ofNat 11))] 2 (some 2))] 2 (some 2)), (.vec [(.vec [(.int .i64 (.ofNat 7)), (.int .i64 (.ofNat 1))] 2 (some 2)), (.vec [(.int .i64 (.ofNat 1)), (.int .i64 (.ofNat 8))] 2 (some 2))] 2 (some 2)), (.vec [(.vec [(.int .i64 (.ofNat 8)), (.int .i64 (.ofNat 3))] 2 (some 2)), (.vec [(.int .i64 (.ofNat 3)), (.int .i64 (.ofNat 8))] 2 (some 2))] 2 (some 2))] 6 none), (.int .i64 (.ofNat 0))])
theorem m269 : Ret Tryz.prog G 8 a269 [] v269 [] := run_ok (n := 1000) (by kernel_rfl)
def a290 : List AV := [(.vec [(.vec [(.int .i64 (.ofNat 6)), (.int .i64 (.ofNat 3))] 2 (some 2)), (.vec [(.int .i64 (.ofNat 3)), (.int .i64 (.ofNat 11))] 2 (some 2))] 2 (some 2)), (.int .i64 (.ofNat 200000))]
def v290 : AV := (.tup [(.agg [(.bool false), (.vec [(.int .u32 (.ofNat 4))] 1 (some 2))]), (.int .i64 (.ofNat 0))])
theorem m290 : Ret Tryz.prog G 13 a290 [] v290 [] := run_ok (n := 1000) (by kernel_rfl)
def a291 : List AV := [(.int .i64 (.ofNat 2)), (.int .i64 (.ofNat 58))]
def v291 : AV := (.tup [(.vec [(.vec [(.vec [(.int .i64 (.ofNat 1)), (.int .i64 (.ofNat 0))] 2 (some 2)), (.vec [(.int .i64 (.ofNat 0)), (.int .i64 (.ofNat 58))] 2 (some 2))] 2 (some 2)), (.vec [(.vec [(.int .i64 (.ofNat 2)), (.int .i64 (.ofNat 0))] 2 (some 2)), (.vec [(.int .i64 (.ofNat 0)), (.int .i64 (.ofNat 29))] 2 (some 2))] 2 (some 2))] 2 none), (.int .i64 (.ofNat 0))])
theorem m291 : Ret Tryz.prog G 8 a291 [] v291 [] := run_ok (n := 1000) (by kernel_rfl)
def a293 : List AV := [(.vec [(.vec [(.int .i64 (.ofNat 2)), (.int .i64 (.ofNat 0))] 2 (some 2)), (.vec [(.int .i64 (.ofNat 0)), (.int .i64 (.ofNat 29))] 2 (some 2))] 2 (some 2)), (.int .i64 (.ofNat 200000))]
def v293 : AV := (.tup [(.agg [(.bool false), (.vec [(.int .u32 (.ofNat 4))] 1 (some 2))]), (.int .i64 (.ofNat 0))])
theorem m293 : Ret Tryz.prog G 13 a293 [] v293 [] := run_ok (n := 1000) (by kernel_rfl)
end Go.Proofs.YthkpeakeoepocaaGreatDoor.OO

/- Results of some calls, by the kernel (genmemo.py). -/
namespace Go.Proofs.YthkpeakeoepocaaGreatDoor.OO
set_option linter.unusedSimpArgs false
set_option linter.unusedVariables false
open Go Go.AL Go.Proofs
set_option maxRecDepth 1000000
def a0 : List AV := []
def v0 : AV := (.bool true)
theorem m0 : Ret Tryz.prog G 7 a0 [] v0 [] := run_ok (n := 1000) (by kernel_rfl)
def a1 : List AV := [(.int .i64 (.ofNat 2)), (.int .i64 (.ofNat 1))]
def v1 : AV := (.tup [(.vec [(.vec [(.vec [(.int .i64 (.ofNat 1)), (.int .i64 (.ofNat 0))] 2 (some 2)), (.vec [(.int .i64 (.ofNat 0)), (.int .i64 (.ofNat 1))] 2 (some 2))] 2 (some 2))] 1 none), (.int .i64 (.ofNat 0))])
theorem m1 : Ret Tryz.prog G 8 a1 [] v1 [] := run_ok (n := 1000) (by kernel_rfl)
def a49 : List AV := [(.vec [(.vec [(.int .i64 (.ofNat 2)), (.int .i64 (.ofNat 1))] 2 (some 2)), (.vec [(.int .i64 (.ofNat 1)), (.int .i64 (.ofNat 8))] 2 (some 2))] 2 (some 2)), (.int .i64 (.ofNat 200000))]
def v49 : AV := (.tup [(.agg [(.bool false), (.vec [(.int .u32 (.ofNat 4))] 1 (some 2))]), (.int .i64 (.ofNat 0))])
theorem m49 : Ret Tryz.prog G 13 a49 [] v49 [] := run_ok (n := 1000) (by kernel_rfl)
def a55 : List AV := [(.vec [(.vec [(.int .i64 (.ofNat 4)), (.int .i64 (.ofNat 0))] 2 (some 2)), (.vec [(.int .i64 (.ofNat 0)), (.int .i64 (.ofNat 4))] 2 (some 2))] 2 (some 2)), (.int .i64 (.ofNat 200000))]
def v55 : AV := (.tup [(.agg [(.bool false), (.vec [(.int .u32 (.ofNat 8))] 1 (some 2))]), (.int .i64 (.ofNat 0))])
theorem m55 : Ret Tryz.prog G 13 a55 [] v55 [] := run_ok (n := 1000) (by kernel_rfl)
def a68 : List AV := [(.vec [(.vec [(.int .i64 (.ofNat 4)), (.int .i64 (.ofNat 1))] 2 (some 2)), (.vec [(.int .i64 (.ofNat 1)), (.int .i64 (.ofNat 5))] 2 (some 2))] 2 (some 2)), (.int .i64 (.ofNat 200000))]
def v68 : AV := (.tup [(.agg [(.bool false), (.vec [(.int .u32 (.ofNat 2))] 1 (some 2))]), (.int .i64 (.ofNat 0))])
theorem m68 : Ret Tryz.prog G 13 a68 [] v68 [] := run_ok (n := 1000) (by kernel_rfl)
def a103 : List AV := [(.vec [(.vec [(.int .i64 (.ofNat 5)), (.int .i64 (.ofNat 2))] 2 (some 2)), (.vec [(.int .i64 (.ofNat 2)), (.int .i64 (.ofNat 6))] 2 (some 2))] 2 (some 2)), (.int .i64 (.ofNat 200000))]
def v103 : AV := (.tup [(.agg [(.bool false), (.vec [(.int .u32 (.ofNat 2))] 1 (some 2))]), (.int .i64 (.ofNat 0))])
theorem m103 : Ret Tryz.prog G 13 a103 [] v103 [] := run_ok (n := 1000) (by kernel_rfl)
def a110 : List AV := [(.int .i64 (.ofNat 2)), (.int .i64 (.ofNat 28))]
def v110 : AV := (.tup [(.vec [(.vec [(.vec [(.int .i64 (.ofNat 1)), (.int .i64 (.ofNat 0))] 2 (some 2)), (.vec [(.int .i64 (.ofNat 0)), (.int .i64 (.ofNat 28))] 2 (some 2))] 2 (some 2)), (.vec [(.vec [(.int .i64 (.ofNat 2)), (.int .i64 (.ofNat 0))] 2 (some 2)), (.vec [(.int .i64 (.ofNat 0)), (.int .i64 (.ofNat 14))] 2 (some 2))] 2 (some 2)), (.vec [(.vec [(.int .i64 (.ofNat 4)), (.int .i64 (.ofNat 0))] 2 (some 2)), (.vec [(.int .i64 (.ofNat 0)), (.int .i64 (.ofNat 7))] 2 (some 2))] 2 (some 2)), (.vec [(.vec [(.int .i64 (.ofNat 4)), (.int .i64 (.ofNat 2))] 2 (some 2)), (.vec [(.int .i64 (.ofNat 2)), (.int .i64 (.ofNat 8))] 2 (some 2))] 2 (some 2))] 4 none), (.int .i64 (.ofNat 0))])
theorem m110 : Ret Tryz.prog G 8 a110 [] v110 [] := run_ok (n := 1000) (by kernel_rfl)
def a121 : List AV := [(.vec [(.vec [(.int .i64 (.ofNat 1)), (.int .i64 (.ofNat 0))] 2 (some 2)), (.vec [(.int .i64 (.ofNat 0)), (.int .i64 (.ofNat 30))] 2 (some 2))] 2 (some 2)), (.int .i64 (.ofNat 200000))]
def v121 : AV := (.tup [(.agg [(.bool false), (.vec [(.int .u32 (.ofNat 4))] 1 (some 2))]), (.int .i64 (.ofNat 0))])
theorem m121 : Ret Tryz.prog G 13 a121 [] v121 [] := run_ok (n := 1000) (by kernel_rfl)
def a131 : List AV := [(.vec [(.vec [(.int .i64 (.ofNat 1)), (.int .i64 (.ofNat 0))] 2 (some 2)), (.vec [(.int .i64 (.ofNat 0)), (.int .i64 (.ofNat 32))] 2 (some 2))] 2 (some 2)), (.int .i64 (.ofNat 200000))]
def v131 : AV := (.tup [(.agg [(.bool false), (.vec [(.int .u32 (.ofNat 4))] 1 (some 2))]), (.int .i64 (.ofNat 0))])
theorem m131 : Ret Tryz.prog G 13 a131 [] v131 [] := run_ok (n := 1000) (by kernel_rfl)
def a144 : List AV := [(.vec [(.vec [(.int .i64 (.ofNat 2)), (.int .i64 (.ofNat 0))] 2 (some 2)), (.vec [(.int .i64 (.ofNat 0)), (.int .i64 (.ofNat 17))] 2 (some 2))] 2 (some 2)), (.int .i64 (.ofNat 200000))]
def v144 : AV := (.tup [(.agg [(.bool false), (.vec [(.int .u32 (.ofNat 4))] 1 (some 2))]), (.int .i64 (.ofNat 0))])
theorem m144 : Ret Tryz.prog G 13 a144 [] v144 [] := run_ok (n := 1000) (by kernel_rfl)
def a146 : List AV := [(.int .i64 (.ofNat 2)), (.int .i64 (.ofNat 35))]
def v146 : AV := (.tup [(.vec [(.vec [(.vec [(.int .i64 (.ofNat 1)), (.int .i64 (.ofNat 0))] 2 (some 2)), (.vec [(.int .i64 (.ofNat 0)), (.int .i64 (.ofNat 35))] 2 (some 2))] 2 (some 2)), (.vec [(.vec [(.int .i64 (.ofNat 2)), (.int .i64 (.ofNat 1))] 2 (some 2)), (.vec [(.int .i64 (.ofNat 1)), (.int .i64 (.ofNat 18))] 2 (some 2))] 2 (some 2)), (.vec [(.vec [(.int .i64 (.ofNat 3)), (.int .i64 (.ofNat 1))] 2 (some 2)), (.vec [(.int .i64 (.ofNat 1)), (.int .i64 (.ofNat 12))] 2 (some 2))] 2 (some 2)), (.vec [(.vec [(.int .i64 (.ofNat 4)), (.int .i64 (.ofNat 1))] 2 (some 2)), (.vec [(.int .i64 (.ofNat 1)), (.int .i64 (.ofNat 9))] 2 (some 2))] 2 (some 2)), (.vec [(.vec [(.int .i64 (.ofNat 5)), (.int .i64 (.ofNat 0))] 2 (some 2)), (.vec [(.int .i64 (.ofNat 0)), (.int .i64 (.ofNat 7))] 2 (some 2))] 2 (some 2)), (.vec [(.vec [(.int .i64 (.ofNat 6)), (.int .i64 (.ofNat 1))] 2 (some 2)), (.vec [(.int .i64 (.ofNat 1)), (.int .i64 (.ofNat 6))] 2 (some 2))] 2 (some 2))] 6 none), (.int .i64 (.ofNat 0))])
theorem m146 : Ret Tryz.prog G 8 a146 [] v146 [] := run_ok (n := 1000) (by kernel_rfl)
def a157 : List AV := [(.vec [(.vec [(.int .i64 (.ofNat 4)), (.int .i64 (.ofNat 0))] 2 (some 2)), (.vec [(.int .i64 (.ofNat 0)), (.int .i64 (.ofNat 9))] 2 (some 2))] 2 (some 2)), (.int .i64 (.ofNat 200000))]
def v157 : AV := (.tup [(.agg [(.bool false), (.vec [(.int .u32 (.ofNat 4))] 1 (some 2))]), (.int .i64 (.ofNat 0))])
theorem m157 : Ret Tryz.prog G 13 a157 [] v157 [] := run_ok (n := 1000) (by kernel_rfl)
def a161 : List AV := [(.int .i64 (.ofNat 2)), (.int .i64 (.ofNat 37))]
def v161 : AV := (.tup [(.vec [(.vec [(.vec [(.int .i64 (.ofNat 1)), (.int .i64 (.ofNat 0))] 2 (some 2)), (.vec [(.int .i64 (.ofNat 0)), (.int .i64 (.ofNat 37))] 2 (some 2))] 2 (some 2)), (.vec [(.vec [(.int .i64 (.ofNat 2)), (.int .i64 (.ofNat 1))] 2 (some 2)), (.vec [(.int .i64 (.ofNat 1)), (.int .i64 (.ofNat 19))] 2 (some 2))] 2 (some 2))] 2 none), (.int .i64 (.ofNat 0))])
theorem m161 : Ret Tryz.prog G 8 a161 [] v161 [] := run_ok (n := 1000) (by kernel_rfl)
def a199 : List AV := [(.vec [(.vec [(.int .i64 (.ofNat 1)), (.int .i64 (.ofNat 0))] 2 (some 2)), (.vec [(.int .i64 (.ofNat 0)), (.int .i64 (.ofNat 44))] 2 (some 2))] 2 (some 2)), (.int .i64 (.ofNat 200000))]
def v199 : AV := (.tup [(.agg [(.bool false), (.vec [(.int .u32 (.ofNat 4))] 1 (some 2))]), (.int .i64 (.ofNat 0))])
theorem m199 : Ret Tryz.prog G 13 a199 [] v199 [] := run_ok (n := 1000) (by kernel_rfl)
def a226 : List AV := [(.vec [(.vec [(.int .i64 (.ofNat 2)), (.int .i64 (.ofNat 0))] 2 (some 2)), (.vec [(.int .i64 (.ofNat 0)), (.int .i64 (.ofNat 24))] 2 (some 2))] 2 (some 2)), (.int .i64 (.ofNat 200000))]
def v226 : AV := (.tup [(.agg [(.bool false), (.vec [(.int .u32 (.ofNat 4))] 1 (some 2))]), (.int .i64 (.ofNat 0))])
theorem m226 : Ret Tryz.prog G 13 a226 [] v226 [] := run_ok (n := 1000) (by kernel_rfl)
def a266 : List AV := [(.vec [(.vec [(.int .i64 (.ofNat 5)), (.int .i64 (.ofNat 1))] 2 (some 2)), (.vec [(.int .i64 (.ofNat 1)), (.int .i64 (.ofNat 11))] 2 (some 2))] 2 (some 2)), (.int .i64 (.ofNat 200000))]
def v266 : AV := (.tup [(.agg [(.bool false), (.vec [(.int .u32 (.ofNat 2))] 1 (some 2))]), (.int .i64 (.ofNat 0))])
theorem m266 : Ret Tryz.prog G 13 a266 [] v266 [] := run_ok (n := 1000) (by kernel_rfl)
def a278 : List AV := [(.vec [(.vec [(.int .i64 (.ofNat 2)), (.int .i64 (.ofNat 0))] 2 (some 2)), (.vec [(.int .i64 (.ofNat 0)), (.int .i64 (.ofNat 28))] 2 (some 2))] 2 (some 2)), (.int .i64 (.ofNat 200000))]
def v278 : AV := (.tup [(.agg [(.bool false), (.vec [(.int .u32 (.ofNat 4))] 1 (some 2))]), (.int .i64 (.ofNat 0))])
theorem m278 : Ret Tryz.prog G 13 a278 [] v278 [] := run_ok (n := 1000) (by kernel_rfl)
def a281 : List AV := [(.vec [(.vec [(.int .i64 (.ofNat 4)), (.int .i64 (.ofNat 2))] 2 (some 2)), (.vec [(.int .i64 (.ofNat 2)), (.int .i64 (.ofNat 15))] 2 (some 2))] 2 (some 2)), (.int .i64 (.ofNat 200000))]
def v281 : AV := (.tup [(.agg [(.bool false), (.vec [(.int .u32 (.ofNat 4))] 1 (some 2))]), (.int .i64 (.ofNat 0))])
theorem m281 : Ret Tryz.prog G 13 a281 [] v281 [] := run_ok (n := 1000) (by kernel_rfl)
def a284 : List AV := [(.vec [(.vec [(.int .i64 (.ofNat 7)), (.int .i64 (.ofNat 0))] 2 (some 2)), (.vec [(.int .i64 (.ofNat 0)), (.int .i64 (.ofNat 8))] 2 (some 2))] 2 (some 2)), (.int .i64 (.ofNat 200000))]
def v284 : AV := (.tup [(.agg [(.bool false), (.vec [(.int .u32 (.ofNat 4))] 1 (some 2))]), (.int .i64 (.ofNat 0))])
theorem m284 : Ret Tryz.prog G 13 a284 [] v284 [] := run_ok (n := 1000) (by kernel_rfl)
def a297 : List AV := [(.vec [(.vec [(.int .i64 (.ofNat 3)), (.int .i64 (.ofNat 1))] 2 (some 2)), (.vec [(.int .i64 (.ofNat 1)), (.int .i64 (.ofNat 20))] 2 (some 2))] 2 (some 2)), (.int .i64 (.ofNat 200000))]
def v297 : AV := (.tup [(.agg [(.bool false), (.vec [(.int .u32 (.ofNat 2))] 1 (some 2))]), (.int .i64 (.ofNat 0))])
theorem m297 : Ret Tryz.prog G 13 a297 [] v297 [] := run_ok (n := 1000) (by kernel_rfl)
end Go.Proofs.YthkpeakeoepocaaGreatDoor.OO

/- Results of some calls, by the kernel (genmemo.py). -/
namespace Go.Proofs.YthkpeakeoepocaaGreatDoor.OO
set_option linter.unusedSimpArgs false
set_option linter.unusedVariables false
open Go Go.AL Go.Proofs
set_option maxRecDepth 1000000
def a41 : List AV := [(.vec [(.vec [(.int .i64 (.ofNat 1)), (.int .i64 (.ofNat 0))] 2 (some 2)), (.vec [(.int .i64 (.ofNat 0)), (.int .i64 (.ofNat 13))] 2 (some 2))] 2 (some 2)), (.int .i64 (.ofNat 200000))]
def v41 : AV := (.tup [(.agg [(.bool false), (.vec [(.int .u32 (.ofNat 4))] 1 (some 2))]), (.int .i64 (.ofNat 0))])
theorem m41 : Ret Tryz.prog G 13 a41 [] v41 [] := run_ok (n := 1000) (by kernel_rfl)
def a53 : List AV := [(.vec [(.vec [(.int .i64 (.ofNat 1)), (.int .i64 (.ofNat 0))] 2 (some 2)), (.vec [(.int .i64 (.ofNat 0)), (.int .i64 (.ofNat 16))] 2 (some 2))] 2 (some 2)), (.int .i64 (.ofNat 200000))]
def v53 : AV := (.tup [(.agg [(.bool false), (.vec [(.int .u32 (.ofNat 4))] 1 (some 2))]), (.int .i64 (.ofNat 0))])
theorem m53 : Ret Tryz.prog G 13 a53 [] v53 [] := run_ok (n := 1000) (by kernel_rfl)
def a80 : List AV := [(.int .i64 (.ofNat 2)), (.int .i64 (.ofNat 22))]
def v80 : AV := (.tup [(.vec [(.vec [(.vec [(.int .i64 (.ofNat 1)), (.int .i64 (.ofNat 0))] 2 (some 2)), (.vec [(.int .i64 (.ofNat 0)), (.int .i64 (.ofNat 22))] 2 (some 2))] 2 (some 2)), (.vec [(.vec [(.int .i64 (.ofNat 2)), (.int .i64 (.ofNat 0))] 2 (some 2)), (.vec [(.int .i64 (.ofNat 0)), (.int .i64 (.ofNat 11))] 2 (some 2))] 2 (some 2))] 2 none), (.int .i64 (.ofNat 0))])
theorem m80 : Ret Tryz.prog G 8 a80 [] v80 [] := run_ok (n := 1000) (by kernel_rfl)
def a87 : List AV := [(.vec [(.vec [(.int .i64 (.ofNat 4)), (.int .i64 (.ofNat 1))] 2 (some 2)), (.vec [(.int .i64 (.ofNat 1)), (.int .i64 (.ofNat 6))] 2 (some 2))] 2 (some 2)), (.int .i64 (.ofNat 200000))]
def v87 : AV := (.tup [(.agg [(.bool false), (.vec [(.int .u32 (.ofNat 2))] 1 (some 2))]), (.int .i64 (.ofNat 0))])
theorem m87 : Ret Tryz.prog G 13 a87 [] v87 [] := run_ok (n := 1000) (by kernel_rfl)
def a94 : List AV := [(.vec [(.vec [(.int .i64 (.ofNat 5)), (.int .i64 (.ofNat 1))] 2 (some 2)), (.vec [(.int .i64 (.ofNat 1)), (.int .i64 (.ofNat 5))] 2 (some 2))] 2 (some 2)), (.int .i64 (.ofNat 200000))]
def v94 : AV := (.tup [(.agg [(.bool false), (.vec [(.int .u32 (.ofNat 4))] 1 (some 2))]), (.int .i64 (.ofNat 0))])
theorem m94 : Ret Tryz.prog G 13 a94 [] v94 [] := run_ok (n := 1000) (by kernel_rfl)
def a95 : List AV := [(.int .i64 (.ofNat 2)), (.int .i64 (.ofNat 25))]
def v95 : AV := (.tup [(.vec [(.vec [(.vec [(.int .i64 (.ofNat 1)), (.int .i64 (.ofNat 0))] 2 (some 2)), (.vec [(.int .i64 (.ofNat 0)), (.int .i64 (.ofNat 25))] 2 (some 2))] 2 (some 2)), (.vec [(.vec [(.int .i64 (.ofNat 2)), (.int .i64 (.ofNat 1))] 2 (some 2)), (.vec [(.int .i64 (.ofNat 1)), (.int .i64 (.ofNat 13))] 2 (some 2))] 2 (some 2)), (.vec [(.vec [(.int .i64 (.ofNat 5)), (.int .i64 (.ofNat 0))] 2 (some 2)), (.vec [(.int .i64 (.ofNat 0)), (.int .i64 (.ofNat 5))] 2 (some 2))] 2 (some 2))] 3 none), (.int .i64 (.ofNat 0))])
theorem m95 : Ret Tryz.prog G 8 a95 [] v95 [] := run_ok (n := 1000) (by kernel_rfl)
def a98 : List AV := [(.vec [(.vec [(.int .i64 (.ofNat 5)), (.int .i64 (.ofNat 0))] 2 (some 2)), (.vec [(.int .i64 (.ofNat 0)), (.int .i64 (.ofNat 5))] 2 (some 2))] 2 (some 2)), (.int .i64 (.ofNat 200000))]
def v98 : AV := (.tup [(.agg [(.bool false), (.vec [(.int .u32 (.ofNat 8))] 1 (some 2))]), (.int .i64 (.ofNat 0))])
theorem m98 : Ret Tryz.prog G 13 a98 [] v98 [] := run_ok (n := 1000) (by kernel_rfl)
def a119 : List AV := [(.vec [(.vec [(.int .i64 (.ofNat 5)), (.int .i64 (.ofNat 1))] 2 (some 2)), (.vec [(.int .i64 (.ofNat 1)), (.int .i64 (.ofNat 6))] 2 (some 2))] 2 (some 2)), (.int .i64 (.ofNat 200000))]
def v119 : AV := (.tup [(.agg [(.bool false), (.vec [(.int .u32 (.ofNat 2))] 1 (some 2))]), (.int .i64 (.ofNat 0))])
theorem m119 : Ret Tryz.prog G 13 a119 [] v119 [] := run_ok (n := 1000) (by kernel_rfl)
def a123 : List AV := [(.vec [(.vec [(.int .i64 (.ofNat 3)), (.int .i64 (.ofNat 0))] 2 (some 2)), (.vec [(.int .i64 (.ofNat 0)), (.int .i64 (.ofNat 10))] 2 (some 2))] 2 (some 2)), (.int .i64 (.ofNat 200000))]
def v123 : AV := (.tup [(.agg [(.bool false), (.vec [(.int .u32 (.ofNat 4))] 1 (some 2))]), (.int .i64 (.ofNat 0))])
theorem m123 : Ret Tryz.prog G 13 a123 [] v123 [] := run_ok (n := 1000) (by kernel_rfl)
def a129 : List AV := [(.vec [(.vec [(.int .i64 (.ofNat 5)), (.int .i64 (.ofNat 2))] 2 (some 2)), (.vec [(.int .i64 (.ofNat 2)), (.int .i64 (.ofNat 7))] 2 (some 2))] 2 (some 2)), (.int .i64 (.ofNat 200000))]
def v129 : AV := (.tup [(.agg [(.bool false), (.vec [(.int .u32 (.ofNat 2))] 1 (some 2))]), (.int .i64 (.ofNat 0))])
theorem m129 : Ret Tryz.prog G 13 a129 [] v129 [] := run_ok (n := 1000) (by kernel_rfl)
def a151 : List AV := [(.vec [(.vec [(.int .i64 (.ofNat 5)), (.int .i64 (.ofNat 0))] 2 (some 2)), (.vec [(.int .i64 (.ofNat 0)), (.int .i64 (.ofNat 7))] 2 (some 2))] 2 (some 2)), (.int .i64 (.ofNat 200000))]
def v151 : AV := (.tup [(.agg [(.bool false), (.vec [(.int .u32 (.ofNat 4))] 1 (some 2))]), (.int .i64 (.ofNat 0))])
theorem m151 : Ret Tryz.prog G 13 a151 [] v151 [] := run_ok (n := 1000) (by kernel_rfl)
def a170 : List AV := [(.vec [(.vec [(.int .i64 (.ofNat 1)), (.int .i64 (.ofNat 0))] 2 (some 2)), (.vec [(.int .i64 (.ofNat 0)), (.int .i64 (.ofNat 39))] 2 (some 2))] 2 (some 2)), (.int .i64 (.ofNat 200000))]
def v170 : AV := (.tup [(.agg [(.bool false), (.vec [(.int .u32 (.ofNat 4))] 1 (some 2))]), (.int .i64 (.ofNat 0))])
theorem m170 : Ret Tryz.prog G 13 a170 [] v170 [] := run_ok (n := 1000) (by kernel_rfl)
def a171 : List AV := [(.vec [(.vec [(.int .i64 (.ofNat 2)), (.int .i64 (.ofNat 1))] 2 (some 2)), (.vec [(.int .i64 (.ofNat 1)), (.int .i64 (.ofNat 20))] 2 (some 2))] 2 (some 2)), (.int .i64 (.ofNat 200000))]
def v171 : AV := (.tup [(.agg [(.bool false), (.vec [(.int .u32 (.ofNat 4))] 1 (some 2))]), (.int .i64 (.ofNat 0))])
theorem m171 : Ret Tryz.prog G 13 a171 [] v171 [] := run_ok (n := 1000) (by kernel_rfl)
def a176 : List AV := [(.int .i64 (.ofNat 2)), (.int .i64 (.ofNat 40))]
def v176 : AV := (.tup [(.vec [(.vec [(.vec [(.int .i64 (.ofNat 1)), (.int .i64 (.ofNat 0))] 2 (some 2)), (.vec [(.int .i64 (.ofNat 0)), (.int .i64 (.ofNat 40))] 2 (some 2))] 2 (some 2)), (.vec [(.vec [(.int .i64 (.ofNat 2)), (.int .i64 (.ofNat 0))] 2 (some 2)), (.vec [(.int .i64 (.ofNat 0)), (.int .i64 (.ofNat 20))] 2 (some 2))] 2 (some 2)), (.vec [(.vec [(.int .i64 (.ofNat 4)), (.int .i64 (.ofNat 0))] 2 (some 2)), (.vec [(.int .i64 (.ofNat 0)), (.int .i64 (.ofNat 10))] 2 (some 2))] 2 (some 2)), (.vec [(.vec [(.int .i64 (.ofNat 4)), (.int .i64 (.ofNat 2))] 2 (some 2)), (.vec [(.int .i64 (.ofNat 2)), (.int .i64 (.ofNat 11))] 2 (some 2))] 2 (some 2)), (.vec [(.vec [(.int .i64 (.ofNat 5)), (.int .i64 (.ofNat 0))] 2 (some 2)), (.vec [(.int .i64 (.ofNat 0)), (.int .i64 (.ofNat 8))] 2 (some 2))] 2 (some 2)), (.vec [(.vec [(.int .i64 (.ofNat 7)), (.int .i64 (.ofNat 3))] 2 (some 2)), (.vec [(.int .i64 (.ofNat 3)), (.int .i64 (.ofNat 7))] 2 (some 2))] 2 (some 2))] 6 none), (.int .i64 (.ofNat 0))])
theorem m176 : Ret Tryz.prog G 8 a176 [] v176 [] := run_ok (n := 1000) (by kernel_rfl)
def a209 : List AV := [(.vec [(.vec [(.int .i64 (.ofNat 3)), (.int .i64 (.ofNat 0))] 2 (some 2)), (.vec [(.int .i64 (.ofNat 0)), (.int .i64 (.ofNat 15))] 2 (some 2))] 2 (some 2)), (.int .i64 (.ofNat 200000))]
def v209 : AV := (.tup [(.agg [(.bool false), (.vec [(.int .u32 (.ofNat 4))] 1 (some 2))]), (.int .i64 (.ofNat 0))])
theorem m209 : Ret Tryz.prog G 13 a209 [] v209 [] := run_ok (n := 1000) (by kernel_rfl)
def a232 : List AV := [(.vec [(.vec [(.int .i64 (.ofNat 8)), (.int .i64 (.ofNat 4))] 2 (some 2)), (.vec [(.int .i64 (.ofNat 4)), (.int .i64 (.ofNat 8))] 2 (some 2))] 2 (some 2)), (.int .i64 (.ofNat 200000))]
def v232 : AV := (.tup [(.agg [(.bool false), (.vec [(.int .u32 (.ofNat 12))] 1 (some 2))]), (.int .i64 (.ofNat 0))])
theorem m232 : Ret Tryz.prog G 13 a232 [] v232 [] := run_ok (n := 1000) (by kernel_rfl)
def a236 : List AV := [(.vec [(.vec [(.int .i64 (.ofNat 5)), (.int .i64 (.ofNat 1))] 2 (some 2)), (.vec [(.int .i64 (.ofNat 1)), (.int .i64 (.ofNat 10))] 2 (some 2))] 2 (some 2)), (.int .i64 (.ofNat 200000))]
def v236 : AV := (.tup [(.agg [(.bool false), (.vec [(.int .u32 (.ofNat 2))] 1 (some 2))]), (.int .i64 (.ofNat 0))])
theorem m236 : Ret Tryz.prog G 13 a236 [] v236 [] := run_ok (n := 1000) (by kernel_rfl)
def a250 : List AV := [(.vec [(.vec [(.int .i64 (.ofNat 6)), (.int .i64 (.ofNat 3))] 2 (some 2)), (.vec [(.int .i64 (.ofNat 3)), (.int .i64 (.ofNat 10))] 2 (some 2))] 2 (some 2)), (.int .i64 (.ofNat 200000))]
def v250 : AV := (.tup [(.agg [(.bool false), (.vec [(.int .u32 (.ofNat 4))] 1 (some 2))]), (.int .i64 (.ofNat 0))])
theorem m250 : Ret Tryz.prog G 13 a250 [] v250 [] := run_ok (n := 1000) (by kernel_rfl)
def a251 : List AV := [(.int .i64 (.ofNat 2)), (.int .i64 (.ofNat 52))]
def v251 : AV := (.tup [(.vec [(.vec [(.vec [(.int .i64 (.ofNat 1)), (.int .i64 (.ofNat 0))] 2 (some 2)), (.vec [(.int .i64 (.ofNat 0)), (.int .i64 (.ofNat 52))] 2 (some 2))] 2 (some 2)), (.vec [(.vec [(.int .i64 (.ofNat 2)), (.int .i64 (.ofNat 0))] 2 (some 2)), (.vec [(.int .i64 (.ofNat 0)), (.int .i64 (.ofNat 26))] 2 (some 2))] 2 (some 2)), (.vec [(.vec [(.int .i64 (.ofNat 4)), (.int .i64 (.ofNat 0))] 2 (some 2)), (.vec [(.int .i64 (.ofNat 0)), (.int .i64 (.ofNat 13))] 2 (some 2))] 2 (some 2)), (.vec [(.vec [(.int .i64 (.ofNat 4)), (.int .i64 (.ofNat 2))] 2 (some 2)), (.vec [(.int .i64 (.ofNat 2)), (.int .i64 (.ofNat 14))] 2 (some 2))] 2 (some 2)), (.vec [(.vec [(.int .i64 (.ofNat 7)), (.int .i64 (.ofNat 2))] 2 (some 2)), (.vec [(.int .i64 (.ofNat 2)), (.int .i64 (.ofNat 8))] 2 (some 2))] 2 (some 2))] 5 none), (.int .i64 (.ofNat 0))])
theorem m251 : Ret Tryz.prog G 8 a251 [] v251 [] := run_ok (n := 1000) (by kernel_rfl)
def a252 : List AV := [(.vec [(.vec [(.int .i64 (.ofNat 1)), (.int .i64 (.ofNat 0))] 2 (some 2)), (.vec [(.int .i64 (.ofNat 0)), (.int .i64 (.ofNat 52))] 2 (some 2))] 2 (some 2)), (.int .i64 (.ofNat 200000))]
def v252 : AV := (.tup [(.agg [(.bool false), (.vec [(.int .u32 (.ofNat 4))] 1 (some 2))]), (.int .i64 (.ofNat 0))])
theorem m252 : Ret Tryz.prog G 13 a252 [] v252 [] := run_ok (n := 1000) (by kernel_rfl)
end Go.Proofs.YthkpeakeoepocaaGreatDoor.OO
