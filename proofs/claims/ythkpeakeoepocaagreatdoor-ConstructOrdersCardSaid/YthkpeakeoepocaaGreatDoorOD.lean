/- Results of some calls, by the kernel (genmemo.py). -/
import Derived.Test.YthkpeakeoepocaaGreatDoorXC
namespace Go.Proofs.YthkpeakeoepocaaGreatDoor.OO
set_option linter.unusedSimpArgs false
set_option linter.unusedVariables false
open Go Go.AL Go.Proofs
set_option maxRecDepth 1000000
def a3 : List AV := [(.int .i64 (.ofNat 2)), (.int .i64 (.ofNat 2))]
def v3 : AV := (.tup [(.vec [(.vec [(.vec [(.int .i64 (.ofNat 1)), (.int .i64 (.ofNat 0))] 2 (some 2)), (.vec [(.int .i64 (.ofNat 0)), (.int .i64 (.ofNat 2))] 2 (some 2))] 2 (some 2))] 1 none), (.int .i64 (.ofNat 0))])
theorem m3 : Ret Tryz.prog G 8 a3 [] v3 [] := run_ok (n := 1000) (by kernel_rfl)
def a15 : List AV := [(.vec [(.vec [(.int .i64 (.ofNat 1)), (.int .i64 (.ofNat 0))] 2 (some 2)), (.vec [(.int .i64 (.ofNat 0)), (.int .i64 (.ofNat 6))] 2 (some 2))] 2 (some 2)), (.int .i64 (.ofNat 200000))]
def v15 : AV := (.tup [(.agg [(.bool false), (.vec [(.int .u32 (.ofNat 4))] 1 (some 2))]), (.int .i64 (.ofNat 0))])
theorem m15 : Ret Tryz.prog G 13 a15 [] v15 [] := run_ok (n := 1000) (by kernel_rfl)
def a72 : List AV := [(.vec [(.vec [(.int .i64 (.ofNat 3)), (.int .i64 (.ofNat 1))] 2 (some 2)), (.vec [(.int .i64 (.ofNat 1)), (.int .i64 (.ofNat 7))] 2 (some 2))] 2 (some 2)), (.int .i64 (.ofNat 200000))]
def v72 : AV := (.tup [(.agg [(.bool false), (.vec [(.int .u32 (.ofNat 2))] 1 (some 2))]), (.int .i64 (.ofNat 0))])
theorem m72 : Ret Tryz.prog G 13 a72 [] v72 [] := run_ok (n := 1000) (by kernel_rfl)
def a89 : List AV := [(.vec [(.vec [(.int .i64 (.ofNat 1)), (.int .i64 (.ofNat 0))] 2 (some 2)), (.vec [(.int .i64 (.ofNat 0)), (.int .i64 (.ofNat 24))] 2 (some 2))] 2 (some 2)), (.int .i64 (.ofNat 200000))]
def v89 : AV := (.tup [(.agg [(.bool false), (.vec [(.int .u32 (.ofNat 4))] 1 (some 2))]), (.int .i64 (.ofNat 0))])
theorem m89 : Ret Tryz.prog G 13 a89 [] v89 [] := run_ok (n := 1000) (by kernel_rfl)
def a90 : List AV := [(.vec [(.vec [(.int .i64 (.ofNat 2)), (.int .i64 (.ofNat 0))] 2 (some 2)), (.vec [(.int .i64 (.ofNat 0)), (.int .i64 (.ofNat 12))] 2 (some 2))] 2 (some 2)), (.int .i64 (.ofNat 200000))]
def v90 : AV := (.tup [(.agg [(.bool false), (.vec [(.int .u32 (.ofNat 4))] 1 (some 2))]), (.int .i64 (.ofNat 0))])
theorem m90 : Ret Tryz.prog G 13 a90 [] v90 [] := run_ok (n := 1000) (by kernel_rfl)
def a96 : List AV := [(.vec [(.vec [(.int .i64 (.ofNat 1)), (.int .i64 (.ofNat 0))] 2 (some 2)), (.vec [(.int .i64 (.ofNat 0)), (.int .i64 (.ofNat 25))] 2 (some 2))] 2 (some 2)), (.int .i64 (.ofNat 200000))]
def v96 : AV := (.tup [(.agg [(.bool false), (.vec [(.int .u32 (.ofNat 4))] 1 (some 2))]), (.int .i64 (.ofNat 0))])
theorem m96 : Ret Tryz.prog G 13 a96 [] v96 [] := run_ok (n := 1000) (by kernel_rfl)
def a114 : List AV := [(.vec [(.vec [(.int .i64 (.ofNat 4)), (.int .i64 (.ofNat 2))] 2 (some 2)), (.vec [(.int .i64 (.ofNat 2)), (.int .i64 (.ofNat 8))] 2 (some 2))] 2 (some 2)), (.int .i64 (.ofNat 200000))]
def v114 : AV := (.tup [(.agg [(.bool false), (.vec [(.int .u32 (.ofNat 4))] 1 (some 2))]), (.int .i64 (.ofNat 0))])
theorem m114 : Ret Tryz.prog G 13 a114 [] v114 [] := run_ok (n := 1000) (by kernel_rfl)
def a116 : List AV := [(.vec [(.vec [(.int .i64 (.ofNat 1)), (.int .i64 (.ofNat 0))] 2 (some 2)), (.vec [(.int .i64 (.ofNat 0)), (.int .i64 (.ofNat 29))] 2 (some 2))] 2 (some 2)), (.int .i64 (.ofNat 200000))]
def v116 : AV := (.tup [(.agg [(.bool false), (.vec [(.int .u32 (.ofNat 4))] 1 (some 2))]), (.int .i64 (.ofNat 0))])
theorem m116 : Ret Tryz.prog G 13 a116 [] v116 [] := run_ok (n := 1000) (by kernel_rfl)
def a117 : List AV := [(.vec [(.vec [(.int .i64 (.ofNat 2)), (.int .i64 (.ofNat 1))] 2 (some 2)), (.vec [(.int .i64 (.ofNat 1)), (.int .i64 (.ofNat 15))] 2 (some 2))] 2 (some 2)), (.int .i64 (.ofNat 200000))]
def v117 : AV := (.tup [(.agg [(.bool false), (.vec [(.int .u32 (.ofNat 4))] 1 (some 2))]), (.int .i64 (.ofNat 0))])
theorem m117 : Ret Tryz.prog G 13 a117 [] v117 [] := run_ok (n := 1000) (by kernel_rfl)
def a128 : List AV := [(.vec [(.vec [(.int .i64 (.ofNat 4)), (.int .i64 (.ofNat 1))] 2 (some 2)), (.vec [(.int .i64 (.ofNat 1)), (.int .i64 (.ofNat 8))] 2 (some 2))] 2 (some 2)), (.int .i64 (.ofNat 200000))]
def v128 : AV := (.tup [(.agg [(.bool false), (.vec [(.int .u32 (.ofNat 2))] 1 (some 2))]), (.int .i64 (.ofNat 0))])
theorem m128 : Ret Tryz.prog G 13 a128 [] v128 [] := run_ok (n := 1000) (by kernel_rfl)
def a179 : List AV := [(.vec [(.vec [(.int .i64 (.ofNat 4)), (.int .i64 (.ofNat 0))] 2 (some 2)), (.vec [(.int .i64 (.ofNat 0)), (.int .i64 (.ofNat 10))] 2 (some 2))] 2 (some 2)), (.int .i64 (.ofNat 200000))]
def v179 : AV := (.tup [(.agg [(.bool false), (.vec [(.int .u32 (.ofNat 4))] 1 (some 2))]), (.int .i64 (.ofNat 0))])
theorem m179 : Ret Tryz.prog G 13 a179 [] v179 [] := run_ok (n := 1000) (by kernel_rfl)
def a195 : List AV := [(.vec [(.vec [(.int .i64 (.ofNat 1)), (.int .i64 (.ofNat 0))] 2 (some 2)), (.vec [(.int .i64 (.ofNat 0)), (.int .i64 (.ofNat 43))] 2 (some 2))] 2 (some 2)), (.int .i64 (.ofNat 200000))]
def v195 : AV := (.tup [(.agg [(.bool false), (.vec [(.int .u32 (.ofNat 4))] 1 (some 2))]), (.int .i64 (.ofNat 0))])
theorem m195 : Ret Tryz.prog G 13 a195 [] v195 [] := run_ok (n := 1000) (by kernel_rfl)
def a229 : List AV := [(.vec [(.vec [(.int .i64 (.ofNat 4)), (.int .i64 (.ofNat 2))] 2 (some 2)), (.vec [(.int .i64 (.ofNat 2)), (.int .i64 (.ofNat 13))] 2 (some 2))] 2 (some 2)), (.int .i64 (.ofNat 200000))]
def v229 : AV := (.tup [(.agg [(.bool false), (.vec [(.int .u32 (.ofNat 4))] 1 (some 2))]), (.int .i64 (.ofNat 0))])
theorem m229 : Ret Tryz.prog G 13 a229 [] v229 [] := run_ok (n := 1000) (by kernel_rfl)
def a231 : List AV := [(.vec [(.vec [(.int .i64 (.ofNat 7)), (.int .i64 (.ofNat 1))] 2 (some 2)), (.vec [(.int .i64 (.ofNat 1)), (.int .i64 (.ofNat 7))] 2 (some 2))] 2 (some 2)), (.int .i64 (.ofNat 200000))]
def v231 : AV := (.tup [(.agg [(.bool false), (.vec [(.int .u32 (.ofNat 4))] 1 (some 2))]), (.int .i64 (.ofNat 0))])
theorem m231 : Ret Tryz.prog G 13 a231 [] v231 [] := run_ok (n := 1000) (by kernel_rfl)
def a240 : List AV := [(.vec [(.vec [(.int .i64 (.ofNat 2)), (.int .i64 (.ofNat 0))] 2 (some 2)), (.vec [(.int .i64 (.ofNat 0)), (.int .i64 (.ofNat 25))] 2 (some 2))] 2 (some 2)), (.int .i64 (.ofNat 200000))]
def v240 : AV := (.tup [(.agg [(.bool false), (.vec [(.int .u32 (.ofNat 4))] 1 (some 2))]), (.int .i64 (.ofNat 0))])
theorem m240 : Ret Tryz.prog G 13 a240 [] v240 [] := run_ok (n := 1000) (by kernel_rfl)
def a272 : List AV := [(.vec [(.vec [(.int .i64 (.ofNat 4)), (.int .i64 (.ofNat 1))] 2 (some 2)), (.vec [(.int .i64 (.ofNat 1)), (.int .i64 (.ofNat 14))] 2 (some 2))] 2 (some 2)), (.int .i64 (.ofNat 200000))]
def v272 : AV := (.tup [(.agg [(.bool false), (.vec [(.int .u32 (.ofNat 2))] 1 (some 2))]), (.int .i64 (.ofNat 0))])
theorem m272 : Ret Tryz.prog G 13 a272 [] v272 [] := run_ok (n := 1000) (by kernel_rfl)
def a277 : List AV := [(.vec [(.vec [(.int .i64 (.ofNat 1)), (.int .i64 (.ofNat 0))] 2 (some 2)), (.vec [(.int .i64 (.ofNat 0)), (.int .i64 (.ofNat 56))] 2 (some 2))] 2 (some 2)), (.int .i64 (.ofNat 200000))]
def v277 : AV := (.tup [(.agg [(.bool false), (.vec [(.int .u32 (.ofNat 4))] 1 (some 2))]), (.int .i64 (.ofNat 0))])
theorem m277 : Ret Tryz.prog G 13 a277 [] v277 [] := run_ok (n := 1000) (by kernel_rfl)
def a286 : List AV := [(.int .i64 (.ofNat 2)), (.int .i64 (.ofNat 57))]
def v286 : AV := (.tup [(.vec [(.vec [(.vec [(.int .i64 (.ofNat 1)), (.int .i64 (.ofNat 0))] 2 (some 2)), (.vec [(.int .i64 (.ofNat 0)), (.int .i64 (.ofNat 57))] 2 (some 2))] 2 (some 2)), (.vec [(.vec [(.int .i64 (.ofNat 2)), (.int .i64 (.ofNat 1))] 2 (some 2)), (.vec [(.int .i64 (.ofNat 1)), (.int .i64 (.ofNat 29))] 2 (some 2))] 2 (some 2)), (.vec [(.vec [(.int .i64 (.ofNat 3)), (.int .i64 (.ofNat 0))] 2 (some 2)), (.vec [(.int .i64 (.ofNat 0)), (.int .i64 (.ofNat 19))] 2 (some 2))] 2 (some 2)), (.vec [(.vec [(.int .i64 (.ofNat 6)), (.int .i64 (.ofNat 3))] 2 (some 2)), (.vec [(.int .i64 (.ofNat 3)), (.int .i64 (.ofNat 11))] 2 (some 2))] 2 (some 2))] 4 none), (.int .i64 (.ofNat 0))])
theorem m286 : Ret Tryz.prog G 8 a286 [] v286 [] := run_ok (n := 1000) (by kernel_rfl)
def a294 : List AV := [(.int .i64 (.ofNat 2)), (.int .i64 (.ofNat 59))]
def v294 : AV := (.tup [(.vec [(.vec [(.vec [(.int .i64 (.ofNat 1)), (.int .i64 (.ofNat 0))] 2 (some 2)), (.vec [(.int .i64 (.ofNat 0)), (.int .i64 (.ofNat 59))] 2 (some 2))] 2 (some 2)), (.vec [(.vec [(.int .i64 (.ofNat 2)), (.int .i64 (.ofNat 1))] 2 (some 2)), (.vec [(.int .i64 (.ofNat 1)), (.int .i64 (.ofNat 30))] 2 (some 2))] 2 (some 2)), (.vec [(.vec [(.int .i64 (.ofNat 3)), (.int .i64 (.ofNat 1))] 2 (some 2)), (.vec [(.int .i64 (.ofNat 1)), (.int .i64 (.ofNat 20))] 2 (some 2))] 2 (some 2)), (.vec [(.vec [(.int .i64 (.ofNat 4)), (.int .i64 (.ofNat 1))] 2 (some 2)), (.vec [(.int .i64 (.ofNat 1)), (.int .i64 (.ofNat 15))] 2 (some 2))] 2 (some 2)), (.vec [(.vec [(.int .i64 (.ofNat 5)), (.int .i64 (.ofNat 1))] 2 (some 2)), (.vec [(.int .i64 (.ofNat 1)), (.int .i64 (.ofNat 12))] 2 (some 2))] 2 (some 2)), (.vec [(.vec [(.int .i64 (.ofNat 6)), (.int .i64 (.ofNat 1))] 2 (some 2)), (.vec [(.int .i64 (.ofNat 1)), (.int .i64 (.ofNat 10))] 2 (some 2))] 2 (some 2)), (.vec [(.vec [(.int .i64 (.ofNat 7)), (.int .i64 (.ofNat 2))] 2 (some 2)), (.vec [(.int .i64 (.ofNat 2)), (.int .i64 (.ofNat 9))] 2 (some 2))] 2 (some 2))] 7 none), (.int .i64 (.ofNat 0))])
theorem m294 : Ret Tryz.prog G 8 a294 [] v294 [] := run_ok (n := 1000) (by kernel_rfl)
def a306 : List AV := [(.vec [(.vec [(.int .i64 (.ofNat 4)), (.int .i64 (.ofNat 0))] 2 (some 2)), (.vec [(.int .i64 (.ofNat 0)), (.int .i64 (.ofNat 15))] 2 (some 2))] 2 (some 2)), (.int .i64 (.ofNat 200000))]
def v306 : AV := (.tup [(.agg [(.bool false), (.vec [(.int .u32 (.ofNat 4))] 1 (some 2))]), (.int .i64 (.ofNat 0))])
theorem m306 : Ret Tryz.prog G 13 a306 [] v306 [] := run_ok (n := 1000) (by kernel_rfl)
end Go.Proofs.YthkpeakeoepocaaGreatDoor.OO

/- Results of some calls, by the kernel (genmemo.py). -/
namespace Go.Proofs.YthkpeakeoepocaaGreatDoor.OO
set_option linter.unusedSimpArgs false
set_option linter.unusedVariables false
open Go Go.AL Go.Proofs
set_option maxRecDepth 1000000
def a4 : List AV := [(.vec [(.vec [(.int .i64 (.ofNat 1)), (.int .i64 (.ofNat 0))] 2 (some 2)), (.vec [(.int .i64 (.ofNat 0)), (.int .i64 (.ofNat 2))] 2 (some 2))] 2 (some 2)), (.int .i64 (.ofNat 200000))]
def v4 : AV := (.tup [(.agg [(.bool false), (.vec [(.int .u32 (.ofNat 4))] 1 (some 2))]), (.int .i64 (.ofNat 0))])
theorem m4 : Ret Tryz.prog G 13 a4 [] v4 [] := run_ok (n := 1000) (by kernel_rfl)
def a43 : List AV := [(.int .i64 (.ofNat 2)), (.int .i64 (.ofNat 14))]
def v43 : AV := (.tup [(.vec [(.vec [(.vec [(.int .i64 (.ofNat 1)), (.int .i64 (.ofNat 0))] 2 (some 2)), (.vec [(.int .i64 (.ofNat 0)), (.int .i64 (.ofNat 14))] 2 (some 2))] 2 (some 2)), (.vec [(.vec [(.int .i64 (.ofNat 2)), (.int .i64 (.ofNat 0))] 2 (some 2)), (.vec [(.int .i64 (.ofNat 0)), (.int .i64 (.ofNat 7))] 2 (some 2))] 2 (some 2)), (.vec [(.vec [(.int .i64 (.ofNat 3)), (.int .i64 (.ofNat 1))] 2 (some 2)), (.vec [(.int .i64 (.ofNat 1)), (.int .i64 (.ofNat 5))] 2 (some 2))] 2 (some 2))] 3 none), (.int .i64 (.ofNat 0))])
theorem m43 : Ret Tryz.prog G 8 a43 [] v43 [] := run_ok (n := 1000) (by kernel_rfl)
def a47 : List AV := [(.int .i64 (.ofNat 2)), (.int .i64 (.ofNat 15))]
def v47 : AV := (.tup [(.vec [(.vec [(.vec [(.int .i64 (.ofNat 1)), (.int .i64 (.ofNat 0))] 2 (some 2)), (.vec [(.int .i64 (.ofNat 0)), (.int .i64 (.ofNat 15))] 2 (some 2))] 2 (some 2)), (.vec [(.vec [(.int .i64 (.ofNat 2)), (.int .i64 (.ofNat 1))] 2 (some 2)), (.vec [(.int .i64 (.ofNat 1)), (.int .i64 (.ofNat 8))] 2 (some 2))] 2 (some 2)), (.vec [(.vec [(.int .i64 (.ofNat 3)), (.int .i64 (.ofNat 0))] 2 (some 2)), (.vec [(.int .i64 (.ofNat 0)), (.int .i64 (.ofNat 5))] 2 (some 2))] 2 (some 2)), (.vec [(.vec [(.int .i64 (.ofNat 4)), (.int .i64 (.ofNat 1))] 2 (some 2)), (.vec [(.int .i64 (.ofNat 1)), (.int .i64 (.ofNat 4))] 2 (some 2))] 2 (some 2))] 4 none), (.int .i64 (.ofNat 0))])
theorem m47 : Ret Tryz.prog G 8 a47 [] v47 [] := run_ok (n := 1000) (by kernel_rfl)
def a64 : List AV := [(.vec [(.vec [(.int .i64 (.ofNat 3)), (.int .i64 (.ofNat 0))] 2 (some 2)), (.vec [(.int .i64 (.ofNat 0)), (.int .i64 (.ofNat 6))] 2 (some 2))] 2 (some 2)), (.int .i64 (.ofNat 200000))]
def v64 : AV := (.tup [(.agg [(.bool false), (.vec [(.int .u32 (.ofNat 4))] 1 (some 2))]), (.int .i64 (.ofNat 0))])
theorem m64 : Ret Tryz.prog G 13 a64 [] v64 [] := run_ok (n := 1000) (by kernel_rfl)
def a71 : List AV := [(.vec [(.vec [(.int .i64 (.ofNat 2)), (.int .i64 (.ofNat 0))] 2 (some 2)), (.vec [(.int .i64 (.ofNat 0)), (.int .i64 (.ofNat 10))] 2 (some 2))] 2 (some 2)), (.int .i64 (.ofNat 200000))]
def v71 : AV := (.tup [(.agg [(.bool false), (.vec [(.int .u32 (.ofNat 4))] 1 (some 2))]), (.int .i64 (.ofNat 0))])
theorem m71 : Ret Tryz.prog G 13 a71 [] v71 [] := run_ok (n := 1000) (by kernel_rfl)
def a97 : List AV := [(.vec [(.vec [(.int .i64 (.ofNat 2)), (.int .i64 (.ofNat 1))] 2 (some 2)), (.vec [(.int .i64 (.ofNat 1)), (.int .i64 (.ofNat 13))] 2 (some 2))] 2 (some 2)), (.int .i64 (.ofNat 200000))]
def v97 : AV := (.tup [(.agg [(.bool false), (.vec [(.int .u32 (.ofNat 4))] 1 (some 2))]), (.int .i64 (.ofNat 0))])
theorem m97 : Ret Tryz.prog G 13 a97 [] v97 [] := run_ok (n := 1000) (by kernel_rfl)
def a141 : List AV := [(.vec [(.vec [(.int .i64 (.ofNat 6)), (.int .i64 (.ofNat 3))] 2 (some 2)), (.vec [(.int .i64 (.ofNat 3)), (.int .i64 (.ofNat 7))] 2 (some 2))] 2 (some 2)), (.int .i64 (.ofNat 200000))]
def v141 : AV := (.tup [(.agg [(.bool false), (.vec [(.int .u32 (.ofNat 4))] 1 (some 2))]), (.int .i64 (.ofNat 0))])
theorem m141 : Ret Tryz.prog G 13 a141 [] v141 [] := run_ok (n := 1000) (by kernel_rfl)
def a150 : List AV := [(.vec [(.vec [(.int .i64 (.ofNat 4)), (.int .i64 (.ofNat 1))] 2 (some 2)), (.vec [(.int .i64 (.ofNat 1)), (.int .i64 (.ofNat 9))] 2 (some 2))] 2 (some 2)), (.int .i64 (.ofNat 200000))]
def v150 : AV := (.tup [(.agg [(.bool false), (.vec [(.int .u32 (.ofNat 2))] 1 (some 2))]), (.int .i64 (.ofNat 0))])
theorem m150 : Ret Tryz.prog G 13 a150 [] v150 [] := run_ok (n := 1000) (by kernel_rfl)
def a163 : List AV := [(.vec [(.vec [(.int .i64 (.ofNat 2)), (.int .i64 (.ofNat 1))] 2 (some 2)), (.vec [(.int .i64 (.ofNat 1)), (.int .i64 (.ofNat 19))] 2 (some 2))] 2 (some 2)), (.int .i64 (.ofNat 200000))]
def v163 : AV := (.tup [(.agg [(.bool false), (.vec [(.int .u32 (.ofNat 4))] 1 (some 2))]), (.int .i64 (.ofNat 0))])
theorem m163 : Ret Tryz.prog G 13 a163 [] v163 [] := run_ok (n := 1000) (by kernel_rfl)
def a191 : List AV := [(.vec [(.vec [(.int .i64 (.ofNat 2)), (.int .i64 (.ofNat 0))] 2 (some 2)), (.vec [(.int .i64 (.ofNat 0)), (.int .i64 (.ofNat 21))] 2 (some 2))] 2 (some 2)), (.int .i64 (.ofNat 200000))]
def v191 : AV := (.tup [(.agg [(.bool false), (.vec [(.int .u32 (.ofNat 4))] 1 (some 2))]), (.int .i64 (.ofNat 0))])
theorem m191 : Ret Tryz.prog G 13 a191 [] v191 [] := run_ok (n := 1000) (by kernel_rfl)
def a201 : List AV := [(.vec [(.vec [(.int .i64 (.ofNat 3)), (.int .i64 (.ofNat 1))] 2 (some 2)), (.vec [(.int .i64 (.ofNat 1)), (.int .i64 (.ofNat 15))] 2 (some 2))] 2 (some 2)), (.int .i64 (.ofNat 200000))]
def v201 : AV := (.tup [(.agg [(.bool false), (.vec [(.int .u32 (.ofNat 2))] 1 (some 2))]), (.int .i64 (.ofNat 0))])
theorem m201 : Ret Tryz.prog G 13 a201 [] v201 [] := run_ok (n := 1000) (by kernel_rfl)
def a202 : List AV := [(.vec [(.vec [(.int .i64 (.ofNat 4)), (.int .i64 (.ofNat 0))] 2 (some 2)), (.vec [(.int .i64 (.ofNat 0)), (.int .i64 (.ofNat 11))] 2 (some 2))] 2 (some 2)), (.int .i64 (.ofNat 200000))]
def v202 : AV := (.tup [(.agg [(.bool false), (.vec [(.int .u32 (.ofNat 4))] 1 (some 2))]), (.int .i64 (.ofNat 0))])
theorem m202 : Ret Tryz.prog G 13 a202 [] v202 [] := run_ok (n := 1000) (by kernel_rfl)
def a203 : List AV := [(.vec [(.vec [(.int .i64 (.ofNat 4)), (.int .i64 (.ofNat 2))] 2 (some 2)), (.vec [(.int .i64 (.ofNat 2)), (.int .i64 (.ofNat 12))] 2 (some 2))] 2 (some 2)), (.int .i64 (.ofNat 200000))]
def v203 : AV := (.tup [(.agg [(.bool false), (.vec [(.int .u32 (.ofNat 4))] 1 (some 2))]), (.int .i64 (.ofNat 0))])
theorem m203 : Ret Tryz.prog G 13 a203 [] v203 [] := run_ok (n := 1000) (by kernel_rfl)
def a217 : List AV := [(.int .i64 (.ofNat 2)), (.int .i64 (.ofNat 47))]
def v217 : AV := (.tup [(.vec [(.vec [(.vec [(.int .i64 (.ofNat 1)), (.int .i64 (.ofNat 0))] 2 (some 2)), (.vec [(.int .i64 (.ofNat 0)), (.int .i64 (.ofNat 47))] 2 (some 2))] 2 (some 2)), (.vec [(.vec [(.int .i64 (.ofNat 2)), (.int .i64 (.ofNat 1))] 2 (some 2)), (.vec [(.int .i64 (.ofNat 1)), (.int .i64 (.ofNat 24))] 2 (some 2))] 2 (some 2)), (.vec [(.vec [(.int .i64 (.ofNat 3)), (.int .i64 (.ofNat 1))] 2 (some 2)), (.vec [(.int .i64 (.ofNat 1)), (.int .i64 (.ofNat 16))] 2 (some 2))] 2 (some 2)), (.vec [(.vec [(.int .i64 (.ofNat 4)), (.int .i64 (.ofNat 1))] 2 (some 2)), (.vec [(.int .i64 (.ofNat 1)), (.int .i64 (.ofNat 12))] 2 (some 2))] 2 (some 2)), (.vec [(.vec [(.int .i64 (.ofNat 6)), (.int .i64 (.ofNat 1))] 2 (some 2)), (.vec [(.int .i64 (.ofNat 1)), (.int .i64 (.ofNat 8))] 2 (some 2))] 2 (some 2)), (.vec [(.vec [(.int .i64 (.ofNat 7)), (.int .i64 (.ofNat 3))] 2 (some 2)), (.vec [(.int .i64 (.ofNat 3)), (.int .i64 (.ofNat 8))] 2 (some 2))] 2 (some 2))] 6 none), (.int .i64 (.ofNat 0))])
theorem m217 : Ret Tryz.prog G 8 a217 [] v217 [] := run_ok (n := 1000) (by kernel_rfl)
def a234 : List AV := [(.vec [(.vec [(.int .i64 (.ofNat 1)), (.int .i64 (.ofNat 0))] 2 (some 2)), (.vec [(.int .i64 (.ofNat 0)), (.int .i64 (.ofNat 49))] 2 (some 2))] 2 (some 2)), (.int .i64 (.ofNat 200000))]
def v234 : AV := (.tup [(.agg [(.bool false), (.vec [(.int .u32 (.ofNat 4))] 1 (some 2))]), (.int .i64 (.ofNat 0))])
theorem m234 : Ret Tryz.prog G 13 a234 [] v234 [] := run_ok (n := 1000) (by kernel_rfl)
def a257 : List AV := [(.int .i64 (.ofNat 2)), (.int .i64 (.ofNat 53))]
def v257 : AV := (.tup [(.vec [(.vec [(.vec [(.int .i64 (.ofNat 1)), (.int .i64 (.ofNat 0))] 2 (some 2)), (.vec [(.int .i64 (.ofNat 0)), (.int .i64 (.ofNat 53))] 2 (some 2))] 2 (some 2)), (.vec [(.vec [(.int .i64 (.ofNat 2)), (.int .i64 (.ofNat 1))] 2 (some 2)), (.vec [(.int .i64 (.ofNat 1)), (.int .i64 (.ofNat 27))] 2 (some 2))] 2 (some 2)), (.vec [(.vec [(.int .i64 (.ofNat 3)), (.int .i64 (.ofNat 1))] 2 (some 2)), (.vec [(.int .i64 (.ofNat 1)), (.int .i64 (.ofNat 18))] 2 (some 2))] 2 (some 2)), (.vec [(.vec [(.int .i64 (.ofNat 6)), (.int .i64 (.ofNat 1))] 2 (some 2)), (.vec [(.int .i64 (.ofNat 1)), (.int .i64 (.ofNat 9))] 2 (some 2))] 2 (some 2))] 4 none), (.int .i64 (.ofNat 0))])
theorem m257 : Ret Tryz.prog G 8 a257 [] v257 [] := run_ok (n := 1000) (by kernel_rfl)
def a274 : List AV := [(.vec [(.vec [(.int .i64 (.ofNat 7)), (.int .i64 (.ofNat 1))] 2 (some 2)), (.vec [(.int .i64 (.ofNat 1)), (.int .i64 (.ofNat 8))] 2 (some 2))] 2 (some 2)), (.int .i64 (.ofNat 200000))]
def v274 : AV := (.tup [(.agg [(.bool false), (.vec [(.int .u32 (.ofNat 2))] 1 (some 2))]), (.int .i64 (.ofNat 0))])
theorem m274 : Ret Tryz.prog G 13 a274 [] v274 [] := run_ok (n := 1000) (by kernel_rfl)
def a288 : List AV := [(.vec [(.vec [(.int .i64 (.ofNat 2)), (.int .i64 (.ofNat 1))] 2 (some 2)), (.vec [(.int .i64 (.ofNat 1)), (.int .i64 (.ofNat 29))] 2 (some 2))] 2 (some 2)), (.int .i64 (.ofNat 200000))]
def v288 : AV := (.tup [(.agg [(.bool false), (.vec [(.int .u32 (.ofNat 4))] 1 (some 2))]), (.int .i64 (.ofNat 0))])
theorem m288 : Ret Tryz.prog G 13 a288 [] v288 [] := run_ok (n := 1000) (by kernel_rfl)
def a289 : List AV := [(.vec [(.vec [(.int .i64 (.ofNat 3)), (.int .i64 (.ofNat 0))] 2 (some 2)), (.vec [(.int .i64 (.ofNat 0)), (.int .i64 (.ofNat 19))] 2 (some 2))] 2 (some 2)), (.int .i64 (.ofNat 200000))]
def v289 : AV := (.tup [(.agg [(.bool false), (.vec [(.int .u32 (.ofNat 4))] 1 (some 2))]), (.int .i64 (.ofNat 0))])
theorem m289 : Ret Tryz.prog G 13 a289 [] v289 [] := run_ok (n := 1000) (by kernel_rfl)
end Go.Proofs.YthkpeakeoepocaaGreatDoor.OO

/- Results of some calls, by the kernel (genmemo.py). -/
namespace Go.Proofs.YthkpeakeoepocaaGreatDoor.OO
set_option linter.unusedSimpArgs false
set_option linter.unusedVariables false
open Go Go.AL Go.Proofs
set_option maxRecDepth 1000000
def a10 : List AV := [(.vec [(.vec [(.int .i64 (.ofNat 2)), (.int .i64 (.ofNat 0))] 2 (some 2)), (.vec [(.int .i64 (.ofNat 0)), (.int .i64 (.ofNat 2))] 2 (some 2))] 2 (some 2)), (.int .i64 (.ofNat 200000))]
def v10 : AV := (.tup [(.agg [(.bool false), (.vec [(.int .u32 (.ofNat 8))] 1 (some 2))]), (.int .i64 (.ofNat 0))])
theorem m10 : Ret Tryz.prog G 13 a10 [] v10 [] := run_ok (n := 1000) (by kernel_rfl)
def a26 : List AV := [(.vec [(.vec [(.int .i64 (.ofNat 2)), (.int .i64 (.ofNat 1))] 2 (some 2)), (.vec [(.int .i64 (.ofNat 1)), (.int .i64 (.ofNat 5))] 2 (some 2))] 2 (some 2)), (.int .i64 (.ofNat 200000))]
def v26 : AV := (.tup [(.agg [(.bool false), (.vec [(.int .u32 (.ofNat 4))] 1 (some 2))]), (.int .i64 (.ofNat 0))])
theorem m26 : Ret Tryz.prog G 13 a26 [] v26 [] := run_ok (n := 1000) (by kernel_rfl)
def a31 : List AV := [(.int .i64 (.ofNat 2)), (.int .i64 (.ofNat 11))]
def v31 : AV := (.tup [(.vec [(.vec [(.vec [(.int .i64 (.ofNat 1)), (.int .i64 (.ofNat 0))] 2 (some 2)), (.vec [(.int .i64 (.ofNat 0)), (.int .i64 (.ofNat 11))] 2 (some 2))] 2 (some 2)), (.vec [(.vec [(.int .i64 (.ofNat 2)), (.int .i64 (.ofNat 1))] 2 (some 2)), (.vec [(.int .i64 (.ofNat 1)), (.int .i64 (.ofNat 6))] 2 (some 2))] 2 (some 2)), (.vec [(.vec [(.int .i64 (.ofNat 3)), (.int .i64 (.ofNat 1))] 2 (some 2)), (.vec [(.int .i64 (.ofNat 1)), (.int .i64 (.ofNat 4))] 2 (some 2))] 2 (some 2))] 3 none), (.int .i64 (.ofNat 0))])
theorem m31 : Ret Tryz.prog G 8 a31 [] v31 [] := run_ok (n := 1000) (by kernel_rfl)
def a32 : List AV := [(.vec [(.vec [(.int .i64 (.ofNat 1)), (.int .i64 (.ofNat 0))] 2 (some 2)), (.vec [(.int .i64 (.ofNat 0)), (.int .i64 (.ofNat 11))] 2 (some 2))] 2 (some 2)), (.int .i64 (.ofNat 200000))]
def v32 : AV := (.tup [(.agg [(.bool false), (.vec [(.int .u32 (.ofNat 4))] 1 (some 2))]), (.int .i64 (.ofNat 0))])
theorem m32 : Ret Tryz.prog G 13 a32 [] v32 [] := run_ok (n := 1000) (by kernel_rfl)
def a50 : List AV := [(.vec [(.vec [(.int .i64 (.ofNat 3)), (.int .i64 (.ofNat 0))] 2 (some 2)), (.vec [(.int .i64 (.ofNat 0)), (.int .i64 (.ofNat 5))] 2 (some 2))] 2 (some 2)), (.int .i64 (.ofNat 200000))]
def v50 : AV := (.tup [(.agg [(.bool false), (.vec [(.int .u32 (.ofNat 4))] 1 (some 2))]), (.int .i64 (.ofNat 0))])
theorem m50 : Ret Tryz.prog G 13 a50 [] v50 [] := run_ok (n := 1000) (by kernel_rfl)
def a59 : List AV := [(.vec [(.vec [(.int .i64 (.ofNat 2)), (.int .i64 (.ofNat 1))] 2 (some 2)), (.vec [(.int .i64 (.ofNat 1)), (.int .i64 (.ofNat 9))] 2 (some 2))] 2 (some 2)), (.int .i64 (.ofNat 200000))]
def v59 : AV := (.tup [(.agg [(.bool false), (.vec [(.int .u32 (.ofNat 4))] 1 (some 2))]), (.int .i64 (.ofNat 0))])
theorem m59 : Ret Tryz.prog G 13 a59 [] v59 [] := run_ok (n := 1000) (by kernel_rfl)
def a70 : List AV := [(.vec [(.vec [(.int .i64 (.ofNat 1)), (.int .i64 (.ofNat 0))] 2 (some 2)), (.vec [(.int .i64 (.ofNat 0)), (.int .i64 (.ofNat 20))] 2 (some 2))] 2 (some 2)), (.int .i64 (.ofNat 200000))]
def v70 : AV := (.tup [(.agg [(.bool false), (.vec [(.int .u32 (.ofNat 4))] 1 (some 2))]), (.int .i64 (.ofNat 0))])
theorem m70 : Ret Tryz.prog G 13 a70 [] v70 [] := run_ok (n := 1000) (by kernel_rfl)
def a109 : List AV := [(.vec [(.vec [(.int .i64 (.ofNat 6)), (.int .i64 (.ofNat 3))] 2 (some 2)), (.vec [(.int .i64 (.ofNat 3)), (.int .i64 (.ofNat 6))] 2 (some 2))] 2 (some 2)), (.int .i64 (.ofNat 200000))]
def v109 : AV := (.tup [(.agg [(.bool false), (.vec [(.int .u32 (.ofNat 12))] 1 (some 2))]), (.int .i64 (.ofNat 0))])
theorem m109 : Ret Tryz.prog G 13 a109 [] v109 [] := run_ok (n := 1000) (by kernel_rfl)
def a113 : List AV := [(.vec [(.vec [(.int .i64 (.ofNat 4)), (.int .i64 (.ofNat 0))] 2 (some 2)), (.vec [(.int .i64 (.ofNat 0)), (.int .i64 (.ofNat 7))] 2 (some 2))] 2 (some 2)), (.int .i64 (.ofNat 200000))]
def v113 : AV := (.tup [(.agg [(.bool false), (.vec [(.int .u32 (.ofNat 4))] 1 (some 2))]), (.int .i64 (.ofNat 0))])
theorem m113 : Ret Tryz.prog G 13 a113 [] v113 [] := run_ok (n := 1000) (by kernel_rfl)
def a118 : List AV := [(.vec [(.vec [(.int .i64 (.ofNat 3)), (.int .i64 (.ofNat 1))] 2 (some 2)), (.vec [(.int .i64 (.ofNat 1)), (.int .i64 (.ofNat 10))] 2 (some 2))] 2 (some 2)), (.int .i64 (.ofNat 200000))]
def v118 : AV := (.tup [(.agg [(.bool false), (.vec [(.int .u32 (.ofNat 2))] 1 (some 2))]), (.int .i64 (.ofNat 0))])
theorem m118 : Ret Tryz.prog G 13 a118 [] v118 [] := run_ok (n := 1000) (by kernel_rfl)
def a140 : List AV := [(.vec [(.vec [(.int .i64 (.ofNat 3)), (.int .i64 (.ofNat 0))] 2 (some 2)), (.vec [(.int .i64 (.ofNat 0)), (.int .i64 (.ofNat 11))] 2 (some 2))] 2 (some 2)), (.int .i64 (.ofNat 200000))]
def v140 : AV := (.tup [(.agg [(.bool false), (.vec [(.int .u32 (.ofNat 4))] 1 (some 2))]), (.int .i64 (.ofNat 0))])
theorem m140 : Ret Tryz.prog G 13 a140 [] v140 [] := run_ok (n := 1000) (by kernel_rfl)
def a162 : List AV := [(.vec [(.vec [(.int .i64 (.ofNat 1)), (.int .i64 (.ofNat 0))] 2 (some 2)), (.vec [(.int .i64 (.ofNat 0)), (.int .i64 (.ofNat 37))] 2 (some 2))] 2 (some 2)), (.int .i64 (.ofNat 200000))]
def v162 : AV := (.tup [(.agg [(.bool false), (.vec [(.int .u32 (.ofNat 4))] 1 (some 2))]), (.int .i64 (.ofNat 0))])
theorem m162 : Ret Tryz.prog G 13 a162 [] v162 [] := run_ok (n := 1000) (by kernel_rfl)
def a172 : List AV := [(.vec [(.vec [(.int .i64 (.ofNat 3)), (.int .i64 (.ofNat 0))] 2 (some 2)), (.vec [(.int .i64 (.ofNat 0)), (.int .i64 (.ofNat 13))] 2 (some 2))] 2 (some 2)), (.int .i64 (.ofNat 200000))]
def v172 : AV := (.tup [(.agg [(.bool false), (.vec [(.int .u32 (.ofNat 4))] 1 (some 2))]), (.int .i64 (.ofNat 0))])
theorem m172 : Ret Tryz.prog G 13 a172 [] v172 [] := run_ok (n := 1000) (by kernel_rfl)
def a196 : List AV := [(.vec [(.vec [(.int .i64 (.ofNat 2)), (.int .i64 (.ofNat 1))] 2 (some 2)), (.vec [(.int .i64 (.ofNat 1)), (.int .i64 (.ofNat 22))] 2 (some 2))] 2 (some 2)), (.int .i64 (.ofNat 200000))]
def v196 : AV := (.tup [(.agg [(.bool false), (.vec [(.int .u32 (.ofNat 4))] 1 (some 2))]), (.int .i64 (.ofNat 0))])
theorem m196 : Ret Tryz.prog G 13 a196 [] v196 [] := run_ok (n := 1000) (by kernel_rfl)
def a206 : List AV := [(.int .i64 (.ofNat 2)), (.int .i64 (.ofNat 45))]
def v206 : AV := (.tup [(.vec [(.vec [(.vec [(.int .i64 (.ofNat 1)), (.int .i64 (.ofNat 0))] 2 (some 2)), (.vec [(.int .i64 (.ofNat 0)), (.int .i64 (.ofNat 45))] 2 (some 2))] 2 (some 2)), (.vec [(.vec [(.int .i64 (.ofNat 2)), (.int .i64 (.ofNat 1))] 2 (some 2)), (.vec [(.int .i64 (.ofNat 1)), (.int .i64 (.ofNat 23))] 2 (some 2))] 2 (some 2)), (.vec [(.vec [(.int .i64 (.ofNat 3)), (.int .i64 (.ofNat 0))] 2 (some 2)), (.vec [(.int .i64 (.ofNat 0)), (.int .i64 (.ofNat 15))] 2 (some 2))] 2 (some 2)), (.vec [(.vec [(.int .i64 (.ofNat 5)), (.int .i64 (.ofNat 0))] 2 (some 2)), (.vec [(.int .i64 (.ofNat 0)), (.int .i64 (.ofNat 9))] 2 (some 2))] 2 (some 2)), (.vec [(.vec [(.int .i64 (.ofNat 6)), (.int .i64 (.ofNat 3))] 2 (some 2)), (.vec [(.int .i64 (.ofNat 3)), (.int .i64 (.ofNat 9))] 2 (some 2))] 2 (some 2)), (.vec [(.vec [(.int .i64 (.ofNat 7)), (.int .i64 (.ofNat 2))] 2 (some 2)), (.vec [(.int .i64 (.ofNat 2)), (.int .i64 (.ofNat 7))] 2 (some 2))] 2 (some 2))] 6 none), (.int .i64 (.ofNat 0))])
theorem m206 : Ret Tryz.prog G 8 a206 [] v206 [] := run_ok (n := 1000) (by kernel_rfl)
def a223 : List AV := [(.vec [(.vec [(.int .i64 (.ofNat 7)), (.int .i64 (.ofNat 3))] 2 (some 2)), (.vec [(.int .i64 (.ofNat 3)), (.int .i64 (.ofNat 8))] 2 (some 2))] 2 (some 2)), (.int .i64 (.ofNat 200000))]
def v223 : AV := (.tup [(.agg [(.bool false), (.vec [(.int .u32 (.ofNat 2))] 1 (some 2))]), (.int .i64 (.ofNat 0))])
theorem m223 : Ret Tryz.prog G 13 a223 [] v223 [] := run_ok (n := 1000) (by kernel_rfl)
def a238 : List AV := [(.int .i64 (.ofNat 2)), (.int .i64 (.ofNat 50))]
def v238 : AV := (.tup [(.vec [(.vec [(.vec [(.int .i64 (.ofNat 1)), (.int .i64 (.ofNat 0))] 2 (some 2)), (.vec [(.int .i64 (.ofNat 0)), (.int .i64 (.ofNat 50))] 2 (some 2))] 2 (some 2)), (.vec [(.vec [(.int .i64 (.ofNat 2)), (.int .i64 (.ofNat 0))] 2 (some 2)), (.vec [(.int .i64 (.ofNat 0)), (.int .i64 (.ofNat 25))] 2 (some 2))] 2 (some 2)), (.vec [(.vec [(.int .i64 (.ofNat 3)), (.int .i64 (.ofNat 1))] 2 (some 2)), (.vec [(.int .i64 (.ofNat 1)), (.int .i64 (.ofNat 17))] 2 (some 2))] 2 (some 2)), (.vec [(.vec [(.int .i64 (.ofNat 5)), (.int .i64 (.ofNat 0))] 2 (some 2)), (.vec [(.int .i64 (.ofNat 0)), (.int .i64 (.ofNat 10))] 2 (some 2))] 2 (some 2)), (.vec [(.vec [(.int .i64 (.ofNat 6)), (.int .i64 (.ofNat 2))] 2 (some 2)), (.vec [(.int .i64 (.ofNat 2)), (.int .i64 (.ofNat 9))] 2 (some 2))] 2 (some 2))] 5 none), (.int .i64 (.ofNat 0))])
theorem m238 : Ret Tryz.prog G 8 a238 [] v238 [] := run_ok (n := 1000) (by kernel_rfl)
def a239 : List AV := [(.vec [(.vec [(.int .i64 (.ofNat 1)), (.int .i64 (.ofNat 0))] 2 (some 2)), (.vec [(.int .i64 (.ofNat 0)), (.int .i64 (.ofNat 50))] 2 (some 2))] 2 (some 2)), (.int .i64 (.ofNat 200000))]
def v239 : AV := (.tup [(.agg [(.bool false), (.vec [(.int .u32 (.ofNat 4))] 1 (some 2))]), (.int .i64 (.ofNat 0))])
theorem m239 : Ret Tryz.prog G 13 a239 [] v239 [] := run_ok (n := 1000) (by kernel_rfl)
def a310 : List AV := [(.vec [(.vec [(.int .i64 (.ofNat 8)), (.int .i64 (.ofNat 2))] 2 (some 2)), (.vec [(.int .i64 (.ofNat 2)), (.int .i64 (.ofNat 8))] 2 (some 2))] 2 (some 2)), (.int .i64 (.ofNat 200000))]
def v310 : AV := (.tup [(.agg [(.bool false), (.vec [(.int .u32 (.ofNat 4))] 1 (some 2))]), (.int .i64 (.ofNat 0))])
theorem m310 : Ret Tryz.prog G 13 a310 [] v310 [] := run_ok (n := 1000) (by kernel_rfl)
end Go.Proofs.YthkpeakeoepocaaGreatDoor.OO

/- Results of some calls, by the kernel (genmemo.py). -/
namespace Go.Proofs.YthkpeakeoepocaaGreatDoor.OO
set_option linter.unusedSimpArgs false
set_option linter.unusedVariables false
open Go Go.AL Go.Proofs
set_option maxRecDepth 1000000
def a6 : List AV := [(.vec [(.vec [(.int .i64 (.ofNat 1)), (.int .i64 (.ofNat 0))] 2 (some 2)), (.vec [(.int .i64 (.ofNat 0)), (.int .i64 (.ofNat 3))] 2 (some 2))] 2 (some 2)), (.int .i64 (.ofNat 200000))]
def v6 : AV := (.tup [(.agg [(.bool false), (.vec [(.int .u32 (.ofNat 4))] 1 (some 2))]), (.int .i64 (.ofNat 0))])
theorem m6 : Ret Tryz.prog G 13 a6 [] v6 [] := run_ok (n := 1000) (by kernel_rfl)
def a9 : List AV := [(.vec [(.vec [(.int .i64 (.ofNat 1)), (.int .i64 (.ofNat 0))] 2 (some 2)), (.vec [(.int .i64 (.ofNat 0)), (.int .i64 (.ofNat 4))] 2 (some 2))] 2 (some 2)), (.int .i64 (.ofNat 200000))]
def v9 : AV := (.tup [(.agg [(.bool false), (.vec [(.int .u32 (.ofNat 4))] 1 (some 2))]), (.int .i64 (.ofNat 0))])
theorem m9 : Ret Tryz.prog G 13 a9 [] v9 [] := run_ok (n := 1000) (by kernel_rfl)
def a56 : List AV := [(.vec [(.vec [(.int .i64 (.ofNat 4)), (.int .i64 (.ofNat 2))] 2 (some 2)), (.vec [(.int .i64 (.ofNat 2)), (.int .i64 (.ofNat 5))] 2 (some 2))] 2 (some 2)), (.int .i64 (.ofNat 200000))]
def v56 : AV := (.tup [(.agg [(.bool false), (.vec [(.int .u32 (.ofNat 4))] 1 (some 2))]), (.int .i64 (.ofNat 0))])
theorem m56 : Ret Tryz.prog G 13 a56 [] v56 [] := run_ok (n := 1000) (by kernel_rfl)
def a61 : List AV := [(.int .i64 (.ofNat 2)), (.int .i64 (.ofNat 18))]
def v61 : AV := (.tup [(.vec [(.vec [(.vec [(.int .i64 (.ofNat 1)), (.int .i64 (.ofNat 0))] 2 (some 2)), (.vec [(.int .i64 (.ofNat 0)), (.int .i64 (.ofNat 18))] 2 (some 2))] 2 (some 2)), (.vec [(.vec [(.int .i64 (.ofNat 2)), (.int .i64 (.ofNat 0))] 2 (some 2)), (.vec [(.int .i64 (.ofNat 0)), (.int .i64 (.ofNat 9))] 2 (some 2))] 2 (some 2)), (.vec [(.vec [(.int .i64 (.ofNat 3)), (.int .i64 (.ofNat 0))] 2 (some 2)), (.vec [(.int .i64 (.ofNat 0)), (.int .i64 (.ofNat 6))] 2 (some 2))] 2 (some 2))] 3 none), (.int .i64 (.ofNat 0))])
theorem m61 : Ret Tryz.prog G 8 a61 [] v61 [] := run_ok (n := 1000) (by kernel_rfl)
def a73 : List AV := [(.vec [(.vec [(.int .i64 (.ofNat 4)), (.int .i64 (.ofNat 0))] 2 (some 2)), (.vec [(.int .i64 (.ofNat 0)), (.int .i64 (.ofNat 5))] 2 (some 2))] 2 (some 2)), (.int .i64 (.ofNat 200000))]
def v73 : AV := (.tup [(.agg [(.bool false), (.vec [(.int .u32 (.ofNat 4))] 1 (some 2))]), (.int .i64 (.ofNat 0))])
theorem m73 : Ret Tryz.prog G 13 a73 [] v73 [] := run_ok (n := 1000) (by kernel_rfl)
def a84 : List AV := [(.vec [(.vec [(.int .i64 (.ofNat 1)), (.int .i64 (.ofNat 0))] 2 (some 2)), (.vec [(.int .i64 (.ofNat 0)), (.int .i64 (.ofNat 23))] 2 (some 2))] 2 (some 2)), (.int .i64 (.ofNat 200000))]
def v84 : AV := (.tup [(.agg [(.bool false), (.vec [(.int .u32 (.ofNat 4))] 1 (some 2))]), (.int .i64 (.ofNat 0))])
theorem m84 : Ret Tryz.prog G 13 a84 [] v84 [] := run_ok (n := 1000) (by kernel_rfl)
def a85 : List AV := [(.vec [(.vec [(.int .i64 (.ofNat 2)), (.int .i64 (.ofNat 1))] 2 (some 2)), (.vec [(.int .i64 (.ofNat 1)), (.int .i64 (.ofNat 12))] 2 (some 2))] 2 (some 2)), (.int .i64 (.ofNat 200000))]
def v85 : AV := (.tup [(.agg [(.bool false), (.vec [(.int .u32 (.ofNat 4))] 1 (some 2))]), (.int .i64 (.ofNat 0))])
theorem m85 : Ret Tryz.prog G 13 a85 [] v85 [] := run_ok (n := 1000) (by kernel_rfl)
def a88 : List AV := [(.int .i64 (.ofNat 2)), (.int .i64 (.ofNat 24))]
def v88 : AV := (.tup [(.vec [(.vec [(.vec [(.int .i64 (.ofNat 1)), (.int .i64 (.ofNat 0))] 2 (some 2)), (.vec [(.int .i64 (.ofNat 0)), (.int .i64 (.ofNat 24))] 2 (some 2))] 2 (some 2)), (.vec [(.vec [(.int .i64 (.ofNat 2)), (.int .i64 (.ofNat 0))] 2 (some 2)), (.vec [(.int .i64 (.ofNat 0)), (.int .i64 (.ofNat 12))] 2 (some 2))] 2 (some 2)), (.vec [(.vec [(.int .i64 (.ofNat 3)), (.int .i64 (.ofNat 0))] 2 (some 2)), (.vec [(.int .i64 (.ofNat 0)), (.int .i64 (.ofNat 8))] 2 (some 2))] 2 (some 2)), (.vec [(.vec [(.int .i64 (.ofNat 4)), (.int .i64 (.ofNat 0))] 2 (some 2)), (.vec [(.int .i64 (.ofNat 0)), (.int .i64 (.ofNat 6))] 2 (some 2))] 2 (some 2)), (.vec [(.vec [(.int .i64 (.ofNat 4)), (.int .i64 (.ofNat 2))] 2 (some 2)), (.vec [(.int .i64 (.ofNat 2)), (.int .i64 (.ofNat 7))] 2 (some 2))] 2 (some 2)), (.vec [(.vec [(.int .i64 (.ofNat 5)), (.int .i64 (.ofNat 1))] 2 (some 2)), (.vec [(.int .i64 (.ofNat 1)), (.int .i64 (.ofNat 5))] 2 (some 2))] 2 (some 2))] 6 none), (.int .i64 (.ofNat 0))])
theorem m88 : Ret Tryz.prog G 8 a88 [] v88 [] := run_ok (n := 1000) (by kernel_rfl)
def a173 : List AV := [(.vec [(.vec [(.int .i64 (.ofNat 4)), (.int .i64 (.ofNat 1))] 2 (some 2)), (.vec [(.int .i64 (.ofNat 1)), (.int .i64 (.ofNat 10))] 2 (some 2))] 2 (some 2)), (.int .i64 (.ofNat 200000))]
def v173 : AV := (.tup [(.agg [(.bool false), (.vec [(.int .u32 (.ofNat 2))] 1 (some 2))]), (.int .i64 (.ofNat 0))])
theorem m173 : Ret Tryz.prog G 13 a173 [] v173 [] := run_ok (n := 1000) (by kernel_rfl)
def a178 : List AV := [(.vec [(.vec [(.int .i64 (.ofNat 2)), (.int .i64 (.ofNat 0))] 2 (some 2)), (.vec [(.int .i64 (.ofNat 0)), (.int .i64 (.ofNat 20))] 2 (some 2))] 2 (some 2)), (.int .i64 (.ofNat 200000))]
def v178 : AV := (.tup [(.agg [(.bool false), (.vec [(.int .u32 (.ofNat 4))] 1 (some 2))]), (.int .i64 (.ofNat 0))])
theorem m178 : Ret Tryz.prog G 13 a178 [] v178 [] := run_ok (n := 1000) (by kernel_rfl)
def a180 : List AV := [(.vec [(.vec [(.int .i64 (.ofNat 4)), (.int .i64 (.ofNat 2))] 2 (some 2)), (.vec [(.int .i64 (.ofNat 2)), (.int .i64 (.ofNat 11))] 2 (some 2))] 2 (some 2)), (.int .i64 (.ofNat 200000))]
def v180 : AV := (.tup [(.agg [(.bool false), (.vec [(.int .u32 (.ofNat 4))] 1 (some 2))]), (.int .i64 (.ofNat 0))])
theorem m180 : Ret Tryz.prog G 13 a180 [] v180 [] := run_ok (n := 1000) (by kernel_rfl)
def a183 : List AV := [(.int .i64 (.ofNat 2)), (.int .i64 (.ofNat 41))]
def v183 : AV := (.tup [(.vec [(.vec [(.vec [(.int .i64 (.ofNat 1)), (.int .i64 (.ofNat 0))] 2 (some 2)), (.vec [(.int .i64 (.ofNat 0)), (.int .i64 (.ofNat 41))] 2 (some 2))] 2 (some 2)), (.vec [(.vec [(.int .i64 (.ofNat 2)), (.int .i64 (.ofNat 1))] 2 (some 2)), (.vec [(.int .i64 (.ofNat 1)), (.int .i64 (.ofNat 21))] 2 (some 2))] 2 (some 2)), (.vec [(.vec [(.int .i64 (.ofNat 3)), (.int .i64 (.ofNat 1))] 2 (some 2)), (.vec [(.int .i64 (.ofNat 1)), (.int .i64 (.ofNat 14))] 2 (some 2))] 2 (some 2)), (.vec [(.vec [(.int .i64 (.ofNat 5)), (.int .i64 (.ofNat 2))] 2 (some 2)), (.vec [(.int .i64 (.ofNat 2)), (.int .i64 (.ofNat 9))] 2 (some 2))] 2 (some 2)), (.vec [(.vec [(.int .i64 (.ofNat 6)), (.int .i64 (.ofNat 1))] 2 (some 2)), (.vec [(.int .i64 (.ofNat 1)), (.int .i64 (.ofNat 7))] 2 (some 2))] 2 (some 2))] 5 none), (.int .i64 (.ofNat 0))])
theorem m183 : Ret Tryz.prog G 8 a183 [] v183 [] := run_ok (n := 1000) (by kernel_rfl)
def a190 : List AV := [(.vec [(.vec [(.int .i64 (.ofNat 1)), (.int .i64 (.ofNat 0))] 2 (some 2)), (.vec [(.int .i64 (.ofNat 0)), (.int .i64 (.ofNat 42))] 2 (some 2))] 2 (some 2)), (.int .i64 (.ofNat 200000))]
def v190 : AV := (.tup [(.agg [(.bool false), (.vec [(.int .u32 (.ofNat 4))] 1 (some 2))]), (.int .i64 (.ofNat 0))])
theorem m190 : Ret Tryz.prog G 13 a190 [] v190 [] := run_ok (n := 1000) (by kernel_rfl)
def a210 : List AV := [(.vec [(.vec [(.int .i64 (.ofNat 5)), (.int .i64 (.ofNat 0))] 2 (some 2)), (.vec [(.int .i64 (.ofNat 0)), (.int .i64 (.ofNat 9))] 2 (some 2))] 2 (some 2)), (.int .i64 (.ofNat 200000))]
def v210 : AV := (.tup [(.agg [(.bool false), (.vec [(.int .u32 (.ofNat 4))] 1 (some 2))]), (.int .i64 (.ofNat 0))])
theorem m210 : Ret Tryz.prog G 13 a210 [] v210 [] := run_ok (n := 1000) (by kernel_rfl)
def a235 : List AV := [(.vec [(.vec [(.int .i64 (.ofNat 2)), (.int .i64 (.ofNat 1))] 2 (some 2)), (.vec [(.int .i64 (.ofNat 1)), (.int .i64 (.ofNat 25))] 2 (some 2))] 2 (some 2)), (.int .i64 (.ofNat 200000))]
def v235 : AV := (.tup [(.agg [(.bool false), (.vec [(.int .u32 (.ofNat 4))] 1 (some 2))]), (.int .i64 (.ofNat 0))])
theorem m235 : Ret Tryz.prog G 13 a235 [] v235 [] := run_ok (n := 1000) (by kernel_rfl)
def a241 : List AV := [(.vec [(.vec [(.int .i64 (.ofNat 3)), (.int .i64 (.ofNat 1))] 2 (some 2)), (.vec [(.int .i64 (.ofNat 1)), (.int .i64 (.ofNat 17))] 2 (some 2))] 2 (some 2)), (.int .i64 (.ofNat 200000))]
def v241 : AV := (.tup [(.agg [(.bool false), (.vec [(.int .u32 (.ofNat 2))] 1 (some 2))]), (.int .i64 (.ofNat 0))])
theorem m241 : Ret Tryz.prog G 13 a241 [] v241 [] := run_ok (n := 1000) (by kernel_rfl)
def a270 : List AV := [(.vec [(.vec [(.int .i64 (.ofNat 1)), (.int .i64 (.ofNat 0))] 2 (some 2)), (.vec [(.int .i64 (.ofNat 0)), (.int .i64 (.ofNat 55))] 2 (some 2))] 2 (some 2)), (.int .i64 (.ofNat 200000))]
def v270 : AV := (.tup [(.agg [(.bool false), (.vec [(.int .u32 (.ofNat 4))] 1 (some 2))]), (.int .i64 (.ofNat 0))])
theorem m270 : Ret Tryz.prog G 13 a270 [] v270 [] := run_ok (n := 1000) (by kernel_rfl)
def a282 : List AV := [(.vec [(.vec [(.int .i64 (.ofNat 5)), (.int .i64 (.ofNat 2))] 2 (some 2)), (.vec [(.int .i64 (.ofNat 2)), (.int .i64 (.ofNat 12))] 2 (some 2))] 2 (some 2)), (.int .i64 (.ofNat 200000))]
def v282 : AV := (.tup [(.agg [(.bool false), (.vec [(.int .u32 (.ofNat 2))] 1 (some 2))]), (.int .i64 (.ofNat 0))])
theorem m282 : Ret Tryz.prog G 13 a282 [] v282 [] := run_ok (n := 1000) (by kernel_rfl)
def a305 : List AV := [(.vec [(.vec [(.int .i64 (.ofNat 3)), (.int .i64 (.ofNat 0))] 2 (some 2)), (.vec [(.int .i64 (.ofNat 0)), (.int .i64 (.ofNat 20))] 2 (some 2))] 2 (some 2)), (.int .i64 (.ofNat 200000))]
def v305 : AV := (.tup [(.agg [(.bool false), (.vec [(.int .u32 (.ofNat 4))] 1 (some 2))]), (.int .i64 (.ofNat 0))])
theorem m305 : Ret Tryz.prog G 13 a305 [] v305 [] := run_ok (n := 1000) (by kernel_rfl)
end Go.Proofs.YthkpeakeoepocaaGreatDoor.OO
