/- A part of the proof. -/
import Derived.Test.YtbjdfanphdfkdaaGreatDoorPM
set_option linter.all false
set_option maxRecDepth 1000000
namespace Go.Proofs.YtbjdfanphdfkdaaGreatDoor
open Go Go.AL Go.Proofs
set_option maxHeartbeats 4000000
def gl80:List Nat:=[3699571,3699603,3707763,3707795,3765123,3769203,3769235,3773315,4617091]
def xjh:=zad 21 jbq jao gl80
def gl81:List Nat:=[4617107,4625267,4625283,4879219,4879235,4887427,4887443]
def xji:=zad 21 jbq jao gl81
def gl82:List Nat:=[2585477,2585493,2593653,2593669,2650758,2654838,2654870,2655092,2655124]
def xjj:=zad 22 jbw jax gl82
def gl83:List Nat:=[2655347,2655379,2658950,2716533,2716549,2724741,2724757]
def xjk:=zad 22 jbw jax gl83
def gl84:List Nat:=[1606774,1606806,2589557,2589589,2720629,2720661]
def xjl:=zad 23 jpc jcn gl84
def gl85:List Nat:=[1606536,1606790,1607029,1607061,2585732]
def xjm:=zad 24 jaf qzz gl85
def gl86:List Nat:=[2585748,2593908,2593924,2654854,2655108]
def xjn:=zad 24 jaf qzz gl86
def gl87:List Nat:=[2655332,2655363,2655396,2716788,2716804]
def xjo:=zad 24 jaf qzz gl87
def gl88:List Nat:=[2724996,2725012,3634036,3638147,3642260]
def xjp:=zad 24 jaf qzz gl88
def gl89:List Nat:=[3699587,3703667,3703699,3703907,3703971,3707779]
def xjq:=zad 24 jaf qzz gl89
def gl90:List Nat:=[3765140,3769219,3773300,4613012,4617331]
def xjr:=zad 24 jaf qzz gl90
def gl91:List Nat:=[4617379,4621187,4625507,4625555,4629364]
def xjs:=zad 24 jaf qzz gl91
def gl92:List Nat:=[4682611,4690835,4813715,4821875,4875124]
def xju:=zad 24 jaf qzz gl92
def gl93:List Nat:=[4879459,4879507,4883331,4887667,4887715]
def xjv:=zad 24 jaf qzz gl93
def gl94:List Nat:=[4891540]
def xjx:=zad 24 jaf qzz gl94
def gl95:List Nat:=[1607045,2589573,2650997,2651029,2659189,2659221,2720645]
def xjy:=zad 25 jow jby gl95
def gl96:List Nat:=[1607014,1607078,1607269,1607333,2589812,2589844,2651252,2651284,2659444,2659476,2720884]
def xjz:=zad 26 jox jcc gl96
def gl97:List Nat:=[2720916]
def xka:=zad 26 jox jcc gl97
def gl98:List Nat:=[1606537,2585478,2585494,2585717,2585765,2585972,2586020]
def xkb:=zad 27 jaz jag gl98
