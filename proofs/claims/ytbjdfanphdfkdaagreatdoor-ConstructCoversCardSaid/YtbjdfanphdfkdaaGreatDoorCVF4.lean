/- A part of the proof. -/
import Derived.Test.YtbjdfanphdfkdaaGreatDoorPM
set_option linter.all false
set_option maxRecDepth 1000000
namespace Go.Proofs.YtbjdfanphdfkdaaGreatDoor
open Go Go.AL Go.Proofs
set_option maxHeartbeats 4000000
def xvq:List Nat:=[2650998,2651030,2659190,2659222,2716789,2716805,2717044,2717060]
def jnh:=zad 31 jbx jay xvq
def xvr:List Nat:=[2724997,2725013,2725252,2725268]
def jni:=zad 31 jbx jay xvr
def xvs:List Nat:=[1606792,1607270,1607334,2654856,2655333]
def jnj:=zad 32 jaa qzw xvs
def xvt:List Nat:=[2655364,2655397,2655588,2655652]
def jnk:=zad 32 jaa qzw xvt
def xvu:List Nat:=[3634037,3634340,3638148,3642261]
def jnl:=zad 32 jaa qzw xvu
def xvv:List Nat:=[3642468,3699812,3699876,3708004,3708068]
def jnm:=zad 32 jaa qzw xvv
def xvw:List Nat:=[3765141,3765348,3769220,3773301]
def jnn:=zad 32 jaa qzw xvw
def xvx:List Nat:=[3773604,4613013,4613252,4613284,4613492]
def jno:=zad 32 jaa qzw xvx
def xvy:List Nat:=[4617347,4617363,4621188,4621427,4621459]
def jnp:=zad 32 jaa qzw xvy
def xvz:List Nat:=[4621667,4621731,4625523,4625539,4629365]
def jnq:=zad 32 jaa qzw xvz
def xwa:List Nat:=[4629604,4629636,4629908,4678532,4678548]
def jnr:=zad 32 jaa qzw xwa
def xwb:List Nat:=[4694900,4694916,4744052,4744084,4744292]
def jns:=zad 32 jaa qzw xwb
def xwc:List Nat:=[4744356,4752243,4752275,4752483,4752547]
def jnt:=zad 32 jaa qzw xwc
def xwd:List Nat:=[4760436,4760468,4760676,4760740,4809588]
def jnu:=zad 32 jaa qzw xwd
def xwe:List Nat:=[4809604,4825988,4826004,4875125,4875364]
def jnv:=zad 32 jaa qzw xwe
def xwf:List Nat:=[4875396,4875668,4879475,4879491,4883332]
def jnw:=zad 32 jaa qzw xwf
def xwg:List Nat:=[4883571,4883603,4883811,4883875,4887683]
def jnx:=zad 32 jaa qzw xwg
