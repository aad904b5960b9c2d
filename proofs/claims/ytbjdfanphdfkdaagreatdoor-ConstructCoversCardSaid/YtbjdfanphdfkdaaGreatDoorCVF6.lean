/- A part of the proof. -/
import Derived.Test.YtbjdfanphdfkdaaGreatDoorPM
set_option linter.all false
set_option maxRecDepth 1000000
namespace Go.Proofs.YtbjdfanphdfkdaaGreatDoor
open Go Go.AL Go.Proofs
set_option maxHeartbeats 4000000
def kcw:List Nat:=[3703939,3703972,3765109,3773333]
def jop:=zad 36 jab qzx kcw
def kcx:List Nat:=[4612998,4613030,4613268,4617332]
def joq:=zad 36 jab qzx kcx
def kcy:List Nat:=[4617380,4621173,4621205,4621443]
def jor:=zad 36 jab qzx kcy
def kcz:List Nat:=[4625508,4625556,4629350,4629382]
def jos:=zad 36 jab qzx kcz
def kdd:List Nat:=[4629620,4678772,4678820,4695140,4695188]
def jot:=zad 36 jab qzx kdd
def kde:List Nat:=[4744068,4752259,4760452,4809828]
def jou:=zad 36 jab qzx kde
def kdf:List Nat:=[4809876,4826228,4826276,4875110]
def jov:=zad 36 jab qzx kdf
def keb:List Nat:=[4875142,4875380,4879460,4879508]
def znn:=zad 36 jab qzx keb
def kec:List Nat:=[4883317,4883349,4883587,4887668]
def zst:=zad 36 jab qzx kec
def ked:List Nat:=[4887716,4891526,4891558,4891796]
def qqp:=zad 36 jab qzx ked
def kee:List Nat:=[2586213,2590053,2590117,2594469,2651493,2651557,2659685,2659749]
def qsl:=zad 37 jbp jai kee
def kef:List Nat:=[2717349,2721125,2721189,2725477,3634053,3638133,3638165,3642245]
def qza:=zad 37 jbp jai kef
def keg:List Nat:=[3765125,3769205,3769237,3773317,4617093,4617109,4625269,4625285]
def jlg:=zad 37 jbp jai keg
def keh:List Nat:=[4879221,4879237,4887429,4887445]
def jlh:=zad 37 jbp jai keh
def kei:List Nat:=[2585734,2585750,2593910,2593926,2655349,2655381,2655604]
def jli:=zad 38 jca jbc kei
def kej:List Nat:=[2655636,2716790,2716806,2724998,2725014]
def juv:=zad 38 jca jbc kej
def kek:List Nat:=[3634324,3642484,3699573,3699605,3707765,3707797]
def xsq:=zad 39 jce jbm kek
