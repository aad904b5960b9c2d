/- A part of the proof. -/
import Derived.Test.YtbjdfanphdfkdaaGreatDoorPM
set_option linter.all false
set_option maxRecDepth 1000000
namespace Go.Proofs.YtbjdfanphdfkdaaGreatDoor
open Go Go.AL Go.Proofs
set_option maxHeartbeats 4000000
def kel:List Nat:=[3765364,3773588,4682644,4690804,4813684,4821908]
def xsr:=zad 39 jce jbm kel
def kem:List Nat:=[1607048,2585989,2586005,2589814]
def xss:=zad 40 jae qzy kem
def ken:List Nat:=[2589846,2594165,2594181,2655334]
def kdg:=zad 40 jae qzy ken
def keo:List Nat:=[2655365,2655398,2655620,2717045]
def kdh:=zad 40 jae qzy keo
def kep:List Nat:=[2717061,2720886,2720918,2725253]
def kdi:=zad 40 jae qzy kep
def keq:List Nat:=[2725269,3634038,3634308]
def kdj:=zad 40 jae qzy keq
def ker:List Nat:=[3638149,3642262,3642500]
def kdk:=zad 40 jae qzy ker
def kes:List Nat:=[3765142,3765380,3769221]
def kdl:=zad 40 jae qzy kes
def ket:List Nat:=[3773302,3773572,4613014]
def kdm:=zad 40 jae qzy ket
def keu:List Nat:=[4621189,4629366,4686708]
def kdn:=zad 40 jae qzy keu
def kev:List Nat:=[4686740,4817780,4817812]
def kdo:=zad 40 jae qzy kev
def kew:List Nat:=[4875126,4883333,4891542]
def kdp:=zad 40 jae qzy kew
def kex:List Nat:=[5801059,5801123]
def kdq:=zad 40 jae qzy kex
