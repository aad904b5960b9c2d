/- A part of the proof. -/
import Derived.Test.YtbjdfanphdfkdaaGreatDoorPH
set_option linter.all false
set_option maxRecDepth 1000000
namespace Go.Proofs.YtbjdfanphdfkdaaGreatDoor
open Go Go.AL Go.Proofs
def jos:=zad kje
def jot:=zad kjf
def jou:=zad kjg
def jov:=zad kjh
def jow:=zad kji
def jox:=zad kjj
def joy:=zad kjk
def joz:=zad kjl
def jpa:=zad kjm
def jpb:=zad kjn
def jpc:=zad kjo
def jpd:=zad kjp
def jpe:=zad kjq
def jpf:=zad kjr
def jpg:=zad kjs
def jph:=zad kjt
def jpi:=zad kju
def jpj:=zad kjv
def jpk:=zad kjw
def jpl:=zad kjx
