/- A part of the proof. -/
import Derived.Test.YtbjdfanphdfkdaaGreatDoorPH
set_option linter.all false
set_option maxRecDepth 1000000
namespace Go.Proofs.YtbjdfanphdfkdaaGreatDoor
open Go Go.AL Go.Proofs
def jue:=zad koq
def juf:=zad kor
def jug:=zad kos
def juh:=zad kot
def jui:=zad kou
def juj:=zad kov
def juk:=zad kow
def jul:=zad kox
def jum:=zad koy
def jun:=zad koz
def juo:=zad kpa
def jup:=zad kpb
def juq:=zad kpc
def jur:=zad kpd
def jus:=zad kpe
