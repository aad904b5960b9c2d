/- A part of the proof. -/
import Derived.Test.YtbjdfanphdfkdaaGreatDoorPH
set_option linter.all false
set_option maxRecDepth 1000000
namespace Go.Proofs.YtbjdfanphdfkdaaGreatDoor
open Go Go.AL Go.Proofs
def jny:=zad kik
def jnz:=zad kil
def joa:=zad kim
def job:=zad kin
def joc:=zad kio
def jod:=zad kip
def joe:=zad kiq
def jof:=zad kir
def jog:=zad kis
def joh:=zad kit
def joi:=zad kiu
def joj:=zad kiv
def jok:=zad kiw
def jol:=zad kix
def jom:=zad kiy
def jon:=zad kiz
def joo:=zad kja
def jop:=zad kjb
def joq:=zad kjc
def jor:=zad kjd
