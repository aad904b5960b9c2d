/- A part of the proof. -/
import Derived.Test.YtbjdfanphdfkdaaGreatDoorPH
set_option linter.all false
set_option maxRecDepth 1000000
namespace Go.Proofs.YtbjdfanphdfkdaaGreatDoor
open Go Go.AL Go.Proofs
def jpm:=zad kjy
def jpn:=zad kjz
def jpo:=zad kka
def jpp:=zad kkb
def jpq:=zad kkc
def jpr:=zad kkd
def jps:=zad kke
def jpt:=zad kkf
def jpu:=zad kkg
def jpv:=zad kkh
def jpw:=zad kki
def jpx:=zad kkj
def jpy:=zad kkk
def jpz:=zad kkl
def jqa:=zad kkm
def jqb:=zad kkn
def jqc:=zad kko
def jqd:=zad kkp
def jqe:=zad kkq
def jqf:=zad kkr
