/- A part of the proof. -/
import Derived.Test.YtbjdfanphdfkdaaGreatDoorPH
set_option linter.all false
set_option maxRecDepth 1000000
namespace Go.Proofs.YtbjdfanphdfkdaaGreatDoor
open Go Go.AL Go.Proofs
def jrv:=zad kmh
def jrw:=zad kmi
def jrx:=zad kmj
def jry:=zad kmk
def jrz:=zad kml
def jsa:=zad kmm
def jsb:=zad kmn
def jsc:=zad kmo
def jsd:=zad kmp
def jse:=zad kmq
def jsf:=zad kmr
def jsg:=zad kms
def jsh:=zad kmt
def jsi:=zad kmu
def jsj:=zad kmv
def jsk:=zad kmw
def jsl:=zad kmx
def jsm:=zad kmy
def jsn:=zad kmz
def jso:=zad kna
