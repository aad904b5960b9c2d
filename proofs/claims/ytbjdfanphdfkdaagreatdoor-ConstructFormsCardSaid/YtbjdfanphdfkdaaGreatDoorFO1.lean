/- A part of the proof. -/
import Derived.Test.YtbjdfanphdfkdaaGreatDoorPH
set_option linter.all false
set_option maxRecDepth 1000000
namespace Go.Proofs.YtbjdfanphdfkdaaGreatDoor
open Go Go.AL Go.Proofs
def xtg:=zad lv17
def xth:=zad lv18
def xti:=zad lv19
def xtj:=zad lv20
def xtk:=zad lv21
def xtl:=zad lv22
def xtm:=zad lv23
def xtn:=zad lv24
def xto:=zad lv25
def xtp:=zad lv26
def xtq:=zad lv27
def xtr:=zad lv28
def xts:=zad lv29
def xtt:=zad lv30
def xtu:=zad lv31
def xtv:=zad lv32
def xtw:=zad lv33
def xtx:=zad lv34
def xty:=zad lv35
def xtz:=zad lv36
