/- A part of the proof. -/
import Derived.Test.YtbjdfanphdfkdaaGreatDoorPH
set_option linter.all false
set_option maxRecDepth 1000000
namespace Go.Proofs.YtbjdfanphdfkdaaGreatDoor
open Go Go.AL Go.Proofs
def xua:=zad lv37
def xub:=zad lv38
def xuc:=zad lv39
def xud:=zad lv40
def xue:=zad lv41
def xuf:=zad lv42
def xug:=zad lv43
def xuh:=zad lv44
def xui:=zad lv45
def xuj:=zad lv46
def xuk:=zad lv47
def xul:=zad lv48
def xum:=zad lv49
def xun:=zad lv50
def xuo:=zad lv51
def xup:=zad lv52
def xuq:=zad lv53
def xur:=zad lv54
def xus:=zad lv55
def xut:=zad lv56
