/- A part of the proof. -/
import Derived.Test.YtbjdfanphdfkdaaGreatDoorCVN
set_option linter.all false
set_option maxRecDepth 1000000
namespace Go.Proofs.YtbjdfanphdfkdaaGreatDoor
open Go Go.AL Go.Proofs
set_option maxHeartbeats 4000000
def xti:=qbn lv19
def xtj:=qbn lv20
def xtk:=qbn lv21
def xtl:=qbn lv22
def xtm:=qbn lv23
def xtn:=qbn lv24
def xto:=qbn lv25
def xtp:=qbn lv26
def xtq:=qbn lv27
def xtr:=qbn lv28
def xts:=qbn lv29
def xtt:=qbn lv30
def xtu:=qbn lv31
def xtv:=qbn lv32
def xtw:=qbn lv33
def xtx:=qbn lv34
def xty:=qbn lv35
def xtz:=qbn lv36
def xua:=qbn lv37
def xub:=qbn lv38
