/- A part of the proof. -/
import Derived.Test.YtbjdfanphdfkdaaGreatDoorPH
set_option linter.all false
set_option maxRecDepth 1000000
namespace Go.Proofs.YtbjdfanphdfkdaaGreatDoor
open Go Go.AL Go.Proofs
def jtk:=zad knw
def jtl:=zad knx
def jtm:=zad kny
def jtn:=zad knz
def jto:=zad koa
def jtp:=zad kob
def jtq:=zad koc
def jtr:=zad kod
def jts:=zad koe
def jtt:=zad kof
def jtu:=zad kog
def jtv:=zad koh
def jtw:=zad koi
def jtx:=zad koj
def jty:=zad kok
def jtz:=zad kol
def jua:=zad kom
def jub:=zad kon
def juc:=zad koo
def jud:=zad kop
