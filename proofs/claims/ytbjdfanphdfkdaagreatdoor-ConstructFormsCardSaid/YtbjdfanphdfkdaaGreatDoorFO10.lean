/- A part of the proof. -/
import Derived.Test.YtbjdfanphdfkdaaGreatDoorPH
set_option linter.all false
set_option maxRecDepth 1000000
namespace Go.Proofs.YtbjdfanphdfkdaaGreatDoor
open Go Go.AL Go.Proofs
def jqg:=zad kks
def jqh:=zad kkt
def jqi:=zad kku
def jqj:=zad kkv
def jqk:=zad kkw
def jql:=zad kkx
def jqm:=zad kky
def jqn:=zad kkz
def jqo:=zad kla
def jqp:=zad klb
def jqq:=zad klc
def jqr:=zad kld
def jqs:=zad kle
def jqt:=zad klf
def jqu:=zad klg
def jqv:=zad klh
def jqw:=zad kli
def jqx:=zad klj
def jqy:=zad klk
def jqz:=zad kll
