/- A part of the proof. -/
import Derived.Test.YtbjdfanphdfkdaaGreatDoorPH
set_option linter.all false
set_option maxRecDepth 1000000
namespace Go.Proofs.YtbjdfanphdfkdaaGreatDoor
open Go Go.AL Go.Proofs
def jra:=zad klm
def jrb:=zad kln
def jrc:=zad klo
def jrd:=zad klp
def jre:=zad klq
def jrf:=zad klr
def jrg:=zad kls
def jrh:=zad klt
def jri:=zad klu
def jrj:=zad klv
def jrk:=zad klw
def jrl:=zad klx
def jrm:=zad kly
def jrn:=zad klz
def jro:=zad kma
def jrp:=zad kmb
def jrq:=zad kmc
def jrr:=zad kmd
def jrs:=zad kme
def jrt:=zad kmf
def jru:=zad kmg
