/- A part of the proof. -/
import Derived.Test.YtbjdfanphdfkdaaGreatDoorPH
set_option linter.all false
set_option maxRecDepth 1000000
namespace Go.Proofs.YtbjdfanphdfkdaaGreatDoor
open Go Go.AL Go.Proofs
def jsp:=zad knb
def jsq:=zad knc
def jsr:=zad knd
def jss:=zad kne
def jst:=zad knf
def jsu:=zad kng
def jsv:=zad knh
def jsw:=zad kni
def jsx:=zad knj
def jsy:=zad knk
def jsz:=zad knl
def jta:=zad knm
def jtb:=zad knn
def jtc:=zad kno
def jtd:=zad knp
def jte:=zad knq
def jtf:=zad knr
def jtg:=zad kns
def jth:=zad knt
def jti:=zad knu
def jtj:=zad knv
