/- A part of the proof. -/
import Derived.Test.YtbjdfanphdfkdaaGreatDoorPH
set_option linter.all false
set_option maxRecDepth 1000000
namespace Go.Proofs.YtbjdfanphdfkdaaGreatDoor
open Go Go.AL Go.Proofs
def jne:=zad khq
def jnf:=zad khr
def jng:=zad khs
def jnh:=zad kht
def jni:=zad khu
def jnj:=zad khv
def jnk:=zad khw
def jnl:=zad khx
def jnm:=zad khy
def jnn:=zad khz
def jno:=zad kia
def jnp:=zad kib
def jnq:=zad kic
def jnr:=zad kid
def jns:=zad kie
def jnt:=zad kif
def jnu:=zad kig
def jnv:=zad kih
def jnw:=zad kii
def jnx:=zad kij
