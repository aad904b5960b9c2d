/- A part of the proof. -/
import Derived.Test.YtbjdfanphdfkdaaGreatDoorPM
set_option linter.all false
set_option maxRecDepth 1000000
namespace Go.Proofs.YtbjdfanphdfkdaaGreatDoor
open Go Go.AL Go.Proofs
set_option maxHeartbeats 4000000
def xwh:List Nat:=[4887699,4891541,4891780,4891812,4892020]
def jny:=zad 32 jaa qzw xwh
def xwi:List Nat:=[5665955,5674083,5928035,5936291]
def jnz:=zad 32 jaa qzw xwi
def xwj:List Nat:=[2589813,2589845,2651014,2659206,2720885,2720917,3638403]
def joa:=zad 33 jbs jar xwj
def xwk:List Nat:=[3699588,3703668,3703700,3703923,3703955,3707780]
def job:=zad 33 jbs jar xwk
def kcg:List Nat:=[3769475,4686723,4748163,4756355,4817795]
def joc:=zad 33 jbs jar kcg
def kck:List Nat:=[2585718,2585766,2590068,2590100,2593894,2593942,2651253]
def jod:=zad 34 jbv jaw kck
def kcl:List Nat:=[2651285,2655094,2655126,2659445,2659477,2716774,2716822,2721140]
def joe:=zad 34 jbv jaw kcl
def kcm:List Nat:=[2721172,2724982,2725030]
def jof:=zad 34 jbv jaw kcm
def kcn:List Nat:=[1607047,1607286,1607318,2589829,2720901,3634292,3634532,3642516]
def jog:=zad 35 jbu jau kcn
def kco:List Nat:=[3642788,3765396,3765668,3773556,3773796,4682612,4690836]
def joh:=zad 35 jbu jau kco
def kcp:List Nat:=[4813716,4821876,5665907,5674131,5928083,5936243]
def joi:=zad 35 jbu jau kcp
def kcq:List Nat:=[1606793,1607302,2585973,2586021]
def joj:=zad 36 jab qzx kcq
def kcr:List Nat:=[2590084,2594149,2594197,2651238]
def jok:=zad 36 jab qzx kcr
def kcs:List Nat:=[2651269,2651302,2654857,2655110,2659430]
def jol:=zad 36 jab qzx kcs
def kct:List Nat:=[2659461,2659494,2717029,2717077]
def jom:=zad 36 jab qzx kct
def kcu:List Nat:=[2721156,2725237,2725285]
def jon:=zad 36 jab qzx kcu
def kcv:List Nat:=[3634069,3642229,3703684,3703908]
def joo:=zad 36 jab qzx kcv
