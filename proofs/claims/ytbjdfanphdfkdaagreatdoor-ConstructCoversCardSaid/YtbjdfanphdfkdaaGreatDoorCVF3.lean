/- A part of the proof. -/
import Derived.Test.YtbjdfanphdfkdaaGreatDoorPM
set_option linter.all false
set_option maxRecDepth 1000000
namespace Go.Proofs.YtbjdfanphdfkdaaGreatDoor
open Go Go.AL Go.Proofs
set_option maxHeartbeats 4000000
def gl99:List Nat:=[2593654,2593670,2593893,2593941,2594148,2594196,2651013]
def xkc:=zad 27 jaz jag gl99
def xva:List Nat:=[2659205,2716534,2716550,2716773,2716821,2717028,2717076]
def jmr:=zad 27 jaz jag xva
def xvb:List Nat:=[2724742,2724758,2724981,2725029,2725236,2725284,3703683]
def jms:=zad 27 jaz jag xvb
def xvc:List Nat:=[1606791,2589558,2589590,2589828,2590052,2590116]
def jmt:=zad 28 jan jac xvc
def xvd:List Nat:=[2651237,2651268,2651301,2654855,2655093,2655125]
def jmu:=zad 28 jan jac xvd
def xve:List Nat:=[2659429,2659460,2659493,2720630,2720662,2720900]
def jmv:=zad 28 jan jac xve
def xvf:List Nat:=[2721124,2721188,3634068,3642228,3765108,3773332]
def jmw:=zad 28 jan jac xvf
def xvg:List Nat:=[4612997,4613029,4621172,4621204,4629349,4629381]
def jmx:=zad 28 jan jac xvg
def xvh:List Nat:=[4682643,4690803,4813683,4821907,4875109,4875141]
def jmy:=zad 28 jan jac xvh
def xvi:List Nat:=[4883316,4883348,4891525,4891557]
def jmz:=zad 28 jan jac xvi
def xvj:List Nat:=[1607030,1607062,1607285,1607317,3634052,3638132,3638164,3642244,3765124,3769204,3769236,3773316,4617092,4617108]
def jna:=zad 29 jci jbo xvj
def xvk:List Nat:=[4625268,4625284,4686707,4686739,4748147,4748179,4756339,4756371,4817779,4817811,4879220,4879236,4887428,4887444]
def jnb:=zad 29 jci jbo xvk
def xvl:List Nat:=[1607046,1607301,2589574,2655109,2655348,2655380,2720646]
def jnc:=zad 30 jbt jat xvl
def xvm:List Nat:=[3638387,3638419,3699572,3699604,3707764]
def jnd:=zad 30 jbt jat xvm
def xvn:List Nat:=[3707796,3769459,3769491,4682627,4690819]
def jne:=zad 30 jbt jat xvn
def xvo:List Nat:=[4813699,4821891]
def jnf:=zad 30 jbt jat xvo
def xvp:List Nat:=[2585733,2585749,2585988,2586004,2593909,2593925,2594164,2594180]
def jng:=zad 31 jbx jay xvp
