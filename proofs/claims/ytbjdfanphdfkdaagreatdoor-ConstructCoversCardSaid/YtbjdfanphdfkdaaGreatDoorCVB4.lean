/- A part of the proof. -/
import Derived.Test.YtbjdfanphdfkdaaGreatDoorPH
set_option linter.all false
set_option maxRecDepth 1000000
namespace Go.Proofs.YtbjdfanphdfkdaaGreatDoor
open Go Go.AL Go.Proofs
set_option maxHeartbeats 4000000
noncomputable def xld:LR3:=[rA 333587332 745,rA 333587333 747,rA 333587334 749,rA 333587396 617,rA 333587397 619,rA 333587398 621,rA 333587460 617]
def jdv:=kerR xld
noncomputable def xle:LR3:=[rA 333587461 619,rA 333587462 621,rA 333587524 745,rA 333587525 747,rA 333587526 749,rA 333589380 747]
def jdw:=kerR xle
noncomputable def xlf:LR3:=[rA 333589381 619,rA 333589444 619,rA 333589445 619,rA 333589508 619,rA 333589509 619,rA 333589572 747,rA 333589573 619]
def jdx:=kerR xlf
noncomputable def xlg:LR3:=[rA 333591685 749,rA 337515458 741,rA 337515459 743,rA 337515460 873,rA 337515461 875]
def jdy:=kerR xlg
noncomputable def xlh:LR3:=[rA 337515462 877,rA 337515522 11925137205796]
def jdz:=kerR xlh
noncomputable def xli:LR3:=[rA 337515523 9159723530790]
def jea:=kerR xli
noncomputable def xlj:LR3:=[rA 337515524 9194091924136]
def jeb:=kerR xlj
noncomputable def xlk:LR3:=[rA 337515525 50236181969476862246]
def jec:=kerR xlk
noncomputable def xll:LR3:=[rA 337515526 5886974972328,rA 337515527 2882363816]
def jed:=kerR xll
noncomputable def xlm:LR3:=[rA 337515528 7569528410536,rA 337515529 3704447402]
def jee:=kerR xlm
noncomputable def xln:LR3:=[rA 337515530 4786577834,rA 337515586 4464257764]
def jef:=kerR xln
noncomputable def xlo:LR3:=[rA 337515587 33503015769420132]
def jeg:=kerR xlo
noncomputable def xlp:LR3:=[rA 337515588 7528446116198]
def jeh:=kerR xlp
noncomputable def xlq:LR3:=[rA 337515589 38638288679163871526]
def jei:=kerR xlq
noncomputable def xlr:LR3:=[rA 337515590 15435873999733030]
def jej:=kerR xlr
noncomputable def xls:LR3:=[rA 337515591 38638338163897876774]
def jek:=kerR xls
noncomputable def xlt:LR3:=[rA 337515592 18880660849381800]
def jel:=kerR xlt
noncomputable def xlu:LR3:=[rA 337515593 18917511668781480]
def jem:=kerR xlu
noncomputable def xlv:LR3:=[rA 337515594 23456312848109992]
def jen:=kerR xlv
noncomputable def xlw:LR3:=[rA 337515595 23490930284515752,rA 337517507 551,rA 337517508 553]
def jeo:=kerR xlw
noncomputable def xlx:LR3:=[rA 337517509 683,rA 337517510 685,rA 337517571 5860651776550]
def jep:=kerR xlx
noncomputable def xly:LR3:=[rA 337517572 18829499723497766]
def jeq:=kerR xly
noncomputable def xlz:LR3:=[rA 337517573 22277585913598246]
def jer:=kerR xlz
noncomputable def xma:LR3:=[rA 337517574 5886974972200,rA 337517575 2882359592]
def jes:=kerR xma
noncomputable def xmb:LR3:=[rA 337517635 7510724524582,rA 337517636 3666954792]
def jet:=kerR xmb
noncomputable def xmc:LR3:=[rA 337517637 1399466,rA 337517638 2874499498,rA 337517639 2882363818,rA 337519492 745]
def jeu:=kerR xmc
