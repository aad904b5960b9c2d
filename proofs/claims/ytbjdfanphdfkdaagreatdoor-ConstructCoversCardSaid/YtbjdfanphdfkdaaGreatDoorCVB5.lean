/- A part of the proof. -/
import Derived.Test.YtbjdfanphdfkdaaGreatDoorPH
set_option linter.all false
set_option maxRecDepth 1000000
namespace Go.Proofs.YtbjdfanphdfkdaaGreatDoor
open Go Go.AL Go.Proofs
set_option maxHeartbeats 4000000
noncomputable def xmd:LR3:=[rA 337519493 747,rA 337519494 877,rA 337519556 553,rA 337519557 555]
def jev:=kerR xmd
noncomputable def xme:LR3:=[rA 337519620 12074117466507816]
def jew:=kerR xme
noncomputable def xmf:LR3:=[rA 337519621 22277585376465192]
def jex:=kerR xmf
noncomputable def xmg:LR3:=[rA 337519684 3675343400,rA 337519685 2870041130]
def jey:=kerR xmg
noncomputable def xmh:LR3:=[rA 337519748 15417166192394470]
def jez:=kerR xmh
noncomputable def xmi:LR3:=[rA 337519749 15453467264373096]
def jfa:=kerR xmi
noncomputable def xmj:LR3:=[rA 337519750 16649745045606696,rA 337521541 555]
def jfb:=kerR xmj
noncomputable def xmk:LR3:=[rA 337521797 3138476586,rA 337642496 206948,rA 337646530 613,rA 337646531 615,rA 337646532 745,rA 337646533 747]
def jfc:=kerR xmk
noncomputable def xml:LR3:=[rA 337646534 749,rA 337646592 1644701956]
def jfd:=kerR xml
noncomputable def xmm:LR3:=[rA 337646594 29000514575215076]
def jfe:=kerR xmm
noncomputable def xmn:LR3:=[rA 337646595 8626879019494]
def jff:=kerR xmn
noncomputable def xmo:LR3:=[rA 337646596 52475596325568856358]
def jfg:=kerR xmo
noncomputable def xmp:LR3:=[rA 337646597 10912475109998886]
def jfh:=kerR xmp
noncomputable def xmq:LR3:=[rA 337646598 43245486497837433126]
def jfi:=kerR xmq
noncomputable def xmr:LR3:=[rA 337646599 10965276641022376,rA 337646600 14379827180949928]
def jfj:=kerR xmr
noncomputable def xms:LR3:=[rA 337646601 14415028732907944,rA 337646602 5361915220392]
def jfk:=kerR xms
noncomputable def xmt:LR3:=[rA 337646658 613,rA 337646659 615,rA 337646660 745,rA 337646661 747,rA 337646662 749,rA 337646663 751]
def jfl:=kerR xmt
noncomputable def xmu:LR3:=[rA 337646664 945,rA 337646665 947,rA 337646666 1205,rA 337648579 487,rA 337648580 489]
def jfm:=kerR xmu
noncomputable def xmv:LR3:=[rA 337648581 619,rA 337648582 621,rA 337648640 1661483270]
def jfn:=kerR xmv
noncomputable def xmw:LR3:=[rA 337648643 47935969000149694950]
def jfo:=kerR xmw
noncomputable def xmx:LR3:=[rA 337648644 38636034670122189094]
def jfp:=kerR xmx
noncomputable def xmy:LR3:=[rA 337648645 5328356987176,rA 337648646 18899344762425640]
def jfq:=kerR xmy
noncomputable def xmz:LR3:=[rA 337648707 43252226487732877798]
def jfr:=kerR xmz
noncomputable def xna:LR3:=[rA 337648708 7527912655336]
def jfs:=kerR xna
noncomputable def xnb:LR3:=[rA 337648709 15452367215612200,rA 337648710 2605932970]
def jft:=kerR xnb
noncomputable def xnc:LR3:=[rA 337648711 7011182661928,rA 337650563 617,rA 337650564 617,rA 337650565 619,rA 337650566 749]
def jfu:=kerR xnc
noncomputable def xnd:LR3:=[rA 337650627 489,rA 337650628 489,rA 337650629 491,rA 337650688 3986841682054,rA 337650691 489]
def jfv:=kerR xnd
noncomputable def xne:LR3:=[rA 337650692 18865250766899688]
def jfw:=kerR xne
