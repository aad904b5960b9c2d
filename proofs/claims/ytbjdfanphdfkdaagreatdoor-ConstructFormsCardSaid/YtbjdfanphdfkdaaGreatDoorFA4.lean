/- A part of the proof. -/
import Derived.Test.YtbjdfanphdfkdaaGreatDoorFK5
set_option linter.all false
set_option maxRecDepth 1000000
namespace Go.Proofs.YtbjdfanphdfkdaaGreatDoor
open Go Go.AL Go.Proofs
noncomputable def kdv:LR3:=[rA 341840966 341709766]
def jbh:=kerU kdv
noncomputable def kdx:LR3:=[rA 341840969 341709769,rA 341840970 341709770]
def jbj:=kerU kdx
noncomputable def kdz:LR3:=[rA 341840974 341709774]
def jbl:=kerU kdz
noncomputable def keb:LR3:=[rA 341840977 341709777]
def jbn:=kerU keb
noncomputable def ked:LR3:=[rA 341840979 341709779]
def jbp:=kerU ked
noncomputable def kei:LR3:=[rA 341845124 341713796,rA 341845125 341713797]
def jbu:=kerU kei
noncomputable def kek:LR3:=[rA 341845128 341713800]
def jbw:=kerU kek
noncomputable def kem:LR3:=[rA 341849286 341717830]
def jby:=kerU kem
noncomputable def kfl:LR3:=[rA 476062852 475931524]
def jcw:=kerU kfl
noncomputable def kfn:LR3:=[rA 476062854 475931526]
def jcy:=kerU kfn
