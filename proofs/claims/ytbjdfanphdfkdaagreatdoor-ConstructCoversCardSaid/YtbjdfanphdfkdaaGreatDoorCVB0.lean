/- A part of the proof. -/
import Derived.Test.YtbjdfanphdfkdaaGreatDoorPH
set_option linter.all false
set_option maxRecDepth 1000000
namespace Go.Proofs.YtbjdfanphdfkdaaGreatDoor
open Go Go.AL Go.Proofs
set_option maxHeartbeats 4000000
noncomputable def bv0:LR3:=[rA 203424768 202850,rA 203426816 530690,rA 203426817 989666,rA 203426818 1256036,rA 203426819 2580754852,rA 203426820 3394847140]
def qhu:=kerR bv0
noncomputable def bv1:LR3:=[rA 203426821 4477505958,rA 203426822 9187120460196]
def qhv:=kerR bv1
noncomputable def bv2:LR3:=[rA 203426823 9204309115302]
def qhw:=kerR bv2
noncomputable def bv3:LR3:=[rA 203426824 21138525945409956]
def qhx:=kerR bv3
noncomputable def bv4:LR3:=[rA 203426825 11988807405990]
def qhy:=kerR bv4
noncomputable def bv5:LR3:=[rA 203426826 3667083686,rA 203426827 1794664]
def xkw:=kerR bv5
noncomputable def bv6:LR3:=[rA 203426828 3675472294,rA 203426829 3667083686]
def xkx:=kerR bv6
noncomputable def bv7:LR3:=[rA 203426830 3684389480,rA 203426831 3667083686]
def xky:=kerR bv7
noncomputable def bv8:LR3:=[rA 203426832 17740451982557606]
def xkz:=kerR bv8
noncomputable def bv9:LR3:=[rA 203426833 1794664]
def xla:=kerR bv9
noncomputable def bv10:LR3:=[rA 203426834 21153336075174310]
def jtn:=kerR bv10
noncomputable def bv11:LR3:=[rA 203426835 1790568,rA 203426836 7528449786278]
def jto:=kerR bv11
noncomputable def bv12:LR3:=[rA 203426837 7545629655462]
def jtp:=kerR bv12
noncomputable def bv13:LR3:=[rA 203426838 3676000872,rA 203426839 1794922]
def jtq:=kerR bv13
noncomputable def bv14:LR3:=[rA 203426840 17740451982557606,rA 203426841 874]
def jtr:=kerR bv14
noncomputable def bv15:LR3:=[rA 203426842 1794664]
def jts:=kerR bv15
noncomputable def bv16:LR3:=[rA 203426843 10328777380262]
def jtt:=kerR bv16
noncomputable def bv17:LR3:=[rA 203426844 7545638572648,rA 203426845 1794664]
def jtu:=kerR bv17
noncomputable def bv18:LR3:=[rA 203426846 3676000872,rA 203426847 1794922]
def jtv:=kerR bv18
noncomputable def bv19:LR3:=[rA 203426848 8662330069608]
def jtw:=kerR bv19
noncomputable def bv20:LR3:=[rA 203426849 3676000872,rA 203426850 1794922]
def jtx:=kerR bv20
noncomputable def bv21:LR3:=[rA 203426851 7545638572648]
def jty:=kerR bv21
noncomputable def bv22:LR3:=[rA 203426852 10328777380456]
def jtz:=kerR bv22
noncomputable def bv23:LR3:=[rA 203426853 1794922,rA 203426854 1794922]
def jua:=kerR bv23
noncomputable def bv24:LR3:=[rA 203426855 1790568]
def jub:=kerR bv24
noncomputable def bv25:LR3:=[rA 203426856 8662330069608,rA 203428802 613,rA 203428803 743]
def juc:=kerR bv25
noncomputable def bv26:LR3:=[rA 203428804 809,rA 203428805 811,rA 203428806 941,rA 203428864 534788,rA 203428866 4463733220]
def jud:=kerR bv26
