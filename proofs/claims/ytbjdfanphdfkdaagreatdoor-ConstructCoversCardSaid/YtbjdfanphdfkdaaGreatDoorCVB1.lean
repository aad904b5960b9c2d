/- A part of the proof. -/
import Derived.Test.YtbjdfanphdfkdaaGreatDoorPH
set_option linter.all false
set_option maxRecDepth 1000000
namespace Go.Proofs.YtbjdfanphdfkdaaGreatDoor
open Go Go.AL Go.Proofs
set_option maxHeartbeats 4000000
noncomputable def bv27:LR3:=[rA 203428867 12475165782308]
def jue:=kerR bv27
noncomputable def bv28:LR3:=[rA 203428868 30123675106488612]
def juf:=kerR bv28
noncomputable def bv29:LR3:=[rA 203428869 5869786841510,rA 203428870 6987023597990]
def jug:=kerR bv29
noncomputable def bv30:LR3:=[rA 203428871 7004211859944]
def juh:=kerR bv30
noncomputable def bv31:LR3:=[rA 203428872 34063825534362534310]
def jui:=kerR bv31
noncomputable def bv32:LR3:=[rA 203428873 41056825040134160806]
def juj:=kerR bv32
noncomputable def bv33:LR3:=[rA 203428874 5327815655846,rA 203428875 2601472488]
def juk:=kerR bv33
noncomputable def bv34:LR3:=[rA 203428876 13234651721056678,rA 203428877 1270248]
def jul:=kerR bv34
noncomputable def bv35:LR3:=[rA 203428878 5345540788712,rA 203428879 2601472488]
def jum:=kerR bv35
noncomputable def bv36:LR3:=[rA 203428880 6462232285672,rA 203428881 1270250]
def jun:=kerR bv36
noncomputable def bv37:LR3:=[rA 203428882 8128679596520,rA 203428883 1270250]
def juo:=kerR bv37
noncomputable def bv38:LR3:=[rA 203428884 6462232285672,rA 203428930 4187171428]
def jup:=kerR bv38
noncomputable def bv39:LR3:=[rA 203428931 4472650470]
def juq:=kerR bv39
noncomputable def bv40:LR3:=[rA 203428932 10294136488358]
def jur:=kerR bv40
noncomputable def bv41:LR3:=[rA 203428933 17475330199974]
def jus:=kerR bv41
noncomputable def bv42:LR3:=[rA 203428934 3948765672,rA 203428935 2056208806,rA 203428936 2056208806]
def jya:=kerR bv42
noncomputable def bv43:LR3:=[rA 203428937 1270248,rA 203428938 1004008,rA 203428939 5344995525030]
def jzw:=kerR bv43
noncomputable def bv44:LR3:=[rA 203428940 1270250,rA 203428941 490,rA 203428942 8128679596454]
def xdt:=kerR bv44
noncomputable def bv45:LR3:=[rA 203428943 1270248,rA 203428944 1270250,rA 203428945 2601472488]
def xdv:=kerR bv45
noncomputable def bv46:LR3:=[rA 203428946 5345540788712,rA 203428947 1270250,rA 203428948 1004008,rA 203430851 487]
def xdw:=kerR bv46
noncomputable def bv47:LR3:=[rA 203430852 681,rA 203430853 683,rA 203430854 685,rA 203430912 1103638660]
def xef:=kerR bv47
noncomputable def bv48:LR3:=[rA 203430915 14176790460902]
def xeg:=kerR bv48
noncomputable def bv49:LR3:=[rA 203430916 6977884602662,rA 203430917 5869786841382]
def xeh:=kerR bv49
noncomputable def bv50:LR3:=[rA 203430918 45624513551020278054]
def xei:=kerR bv50
noncomputable def bv51:LR3:=[rA 203430919 14344625889165606]
def xej:=kerR bv51
noncomputable def bv52:LR3:=[rA 203430920 29449886616609833254]
def xek:=kerR bv52
noncomputable def bv53:LR3:=[rA 203430921 15541478664130854,rA 203430922 2064601576]
def xel:=kerR bv53
