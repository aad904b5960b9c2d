/- A part of the proof. -/
import Derived.Test.YtbjdfanphdfkdaaGreatDoorPH
set_option linter.all false
set_option maxRecDepth 1000000
namespace Go.Proofs.YtbjdfanphdfkdaaGreatDoor
open Go Go.AL Go.Proofs
noncomputable def bv0:LR3:=[rB 203424768 gs0,rB 203426816 gs9,rB 203426817 xel,rB 203426818 xem,rB 203426819 xeo,rB 203426820 xer,rB 203426821 xet,rB 203426822 xev,rB 203426823 qzd,rB 203426824 xfb,rB 203426825 xff,rB 203426826 qhy,rB 203426827 xfk]
def kfp:=kerB bv0
noncomputable def bv1:LR3:=[rB 203426828 krt,rB 203426829 xfs,rB 203426830 qzf,rB 203426831 qzh,rB 203426832 qro,rB 203426833 kcn,rB 203426834 qia,rB 203426835 xgi,rB 203426836 qzk,rB 203426837 krw]
def kfq:=kerB bv1
noncomputable def bv2:LR3:=[rB 203426838 xgp,rB 203426839 qib,rB 203426840 krz,rB 203426841 qrr,rB 203426842 qrs,rB 203426843 qbi,rB 203426844 xhf,rB 203426845 xhi,rB 203426846 xhm,rB 203426847 qid]
def kfr:=kerB bv2
noncomputable def bv3:LR3:=[rB 203426848 qzr,rB 203426849 ksf,rB 203426850 qbk,rB 203426851 qzt,rB 203426852 qzy,rB 203426853 xik,rB 203426854 kcq,rB 203426855 xim,rB 203426856 qie]
def kfs:=kerB bv3
noncomputable def bv4:LR3:=[rB 203426857 kcs,rB 203426858 jac,rB 203426859 xja,rB 203426860 kcu,rB 203426861 xjj,rB 203426862 jaf,rB 203426863 qif,rB 203426864 xjt,rB 203426865 qbn]
def kft:=kerB bv4
noncomputable def bv5:LR3:=[rB 203426866 zyd,rB 203426867 xka,rB 203426868 jan,rB 203426869 xke,rB 203426870 jap,rB 203426871 qrv,rB 203426872 kcw,rB 203426873 ksx,rB 203426874 jat]
def kfu:=kerB bv5
noncomputable def bv6:LR3:=[rB 203426875 xku,rB 203426876 xld,rB 203428864 gs10,rB 203428866 xep,rB 203428867 xew,rB 203428868 xey,rB 203428869 xfi,rB 203428870 xfl,rB 203428871 qzf,rB 203428872 xga,rB 203428873 xgg]
def kfv:=kerB bv6
noncomputable def bv7:LR3:=[rB 203428874 kru,rB 203428875 xgq,rB 203428876 qzl,rB 203428877 qzm,rB 203428878 qzo,rB 203428879 xhl,rB 203428880 kse,rB 203428881 qbk,rB 203428882 qzu,rB 203428883 qzz]
def kfw:=kerB bv7
noncomputable def bv8:LR3:=[rB 203428884 jaa,rB 203428885 xiy,rB 203428886 kct,rB 203428887 jaf,rB 203428888 jag,rB 203428889 jam,rB 203428890 ksu,rB 203428891 qbo,rB 203428892 qrw]
def kfx:=kerB bv8
noncomputable def bv9:LR3:=[rB 203428893 xkt,rB 203428894 xkw,rB 203428930 xen,rB 203428931 xes,rB 203428932 qzd,rB 203428933 xfe,rB 203428934 xfj,rB 203428935 xfr,rB 203428936 qzg]
def kfy:=kerB bv9
noncomputable def bv10:LR3:=[rB 203428937 kcn,rB 203428939 xgl,rB 203428940 qib,rB 203428941 qrq,rB 203428942 qic,rB 203428943 xhh,rB 203428944 qid,rB 203428945 xhy]
def xoq:=kerB bv10
noncomputable def bv11:LR3:=[rB 203428946 ksg,rB 203428947 xij,rB 203428948 qru,rB 203428949 kcs,rB 203428951 xjh,rB 203428952 qif,rB 203428953 qbn,rB 203428954 xjy]
def xos:=kerB bv11
noncomputable def bv12:LR3:=[rB 203428955 xkd,rB 203428956 xkk,rB 203428957 xkp,rB 203430912 gs12,rB 203430915 xfg,rB 203430916 xfq,rB 203430917 qzg,rB 203430918 xgf,rB 203430919 xgm]
def xot:=kerB bv12
noncomputable def bv13:LR3:=[rB 203430920 xgt,rB 203430921 xhc,rB 203430922 ksd,rB 203430923 xhz,rB 203430924 ksi,rB 203430925 xim,rB 203430926 qbl,rB 203430927 xjg]
def xou:=kerB bv13
noncomputable def bv14:LR3:=[rB 203430928 xjr,rB 203430929 xjz,rB 203430930 ksv,rB 203430931 xkr,rB 203430932 xla,rB 203430979 xfa,rB 203430981 xfu,rB 203430982 xgd,rB 203430983 krv]
def xov:=kerB bv14
noncomputable def bv15:LR3:=[rB 203430984 qib,rB 203430985 qrs,rB 203430987 qbj,rB 203430988 qzs,rB 203430989 qzz,rB 203430990 xiv,rB 203430991 jad,rB 203430992 qif,rB 203430993 jam]
def xow:=kerB bv15
noncomputable def bv16:LR3:=[rB 203430995 xkn,rB 203432960 gs13,rB 203432964 xfz,rB 203432965 qzk,rB 203432966 xgs,rB 203432967 xhe,rB 203432968 xhs,rB 203432969 qzy,rB 203432970 kcr,rB 203432971 jad,rB 203432972 kso]
def xox:=kerB bv16
noncomputable def bv17:LR3:=[rB 203432973 jan,rB 203432974 qrw,rB 203432975 xlb,rB 203433028 qzh,rB 203433030 qib,rB 203433031 qbi,rB 203433032 qid,rB 203433033 qzt]
def xoy:=kerB bv17
noncomputable def bv18:LR3:=[rB 203433034 xim,rB 203433036 qif,rB 203433038 qrv,rB 203433092 xfm,rB 203433093 xgb,rB 203433094 qzi,rB 203433095 kry,rB 203433096 ksc,rB 203433097 qzr]
def xoz:=kerB bv18
noncomputable def bv19:LR3:=[rB 203433098 qzv,rB 203433099 xip,rB 203433100 xjb,rB 203433101 ksr,rB 203433102 xkb,rB 203433103 qry,rB 203433104 ksy,rB 203435008 gs16,rB 203435013 xgy]
def xpa:=kerB bv19
noncomputable def bv20:LR3:=[rB 203435014 xhn,rB 203435015 qzs,rB 203435016 xiq,rB 203435017 xji,rB 203435018 kst,rB 203435019 qrv,rB 203435020 xlc,rB 203435077 xgu]
def xpb:=kerB bv20
