/- A part of the proof. -/
import Derived.Test.YtbjdfanphdfkdaaGreatDoorFA0
import Derived.Test.YtbjdfanphdfkdaaGreatDoorFA1
import Derived.Test.YtbjdfanphdfkdaaGreatDoorFA2
import Derived.Test.YtbjdfanphdfkdaaGreatDoorFA3
import Derived.Test.YtbjdfanphdfkdaaGreatDoorFA4
import Derived.Test.YtbjdfanphdfkdaaGreatDoorFB0
import Derived.Test.YtbjdfanphdfkdaaGreatDoorFB1
import Derived.Test.YtbjdfanphdfkdaaGreatDoorFB2
set_option linter.all false
set_option maxRecDepth 1000000
open Option.some renaming injEq -> qQ
namespace Go.Proofs.YtbjdfanphdfkdaaGreatDoor
open Go Go.AL Go.Proofs
noncomputable def tA:TrR:=(.nd 337650823 (.nd 203433091 (.nd 203428890 (.nd 203426857 (.nd 203426837 (.nd 203426825 (.nd 203426821 (.lf av0) (.lf av1)) (.nd 203426829 (.lf av2) (.nd 203426833 (.lf av3) (.lf av4)))) (.nd 203426845 (.nd 203426841 (.lf av5) (.lf av6)) (.nd 203426849 (.lf av7) (.nd 203426853 (.lf av8) (.lf av9))))) (.nd 203428866 (.nd 203426865 (.nd 203426861 (.lf av10) (.lf av11)) (.nd 203426869 (.lf av12) (.nd 203426873 (.lf av13) (.lf av14)))) (.nd 203428878 (.nd 203428870 (.lf av15) (.nd 203428874 (.lf av16) (.lf av17))) (.nd 203428882 (.lf av18) (.nd 203428886 (.lf av19) (.lf av20)))))) (.nd 203430924 (.nd 203428946 (.nd 203428933 (.nd 203428894 (.lf av21) (.lf av22)) (.nd 203428937 (.lf av23) (.nd 203428942 (.lf av24) (.lf av25)))) (.nd 203428955 (.nd 203428951 (.lf av26) (.lf av27)) (.nd 203430916 (.lf av28) (.nd 203430920 (.lf av29) (.lf av30))))) (.nd 203430992 (.nd 203430932 (.nd 203430928 (.lf av31) (.lf av32)) (.nd 203430983 (.lf av33) (.nd 203430988 (.lf av34) (.lf av35)))) (.nd 203432972 (.nd 203432964 (.lf av36) (.nd 203432968 (.lf av37) (.lf av38))) (.nd 203433028 (.lf av39) (.nd 203433033 (.lf av40) (.lf av41))))))) (.nd 337515530 (.nd 203437130 (.nd 203435020 (.nd 203433100 (.nd 203433096 (.lf av42) (.lf av43)) (.nd 203433104 (.lf av44) (.nd 203435016 (.lf av45) (.lf av46)))) (.nd 203435142 (.nd 203435081 (.lf av47) (.lf av48)) (.nd 203435148 (.lf av49) (.nd 203437065 (.lf av50) (.lf av51))))) (.nd 203441152 (.nd 203437257 (.nd 203437194 (.lf av52) (.lf av53)) (.nd 203439112 (.lf av54) (.nd 203439240 (.lf av55) (.lf av56)))) (.nd 203480064 (.nd 203441416 (.lf av57) (.nd 203447296 (.lf av58) (.lf av59))) (.nd 337515522 (.lf av60) (.nd 337515526 (.lf av61) (.lf av62)))))) (.nd 337523845 (.nd 337517571 (.nd 337515588 (.nd 337515534 (.lf av63) (.lf av64)) (.nd 337515592 (.lf av65) (.nd 337515596 (.lf av66) (.lf av67)))) (.nd 337519621 (.nd 337517637 (.lf av68) (.lf av69)) (.nd 337519686 (.lf av70) (.nd 337519751 (.lf av71) (.lf av72))))) (.nd 337646665 (.nd 337646599 (.nd 337646595 (.lf av73) (.lf av74)) (.nd 337646603 (.lf av75) (.nd 337646659 (.lf av76) (.lf av77)))) (.nd 337648707 (.nd 337646671 (.lf av78) (.nd 337648647 (.lf av79) (.lf av80))) (.nd 337650692 (.lf av81) (.nd 337650759 (.lf av82) (.lf av83)))))))) (.nd 341845128 (.nd 341716039 (.nd 337781768 (.nd 337777679 (.nd 337658880 (.nd 337652805 (.lf av84) (.lf av85)) (.nd 337777666 (.lf av86) (.nd 337777673 (.lf av87) (.lf av88)))) (.nd 337777739 (.nd 337777735 (.lf av89) (.lf av90)) (.nd 337777744 (.lf av91) (.nd 337779781 (.lf av92) (.lf av93))))) (.nd 341709840 (.nd 337785924 (.nd 337781894 (.lf av94) (.lf av95)) (.nd 341709828 (.lf av96) (.nd 341709834 (.lf av97) (.lf av98)))) (.nd 341711884 (.nd 341709897 (.lf av99) (.nd 341711878 (.lf kdk) (.lf kdl))) (.nd 341713988 (.lf kdm) (.nd 341714056 (.lf kdn) (.lf kdo)))))) (.nd 341840974 (.nd 341840916 (.nd 341840900 (.nd 341718150 (.lf kdp) (.lf kdq)) (.nd 341840905 (.lf kdr) (.nd 341840910 (.lf kds) (.lf kdt)))) (.nd 341840967 (.nd 341840966 (.lf kdu) (.lf kdv)) (.nd 341840969 (.lf kdw) (.nd 341840971 (.lf kdx) (.lf kdy))))) (.nd 341840980 (.nd 341840977 (.nd 341840975 (.lf kdz) (.lf kea)) (.nd 341840978 (.lf keb) (.nd 341840979 (.lf kec) (.lf ked)))) (.nd 341845000 (.nd 341842954 (.lf kee) (.nd 341843015 (.lf kef) (.lf keg))) (.nd 341845124 (.lf keh) (.nd 341845126 (.lf kei) (.lf kej))))))) (.nd 471999620 (.nd 341976068 (.nd 341971982 (.nd 341849286 (.nd 341845129 (.lf kek) (.lf kel)) (.nd 341849287 (.lf kem) (.nd 341971973 (.lf ken) (.lf keo)))) (.nd 341972046 (.nd 341972037 (.lf kep) (.lf keq)) (.nd 341974021 (.lf ker) (.nd 341974085 (.lf kes) (.lf ket))))) (.nd 471735303 (.nd 341978117 (.nd 341976196 (.lf keu) (.lf kev)) (.nd 341978183 (.lf kew) (.nd 341980294 (.lf kex) (.lf kez)))) (.nd 471868420 (.nd 471737476 (.lf kfa) (.nd 471866372 (.lf kfb) (.lf kfc))) (.nd 471870532 (.lf kfd) (.nd 471997447 (.lf kfe) (.lf kff)))))) (.nd 605824004 (.nd 476062852 (.nd 475929672 (.nd 475929667 (.lf kfg) (.lf kfh)) (.nd 475933829 (.lf kfi) (.nd 476060679 (.lf kfj) (.lf kfk)))) (.nd 476064768 (.nd 476062853 (.lf kfl) (.nd 476062854 (.lf kfm) (.lf kfn))) (.nd 476191811 (.lf kfo) (.nd 476193861 (.lf kuh) (.lf kui))))) (.nd 610290688 (.nd 606096384 (.nd 605955140 (.lf kuj) (.lf kuk)) (.nd 606350340 (.lf kul) (.nd 610149444 (.lf kum) (.lf kun)))) (.nd 614484992 (.nd 610542725 (.lf kuo) (.nd 614343750 (.lf kup) (.lf kuq))) (.nd 614736965 (.lf kur) (.nd 748694528 (.lf kus) (.lf kut)))))))))
theorem kfz:AllR QA tA:=⟨⟨⟨⟨⟨⟨⟨kda,kdb⟩,⟨kdc,⟨kdd,kde⟩⟩⟩,⟨⟨kdf,kdg⟩,⟨kdh,⟨kdi,kdj⟩⟩⟩⟩,⟨⟨⟨xle,xlf⟩,⟨xlg,⟨xlh,xli⟩⟩⟩,⟨⟨xlj,⟨xlk,xll⟩⟩,⟨xlm,⟨xln,xlo⟩⟩⟩⟩⟩,⟨⟨⟨⟨xlp,xlq⟩,⟨xlr,⟨xls,xlt⟩⟩⟩,⟨⟨xlu,xlv⟩,⟨xlw,⟨xlx,xly⟩⟩⟩⟩,⟨⟨⟨xlz,xma⟩,⟨xmb,⟨xmc,xmd⟩⟩⟩,⟨⟨xme,⟨xmf,xmg⟩⟩,⟨xmh,⟨xmi,xmj⟩⟩⟩⟩⟩⟩,⟨⟨⟨⟨⟨xmk,xml⟩,⟨xmm,⟨xmn,xmo⟩⟩⟩,⟨⟨xmp,xmq⟩,⟨xmr,⟨xms,xmt⟩⟩⟩⟩,⟨⟨⟨xmu,xmv⟩,⟨xmw,⟨xmx,xmy⟩⟩⟩,⟨⟨xmz,⟨xna,xnb⟩⟩,⟨xnc,⟨xnd,xne⟩⟩⟩⟩⟩,⟨⟨⟨⟨xnf,xng⟩,⟨xnh,⟨xni,xnj⟩⟩⟩,⟨⟨xnk,xnl⟩,⟨xnm,⟨xnn,xno⟩⟩⟩⟩,⟨⟨⟨xnp,xnq⟩,⟨xnr,⟨xns,xnt⟩⟩⟩,⟨⟨xnu,⟨xnv,xnw⟩⟩,⟨xnx,⟨xny,xnz⟩⟩⟩⟩⟩⟩⟩,⟨⟨⟨⟨⟨⟨xoa,xob⟩,⟨xoc,⟨xod,xoe⟩⟩⟩,⟨⟨xof,xog⟩,⟨xoh,⟨xoi,xoj⟩⟩⟩⟩,⟨⟨⟨xok,xol⟩,⟨xom,⟨xon,xoo⟩⟩⟩,⟨⟨xop,⟨jaw,jax⟩⟩,⟨jay,⟨jaz,jba⟩⟩⟩⟩⟩,⟨⟨⟨⟨jbb,jbc⟩,⟨jbd,⟨jbe,jbf⟩⟩⟩,⟨⟨jbg,jbh⟩,⟨jbi,⟨jbj,jbk⟩⟩⟩⟩,⟨⟨⟨jbl,jbm⟩,⟨jbn,⟨jbo,jbp⟩⟩⟩,⟨⟨jbq,⟨jbr,jbs⟩⟩,⟨jbt,⟨jbu,jbv⟩⟩⟩⟩⟩⟩,⟨⟨⟨⟨⟨jbw,jbx⟩,⟨jby,⟨jbz,jca⟩⟩⟩,⟨⟨jcb,jcc⟩,⟨jcd,⟨jce,jcf⟩⟩⟩⟩,⟨⟨⟨jcg,jch⟩,⟨jci,⟨jcj,jck⟩⟩⟩,⟨⟨jcl,⟨jcm,jcn⟩⟩,⟨jco,⟨jcp,jcq⟩⟩⟩⟩⟩,⟨⟨⟨⟨jcr,jcs⟩,⟨jct,⟨jcu,jcv⟩⟩⟩,⟨⟨jcw,⟨jcx,jcy⟩⟩,⟨jcz,⟨kto,ktp⟩⟩⟩⟩,⟨⟨⟨ktq,ktr⟩,⟨kts,⟨ktt,ktu⟩⟩⟩,⟨⟨ktv,⟨ktw,ktx⟩⟩,⟨kty,⟨ktz,kua⟩⟩⟩⟩⟩⟩⟩⟩
noncomputable def tB:TrR:=(.nd 337517642 (.nd 203430984 (.nd 203428874 (.nd 203426848 (.nd 203426828 (.lf bv0) (.nd 203426838 (.lf bv1) (.lf bv2))) (.nd 203426866 (.nd 203426857 (.lf bv3) (.lf bv4)) (.nd 203426875 (.lf bv5) (.lf bv6)))) (.nd 203428946 (.nd 203428893 (.nd 203428884 (.lf bv7) (.lf bv8)) (.nd 203428937 (.lf bv9) (.lf bv10))) (.nd 203430920 (.nd 203428955 (.lf bv11) (.lf bv12)) (.nd 203430928 (.lf bv13) (.lf bv14))))) (.nd 203437128 (.nd 203433098 (.nd 203432973 (.nd 203430995 (.lf bv15) (.lf bv16)) (.nd 203433034 (.lf bv17) (.lf bv18))) (.nd 203435079 (.nd 203435014 (.lf bv19) (.lf bv20)) (.nd 203435146 (.lf bv21) (.lf bv22)))) (.nd 203496448 (.nd 203439240 (.nd 203437257 (.lf bv23) (.lf bv24)) (.nd 203445248 (.lf bv25) (.lf bv26))) (.nd 337515586 (.nd 337515527 (.lf bv27) (.lf bv28)) (.nd 337515597 (.lf bv29) (.lf bv30)))))) (.nd 341718022 (.nd 337662976 (.nd 337646659 (.nd 337519750 (.lf bv31) (.nd 337646598 (.lf bv32) (.lf bv33))) (.nd 337648707 (.nd 337646671 (.lf bv34) (.lf bv35)) (.nd 337650822 (.lf bv36) (.lf bv37)))) (.nd 337786054 (.nd 337777735 (.nd 337777672 (.lf bv38) (.lf bv39)) (.nd 337779717 (.lf bv40) (.lf bv41))) (.nd 341709844 (.nd 341709828 (.lf bv42) (.lf bv43)) (.nd 341713924 (.lf bv44) (.lf bv45))))) (.nd 471737476 (.nd 341865472 (.nd 341840916 (.nd 341840905 (.lf bv46) (.lf bv47)) (.nd 341843018 (.lf bv48) (.lf bv49))) (.nd 341974087 (.nd 341972041 (.lf bv50) (.lf bv51)) (.nd 341978181 (.lf bv52) (.lf bv53)))) (.nd 605824132 (.nd 475929667 (.nd 471872512 (.lf bv54) (.lf bv55)) (.nd 476060679 (.lf bv56) (.lf bv57))) (.nd 614487040 (.nd 610149380 (.lf bv58) (.lf bv59)) (.nd 874531840 (.lf bv60) (.lf bv61)))))))
theorem ktb:AllR QB tB:=⟨⟨⟨⟨⟨kfp,⟨kfq,kfr⟩⟩,⟨⟨kfs,kft⟩,⟨kfu,kfv⟩⟩⟩,⟨⟨⟨kfw,kfx⟩,⟨kfy,xoq⟩⟩,⟨⟨xos,xot⟩,⟨xou,xov⟩⟩⟩⟩,⟨⟨⟨⟨xow,xox⟩,⟨xoy,xoz⟩⟩,⟨⟨xpa,xpb⟩,⟨xpc,xpd⟩⟩⟩,⟨⟨⟨xpe,xpf⟩,⟨xpg,xph⟩⟩,⟨⟨xpi,xpj⟩,⟨xpk,xpl⟩⟩⟩⟩⟩,⟨⟨⟨⟨xpm,⟨xpn,xpo⟩⟩,⟨⟨xpp,xpq⟩,⟨xpr,xps⟩⟩⟩,⟨⟨⟨xpt,xpu⟩,⟨xpv,xpw⟩⟩,⟨⟨xpx,xpy⟩,⟨xpz,xqa⟩⟩⟩⟩,⟨⟨⟨⟨xqb,xqc⟩,⟨xqd,xqe⟩⟩,⟨⟨xqf,xqg⟩,⟨xqh,xqi⟩⟩⟩,⟨⟨⟨xqj,xqk⟩,⟨xql,xqm⟩⟩,⟨⟨xqn,xqo⟩,⟨xqp,xqq⟩⟩⟩⟩⟩⟩
noncomputable section
def k57T:LkT:=λn=>match rowT n tA with
 |some p=>some ([mV n],.bool (Nat.blt (nat_lit 0) p.1))
 |none=>none
def k22T:LkT:=λn=>match rowT n tA with
 |some p=>match Nat.ble p.1 (nat_lit 1)with
  |true=>none
  |false=>some ([mV n],.tup [mV (hv n p.1),.bool true])
 |none=>none
def k71T:LkT:=λn=>match rowT n tB with
 |some p=>some ([mV n],.tup [p.2,J (nat_lit 0)])
 |none=>none
def x57:Ent:= .known (qrh cdM k57T)
def x22:Ent:= .known (qrh cdM k22T)
def x71:Ent:= .known (qrh cdM k71T)
theorem kga:EOT Tryz.prog G okB 57 x57:=qbf λn p h=>by
 unfold k57T at h;split at h
 ·rename_i q hq;rw[qQ]at h;subst h;exact(qbg kfz hq).1
 ·simp at h
theorem jxz:EOT Tryz.prog G okB 22 x22:=qbf λn p h=>by
 unfold k22T at h;split at h
 ·rename_i q hq;split at h
  ·simp at h
  ·rename_i hb;rw[qQ]at h;subst h;exact(qbg kfz hq).2 hb
 ·simp at h
theorem jya:EOT Tryz.prog G okB 71 x71:=qbf λn p h=>by
 unfold k71T at h;split at h
 ·rename_i q hq;rw[qQ]at h;subst h;exact qbg ktb hq
 ·simp at h
def rn2(f:Nat)(a:List AV):O:=frun (exT (TM x22 x57 x71) (nat_lit 1000)) f a []
def rn3(f:Nat)(a:List AV):O:=frun (exT (TM x22 e57 x71) (nat_lit 1000)) f a []
theorem jyb(f:Nat)(a:List AV)(v:AV)(h:rn2 f a=some (v,[])):Rt f a [] v []:=runM jxz kga jya h
theorem kgb(f:Nat)(a:List AV)(v:AV)(h:rn3 f a=some (v,[])):Rt f a [] v []:=runM jxz k57 jya h
def kgc(r:Nat->List AV->O)(g h:AV):Bool:=match okV (r (nat_lit 12) [h]) (.bool true)with
 |true=>match r (nat_lit 14) [h]with
  |some (w,[])=>match clV (.agg [g,h,w])with
   |true=>okV (r (nat_lit 13) [w,g]) (.bool true)
   |false=>false
  |_=>false
 |false=>false
def genC(r:Nat->List AV->O)(g:AV):Bool:=match r (nat_lit 11) [g]with
 |some (.tup [h,e],[])=>match eqA2 (nat_lit 8) e (J (nat_lit 0))with
  |true=>kgc r g h
  |false=>false
 |_=>false
end
def QC(g:AV):Prop:= ∃h w,Rt 11 [g] [] (.tup [h,J 0]) []/\Rt 12 [h] [] (.bool true) []/\Rt 14 [h] [] w []/\Rt 13 [w,g] [] (.bool true) []/\AV.closed (.agg [g,h,w])=true
theorem qC{r:Nat->List AV->O}(hr:∀f a v,r f a=some (v,[])->Rt f a [] v []){g:AV}(h:genC r g=true):QC g:=by
 unfold genC at h;split at h
 ·rename_i f e hf;split at h
  ·rename_i he;unfold kgc at h;split at h
   ·rename_i h12;split at h
    ·rename_i w hw;have:=zpz 8 _ _ he;subst this;split at h
     ·rename_i hc;exact⟨f,w,hr _ _ _ hf,hr _ _ _ (qes h12),hr _ _ _ hw,hr _ _ _ (qes h),(zpp _).symm.trans hc⟩
     ·simp at h
    ·simp at h
   ·simp at h
  ·simp at h
 ·simp at h
theorem zae(g:AV)(h:genC rn2 g=true:=by kernel_rfl):QC g:=qC jyb h
theorem zve(g:AV)(h:genC rn3 g=true:=by kernel_rfl):QC g:=qC kgb h
def AllC:List AV->Prop
 | []=>True
 |g::l=>QC g/\AllC l
theorem AllC.mem:∀{l:List AV},AllC l->∀g,g∈l->QC g
 | [],_,g,hg=>by simp at hg
 |x::l,h,g,hg=>by
  rcases List.mem_cons.1 hg with rfl | hg
  ·exact h.1
  ·exact AllC.mem h.2 g hg
