/- A part of the proof. -/
import Derived.Test.YtbjdfanphdfkdaaGreatDoorPF
set_option linter.all false
set_option maxRecDepth 100000
open Nat renaming eq_of_beq_eq_true -> qQ
namespace Go.Proofs.YtbjdfanphdfkdaaGreatDoor
open Go Go.AL Go.Proofs
noncomputable section
def qrj:RunT:=(zcr (zdh (s0 u11) (g2 h6) zdl))
theorem qhu:qrj=tr okB true qae:=by kernel_rfl
def qrk:RunT:=(zzt (nat_lit 1) (zdp (zcr (zke (s0 u12) (gk (.agg [(.int .i64 (.ofNat (nat_lit 0))),(.vec [] 0 (some 0))])) zdl)) (zdp (zdp (zcr (zdh (s2 u8) (g0 h11) (zjr .eql (zeo eqI) (s2 u9) (g2 h8) (gk (.int .i64 (.ofNat (nat_lit 2)))) zdl))) (zlm (g2 h9) (zcr (zdi (s2 u11) (g0 h1) (zfe .d0 .d8 .d13 (s2 u12) [(g2 h11)] (zdh (s2 u10) (g2 h12) (zkf (nat_lit 0) (s2 u13) (g2 h10) (zkf (nat_lit 1) (s2 u14) (g2 h10) (zey (nat_lit 2) (g0 h12) (g2 h13) zdl))))))) (zcr (zdi (s3 u0) (g0 h1) (zdh (s3 u1) (g0 h11) (zfe .d0 .d8 .d14 (s3 u2) [(g3 h0),(g3 h1)] (zdh (s2 u15) (g3 h2) (zkf (nat_lit 0) (s3 u3) (g2 h15) (zkf (nat_lit 1) (s3 u4) (g2 h15) (zey (nat_lit 2) (g0 h12) (g3 h3) zdl)))))))))) (zcr (zil (nat_lit 2) (s3 u5) (g0 h10) (zdi (s3 u6) (g3 h5) (zfh (nat_lit 2) (s3 u7) (g0 h12) (zkg okB (λE=>(.bsl 1 2 [(.int .i64 (.ofNat (nat_lit 0))),(.vec [] 0 (some 0))] [(0,(2,(.k (g3 h7 E))))])) (s3 u8) (zkg okB (λE=>(.append 2 32 (.k (g3 h6 E)) (.k (g3 h8 E)))) (s3 u9) (zil (nat_lit 2) (s3 u10) (g0 h10) (zfi (g3 h10) (g3 h9) zdl)))))))))))
theorem qhv:qrk=tr okB true qaf:=by kernel_rfl
def xdv:Nat->List AV->List AV->FR->Heap->O:=rndK (nat_lit 61478) [(s0 u1),(s0 u10)] [(s2 u6),(s2 u7)] qrj qrk
def qrl:RunT:=(zdp (zcr (zdh (s0 u4) (g1 h12) zdl)) (zcr (zdh (s0 u5) (g1 h13) zdl)))
theorem qhw:qrl=tr okB true qag:=by kernel_rfl
def qrm:RunT:=(zzt (nat_lit 1) (zdp (zdp (zcr (zdi (s1 u14) (g0 h3) (zil (nat_lit 2) (s1 u15) (g0 h1) (zdi (s2 u0) (g1 h15) (zwo (s2 u1) (g2 h0) (zjr .eql (zeo eqI) (s2 u2) (g1 h14) (g2 h1) zdl)))))) (zlm (g2 h2) (zdp (zcr (zfi (g0 h2) (gk (.bool false)) zdl)) ztz) zll)) (zdp (zcr (zil (nat_lit 2) (s2 u3) (g0 h1) (zdi (s2 u4) (g2 h3) (zdi (s2 u5) (g0 h3) (qgq (nat_lit 2) (s2 u6) (g2 h4) (g2 h5) (zfh (nat_lit 2) (s2 u7) (g2 h6) (zke (s0 u6) (gk (.agg [(.int .i64 (.ofNat (nat_lit 0))),(.vec [] 0 (some 0))])) (zey (nat_lit 2) (g0 h6) (g2 h7) zdl)))))))) (zdp (zcr (zdi (s2 u8) (g0 h3) (zjr .add qvj (s2 u9) (g2 h8) (gk (.int .i64 (.ofNat (nat_lit 1)))) (zfi (g0 h3) (g2 h9) zdl)))) (zdp (zdp (zcr (zil (nat_lit 0) (s2 u10) (g0 h6) (zdi (s2 u11) (g2 h10) (zdh (s2 u12) (g0 h4) (zjr .neq (zeo neI) (s2 u13) (g2 h11) (g2 h12) (zdh (s2 u14) (g2 h13) (zbv (g2 h14) false (s2 u15) (zdh (s2 u15) (g0 h4)) (zbv (g2 h14) false (s3 u0) (zjr .eql (zeo eqI) (s3 u0) (g2 h15) (gk (.int .i64 (.ofNat (nat_lit 2))))) (zbv (g2 h14) false (s3 u1) (zdh (s3 u1) (g3 h0)) (zbv (g3 h1) true (s3 u2) (zfh (nat_lit 2) (s3 u2) (g0 h6)) (zbv (g3 h1) true (s3 u3) (zfe .d0 .d8 .d9 (s3 u3) [(g3 h2)]) (zbv (g3 h1) true (s3 u4) (o_un .not (s3 u4) (g3 h3)) (zbv (g2 h14) false (s3 u5) (zhx (s3 u5) (g3 h1) (g3 h4) (gk (.bool false))) (zhx (s3 u6) (g2 h14) (gk (.bool true)) (g3 h5) (zdh (s3 u7) (g3 h6) (zbv (g3 h7) false (s3 u8) (zdh (s3 u8) (g0 h4)) (zbv (g3 h7) false (s3 u9) (zjr .neq (zeo neI) (s3 u9) (g3 h8) (gk (.int .i64 (.ofNat (nat_lit 2))))) (zbv (g3 h7) false (s3 u10) (zdh (s3 u10) (g3 h9)) (zbv (g3 h10) true (s3 u11) (zfh (nat_lit 2) (s3 u11) (g0 h6)) (zbv (g3 h10) true (s3 u12) (zfe .d0 .d8 .d0 (s3 u12) [(g3 h11)]) (zbv (g3 h10) true (s3 u13) (o_un .not (s3 u13) (g3 h12)) (zbv (g3 h7) false (s3 u14) (zhx (s3 u14) (g3 h10) (g3 h13) (gk (.bool false))) (zhx (s3 u15) (g3 h7) (gk (.bool true)) (g3 h14) zdl))))))))))))))))))))))) (zlm (g3 h15) (zdp (zcr (zfi (g0 h2) (gk (.bool false)) zdl)) ztz) zll)) (zdp (zcr (zfh (nat_lit 2) (s4 u0) (g0 h6) (zil (nat_lit 0) (s4 u1) (g0 h1) (zdi (s4 u2) (g4 h1) (zdh (s4 u3) (g0 h5) (zfe .d0 .d8 .d10 (s4 u4) [(g4 h0),(g4 h2),(g4 h3)] (o_un .not (s4 u5) (g4 h4) zdl))))))) (zlm (g4 h5) (zdp (zcr (zfi (g0 h2) (gk (.bool false)) zdl)) ztz) zll)))))))
theorem qhx:qrm=tr okB true qah:=by kernel_rfl
def xdw:Nat->List AV->List AV->FR->Heap->O:=rndK (nat_lit 76828) [(s0 u1),(s0 u2),(s0 u3)] [(s1 u12),(s1 u13)] qrl qrm
def rndT(k L:Nat)(sn us:List AV)(c:FR)(H:Heap):O:=(bsel (Nat.beq k (nat_lit 61478)) (xdv L sn us c H) (bsel (Nat.beq k (nat_lit 76828)) (xdw L sn us c H) none))
theorem kqy:EOT Tryz.prog G okB 4095 (.own (yldK rndT)):=by
 refine qnh (λk L p sn us c H v H1 hc hL h=>?_);unfold rndT at h;rcases zdw h with⟨e,h⟩ | h
 ·have e:=qQ e;subst e;exact zwy zxb zxa qoa rfl rfl qhu qhv hc hL h
 rcases zdw h with⟨e,h⟩ | h
 ·have e:=qQ e;subst e;exact zwy zxb zxa qob rfl rfl qhw qhx hc hL h
 simp at h
