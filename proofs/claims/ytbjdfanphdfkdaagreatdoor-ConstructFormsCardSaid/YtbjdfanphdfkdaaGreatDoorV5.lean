/- A part of the proof. -/
import Derived.Test.YtbjdfanphdfkdaaGreatDoorPF
set_option linter.all false
set_option maxRecDepth 100000
namespace Go.Proofs.YtbjdfanphdfkdaaGreatDoor
open Go Go.AL Go.Proofs
noncomputable section
set_option cbv.maxSteps 4000000 in
set_option maxHeartbeats 4000000 in
def s184:TT true Tryz.f184:=WD [(1,[(1,3),(1,4),(3,4),(1,5),(3,5),(4,5),(3,6)]),(6,[(3,14),(7,14),(10,14),(3,17),(7,17),(10,17),(3,20),(7,20),(10,20),(3,21),(7,21),(10,21),(14,21),(17,21),(20,21),(3,22),(7,22),(10,22),(14,22),(17,22),(20,22),(21,22),(14,23),(17,23),(20,23)]),(7,[(3,12),(7,12),(3,15),(7,15),(3,18),(7,18),(12,18),(15,18),(3,19),(7,19),(12,19),(15,19),(18,19),(3,20),(7,20),(12,20),(15,20),(18,20),(19,20),(3,21),(7,21),(12,21),(15,21),(3,23),(7,23),(12,23),(15,23),(18,23),(19,23),(20,23),(21,23),(3,24),(7,24),(12,24),(15,24),(18,24),(19,24),(20,24),(21,24),(23,24),(3,25),(7,25),(12,25),(15,25),(18,25),(19,25),(20,25),(21,25),(23,25),(24,25),(3,26),(7,26),(12,26),(15,26)]),(12,[(3,14),(7,14),(10,14),(3,17),(7,17),(10,17),(3,20),(7,20),(10,20),(3,21),(7,21),(10,21),(14,21),(17,21),(20,21),(3,22),(7,22),(10,22),(14,22),(17,22),(20,22),(21,22),(14,23),(17,23),(20,23)]),(13,[(3,12),(7,12),(3,15),(7,15),(3,18),(7,18),(12,18),(15,18),(3,19),(7,19),(12,19),(15,19),(18,19),(3,20),(7,20),(12,20),(15,20),(18,20),(19,20),(3,21),(7,21),(12,21),(15,21),(3,23),(7,23),(12,23),(15,23),(18,23),(19,23),(20,23),(21,23),(3,24),(7,24),(12,24),(15,24),(18,24),(19,24),(20,24),(21,24),(23,24),(3,25),(7,25),(12,25),(15,25),(18,25),(19,25),(20,25),(21,25),(23,25),(24,25),(3,26),(7,26),(12,26),(15,26)]),(15,[(3,8),(3,11),(3,15),(8,15),(11,15),(3,17),(8,17),(11,17),(15,17)]),(20,[(3,11),(7,11),(3,14),(7,14),(3,17),(7,17),(3,19),(7,19),(11,19),(14,19),(17,19),(18,19),(3,20),(7,20),(11,20),(14,20),(17,20),(18,20),(19,20),(11,21),(11,22),(3,23),(7,23),(11,23),(14,23),(17,23),(18,23),(19,23),(20,23),(21,23),(22,23)]),(22,[(1,2),(1,3),(2,3),(1,6),(2,6),(3,6),(4,6),(1,7),(2,7),(3,7),(4,7),(6,7),(1,8),(2,8),(3,8),(4,8),(6,8),(7,8)]),(23,[(3,9),(6,9)]),(24,[(1,2),(1,5),(2,5),(3,5),(1,6),(2,6),(3,6),(5,6),(1,9),(2,9),(3,9),(5,9),(6,9),(7,9),(8,9)]),(25,[(3,8),(6,8),(3,12),(6,12),(8,12),(3,16),(6,16),(8,16),(3,17),(6,17)])] (h2:=by
 simp(maxSteps:=4000000) (disch:=decide) only[jvq,xyi,xyj,jvr,xyk,jvs,jvt,qnm,qnn,jvu,xyl,z_r0,z_r1,z_r2,z_r3,z_r4,xym,jvv,xyn,jvw,qno,jvx,xyo,xyp,z_dy,jvy,qnp,jvz,jwa,jwb,qnq,qnr,xyq,qdg,jwc,qns,jwd,List.nil_append,List.cons_append,n_t,aB_t,xxz,xbj,xbk,xya,xyb,xyc,xyd,xye,xyf,jvp,qnk,qnl,Nat.reduceEqDiff,Nat.reduceSub,reduceIte,z_F0,z_F1,z_F2,z_F3,z_F4,z_F5,z_F6,z_F7,z_F8,
  xyr,jwe,xys,jwf,qnt,qnu,qdh,qnv,jwg,jwh,jwi,jwj,qnw,xyt,xyu,z_un,jwk,xyv,jwl,qnx,xyw,xyx,xyy,jwm,jwn,z_Dn,z_Ds,z_Gk,z_Gt,z_gS,z_B,z_B2,List.map_cons,List.map_nil,Option.map_some,Option.map_none,CK.sub,zsb,dg,sN,uN,gN,hN,Nat.reduceDiv,Nat.reduceMod]
 simp(maxSteps:=4000000) only[↓kap,↓p_rg,↓kaq,↓jxf,↓kar,↓kas,↓jxg,↓qqq,↓qqr,↓qqs,↓kat,↓p_un,↓kau,↓kav,↓kaw,↓jxh,↓qqt,↓qem,↓qqu,↓qqv,↓jxi,↓p_sx,↓kbb,↓kax,↓jxj,↓jxk,↓jxl,↓kay,↓jxm,↓qqw,↓kaz,↓qqx,↓jxn,↓jxo,↓jxp,↓qqy,↓qen,↓qeo,↓jxq,↓kba,↓jxr,↓jxs,↓jxt,↓jxu,↓qqz,↓jxv,↓qra,↓qrb,↓qep,↓qrc,↓jxw,↓qeq,↓qrd,↓qre,↓qrf,↓jxx,↓qer,↓qrg,↓p_s0,↓p_s1,↓p_s2,↓p_s3,↓p_s4,↓p_s5,↓p_s6,↓p_s7,↓p_s8,↓p_s9,↓kbc,↓kbd,↓kbe,↓kbf,↓kbg,↓kbh,↓p_u0,↓p_u1,↓p_u2,↓p_u3,↓p_u4,↓p_u5,↓p_u6,↓p_u7,↓p_u8,↓p_u9,↓kbi,↓kbj,↓kbk,↓kbl,↓kbm,↓kbn,p_gk,g0,g1,g2,g3,g4,g5,g6,g7,g8,g9,g10,g11,g12,g13,g14,g15,h0,h1,h2,h3,h4,h5,h6,h7,h8,h9,h10,h11,h12,h13,h14,h15];rfl)
def e184:Ent:= .code s184.1 263 [] false
theorem k184:EOT Tryz.prog G okB 184 e184:=eoV s184.2 Tryz.func184
def s257:TT true Tryz.f257:=WD [(1,[(0,1),(0,3),(1,3),(2,3),(0,5),(1,5),(2,5),(3,5),(4,5),(0,6),(1,6),(2,6),(3,6),(4,6),(5,6),(0,13),(1,13),(2,13),(3,13),(4,13),(5,13),(6,13),(7,13),(8,13),(0,14),(1,14),(2,14),(3,14),(4,14),(5,14),(6,14),(7,14),(8,14),(13,14)])]
def e257:Ent:= .code s257.1 22 [(.c (g0 h4) true (nat_lit 2))] false
theorem k257:EOT Tryz.prog G okB 257 e257:=eoV s257.2 Tryz.func257
def s261:TT true Tryz.f261:=WD [(1,[(5,9)]),(2,[(5,9)]),(3,[(3,7),(3,9),(7,9),(8,9)]),(4,[(3,4),(3,8),(4,8),(3,9),(3,11),(4,11),(8,11),(9,11),(10,11)]),(5,[(4,5),(4,9),(5,9),(4,10),(5,10),(9,10),(4,11),(5,11),(4,12)]),(10,[(7,8),(7,9),(8,9),(7,10)])]
def e261:Ent:= .code s261.1 100 [] false
theorem k261:EOT Tryz.prog G okB 261 e261:=eoV s261.2 Tryz.func261
def s262:TT true Tryz.f262:=WD [(1,[(1,2),(1,5),(2,5),(3,5),(1,6),(2,6),(3,6),(5,6)])]
def e262:Ent:= .code s262.1 16 [(.c (g0 h6) true (nat_lit 2))] false
theorem k262:EOT Tryz.prog G okB 262 e262:=eoV s262.2 Tryz.func262
def s333:TT true Tryz.f333:=WS
def e333:Ent:= .code s333.1 19 [(.t (g0 h2))] false
theorem k333:EOT Tryz.prog G okB 333 e333:=eoV s333.2 Tryz.func333
def s352:TT true Tryz.f352:=WS
def e352:Ent:= .code s352.1 36 [(.t (g0 h4))] false
theorem k352:EOT Tryz.prog G okB 352 e352:=eoV s352.2 Tryz.func352
def s353:TT true Tryz.f353:=WS
def e353:Ent:= .code s353.1 6 [(.t (g0 h2))] false
theorem k353:EOT Tryz.prog G okB 353 e353:=eoV s353.2 Tryz.func353
def s354:TT true Tryz.f354:=WS
def e354:Ent:= .code s354.1 41 [(.t (g0 h4))] false
theorem k354:EOT Tryz.prog G okB 354 e354:=eoV s354.2 Tryz.func354
def s355:TT true Tryz.f355:=WD [(2,[(3,10)]),(3,[(5,13)]),(4,[(9,18)]),(26,[(4,9)])]
def e355:Ent:= .code s355.1 171 [(.t (g0 h4))] false
theorem k355:EOT Tryz.prog G okB 355 e355:=eoV s355.2 Tryz.func355
def s356:TT true Tryz.f356:=WS
def e356:Ent:= .code s356.1 38 [] false
theorem k356:EOT Tryz.prog G okB 356 e356:=eoV s356.2 Tryz.func356
