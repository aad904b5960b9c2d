/- A part of the proof. -/
import Derived.Test.YtbjdfanphdfkdaaGreatDoorFC0
import Derived.Test.YtbjdfanphdfkdaaGreatDoorFC1
import Derived.Test.YtbjdfanphdfkdaaGreatDoorFC2
import Derived.Test.YtbjdfanphdfkdaaGreatDoorFC3
import Derived.Test.YtbjdfanphdfkdaaGreatDoorFC4
set_option linter.all false
set_option maxRecDepth 1000000
namespace Go.Proofs.YtbjdfanphdfkdaaGreatDoor
open Go Go.AL Go.Proofs
theorem awk:okV (rn2 (nat_lit 7) []) (.bool true)=true:=by kernel_rfl
theorem ktc:AllC GL:=⟨kgd,⟨kgf,⟨kgh,⟨kgj,⟨kgl,⟨kge,⟨kgg,⟨kgi,⟨kgk,⟨kgm,⟨xqr,⟨xrc,⟨xro,⟨xrz,⟨xsk,⟨xqs,⟨xre,⟨xrp,⟨xsa,⟨xsl,⟨xqt,⟨xrf,⟨xrq,⟨xsb,⟨xsm,⟨xqu,⟨xrg,⟨xrr,⟨xsc,⟨xsn,⟨xqv,⟨xrh,⟨xrs,⟨xsd,⟨xso,⟨xqw,⟨xri,⟨xrt,⟨xse,⟨xsp,⟨xqx,⟨xrj,⟨xru,⟨xsf,⟨xsq,⟨xqy,⟨xrk,⟨xrv,⟨xsg,⟨xsr,⟨xqz,⟨xrl,⟨xrw,⟨xsh,⟨xss,⟨xra,⟨xrm,⟨xrx,⟨xsi,⟨xst,⟨xrb,⟨xrn,⟨xry,⟨xsj,⟨xsu,⟨jda,⟨jev,⟨jgq,⟨jil,⟨jkg,⟨jdb,⟨jew,⟨jgr,⟨jim,⟨jkh,⟨jdc,⟨jex,⟨jgs,⟨jin,⟨jki,⟨jdd,⟨jey,⟨jgt,⟨jio,⟨jkj,⟨jde,⟨jez,⟨jgu,⟨jip,⟨jkk,⟨jdf,⟨jfa,⟨jgv,⟨jiq,⟨jkl,⟨jdg,⟨jfb,⟨jgw,⟨jir,⟨jkm,⟨jdh,⟨jfc,⟨jgx,⟨jis,⟨jkn,⟨jdi,⟨jfd,⟨jgy,⟨jit,⟨jko,⟨jdj,⟨jfe,⟨jgz,⟨jiu,⟨jkp,⟨jdk,⟨jff,⟨jha,⟨jiv,⟨jkq,⟨jdl,⟨jfg,⟨jhb,⟨jiw,⟨jkr,⟨jdm,⟨jfh,⟨jhc,⟨jix,⟨jks,⟨jdn,⟨jfi,⟨jhd,⟨jiy,⟨jkt,⟨jdo,⟨jfj,⟨jhe,⟨jiz,⟨jku,⟨jdp,⟨jfk,⟨jhf,⟨jja,⟨jkv,⟨jdq,⟨jfl,⟨jhg,⟨jjb,⟨jkw,⟨jdr,⟨jfm,⟨jhh,⟨jjc,⟨jkx,⟨jds,⟨jfn,⟨jhi,⟨jjd,⟨jky,⟨jdt,⟨jfo,⟨jhj,⟨jje,⟨jkz,⟨jdu,⟨jfp,⟨jhk,⟨jjf,⟨jla,⟨jdv,⟨jfq,⟨jhl,⟨jjg,⟨jlb,⟨jdw,⟨jfr,⟨jhm,⟨jjh,⟨jlc,⟨jdx,⟨jfs,⟨jhn,⟨jji,⟨jld,⟨jdy,⟨jft,⟨jho,⟨jjj,⟨jle,⟨jdz,⟨jfu,⟨jhp,⟨jjk,⟨jlf,⟨jea,⟨jfv,⟨jhq,⟨jjl,⟨jlg,⟨jeb,⟨jfw,⟨jhr,⟨jjm,⟨jlh,⟨jec,⟨jfx,⟨jhs,⟨jjn,⟨jli,⟨jed,⟨jfy,⟨jht,⟨jjo,⟨jlj,⟨jee,⟨jfz,⟨jhu,⟨jjp,⟨jlk,⟨jef,⟨jga,⟨jhv,⟨jjq,⟨jll,⟨jeg,⟨jgb,⟨jhw,⟨jjr,⟨jlm,⟨jeh,⟨jgc,⟨jhx,⟨jjs,⟨jln,⟨jei,⟨jgd,⟨jhy,⟨jjt,⟨jlo,⟨jej,⟨jge,⟨jhz,⟨jju,⟨jlp,⟨jek,⟨jgf,⟨jia,⟨jjv,⟨jlq,⟨jel,⟨jgg,⟨jib,⟨jjw,⟨jlr,⟨jem,⟨jgh,⟨jic,⟨jjx,⟨jls,⟨jen,⟨jgi,⟨jid,⟨jjy,⟨jlt,⟨jeo,⟨jgj,⟨jie,⟨jjz,⟨jlu,⟨jep,⟨jgk,⟨jif,⟨jka,⟨jlv,⟨jeq,⟨jgl,⟨jig,⟨jkb,⟨jlw,⟨jer,⟨jgm,⟨jih,⟨jkc,⟨jlx,⟨jes,⟨jgn,⟨jii,⟨jkd,⟨jly,⟨jet,⟨jgo,⟨jij,⟨jke,⟨jlz,⟨jeu,⟨jgp,⟨jik,⟨jkf,trivial⟩⟩⟩⟩⟩⟩⟩⟩⟩⟩⟩⟩⟩⟩⟩⟩⟩⟩⟩⟩⟩⟩⟩⟩⟩⟩⟩⟩⟩⟩⟩⟩⟩⟩⟩⟩⟩⟩⟩⟩⟩⟩⟩⟩⟩⟩⟩⟩⟩⟩⟩⟩⟩⟩⟩⟩⟩⟩⟩⟩⟩⟩⟩⟩⟩⟩⟩⟩⟩⟩⟩⟩⟩⟩⟩⟩⟩⟩⟩⟩⟩⟩⟩⟩⟩⟩⟩⟩⟩⟩⟩⟩⟩⟩⟩⟩⟩⟩⟩⟩⟩⟩⟩⟩⟩⟩⟩⟩⟩⟩⟩⟩⟩⟩⟩⟩⟩⟩⟩⟩⟩⟩⟩⟩⟩⟩⟩⟩⟩⟩⟩⟩⟩⟩⟩⟩⟩⟩⟩⟩⟩⟩⟩⟩⟩⟩⟩⟩⟩⟩⟩⟩⟩⟩⟩⟩⟩⟩⟩⟩⟩⟩⟩⟩⟩⟩⟩⟩⟩⟩⟩⟩⟩⟩⟩⟩⟩⟩⟩⟩⟩⟩⟩⟩⟩⟩⟩⟩⟩⟩⟩⟩⟩⟩⟩⟩⟩⟩⟩⟩⟩⟩⟩⟩⟩⟩⟩⟩⟩⟩⟩⟩⟩⟩⟩⟩⟩⟩⟩⟩⟩⟩⟩⟩⟩⟩⟩⟩⟩⟩⟩⟩⟩⟩⟩⟩⟩⟩⟩⟩⟩⟩⟩⟩⟩⟩⟩⟩⟩⟩⟩⟩⟩⟩⟩⟩⟩⟩⟩⟩⟩⟩⟩⟩⟩⟩⟩⟩⟩⟩⟩⟩⟩⟩⟩⟩⟩⟩⟩⟩⟩⟩⟩⟩⟩⟩⟩⟩⟩⟩⟩⟩⟩⟩⟩⟩⟩⟩⟩
