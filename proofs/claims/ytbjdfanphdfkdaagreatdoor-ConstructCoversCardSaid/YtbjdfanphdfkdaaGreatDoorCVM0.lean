/- A part of the proof. -/
import Derived.Test.YtbjdfanphdfkdaaGreatDoorCVA0
import Derived.Test.YtbjdfanphdfkdaaGreatDoorCVA1
import Derived.Test.YtbjdfanphdfkdaaGreatDoorCVA2
set_option linter.all false
set_option maxRecDepth 1000000
namespace Go.Proofs.YtbjdfanphdfkdaaGreatDoor
open Go Go.AL Go.Proofs
noncomputable def tA:List LR3:=[xkv,xku,xkt,xks,xkr,av99,av98,av97,av96,av95,av94,av93,av92,av91,av90,av89,av88,av87,av86,av85,av84,av83,av82,av81,av80,av79,av78,av77,av76,av75,av74,av73,av72,av71,av70,av69,av68,av67,av66,av65,av64,av63,av62,av61,av60,av59,av58,av57,av56,av55,av54,av53,av52,av51,av50,av49,av48,av47,av46,av45,av44,av43,av42,av41,av40,av39,av38,av37,av36,av35,av34,av33,av32,av31,av30,av29,av28,av27,av26,av25,av24,av23,av22,av21,av20,av19,av18,av17,av16,av15,av14,av13,av12,av11,av10,av9,av8,av7,av6,av5,av4,av3,av2,av1,av0]
theorem kfz:AllW QA tA:=⟨jds,jdr,jdq,jdp,jdo,jtm,jtl,jtk,jtj,jti,jth,jtg,jtf,jte,jtd,jtc,jtb,jta,jsz,jsy,jsx,jsw,jsv,jsu,jst,jss,jsr,jsq,jsp,jso,jsn,jsm,jsl,jsk,jsj,jsi,jsh,jsg,jsf,jse,jsd,jsc,jsb,jsa,jrz,jry,jrx,jrw,jrv,jru,jrt,jrs,jrr,jrq,jrp,jro,jrn,jrm,jrl,jrk,jrj,jri,jrh,jrg,jrf,jre,jrd,jrc,jrb,jra,jqz,jqy,jqx,jqw,jqv,jqu,jqt,jqs,jqr,jqq,jqp,jqo,jqn,jqm,jql,jqk,jqj,jqi,jqh,jqg,jqf,jqe,jqd,jqc,jqb,xkq,xki,xkh,xkg,xkf,xke,xkd,kdc,kdb,kda,trivial⟩
