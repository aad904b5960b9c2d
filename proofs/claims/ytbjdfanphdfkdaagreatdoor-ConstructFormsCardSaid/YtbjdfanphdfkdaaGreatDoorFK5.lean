/- A part of the proof. -/
import Derived.Test.YtbjdfanphdfkdaaGreatDoorPH
import Derived.Test.YtbjdfanphdfkdaaGreatDoorV5
set_option linter.all false
set_option maxRecDepth 100000
namespace Go.Proofs.YtbjdfanphdfkdaaGreatDoor
open Go Go.AL Go.Proofs
noncomputable section
def kub:N16 Ent:=⟨e176,e177,e178,e179,e180,e181,e182,e183,e184,e185,e186,e187,e188,e189,e190,e191⟩
theorem qlm:kub.All λk e=>EOT Tryz.prog G okB (256*0+16*11+k) e:=⟨k176,k177,k178,k179,k180,k181,k182,k183,k184,k185,k186,k187,k188,k189,k190,k191⟩
def vt0u(x22 x57 x71:Ent):N16 (N16 Ent):=⟨wt0,wt16 x22 x57 x71,wt32,wt48 x22 x57 x71,wt64 x22 x57 x71,wt80,wt96,kbr,kbs,kbt,kbu,kub,kbw,kbx,kby,kbz⟩
theorem kuf{x22 x57 x71:Ent}(h22:EOT Tryz.prog G okB 22 x22)(h57:EOT Tryz.prog G okB 57 x57)(h71:EOT Tryz.prog G okB 71 x71):(vt0u x22 x57 x71).All λj r=>r.All λk e=>EOT Tryz.prog G okB (256*0+16*j+k) e:=⟨kbq,xdy h22 h57 h71,xdz,xea h22 h57 h71,xeb h22 h57 h71,xec,xed,qym,qyn,qyo,qyp,qlm,qyr,qys,qyt,qyu⟩
def kuc:N16 Ent:=⟨e256,e257,e258,e259,e260,e261,e262,(.known g263),e264,e265,.no,.no,.no,.no,.no,.no⟩
theorem jzw:kuc.All λk e=>EOT Tryz.prog G okB (256*1+16*0+k) e:=⟨k256,k257,k258,k259,k260,k261,k262,(λ_ _ _ _ h=>xdx h),k264,k265,trivial,trivial,trivial,trivial,trivial,trivial⟩
def kud:N16 Ent:=⟨.no,.no,.no,.no,.no,.no,.no,.no,.no,.no,.no,.no,.no,e333,e334,e335⟩
theorem ktl:kud.All λk e=>EOT Tryz.prog G okB (256*1+16*4+k) e:=⟨trivial,trivial,trivial,trivial,trivial,trivial,trivial,trivial,trivial,trivial,trivial,trivial,trivial,k333,k334,k335⟩
def kue:N16 Ent:=⟨e352,e353,e354,e355,e356,.no,.no,.no,.no,.no,.no,.no,.no,.no,.no,e367⟩
theorem ktm:kue.All λk e=>EOT Tryz.prog G okB (256*1+16*6+k) e:=⟨k352,k353,k354,k355,k356,trivial,trivial,trivial,trivial,trivial,trivial,trivial,trivial,trivial,trivial,k367⟩
def vt1u:N16 (N16 Ent):=⟨kuc,kcc,kcd,kce,kud,kcg,kue,kci,nR,nR,nR,nR,nR,nR,nR,nR⟩
theorem kug:vt1u.All λj r=>r.All λk e=>EOT Tryz.prog G okB (256*1+16*j+k) e:=⟨jzw,qyw,qyx,qyy,ktl,qza,ktm,qzc,zdf _,zdf _,zdf _,zdf _,zdf _,zdf _,zdf _,zdf _⟩
def TMu(x22 x57 x71:Ent):Tab:=⟨vt0u x22 x57 x71,vt1u,nRR,nRR,nRR,nRR,nRR,nRR,nRR,nRR,nRR,nRR,nRR,nRR,nRR,vt15⟩
theorem kuu{x22 x57 x71:Ent}(h22:EOT Tryz.prog G okB 22 x22)(h57:EOT Tryz.prog G okB 57 x57)(h71:EOT Tryz.prog G okB 71 x71):TOK Tryz.prog G okB (TMu x22 x57 x71):=⟨kuf h22 h57 h71,kug,zha _,zha _,zha _,zha _,zha _,zha _,zha _,zha _,zha _,zha _,zha _,zha _,zha _,xee⟩
theorem kuv{x22 x57 x71:Ent}(h22:EOT Tryz.prog G okB 22 x22)(h57:EOT Tryz.prog G okB 57 x57)(h71:EOT Tryz.prog G okB 71 x71){n f:Nat}{args:List AV}{H:Heap}{v:AV}{H':Heap}(h:frun (exT (TMu x22 x57 x71) n) f args H=some (v,H')):Ret Tryz.prog G f args H v H':=qmz (by kernel_rfl) zxb zxa (kuu h22 h57 h71) n f args H v H' h
def runU(f:Nat)(a:List AV):O:=frun (exT (TMu e22 e57 e71) (nat_lit 1000)) f a []
def rowU(m h:Nat)(_:AV):Bool:=Bool.rec (motive:=λ_=>Bool) false
 (Bool.rec (motive:=λ_=>Bool) (okV (runU (nat_lit 22) [mV m]) (.tup [mV (hv m h),.bool true])) true (Nat.ble h (nat_lit 1)))
 (okV (runU (nat_lit 57) [mV m]) (.bool (Nat.blt (nat_lit 0) h)))
end
theorem ktn{f:Nat}{a:List AV}{v:AV}(h:okV (runU f a) v=true):Rt f a [] v []:=kuv k22 k57 k71 (qes h)
theorem qU0(m h:Nat)(v:AV)(e:rowU m h v=true):QA m h v:=by
 unfold rowU at e;cases h1:okV (runU (nat_lit 57) [mV m]) (.bool (Nat.blt (nat_lit 0) h))with
 |false=>rw[h1]at e;simp at e
 |true=>
  rw[h1]at e;refine⟨ktn h1,λe2=>?_⟩;rw[show Nat.ble h (nat_lit 1)=false from e2]at e;exact ktn e
theorem kerU(l:List (Nat×Nat×AV))(h:allK rowU l=true:=by kernel_rfl):AllL QA l:=qri qU0 h
