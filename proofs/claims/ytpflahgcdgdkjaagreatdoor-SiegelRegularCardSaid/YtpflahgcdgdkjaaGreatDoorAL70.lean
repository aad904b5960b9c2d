/- A part of the proof. -/
import Derived.Test.YtpflahgcdgdkjaaGreatDoorAL27
import Derived.Test.YtpflahgcdgdkjaaGreatDoorAL22
set_option linter.all false
namespace Go.AL
open Bool renaming false_eq_true -> qQ, and_eq_true -> qZ
open Nat renaming eq_of_beq_eq_true -> qX
open Go
def eqBZ:Bool->Bool->Bool
 |true,true=>true
 |false,false=>true
 |_,_=>false
theorem qxs:∀{a b:Bool},eqBZ a b=true->a=b:=by intro a b;cases a<;>cases b<;>simp[eqBZ]
def eqIZ:Int->Int->Bool
 |.ofNat a,.ofNat b=>Nat.beq a b
 |.negSucc a,.negSucc b=>Nat.beq a b
 |_,_=>false
theorem qxt{a b:Int}(h:eqIZ a b=true):a=b:=by
 cases a<;>cases b<;>simp only[eqIZ]at h
 ·rw[qX h]
 ·exact absurd h (by simp)
 ·exact absurd h (by simp)
 ·rw[qX h]
def eqOZ:Option Nat->Option Nat->Bool
 |none,none=>true
 |some a,some b=>Nat.beq a b
 |_,_=>false
theorem qxu{a b:Option Nat}(h:eqOZ a b=true):a=b:=by
 cases a<;>cases b<;>simp only[eqOZ]at h
 ·rfl
 ·exact absurd h (by simp)
 ·exact absurd h (by simp)
 ·rw[qX h]
def qjr:IntKind->Nat
 |.i8=>0 | .i16=>1 | .i32=>2 | .i64=>3 | .u8=>4 | .u16=>5 | .u32=>6 | .u64=>7
theorem qjs:∀{a b:IntKind},Nat.beq (qjr a) (qjr b)=true->a=b:=by intro a b;cases a<;>cases b<;>simp[qjr]
def eqVZ:AV->AV->Bool
 |.bool a,.bool b=>eqBZ a b
 |.int k a,.int k' b=>Nat.beq (qjr k) (qjr k') && eqIZ a b
 |.vec cs n c,.vec ds m d=>Nat.beq n m && (eqOZ c d && eqVLZ cs ds)
 |.agg cs,.agg ds=>eqVLZ cs ds
 |_,_=>false
 where eqVLZ:List AV->List AV->Bool
 | [],[]=>true
 |a::r,b::s=>eqVZ a b && eqVLZ r s
 |_,_=>false
theorem qxv(a:AV):∀b,eqVZ a b=true->a=b:=by
 induction a using AV.rec (motive_2:=λcs=>∀ds,eqVZ.eqVLZ cs ds=true->cs=ds)with
 |bool a=>intro b h;cases b<;>simp only[eqVZ,qQ]at h;rw[qxs h]
 |int k a=>
  intro b h;cases b<;>simp only[eqVZ,qZ,qQ]at h;rw[qjs h.1,qxt h.2]
 |vec cs n c ih=>
  intro b h;cases b<;>simp only[eqVZ,qZ,qQ]at h;rw[qX h.1,qxu h.2.1,ih _ h.2.2]
 |agg cs ih=>
  intro b h;cases b<;>simp only[eqVZ,qQ]at h;rw[ih _ h]
 |nil=>rename_i ds h;cases ds<;>simp only[eqVZ.eqVLZ,qQ]at h;rfl
 |cons x r hx hr=>
  rename_i ds h;cases ds<;>simp only[eqVZ.eqVLZ,qZ,qQ]at h;rw[hx _ h.1,hr _ h.2]
 |_=>intro b h;cases b<;>simp only[eqVZ,qQ]at h
abbrev MemZ:=List (FuncId×List AV×AV)
def qfi(f:FuncId)(args:List AV):MemZ->Option AV
 | []=>none
 |(g,a,v)::r=>match Nat.beq g f with
  |true=>match eqVZ.eqVLZ a args with
   |true=>some v
   |false=>qfi f args r
  |false=>qfi f args r
def zrc(P:Program)(Γ:Glob)(m:MemZ):Prop:= ∀x∈m,Ret P Γ x.1 x.2.1 [] x.2.2 []
theorem qqx:∀cs ds,eqVZ.eqVLZ cs ds=true->cs=ds:=by
 intro cs ds h;have:=qxv (.agg cs) (.agg ds) h;injection this
theorem qqy{P:Program}{Γ:Glob}{f:FuncId}{args:List AV}{v:AV}:∀{m:MemZ},zrc P Γ m->qfi f args m=some v->Ret P Γ f args [] v []:=by
 intro m
 induction m with
 |nil=>intro _ h;simp[qfi]at h
 |cons x r ih=>
  obtain⟨g,a,w⟩:=x;intro hm h;simp only[qfi]at h;have hr:=ih (λx hx=>hm x (List.mem_cons_of_mem _ hx));split at h
  ·rename_i e1;split at h
   ·rename_i e2;have:=hm (g,a,w) (by simp);rw[<-qX e1,<-qqx _ _ e2,<-Option.some.inj h];exact this
   ·exact hr h
  ·exact hr h
section
variable(P:Program)(Γ:Glob)(ok keep:FuncId->Bool)(kn:FuncId->List AV->Heap->Option (AV×Heap))(m:MemZ)(lf:Nat)
noncomputable def runP(call:zhu)(f:FuncId)(args:List AV)(H:Heap):Option (AV×Heap):=
 match P.funcs[f]? with
 |none=>none
 |some fn=>match fn.body.bind (zdb P Γ fn.ntmps)with
  |none=>none
  |some c=>match Nat.ble args.length fn.ntmps with
   |false=>none
   |true=>match exC ok call lf H.length c none (ET.ofL args 0 .lf) H with
    |none=>none
    |some (x,E',H')=>match jcm x with
     |false=>none
     |true=>finX H.length (keep f) (resA P fn.results.toList E'.env H') H'
noncomputable def jcn(f:FuncId)(args:List AV)(H:Heap):Option AV:=match H with
 | []=>qfi f args m
 |_::_=>none
noncomputable def exG:Nat->FRun
 |0=>λ_ _ _=>none
 |n+1=>λf args H=>match jcn m f args H with
  |some v=>some (v,[])
  |none=>match kn f args H with
   |some r=>some r
   |none=>runP P Γ ok keep lf (qxq (exG n)) f args H
end
variable{P:Program}{Γ:Glob}{ok keep:FuncId->Bool}{kn:FuncId->List AV->Heap->Option (AV×Heap)}{m:MemZ}{lf:Nat}
theorem qfj(hm:P.follows .mixedOrders=true)(hok:∀f,ok f=true->okFn P f=true)(h4:P.funcs[4095]?=none){call:zhu}(hc:zvv P Γ call){f:FuncId}{args:List AV}{H:Heap}{v:AV}{H':Heap}
  (h:runP P Γ ok keep lf call f args H=some (v,H')):Ret P Γ f args H v H':=by
 unfold runP at h;cases hf:P.funcs[f]? with
 |none=>rw[hf]at h;simp at h
 |some fn=>
  rw[hf]at h;simp only at h;cases hb:fn.body with
  |none=>rw[hb]at h;simp at h
  |some code=>
   rw[hb]at h;simp only[Option.bind_some]at h;cases hcc:zdb P Γ fn.ntmps code with
   |none=>rw[hcc]at h;simp at h
   |some c=>
    rw[hcc]at h;simp only at h;split at h
    ·simp at h
    ·rename_i hl;split at h
     ·simp at h
     ·rename_i x E1 H1 hx;split at h
      ·simp at h
      ·rename_i he;cases hr:resA P fn.results.toList E1.env H1 with
       |none=>rw[hr]at h;simp[finX]at h
       |some w=>
        rw[hr]at h;obtain⟨hF,hlen⟩:=qfh h;refine zok hf hb hcc (Nat.le_of_ble_eq_true hl) hlen (λe=>by rw[e,h4]at hf;simp at hf) ?_;rw[<-qqu];refine(qjp hok hc hm c).1 _ _ _ _ _ hx _ ⟨?_,w,hr,hF⟩;cases x<;>simp[jcm]at he<;>simp
theorem qjt(hm:P.follows .mixedOrders=true)(hok:∀f,ok f=true->okFn P f=true)(h4:P.funcs[4095]?=none)(hk:∀f args H v H',kn f args H=some (v,H')->Ret P Γ f args H v H')(hM:zrc P Γ m):
  ∀n f args H v H',exG P Γ ok keep kn m lf n f args H=some (v,H')->Ret P Γ f args H v H':=by
 intro n
 induction n with
 |zero=>intro f args H v H' h;simp[exG]at h
 |succ n ih=>
  intro f args H v H' h;simp only[exG]at h;split at h
  ·rename_i w hw;simp only[Option.some.injEq,Prod.mk.injEq]at h;obtain⟨rfl,rfl⟩:=h;unfold jcn at hw;split at hw
   ·exact qqy hM hw
   ·simp at hw
  ·split at h
   ·rename_i r hr;rw[h]at hr;exact hk _ _ _ _ _ hr
   ·exact qfj hm hok h4 (zzg ih) h
