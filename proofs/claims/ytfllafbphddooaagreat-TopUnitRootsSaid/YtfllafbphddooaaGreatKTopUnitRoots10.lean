/- Part of the proof of the statement TopUnitRoots: lemmas on the model's steps, Lean functions that say what the program's functions compute, and proofs that the calls do just that. No hypothesis is added. -/
import Derived.Test.YtfllafbphddooaaGreatKTopUnitRoots9
set_option linter.all false
set_option maxRecDepth 100000
namespace Go.Proofs.YtfllafbphddooaaGreatV
open Go Go.RowKit Go.Proofs.YtfllafbphddooaaGreat Go.Proofs.YtfllafbphddooaaGreatE Go.Proofs.YtfllafbphddooaaGreatW.PrintWords Go.Proofs.YtfllafbphddooaaGreatW.PrintLast Go.Proofs.YtfllafbphddooaaGreatW.PrintMore
theorem ff0:([172,124]:List Nat).all fU=true:=by decide +kernel
theorem ff1:([76,136]:List Nat).all fU=true:=by decide +kernel
theorem ff2:([33,44]:List Nat).all fU=true:=by decide +kernel
theorem ff3:([168,77]:List Nat).all fU=true:=by decide +kernel
theorem ff4:([21,13]:List Nat).all fU=true:=by decide +kernel
end Go.Proofs.YtfllafbphddooaaGreatV
set_option maxRecDepth 100000
namespace Go.Proofs.YtfllafbphddooaaGreatV
open Go Go.RowKit YtfllafbphddooaaGreat YtfllafbphddooaaGreatE YtfllafbphddooaaGreatW.PrintWords YtfllafbphddooaaGreatW.PrintLast YtfllafbphddooaaGreatW.PrintMore
theorem all_app {l m:List Nat} (h:l.all fU=true) (k:m.all fU=true):(l++m).all fU=true:=by rw [List.all_append,h,k];rfl
def ALL:List Nat:=NF++[193,57]++[181,41]++[28,152]++[197,17]++[104,40]++[177,113]++[109,141]++[56,185]++[145,165]++[173,53]++[184,137]++[88,157]++[69,156]++[101,140]++[85,29]++[129,73]++[89,188]++[92,93]++[65,24]++[37,5]++[161,97]++[105,133]++[149,61]++[120,60]++[12,8]++[172,124]++[76,136]++[33,44]++[168,77]++[21,13]
theorem all_:ALL.all fU=true:=all_app (all_app (all_app (all_app (all_app (all_app (all_app (all_app (all_app (all_app (all_app (all_app (all_app (all_app (all_app (all_app (all_app (all_app (all_app (all_app (all_app (all_app (all_app (all_app (all_app (all_app (all_app (all_app (all_app (all_app (nf_) fa0) fa1) fa2) fa3) fa4) fb0) fb1) fb2) fb3) fb4) fc0) fc1) fc2) fc3) fc4) fd0) fd1) fd2) fd3) fd4) xe0) xe1) xe2) xe3) xe4) ff0) ff1) ff2) ff3) ff4
theorem mem_:((List.range 256).all fun n=>ALL.contains n)=true:=by decide +kernel
theorem law (a:Int) (ha:(Lit.int .u8 a).wf=true):∃k,FX3 k a=some true:=by
 simp only [Lit.wf,Bool.and_eq_true,decide_eq_true_eq]at ha
 have e1:IntKind.min .u8=0:=by decide
 have e2:IntKind.max .u8=255:=by decide
 obtain⟨n,rfl⟩:∃n:Nat,a=n:=⟨a.toNat,by omega⟩
 have hm:=List.all_eq_true.1 mem_ n (List.mem_range.2 (by omega))
 exact⟨300,isT_eq (List.all_eq_true.1 all_ n (List.contains_iff_mem.1 hm))⟩
end Go.Proofs.YtfllafbphddooaaGreatV
namespace Go.Proofs.YtfllafbphddooaaGreat.Pure
open Go Go.RowKit Go.Proofs.YtfllafbphddooaaGreatW.PrintWords Go.Proofs.YtfllafbphddooaaGreatW.PrintLast
theorem TopUnitRoots (a:Int) (ha:(Lit.int .u8 a).wf=true) (w:World):
    Calls Tryz.prog 3 #[.int .u8 a] w fun e w'=>e= .returned (.bool true)∧Below w.heap.size w w':=
  Go.Proofs.YtfllafbphddooaaGreatV.calls3 a (Go.Proofs.YtfllafbphddooaaGreatV.law a ha) w
end Go.Proofs.YtfllafbphddooaaGreat.Pure
