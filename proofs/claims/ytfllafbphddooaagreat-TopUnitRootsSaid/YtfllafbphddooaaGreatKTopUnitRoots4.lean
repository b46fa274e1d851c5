/- Part of the proof of the statement TopUnitRoots: lemmas on the model's steps, Lean functions that say what the program's functions compute, and proofs that the calls do just that. No hypothesis is added. -/
import Derived.Test.YtfllafbphddooaaGreatKTopUnitRoots3
set_option linter.all false
set_option maxRecDepth 100000
namespace Go.Proofs.YtfllafbphddooaaGreatV
open Go Go.RowKit YtfllafbphddooaaGreat YtfllafbphddooaaGreatE YtfllafbphddooaaGreatW.PrintWords YtfllafbphddooaaGreatW.PrintLast YtfllafbphddooaaGreatW.PrintMore
theorem ok54 (k:Nat):FeOk Tryz.prog (fe54 (FX54 k)):=
 fe_ok EOK HM (es:=fun k=>fes54) (fun k=>fz) (N:=4) (an:=an54) (c:=cd54) (rms:=rm54) (ask:=ask54) (rsk:=rsk54) (enc:=enc54) (dec:=dec54) (tbl:=[]) (fun s=>rfl) Tryz.func54 (by kernel_rfl) (by kernel_rfl) (by kernel_rfl) (fun k=>les54)
  (fz) (fun k s0=> .nil)
  (F:=fun k s=>FX54 k s.1.1) (fun k s r h=>(e54 s).trans (b54 k s.1.1 r h)) k
theorem b59 (k:Nat) (x0:ByteArray):LeO (FX59 k x0) (B59 x0):=LeO.refl _
theorem ok59 (k:Nat):FeOk Tryz.prog (fe59 (FX59 k)):=
 fe_ok EOK HM (es:=fun k=>fes59) (fun k=>fz) (N:=10) (an:=an59) (c:=cd59) (rms:=rm59) (ask:=ask59) (rsk:=rsk59) (enc:=enc59) (dec:=dec59) (tbl:=[]) (fun s=>rfl) Tryz.func59 (by kernel_rfl) (by kernel_rfl) (by kernel_rfl) (fun k=>les59)
  (fz) (fun k s0=> .nil)
  (F:=fun k s=>FX59 k s.1.1) (fun k s r h=>(e59 s).trans (b59 k s.1.1 r h)) k
theorem b10 (k:Nat) (x0:TI):LeO (FX10 k x0) (B10 (FX59 k) x0):=LeO.refl _
theorem ok10 (k:Nat):FeOk Tryz.prog (fe10 (FX10 k)):=
 fe_ok EOK HM (es:=fun k=>fes10 (FX59 k)) (fun k=>fc ⟨ok59 k,fz⟩) (N:=16) (an:=an10) (c:=cd10) (rms:=rm10) (ask:=ask10) (rsk:=rsk10) (enc:=enc10) (dec:=dec10) (tbl:=[]) (fun s=>rfl) Tryz.func10 (by kernel_rfl) (by kernel_rfl) (by kernel_rfl) (fun k=>les10)
  (fz) (fun k s0=> .nil)
  (F:=fun k s=>FX10 k s.1.1) (fun k s r h=>(e10 (FX59 k) s).trans (b10 k s.1.1 r h)) k
theorem b253l0 (k:Nat) (x0:Int) (y0:(List Int)):LeO (GX253l0 (k+1) x0 y0) (B253l0 (GX253l0 k) x0 y0):=by rw [GX253l0];exact LeO.refl _
theorem b253 (k:Nat) (y0:(List Int)):LeO (FX253 k y0) (B253 (GX253l0 k) y0):=LeO.refl _
theorem ok253 (k:Nat):FeOk Tryz.prog (fe253 (FX253 k)):=
 fe_ok EOK HM (es:=fun k=>fes253) (fun k=>fz) (N:=21) (an:=an253) (c:=cd253) (rms:=rm253) (ask:=ask253) (rsk:=rsk253) (enc:=enc253) (dec:=dec253) (tbl:=[p253.getD 0 ⟨0,[], .skip⟩]) (fun s=>rfl) Tryz.func253 (by kernel_rfl) (by kernel_rfl) (by kernel_rfl) (fun k=>les253 (GX253l0 k))
  (fc ⟨fun s=>rfl,fz⟩) (fun k s0=> .cons (by kernel_rfl) (by kernel_rfl) (fun s r h=>(e253l0 (GX253l0 k) s0 s).trans (b253l0 k s.1.1 s.2.1 r h)) (.nil))
  (F:=fun k s=>FX253 k s.2.1) (fun k s r h=>(e253 (GX253l0 k) s).trans (b253 k s.2.1 r h)) k
theorem b221l0 (k:Nat) (x0:ByteArray) (x4:Int) (x3:(List Int)):LeO (GX221l0 (k+1) x0 x4 x3) (B221l0 (GX221l1 k) (FX253 k) x0 x4 x3):=by rw [GX221l0];exact LeO.refl _
theorem b221l1 (k:Nat) (x0:ByteArray) (x4:Int) (x5:Int) (x6:Int) (x3:(List Int)):LeO (GX221l1 (k+1) x0 x4 x5 x6 x3) (B221l1 (GX221l0 k) (GX221l1 k) x0 x4 x5 x6 x3):=by rw [GX221l1];exact LeO.refl _
theorem b221 (k:Nat) (x0:ByteArray):LeO (FX221 k x0) (B221 (GX221l0 k) x0):=LeO.refl _
theorem ok221 (k:Nat):FeOk Tryz.prog (fe221 (FX221 k)):=
 fe_ok EOK HM (es:=fun k=>fes221 (FX253 k)) (fun k=>fc ⟨ok253 k,fz⟩) (N:=34) (an:=an221) (c:=cd221) (rms:=rm221) (ask:=ask221) (rsk:=rsk221) (enc:=enc221) (dec:=dec221) (tbl:=[p221.getD 0 ⟨0,[], .skip⟩,p221.getD 1 ⟨0,[], .skip⟩]) (fun s=>rfl) Tryz.func221 (by kernel_rfl) (by kernel_rfl) (by kernel_rfl) (fun k=>les221 (GX221l0 k) (GX221l1 k))
  (fc ⟨fun s=>rfl,fc ⟨fun s=>rfl,fz⟩⟩) (fun k s0=> .cons (by kernel_rfl) (by kernel_rfl) (fun s r h=>(e221l0 (GX221l0 k) (GX221l1 k) (FX253 k) s0 s).trans (b221l0 k s.1.1 s.1.2.1 s.2.1 r h)) (.cons (by kernel_rfl) (by kernel_rfl) (fun s r h=>(e221l1 (GX221l0 k) (GX221l1 k) (FX253 k) s0 s).trans (b221l1 k s.1.1 s.1.2.1 s.1.2.2.1 s.1.2.2.2.1 s.2.1 r h)) (.nil)))
  (F:=fun k s=>FX221 k s.1.1) (fun k s r h=>(e221 (GX221l0 k) (GX221l1 k) (FX253 k) s).trans (b221 k s.1.1 r h)) k
theorem b222l0 (k:Nat) (x0:Int) (x1:(List Int)) (x5:Int) (y0:(List Int)):LeO (GX222l0 (k+1) x0 x1 x5 y0) (B222l0 (GX222l0 k) x0 x1 x5 y0):=by rw [GX222l0];exact LeO.refl _
theorem b222 (k:Nat) (x1:(List Int)) (y0:(List Int)):LeO (FX222 k x1 y0) (B222 (GX222l0 k) (FX253 k) x1 y0):=LeO.refl _
theorem ok222 (k:Nat):FeOk Tryz.prog (fe222 (FX222 k)):=
 fe_ok EOK HM (es:=fun k=>fes222 (FX253 k)) (fun k=>fc ⟨ok253 k,fz⟩) (N:=43) (an:=an222) (c:=cd222) (rms:=rm222) (ask:=ask222) (rsk:=rsk222) (enc:=enc222) (dec:=dec222) (tbl:=[p222.getD 0 ⟨0,[], .skip⟩]) (fun s=>rfl) Tryz.func222 (by kernel_rfl) (by kernel_rfl) (by kernel_rfl) (fun k=>les222 (GX222l0 k))
  (fc ⟨fun s=>rfl,fz⟩) (fun k s0=> .cons (by kernel_rfl) (by kernel_rfl) (fun s r h=>(e222l0 (GX222l0 k) (FX253 k) s0 s).trans (b222l0 k s.1.1 s.1.2.1 s.1.2.2.1 s.2.1 r h)) (.nil))
  (F:=fun k s=>FX222 k s.1.1 s.2.1) (fun k s r h=>(e222 (GX222l0 k) (FX253 k) s).trans (b222 k s.1.1 s.2.1 r h)) k
theorem b147l0 (k:Nat) (x7:(List Int)) (x8:Int) (x11:Int) (x9:(List Int)) (x10:(List Int)):LeO (GX147l0 (k+1) x7 x8 x11 x9 x10) (B147l0 (GX147l1 k) (FX180 k) x7 x8 x11 x9 x10):=by rw [GX147l0];exact LeO.refl _
theorem b147l1 (k:Nat) (x7:(List Int)) (x8:Int) (x11:Int) (x9:(List Int)) (x10:(List Int)):LeO (GX147l1 (k+1) x7 x8 x11 x9 x10) (B147l1 (GX147l0 k) (GX147l2 k) (FX222 k) x7 x8 x11 x9 x10):=by rw [GX147l1];exact LeO.refl _
theorem b147l2 (k:Nat) (x7:(List Int)) (x8:Int) (x11:Int) (x12:Int) (x13:Int) (x14:Int) (x9:(List Int)) (x10:(List Int)):LeO (GX147l2 (k+1) x7 x8 x11 x12 x13 x14 x9 x10) (B147l2 (GX147l1 k) (GX147l2 k) x7 x8 x11 x12 x13 x14 x9 x10):=by rw [GX147l2];exact LeO.refl _
theorem b147 (k:Nat) (x0:ByteArray) (x1:ByteArray):LeO (FX147 k x0 x1) (B147 (GX147l0 k) (FX221 k) x0 x1):=LeO.refl _
theorem ok147 (k:Nat):FeOk Tryz.prog (fe147 (FX147 k)):=
 fe_ok EOK HM (es:=fun k=>fes147 (FX180 k) (FX221 k) (FX222 k)) (fun k=>fc ⟨ok180 k,fc ⟨ok221 k,fc ⟨ok222 k,fz⟩⟩⟩) (N:=148) (an:=an147) (c:=cd147) (rms:=rm147) (ask:=ask147) (rsk:=rsk147) (enc:=enc147) (dec:=dec147) (tbl:=[p147.getD 0 ⟨0,[], .skip⟩,p147.getD 1 ⟨0,[], .skip⟩,p147.getD 2 ⟨0,[], .skip⟩]) (fun s=>rfl) Tryz.func147 (by kernel_rfl) (by kernel_rfl) (by kernel_rfl) (fun k=>les147 (GX147l0 k) (GX147l1 k) (GX147l2 k))
  (fc ⟨fun s=>rfl,fc ⟨fun s=>rfl,fc ⟨fun s=>rfl,fz⟩⟩⟩) (fun k s0=> .cons (by kernel_rfl) (by kernel_rfl) (fun s r h=>(e147l0 (GX147l0 k) (GX147l1 k) (GX147l2 k) (FX180 k) (FX221 k) (FX222 k) s0 s).trans (b147l0 k s.1.1 s.1.2.1 s.1.2.2.1 s.2.1 s.2.2.1 r h)) (.cons (by kernel_rfl) (by kernel_rfl) (fun s r h=>(e147l1 (GX147l0 k) (GX147l1 k) (GX147l2 k) (FX180 k) (FX221 k) (FX222 k) s0 s).trans (b147l1 k s.1.1 s.1.2.1 s.1.2.2.1 s.2.1 s.2.2.1 r h)) (.cons (by kernel_rfl) (by kernel_rfl) (fun s r h=>(e147l2 (GX147l0 k) (GX147l1 k) (GX147l2 k) (FX180 k) (FX221 k) (FX222 k) s0 s).trans (b147l2 k s.1.1 s.1.2.1 s.1.2.2.1 s.1.2.2.2.1 s.1.2.2.2.2.1 s.1.2.2.2.2.2.1 s.2.1 s.2.2.1 r h)) (.nil))))
  (F:=fun k s=>FX147 k s.1.1 s.1.2.1) (fun k s r h=>(e147 (GX147l0 k) (GX147l1 k) (GX147l2 k) (FX180 k) (FX221 k) (FX222 k) s).trans (b147 k s.1.1 s.1.2.1 r h)) k
theorem b146l0 (k:Nat) (x0:ByteArray) (x1:ByteArray):LeO (GX146l0 (k+1) x0 x1) (B146l0 (GX146l0 k) (FX147 k) x0 x1):=by rw [GX146l0];exact LeO.refl _
theorem b146 (k:Nat) (x0:ByteArray) (x1:ByteArray):LeO (FX146 k x0 x1) (B146 (GX146l0 k) x0 x1):=LeO.refl _
theorem ok146 (k:Nat):FeOk Tryz.prog (fe146 (FX146 k)):=
 fe_ok EOK HM (es:=fun k=>fes146 (FX147 k)) (fun k=>fc ⟨ok147 k,fz⟩) (N:=18) (an:=an146) (c:=cd146) (rms:=rm146) (ask:=ask146) (rsk:=rsk146) (enc:=enc146) (dec:=dec146) (tbl:=[p146.getD 0 ⟨0,[], .skip⟩]) (fun s=>rfl) Tryz.func146 (by kernel_rfl) (by kernel_rfl) (by kernel_rfl) (fun k=>les146 (GX146l0 k))
  (fc ⟨fun s=>rfl,fz⟩) (fun k s0=> .cons (by kernel_rfl) (by kernel_rfl) (fun s r h=>(e146l0 (GX146l0 k) (FX147 k) s0 s).trans (b146l0 k s.1.1 s.1.2.1 r h)) (.nil))
  (F:=fun k s=>FX146 k s.1.1 s.1.2.1) (fun k s r h=>(e146 (GX146l0 k) (FX147 k) s).trans (b146 k s.1.1 s.1.2.1 r h)) k
theorem b148 (k:Nat) (x0:Bool) (x1:ByteArray):LeO (FX148 k x0 x1) (B148 x0 x1):=LeO.refl _
theorem ok148 (k:Nat):FeOk Tryz.prog (fe148 (FX148 k)):=
 fe_ok EOK HM (es:=fun k=>fes148) (fun k=>fz) (N:=12) (an:=an148) (c:=cd148) (rms:=rm148) (ask:=ask148) (rsk:=rsk148) (enc:=enc148) (dec:=dec148) (tbl:=[]) (fun s=>rfl) Tryz.func148 (by kernel_rfl) (by kernel_rfl) (by kernel_rfl) (fun k=>les148)
  (fz) (fun k s0=> .nil)
  (F:=fun k s=>FX148 k s.1.1 s.1.2.1) (fun k s r h=>(e148 s).trans (b148 k s.1.1 s.1.2.1 r h)) k
theorem b60 (k:Nat) (x0:TI) (x1:TI):LeO (FX60 k x0 x1) (B60 (FX146 k) (FX147 k) (FX148 k) x0 x1):=LeO.refl _
theorem ok60 (k:Nat):FeOk Tryz.prog (fe60 (FX60 k)):=
 fe_ok EOK HM (es:=fun k=>fes60 (FX146 k) (FX147 k) (FX148 k)) (fun k=>fc ⟨ok146 k,fc ⟨ok147 k,fc ⟨ok148 k,fz⟩⟩⟩) (N:=42) (an:=an60) (c:=cd60) (rms:=rm60) (ask:=ask60) (rsk:=rsk60) (enc:=enc60) (dec:=dec60) (tbl:=[]) (fun s=>rfl) Tryz.func60 (by kernel_rfl) (by kernel_rfl) (by kernel_rfl) (fun k=>les60)
  (fz) (fun k s0=> .nil)
  (F:=fun k s=>FX60 k s.1.1 s.1.2.1) (fun k s r h=>(e60 (FX146 k) (FX147 k) (FX148 k) s).trans (b60 k s.1.1 s.1.2.1 r h)) k
theorem b11 (k:Nat) (x0:Int) (x1:Int):LeO (FX11 k x0 x1) (B11 (FX25 k) (FX60 k) x0 x1):=LeO.refl _
theorem ok11 (k:Nat):FeOk Tryz.prog (fe11 (FX11 k)):=
 fe_ok EOK HM (es:=fun k=>fes11 (FX25 k) (FX60 k)) (fun k=>fc ⟨ok25 k,fc ⟨ok60 k,fz⟩⟩) (N:=10) (an:=an11) (c:=cd11) (rms:=rm11) (ask:=ask11) (rsk:=rsk11) (enc:=enc11) (dec:=dec11) (tbl:=[]) (fun s=>rfl) Tryz.func11 (by kernel_rfl) (by kernel_rfl) (by kernel_rfl) (fun k=>les11)
  (fz) (fun k s0=> .nil)
  (F:=fun k s=>FX11 k s.1.1 s.1.2.1) (fun k s r h=>(e11 (FX25 k) (FX60 k) s).trans (b11 k s.1.1 s.1.2.1 r h)) k
theorem b13 (k:Nat) (x0:TI):LeO (FX13 k x0) (B13 x0):=LeO.refl _
theorem ok13 (k:Nat):FeOk Tryz.prog (fe13 (FX13 k)):=
 fe_ok EOK HM (es:=fun k=>fes13) (fun k=>fz) (N:=5) (an:=an13) (c:=cd13) (rms:=rm13) (ask:=ask13) (rsk:=rsk13) (enc:=enc13) (dec:=dec13) (tbl:=[]) (fun s=>rfl) Tryz.func13 (by kernel_rfl) (by kernel_rfl) (by kernel_rfl) (fun k=>les13)
  (fz) (fun k s0=> .nil)
  (F:=fun k s=>FX13 k s.1.1) (fun k s r h=>(e13 s).trans (b13 k s.1.1 r h)) k
theorem b149l0 (k:Nat) (x8:Int) (x5:(List Int)) (x6:(List Int)) (x7:(List Int)):LeO (GX149l0 (k+1) x8 x5 x6 x7) (B149l0 (GX149l1 k) (FX180 k) x8 x5 x6 x7):=by rw [GX149l0];exact LeO.refl _
theorem b149l1 (k:Nat) (x8:Int) (x9:Int) (x10:Int) (x5:(List Int)) (x6:(List Int)) (x7:(List Int)):LeO (GX149l1 (k+1) x8 x9 x10 x5 x6 x7) (B149l1 (GX149l0 k) (GX149l1 k) x8 x9 x10 x5 x6 x7):=by rw [GX149l1];exact LeO.refl _
theorem b149 (k:Nat) (x0:ByteArray) (x1:ByteArray):LeO (FX149 k x0 x1) (B149 (GX149l0 k) (FX221 k) x0 x1):=LeO.refl _
theorem ok149 (k:Nat):FeOk Tryz.prog (fe149 (FX149 k)):=
 fe_ok EOK HM (es:=fun k=>fes149 (FX180 k) (FX221 k)) (fun k=>fc ⟨ok180 k,fc ⟨ok221 k,fz⟩⟩) (N:=70) (an:=an149) (c:=cd149) (rms:=rm149) (ask:=ask149) (rsk:=rsk149) (enc:=enc149) (dec:=dec149) (tbl:=[p149.getD 0 ⟨0,[], .skip⟩,p149.getD 1 ⟨0,[], .skip⟩]) (fun s=>rfl) Tryz.func149 (by kernel_rfl) (by kernel_rfl) (by kernel_rfl) (fun k=>les149 (GX149l0 k) (GX149l1 k))
  (fc ⟨fun s=>rfl,fc ⟨fun s=>rfl,fz⟩⟩) (fun k s0=> .cons (by kernel_rfl) (by kernel_rfl) (fun s r h=>(e149l0 (GX149l0 k) (GX149l1 k) (FX180 k) (FX221 k) s0 s).trans (b149l0 k s.1.1 s.2.1 s.2.2.1 s.2.2.2.1 r h)) (.cons (by kernel_rfl) (by kernel_rfl) (fun s r h=>(e149l1 (GX149l0 k) (GX149l1 k) (FX180 k) (FX221 k) s0 s).trans (b149l1 k s.1.1 s.1.2.1 s.1.2.2.1 s.2.1 s.2.2.1 s.2.2.2.1 r h)) (.nil)))
  (F:=fun k s=>FX149 k s.1.1 s.1.2.1) (fun k s r h=>(e149 (GX149l0 k) (GX149l1 k) (FX180 k) (FX221 k) s).trans (b149 k s.1.1 s.1.2.1 r h)) k
theorem b61 (k:Nat) (x0:TI) (x1:TI):LeO (FX61 k x0 x1) (B61 (FX148 k) (FX149 k) x0 x1):=LeO.refl _
theorem ok61 (k:Nat):FeOk Tryz.prog (fe61 (FX61 k)):=
 fe_ok EOK HM (es:=fun k=>fes61 (FX148 k) (FX149 k)) (fun k=>fc ⟨ok148 k,fc ⟨ok149 k,fz⟩⟩) (N:=16) (an:=an61) (c:=cd61) (rms:=rm61) (ask:=ask61) (rsk:=rsk61) (enc:=enc61) (dec:=dec61) (tbl:=[]) (fun s=>rfl) Tryz.func61 (by kernel_rfl) (by kernel_rfl) (by kernel_rfl) (fun k=>les61)
  (fz) (fun k s0=> .nil)
  (F:=fun k s=>FX61 k s.1.1 s.1.2.1) (fun k s r h=>(e61 (FX148 k) (FX149 k) s).trans (b61 k s.1.1 s.1.2.1 r h)) k
theorem b62 (k:Nat) (x0:TQ):LeO (FX62 k x0) (B62 x0):=LeO.refl _
theorem ok62 (k:Nat):FeOk Tryz.prog (fe62 (FX62 k)):=
 fe_ok EOK HM (es:=fun k=>fes62) (fun k=>fz) (N:=6) (an:=an62) (c:=cd62) (rms:=rm62) (ask:=ask62) (rsk:=rsk62) (enc:=enc62) (dec:=dec62) (tbl:=[]) (fun s=>rfl) Tryz.func62 (by kernel_rfl) (by kernel_rfl) (by kernel_rfl) (fun k=>les62)
  (fz) (fun k s0=> .nil)
  (F:=fun k s=>FX62 k s.1.1) (fun k s r h=>(e62 s).trans (b62 k s.1.1 r h)) k
theorem b12 (k:Nat) (x0:TQ) (x1:TQ):LeO (FX12 k x0 x1) (B12 (FX13 k) (FX60 k) (FX61 k) (FX62 k) x0 x1):=LeO.refl _
theorem ok12 (k:Nat):FeOk Tryz.prog (fe12 (FX12 k)):=
 fe_ok EOK HM (es:=fun k=>fes12 (FX13 k) (FX60 k) (FX61 k) (FX62 k)) (fun k=>fc ⟨ok13 k,fc ⟨ok60 k,fc ⟨ok61 k,fc ⟨ok62 k,fz⟩⟩⟩⟩) (N:=30) (an:=an12) (c:=cd12) (rms:=rm12) (ask:=ask12) (rsk:=rsk12) (enc:=enc12) (dec:=dec12) (tbl:=[]) (fun s=>rfl) Tryz.func12 (by kernel_rfl) (by kernel_rfl) (by kernel_rfl) (fun k=>les12)
  (fz) (fun k s0=> .nil)
  (F:=fun k s=>FX12 k s.1.1 s.1.2.1) (fun k s r h=>(e12 (FX13 k) (FX60 k) (FX61 k) (FX62 k) s).trans (b12 k s.1.1 s.1.2.1 r h)) k
theorem b91 (k:Nat) (x0:ByteArray):LeO (FX91 k x0) (B91 x0):=LeO.refl _
theorem ok91 (k:Nat):FeOk Tryz.prog (fe91 (FX91 k)):=
 fe_ok EOK HM (es:=fun k=>fes91) (fun k=>fz) (N:=14) (an:=an91) (c:=cd91) (rms:=rm91) (ask:=ask91) (rsk:=rsk91) (enc:=enc91) (dec:=dec91) (tbl:=[]) (fun s=>rfl) Tryz.func91 (by kernel_rfl) (by kernel_rfl) (by kernel_rfl) (fun k=>les91)
  (fz) (fun k s0=> .nil)
  (F:=fun k s=>FX91 k s.1.1) (fun k s r h=>(e91 s).trans (b91 k s.1.1 r h)) k
theorem b254 (k:Nat):LeO (FX254 k) (B254):=LeO.refl _
theorem ok254 (k:Nat):FeOk Tryz.prog (fe254 (FX254 k)):=
 fe_ok EOK HM (es:=fun k=>fes254) (fun k=>fz) (N:=2) (an:=an254) (c:=cd254) (rms:=rm254) (ask:=ask254) (rsk:=rsk254) (enc:=enc254) (dec:=dec254) (tbl:=[]) (fun s=>rfl) Tryz.func254 (by kernel_rfl) (by kernel_rfl) (by kernel_rfl) (fun k=>les254)
  (fz) (fun k s0=> .nil)
  (F:=fun k s=>FX254 k) (fun k s r h=>(e254 s).trans (b254 k r h)) k
theorem b223 (k:Nat) (x0:TI):LeO (FX223 k x0) (B223 (FX91 k) (FX254 k) x0):=LeO.refl _
theorem ok223 (k:Nat):FeOk Tryz.prog (fe223 (FX223 k)):=
 fe_ok EOK HM (es:=fun k=>fes223 (FX91 k) (FX254 k)) (fun k=>fc ⟨ok91 k,fc ⟨ok254 k,fz⟩⟩) (N:=21) (an:=an223) (c:=cd223) (rms:=rm223) (ask:=ask223) (rsk:=rsk223) (enc:=enc223) (dec:=dec223) (tbl:=[]) (fun s=>rfl) Tryz.func223 (by kernel_rfl) (by kernel_rfl) (by kernel_rfl) (fun k=>les223)
  (fz) (fun k s0=> .nil)
  (F:=fun k s=>FX223 k s.1.1) (fun k s r h=>(e223 (FX91 k) (FX254 k) s).trans (b223 k s.1.1 r h)) k
theorem b234l0 (k:Nat) (x3:Int) (y0:(List Int)):LeO (GX234l0 (k+1) x3 y0) (B234l0 (GX234l0 k) x3 y0):=by rw [GX234l0];exact LeO.refl _
theorem b234 (k:Nat) (y0:(List Int)):LeO (FX234 k y0) (B234 (GX234l0 k) y0):=LeO.refl _
theorem ok234 (k:Nat):FeOk Tryz.prog (fe234 (FX234 k)):=
 fe_ok EOK HM (es:=fun k=>fes234) (fun k=>fz) (N:=21) (an:=an234) (c:=cd234) (rms:=rm234) (ask:=ask234) (rsk:=rsk234) (enc:=enc234) (dec:=dec234) (tbl:=[p234.getD 0 ⟨0,[], .skip⟩]) (fun s=>rfl) Tryz.func234 (by kernel_rfl) (by kernel_rfl) (by kernel_rfl) (fun k=>les234 (GX234l0 k))
  (fc ⟨fun s=>rfl,fz⟩) (fun k s0=> .cons (by kernel_rfl) (by kernel_rfl) (fun s r h=>(e234l0 (GX234l0 k) s0 s).trans (b234l0 k s.1.1 s.2.1 r h)) (.nil))
  (F:=fun k s=>FX234 k s.2.1) (fun k s r h=>(e234 (GX234l0 k) s).trans (b234 k s.2.1 r h)) k
theorem b220l0 (k:Nat) (x0:ByteArray) (x12:Int) (x13:Int) (x3:(List Int)):LeO (GX220l0 (k+1) x0 x12 x13 x3) (B220l0 (GX220l0 k) (FX234 k) x0 x12 x13 x3):=by rw [GX220l0];exact LeO.refl _
theorem b220 (k:Nat) (x0:ByteArray):LeO (FX220 k x0) (B220 (GX220l0 k) x0):=LeO.refl _
theorem ok220 (k:Nat):FeOk Tryz.prog (fe220 (FX220 k)):=
 fe_ok EOK HM (es:=fun k=>fes220 (FX234 k)) (fun k=>fc ⟨ok234 k,fz⟩) (N:=39) (an:=an220) (c:=cd220) (rms:=rm220) (ask:=ask220) (rsk:=rsk220) (enc:=enc220) (dec:=dec220) (tbl:=[p220.getD 0 ⟨0,[], .skip⟩]) (fun s=>rfl) Tryz.func220 (by kernel_rfl) (by kernel_rfl) (by kernel_rfl) (fun k=>les220 (GX220l0 k))
  (fc ⟨fun s=>rfl,fz⟩) (fun k s0=> .cons (by kernel_rfl) (by kernel_rfl) (fun s r h=>(e220l0 (GX220l0 k) (FX234 k) s0 s).trans (b220l0 k s.1.1 s.1.2.1 s.1.2.2.1 s.2.1 r h)) (.nil))
  (F:=fun k s=>FX220 k s.1.1) (fun k s r h=>(e220 (GX220l0 k) (FX234 k) s).trans (b220 k s.1.1 r h)) k
theorem b259l0 (k:Nat) (x0:(List Int)) (x1:(List Int)) (x5:Int):LeO (GX259l0 (k+1) x0 x1 x5) (B259l0 (GX259l0 k) x0 x1 x5):=by rw [GX259l0];exact LeO.refl _
theorem b259 (k:Nat) (x0:(List Int)) (x1:(List Int)):LeO (FX259 k x0 x1) (B259 (GX259l0 k) x0 x1):=LeO.refl _
theorem ok259 (k:Nat):FeOk Tryz.prog (fe259 (FX259 k)):=
 fe_ok EOK HM (es:=fun k=>fes259) (fun k=>fz) (N:=41) (an:=an259) (c:=cd259) (rms:=rm259) (ask:=ask259) (rsk:=rsk259) (enc:=enc259) (dec:=dec259) (tbl:=[p259.getD 0 ⟨0,[], .skip⟩]) (fun s=>rfl) Tryz.func259 (by kernel_rfl) (by kernel_rfl) (by kernel_rfl) (fun k=>les259 (GX259l0 k))
  (fc ⟨fun s=>rfl,fz⟩) (fun k s0=> .cons (by kernel_rfl) (by kernel_rfl) (fun s r h=>(e259l0 (GX259l0 k) s0 s).trans (b259l0 k s.1.1 s.1.2.1 s.1.2.2.1 r h)) (.nil))
  (F:=fun k s=>FX259 k s.1.1 s.1.2.1) (fun k s r h=>(e259 (GX259l0 k) s).trans (b259 k s.1.1 s.1.2.1 r h)) k
theorem b272 (k:Nat) (x0:Int):LeO (FX272 k x0) (B272 x0):=LeO.refl _
theorem ok272 (k:Nat):FeOk Tryz.prog (fe272 (FX272 k)):=
 fe_ok EOK HM (es:=fun k=>fes272) (fun k=>fz) (N:=25) (an:=an272) (c:=cd272) (rms:=rm272) (ask:=ask272) (rsk:=rsk272) (enc:=enc272) (dec:=dec272) (tbl:=[]) (fun s=>rfl) Tryz.func272 (by kernel_rfl) (by kernel_rfl) (by kernel_rfl) (fun k=>les272)
  (fz) (fun k s0=> .nil)
  (F:=fun k s=>FX272 k s.1.1) (fun k s r h=>(e272 s).trans (b272 k s.1.1 r h)) k
theorem b261 (k:Nat) (x0:Int):LeO (FX261 k x0) (B261 (FX272 k) x0):=LeO.refl _
theorem ok261 (k:Nat):FeOk Tryz.prog (fe261 (FX261 k)):=
 fe_ok EOK HM (es:=fun k=>fes261 (FX272 k)) (fun k=>fc ⟨ok272 k,fz⟩) (N:=6) (an:=an261) (c:=cd261) (rms:=rm261) (ask:=ask261) (rsk:=rsk261) (enc:=enc261) (dec:=dec261) (tbl:=[]) (fun s=>rfl) Tryz.func261 (by kernel_rfl) (by kernel_rfl) (by kernel_rfl) (fun k=>les261)
  (fz) (fun k s0=> .nil)
  (F:=fun k s=>FX261 k s.1.1) (fun k s r h=>(e261 (FX272 k) s).trans (b261 k s.1.1 r h)) k
theorem b260l0 (k:Nat) (x2:Int) (x8:Int) (x9:Int) (x10:Int) (x11:Int) (x13:Int) (x14:Int) (x15:Int) (x16:Int):LeO (GX260l0 (k+1) x2 x8 x9 x10 x11 x13 x14 x15 x16) (B260l0 (GX260l0 k) (GX260l1 k) x2 x8 x9 x10 x11 x13 x14 x15 x16):=by rw [GX260l0];exact LeO.refl _
theorem b260l1 (k:Nat) (x2:Int) (x8:Int) (x9:Int) (x10:Int) (x14:Int) (x15:Int) (x16:Int) (x17:Int) (x18:Int):LeO (GX260l1 (k+1) x2 x8 x9 x10 x14 x15 x16 x17 x18) (B260l1 (GX260l1 k) x2 x8 x9 x10 x14 x15 x16 x17 x18):=by rw [GX260l1];exact LeO.refl _
theorem b260 (k:Nat) (x0:Int) (x1:Int) (x2:Int):LeO (FX260 k x0 x1 x2) (B260 (GX260l0 k) (FX261 k) x0 x1 x2):=LeO.refl _
theorem ok260 (k:Nat):FeOk Tryz.prog (fe260 (FX260 k)):=
 fe_ok EOK HM (es:=fun k=>fes260 (FX261 k)) (fun k=>fc ⟨ok261 k,fz⟩) (N:=135) (an:=an260) (c:=cd260) (rms:=rm260) (ask:=ask260) (rsk:=rsk260) (enc:=enc260) (dec:=dec260) (tbl:=[p260.getD 0 ⟨0,[], .skip⟩,p260.getD 1 ⟨0,[], .skip⟩]) (fun s=>rfl) Tryz.func260 (by kernel_rfl) (by kernel_rfl) (by kernel_rfl) (fun k=>les260 (GX260l0 k) (GX260l1 k))
  (fc ⟨fun s=>rfl,fc ⟨fun s=>rfl,fz⟩⟩) (fun k s0=> .cons (by kernel_rfl) (by kernel_rfl) (fun s r h=>(e260l0 (GX260l0 k) (GX260l1 k) (FX261 k) s0 s).trans (b260l0 k s.1.1 s.1.2.1 s.1.2.2.1 s.1.2.2.2.1 s.1.2.2.2.2.1 s.1.2.2.2.2.2.1 s.1.2.2.2.2.2.2.1 s.1.2.2.2.2.2.2.2.1 s.1.2.2.2.2.2.2.2.2.1 r h)) (.cons (by kernel_rfl) (by kernel_rfl) (fun s r h=>(e260l1 (GX260l0 k) (GX260l1 k) (FX261 k) s0 s).trans (b260l1 k s.1.1 s.1.2.1 s.1.2.2.1 s.1.2.2.2.1 s.1.2.2.2.2.1 s.1.2.2.2.2.2.1 s.1.2.2.2.2.2.2.1 s.1.2.2.2.2.2.2.2.1 s.1.2.2.2.2.2.2.2.2.1 r h)) (.nil)))
  (F:=fun k s=>FX260 k s.1.1 s.1.2.1 s.1.2.2.1) (fun k s r h=>(e260 (GX260l0 k) (GX260l1 k) (FX261 k) s).trans (b260 k s.1.1 s.1.2.1 s.1.2.2.1 r h)) k
theorem b262l0 (k:Nat) (x1:Int) (x12:(List Int)) (x13:Int) (x14:Int) (x5:(List Int)):LeO (GX262l0 (k+1) x1 x12 x13 x14 x5) (B262l0 (GX262l0 k) x1 x12 x13 x14 x5):=by rw [GX262l0];exact LeO.refl _
theorem b262 (k:Nat) (x0:(List Int)) (x1:Int):LeO (FX262 k x0 x1) (B262 (GX262l0 k) x0 x1):=LeO.refl _
theorem ok262 (k:Nat):FeOk Tryz.prog (fe262 (FX262 k)):=
 fe_ok EOK HM (es:=fun k=>fes262) (fun k=>fz) (N:=40) (an:=an262) (c:=cd262) (rms:=rm262) (ask:=ask262) (rsk:=rsk262) (enc:=enc262) (dec:=dec262) (tbl:=[p262.getD 0 ⟨0,[], .skip⟩]) (fun s=>rfl) Tryz.func262 (by kernel_rfl) (by kernel_rfl) (by kernel_rfl) (fun k=>les262 (GX262l0 k))
  (fc ⟨fun s=>rfl,fz⟩) (fun k s0=> .cons (by kernel_rfl) (by kernel_rfl) (fun s r h=>(e262l0 (GX262l0 k) s0 s).trans (b262l0 k s.1.1 s.1.2.1 s.1.2.2.1 s.1.2.2.2.1 s.2.1 r h)) (.nil))
  (F:=fun k s=>FX262 k s.1.1 s.1.2.1) (fun k s r h=>(e262 (GX262l0 k) s).trans (b262 k s.1.1 s.1.2.1 r h)) k
theorem b252 (k:Nat) (x0:Int) (x1:Int):LeO (FX252 k x0 x1) (B252 x0 x1):=LeO.refl _
theorem ok252 (k:Nat):FeOk Tryz.prog (fe252 (FX252 k)):=
 fe_ok EOK HM (es:=fun k=>fes252) (fun k=>fz) (N:=51) (an:=an252) (c:=cd252) (rms:=rm252) (ask:=ask252) (rsk:=rsk252) (enc:=enc252) (dec:=dec252) (tbl:=[]) (fun s=>rfl) Tryz.func252 (by kernel_rfl) (by kernel_rfl) (by kernel_rfl) (fun k=>les252)
  (fz) (fun k s0=> .nil)
  (F:=fun k s=>FX252 k s.1.1 s.1.2.1) (fun k s r h=>(e252 s).trans (b252 k s.1.1 s.1.2.1 r h)) k
theorem b263l0 (k:Nat) (x1:(List Int)) (x5:Int) (x6:Int) (x7:Int) (x8:Int) (y0:(List Int)):LeO (GX263l0 (k+1) x1 x5 x6 x7 x8 y0) (B263l0 (GX263l0 k) (GX263l1 k) (FX251 k) (FX252 k) x1 x5 x6 x7 x8 y0):=by rw [GX263l0];exact LeO.refl _
theorem b263l1 (k:Nat) (x1:(List Int)) (x5:Int) (x6:Int) (x11:Int) (x12:Int) (x104:Int) (x105:Int) (y0:(List Int)):LeO (GX263l1 (k+1) x1 x5 x6 x11 x12 x104 x105 y0) (B263l1 (GX263l1 k) (GX263l2 k) (FX232 k) (FX251 k) (FX252 k) x1 x5 x6 x11 x12 x104 x105 y0):=by rw [GX263l1];exact LeO.refl _
theorem b263l2 (k:Nat) (x1:(List Int)) (x5:Int) (x6:Int) (x17:Int) (x156:Int) (x157:Int) (y0:(List Int)):LeO (GX263l2 (k+1) x1 x5 x6 x17 x156 x157 y0) (B263l2 (GX263l2 k) (FX251 k) x1 x5 x6 x17 x156 x157 y0):=by rw [GX263l2];exact LeO.refl _
theorem b263 (k:Nat) (x1:(List Int)) (y0:(List Int)):LeO (FX263 k x1 y0) (B263 (GX263l0 k) (FX251 k) (FX260 k) x1 y0):=LeO.refl _
theorem ok263 (k:Nat):FeOk Tryz.prog (fe263 (FX263 k)):=
 fe_ok EOK HM (es:=fun k=>fes263 (FX232 k) (FX251 k) (FX252 k) (FX260 k)) (fun k=>fc ⟨ok232 k,fc ⟨ok251 k,fc ⟨ok252 k,fc ⟨ok260 k,fz⟩⟩⟩⟩) (N:=186) (an:=an263) (c:=cd263) (rms:=rm263) (ask:=ask263) (rsk:=rsk263) (enc:=enc263) (dec:=dec263) (tbl:=[p263.getD 0 ⟨0,[], .skip⟩,p263.getD 1 ⟨0,[], .skip⟩,p263.getD 2 ⟨0,[], .skip⟩]) (fun s=>rfl) Tryz.func263 (by kernel_rfl) (by kernel_rfl) (by kernel_rfl) (fun k=>les263 (GX263l0 k) (GX263l1 k) (GX263l2 k))
  (fc ⟨fun s=>rfl,fc ⟨fun s=>rfl,fc ⟨fun s=>rfl,fz⟩⟩⟩) (fun k s0=> .cons (by kernel_rfl) (by kernel_rfl) (fun s r h=>(e263l0 (GX263l0 k) (GX263l1 k) (GX263l2 k) (FX232 k) (FX251 k) (FX252 k) (FX260 k) s0 s).trans (b263l0 k s.1.1 s.1.2.1 s.1.2.2.1 s.1.2.2.2.1 s.1.2.2.2.2.1 s.2.1 r h)) (.cons (by kernel_rfl) (by kernel_rfl) (fun s r h=>(e263l1 (GX263l0 k) (GX263l1 k) (GX263l2 k) (FX232 k) (FX251 k) (FX252 k) (FX260 k) s0 s).trans (b263l1 k s.1.1 s.1.2.1 s.1.2.2.1 s.1.2.2.2.1 s.1.2.2.2.2.1 s.1.2.2.2.2.2.1 s.1.2.2.2.2.2.2.1 s.2.1 r h)) (.cons (by kernel_rfl) (by kernel_rfl) (fun s r h=>(e263l2 (GX263l0 k) (GX263l1 k) (GX263l2 k) (FX232 k) (FX251 k) (FX252 k) (FX260 k) s0 s).trans (b263l2 k s.1.1 s.1.2.1 s.1.2.2.1 s.1.2.2.2.1 s.1.2.2.2.2.1 s.1.2.2.2.2.2.1 s.2.1 r h)) (.nil))))
  (F:=fun k s=>FX263 k s.1.1 s.2.1) (fun k s r h=>(e263 (GX263l0 k) (GX263l1 k) (GX263l2 k) (FX232 k) (FX251 k) (FX252 k) (FX260 k) s).trans (b263 k s.1.1 s.2.1 r h)) k
theorem b233l0 (k:Nat) (x0:(List Int)) (x1:(List Int)) (x7:Int) (x8:Int) (x6:(List Int)):LeO (GX233l0 (k+1) x0 x1 x7 x8 x6) (B233l0 (GX233l0 k) (FX234 k) (FX260 k) x0 x1 x7 x8 x6):=by rw [GX233l0];exact LeO.refl _
theorem b233l1 (k:Nat) (x9:Int) (x10:(List Int)) (x12:Int) (x14:Int) (x11:(List Int)) (x13:(List Int)):LeO (GX233l1 (k+1) x9 x10 x12 x14 x11 x13) (B233l1 (GX233l1 k) (GX233l2 k) (FX263 k) x9 x10 x12 x14 x11 x13):=by rw [GX233l1];exact LeO.refl _
theorem b233l2 (k:Nat) (x9:Int) (x12:Int) (x96:Int) (x97:Int) (x11:(List Int)) (x13:(List Int)):LeO (GX233l2 (k+1) x9 x12 x96 x97 x11 x13) (B233l2 (GX233l2 k) (FX234 k) x9 x12 x96 x97 x11 x13):=by rw [GX233l2];exact LeO.refl _
theorem b233 (k:Nat) (x0:(List Int)) (x1:(List Int)):LeO (FX233 k x0 x1) (B233 (GX233l0 k) (GX233l1 k) (FX234 k) (FX259 k) (FX261 k) (FX262 k) x0 x1):=LeO.refl _
theorem ok233 (k:Nat):FeOk Tryz.prog (fe233 (FX233 k)):=
 fe_ok EOK HM (es:=fun k=>fes233 (FX234 k) (FX259 k) (FX260 k) (FX261 k) (FX262 k) (FX263 k)) (fun k=>fc ⟨ok234 k,fc ⟨ok259 k,fc ⟨ok260 k,fc ⟨ok261 k,fc ⟨ok262 k,fc ⟨ok263 k,fz⟩⟩⟩⟩⟩⟩) (N:=137) (an:=an233) (c:=cd233) (rms:=rm233) (ask:=ask233) (rsk:=rsk233) (enc:=enc233) (dec:=dec233) (tbl:=[p233.getD 0 ⟨0,[], .skip⟩,p233.getD 1 ⟨0,[], .skip⟩,p233.getD 2 ⟨0,[], .skip⟩]) (fun s=>rfl) Tryz.func233 (by kernel_rfl) (by kernel_rfl) (by kernel_rfl) (fun k=>les233 (GX233l0 k) (GX233l1 k) (GX233l2 k))
  (fc ⟨fun s=>rfl,fc ⟨fun s=>rfl,fc ⟨fun s=>rfl,fz⟩⟩⟩) (fun k s0=> .cons (by kernel_rfl) (by kernel_rfl) (fun s r h=>(e233l0 (GX233l0 k) (GX233l1 k) (GX233l2 k) (FX234 k) (FX259 k) (FX260 k) (FX261 k) (FX262 k) (FX263 k) s0 s).trans (b233l0 k s.1.1 s.1.2.1 s.1.2.2.1 s.1.2.2.2.1 s.2.1 r h)) (.cons (by kernel_rfl) (by kernel_rfl) (fun s r h=>(e233l1 (GX233l0 k) (GX233l1 k) (GX233l2 k) (FX234 k) (FX259 k) (FX260 k) (FX261 k) (FX262 k) (FX263 k) s0 s).trans (b233l1 k s.1.1 s.1.2.1 s.1.2.2.1 s.1.2.2.2.1 s.2.1 s.2.2.1 r h)) (.cons (by kernel_rfl) (by kernel_rfl) (fun s r h=>(e233l2 (GX233l0 k) (GX233l1 k) (GX233l2 k) (FX234 k) (FX259 k) (FX260 k) (FX261 k) (FX262 k) (FX263 k) s0 s).trans (b233l2 k s.1.1 s.1.2.1 s.1.2.2.1 s.1.2.2.2.1 s.2.1 s.2.2.1 r h)) (.nil))))
  (F:=fun k s=>FX233 k s.1.1 s.1.2.1) (fun k s r h=>(e233 (GX233l0 k) (GX233l1 k) (GX233l2 k) (FX234 k) (FX259 k) (FX260 k) (FX261 k) (FX262 k) (FX263 k) s).trans (b233 k s.1.1 s.1.2.1 r h)) k
theorem b224l0 (k:Nat) (x5:(List Int)) (x6:(List Int)):LeO (GX224l0 (k+1) x5 x6) (B224l0 (GX224l0 k) (FX192 k) (FX233 k) x5 x6):=by rw [GX224l0];exact LeO.refl _
theorem b224 (k:Nat) (x0:ByteArray) (x1:ByteArray):LeO (FX224 k x0 x1) (B224 (GX224l0 k) (FX220 k) x0 x1):=LeO.refl _
theorem ok224 (k:Nat):FeOk Tryz.prog (fe224 (FX224 k)):=
 fe_ok EOK HM (es:=fun k=>fes224 (FX192 k) (FX220 k) (FX233 k)) (fun k=>fc ⟨ok192 k,fc ⟨ok220 k,fc ⟨ok233 k,fz⟩⟩⟩) (N:=26) (an:=an224) (c:=cd224) (rms:=rm224) (ask:=ask224) (rsk:=rsk224) (enc:=enc224) (dec:=dec224) (tbl:=[p224.getD 0 ⟨0,[], .skip⟩]) (fun s=>rfl) Tryz.func224 (by kernel_rfl) (by kernel_rfl) (by kernel_rfl) (fun k=>les224 (GX224l0 k))
  (fc ⟨fun s=>rfl,fz⟩) (fun k s0=> .cons (by kernel_rfl) (by kernel_rfl) (fun s r h=>(e224l0 (GX224l0 k) (FX192 k) (FX220 k) (FX233 k) s0 s).trans (b224l0 k s.1.1 s.1.2.1 r h)) (.nil))
  (F:=fun k s=>FX224 k s.1.1 s.1.2.1) (fun k s r h=>(e224 (GX224l0 k) (FX192 k) (FX220 k) (FX233 k) s).trans (b224 k s.1.1 s.1.2.1 r h)) k
theorem b150 (k:Nat) (x0:TQ):LeO (FX150 k x0) (B150 (FX91 k) (FX223 k) (FX224 k) x0):=LeO.refl _
theorem ok150 (k:Nat):FeOk Tryz.prog (fe150 (FX150 k)):=
 fe_ok EOK HM (es:=fun k=>fes150 (FX91 k) (FX223 k) (FX224 k)) (fun k=>fc ⟨ok91 k,fc ⟨ok223 k,fc ⟨ok224 k,fz⟩⟩⟩) (N:=44) (an:=an150) (c:=cd150) (rms:=rm150) (ask:=ask150) (rsk:=rsk150) (enc:=enc150) (dec:=dec150) (tbl:=[]) (fun s=>rfl) Tryz.func150 (by kernel_rfl) (by kernel_rfl) (by kernel_rfl) (fun k=>les150)
  (fz) (fun k s0=> .nil)
  (F:=fun k s=>FX150 k s.1.1) (fun k s r h=>(e150 (FX91 k) (FX223 k) (FX224 k) s).trans (b150 k s.1.1 r h)) k
theorem b157 (k:Nat) (x0:TI):LeO (FX157 k x0) (B157 x0):=LeO.refl _
theorem ok157 (k:Nat):FeOk Tryz.prog (fe157 (FX157 k)):=
 fe_ok EOK HM (es:=fun k=>fes157) (fun k=>fz) (N:=9) (an:=an157) (c:=cd157) (rms:=rm157) (ask:=ask157) (rsk:=rsk157) (enc:=enc157) (dec:=dec157) (tbl:=[]) (fun s=>rfl) Tryz.func157 (by kernel_rfl) (by kernel_rfl) (by kernel_rfl) (fun k=>les157)
  (fz) (fun k s0=> .nil)
  (F:=fun k s=>FX157 k s.1.1) (fun k s r h=>(e157 s).trans (b157 k s.1.1 r h)) k
theorem b71 (k:Nat) (x0:TQ):LeO (FX71 k x0) (B71 (FX157 k) x0):=LeO.refl _
theorem ok71 (k:Nat):FeOk Tryz.prog (fe71 (FX71 k)):=
 fe_ok EOK HM (es:=fun k=>fes71 (FX157 k)) (fun k=>fc ⟨ok157 k,fz⟩) (N:=6) (an:=an71) (c:=cd71) (rms:=rm71) (ask:=ask71) (rsk:=rsk71) (enc:=enc71) (dec:=dec71) (tbl:=[]) (fun s=>rfl) Tryz.func71 (by kernel_rfl) (by kernel_rfl) (by kernel_rfl) (fun k=>les71)
  (fz) (fun k s0=> .nil)
  (F:=fun k s=>FX71 k s.1.1) (fun k s r h=>(e71 (FX157 k) s).trans (b71 k s.1.1 r h)) k
theorem b151 (k:Nat) (x0:TQ) (x1:TQ) (x2:TQ):LeO (FX151 k x0 x1 x2) (B151 (FX71 k) x0 x1 x2):=LeO.refl _
theorem ok151 (k:Nat):FeOk Tryz.prog (fe151 (FX151 k)):=
 fe_ok EOK HM (es:=fun k=>fes151 (FX71 k)) (fun k=>fc ⟨ok71 k,fz⟩) (N:=10) (an:=an151) (c:=cd151) (rms:=rm151) (ask:=ask151) (rsk:=rsk151) (enc:=enc151) (dec:=dec151) (tbl:=[]) (fun s=>rfl) Tryz.func151 (by kernel_rfl) (by kernel_rfl) (by kernel_rfl) (fun k=>les151)
  (fz) (fun k s0=> .nil)
  (F:=fun k s=>FX151 k s.1.1 s.1.2.1 s.1.2.2.1) (fun k s r h=>(e151 (FX71 k) s).trans (b151 k s.1.1 s.1.2.1 s.1.2.2.1 r h)) k
theorem b219l0 (k:Nat) (x1:(List Int)) (x20:(List Int)) (x21:Int) (x22:Int) (x5:(List Int)):LeO (GX219l0 (k+1) x1 x20 x21 x22 x5) (B219l0 (GX219l1 k) (FX234 k) x1 x20 x21 x22 x5):=by rw [GX219l0];exact LeO.refl _
theorem b219l1 (k:Nat) (x1:(List Int)) (x6:Int) (x7:Int) (x8:Int) (x20:(List Int)) (x21:Int) (x22:Int) (x27:(List Int)) (x28:Int) (x29:Int) (x5:(List Int)):LeO (GX219l1 (k+1) x1 x6 x7 x8 x20 x21 x22 x27 x28 x29 x5) (B219l1 (GX219l0 k) (GX219l1 k) (FX251 k) (FX252 k) x1 x6 x7 x8 x20 x21 x22 x27 x28 x29 x5):=by rw [GX219l1];exact LeO.refl _
theorem b219 (k:Nat) (x0:(List Int)) (x1:(List Int)):LeO (FX219 k x0 x1) (B219 (GX219l0 k) x0 x1):=LeO.refl _
theorem ok219 (k:Nat):FeOk Tryz.prog (fe219 (FX219 k)):=
 fe_ok EOK HM (es:=fun k=>fes219 (FX234 k) (FX251 k) (FX252 k)) (fun k=>fc ⟨ok234 k,fc ⟨ok251 k,fc ⟨ok252 k,fz⟩⟩⟩) (N:=80) (an:=an219) (c:=cd219) (rms:=rm219) (ask:=ask219) (rsk:=rsk219) (enc:=enc219) (dec:=dec219) (tbl:=[p219.getD 0 ⟨0,[], .skip⟩,p219.getD 1 ⟨0,[], .skip⟩]) (fun s=>rfl) Tryz.func219 (by kernel_rfl) (by kernel_rfl) (by kernel_rfl) (fun k=>les219 (GX219l0 k) (GX219l1 k))
  (fc ⟨fun s=>rfl,fc ⟨fun s=>rfl,fz⟩⟩) (fun k s0=> .cons (by kernel_rfl) (by kernel_rfl) (fun s r h=>(e219l0 (GX219l0 k) (GX219l1 k) (FX234 k) (FX251 k) (FX252 k) s0 s).trans (b219l0 k s.1.1 s.1.2.1 s.1.2.2.1 s.1.2.2.2.1 s.2.1 r h)) (.cons (by kernel_rfl) (by kernel_rfl) (fun s r h=>(e219l1 (GX219l0 k) (GX219l1 k) (FX234 k) (FX251 k) (FX252 k) s0 s).trans (b219l1 k s.1.1 s.1.2.1 s.1.2.2.1 s.1.2.2.2.1 s.1.2.2.2.2.1 s.1.2.2.2.2.2.1 s.1.2.2.2.2.2.2.1 s.1.2.2.2.2.2.2.2.1 s.1.2.2.2.2.2.2.2.2.1 s.1.2.2.2.2.2.2.2.2.2.1 s.2.1 r h)) (.nil)))
  (F:=fun k s=>FX219 k s.1.1 s.1.2.1) (fun k s r h=>(e219 (GX219l0 k) (GX219l1 k) (FX234 k) (FX251 k) (FX252 k) s).trans (b219 k s.1.1 s.1.2.1 r h)) k
theorem b144 (k:Nat) (x0:ByteArray) (x1:ByteArray):LeO (FX144 k x0 x1) (B144 (FX192 k) (FX219 k) (FX220 k) x0 x1):=LeO.refl _
theorem ok144 (k:Nat):FeOk Tryz.prog (fe144 (FX144 k)):=
 fe_ok EOK HM (es:=fun k=>fes144 (FX192 k) (FX219 k) (FX220 k)) (fun k=>fc ⟨ok192 k,fc ⟨ok219 k,fc ⟨ok220 k,fz⟩⟩⟩) (N:=11) (an:=an144) (c:=cd144) (rms:=rm144) (ask:=ask144) (rsk:=rsk144) (enc:=enc144) (dec:=dec144) (tbl:=[]) (fun s=>rfl) Tryz.func144 (by kernel_rfl) (by kernel_rfl) (by kernel_rfl) (fun k=>les144)
  (fz) (fun k s0=> .nil)
  (F:=fun k s=>FX144 k s.1.1 s.1.2.1) (fun k s r h=>(e144 (FX192 k) (FX219 k) (FX220 k) s).trans (b144 k s.1.1 s.1.2.1 r h)) k
theorem b188l0 (k:Nat) (x1:Int) (x5:(List Int)) (x6:(List Int)):LeO (GX188l0 (k+1) x1 x5 x6) (B188l0 (GX188l0 k) (FX192 k) (FX219 k) x1 x5 x6):=by rw [GX188l0];exact LeO.refl _
theorem b188 (k:Nat) (x0:ByteArray) (x1:Int):LeO (FX188 k x0 x1) (B188 (GX188l0 k) (FX220 k) x0 x1):=LeO.refl _
theorem ok188 (k:Nat):FeOk Tryz.prog (fe188 (FX188 k)):=
 fe_ok EOK HM (es:=fun k=>fes188 (FX192 k) (FX219 k) (FX220 k)) (fun k=>fc ⟨ok192 k,fc ⟨ok219 k,fc ⟨ok220 k,fz⟩⟩⟩) (N:=25) (an:=an188) (c:=cd188) (rms:=rm188) (ask:=ask188) (rsk:=rsk188) (enc:=enc188) (dec:=dec188) (tbl:=[p188.getD 0 ⟨0,[], .skip⟩]) (fun s=>rfl) Tryz.func188 (by kernel_rfl) (by kernel_rfl) (by kernel_rfl) (fun k=>les188 (GX188l0 k))
  (fc ⟨fun s=>rfl,fz⟩) (fun k s0=> .cons (by kernel_rfl) (by kernel_rfl) (fun s r h=>(e188l0 (GX188l0 k) (FX192 k) (FX219 k) (FX220 k) s0 s).trans (b188l0 k s.1.1 s.1.2.1 s.1.2.2.1 r h)) (.nil))
  (F:=fun k s=>FX188 k s.1.1 s.1.2.1) (fun k s r h=>(e188 (GX188l0 k) (FX192 k) (FX219 k) (FX220 k) s).trans (b188 k s.1.1 s.1.2.1 r h)) k
theorem b217l0 (k:Nat) (x8:Int) (x27:Int) (x28:Int) (x5:(List Int)) (x6:(List Int)) (x7:(List Int)):LeO (GX217l0 (k+1) x8 x27 x28 x5 x6 x7) (B217l0 (GX217l0 k) (FX192 k) (FX251 k) x8 x27 x28 x5 x6 x7):=by rw [GX217l0];exact LeO.refl _
theorem b217 (k:Nat) (x0:ByteArray) (x1:ByteArray):LeO (FX217 k x0 x1) (B217 (GX217l0 k) (FX220 k) x0 x1):=LeO.refl _
theorem ok217 (k:Nat):FeOk Tryz.prog (fe217 (FX217 k)):=
 fe_ok EOK HM (es:=fun k=>fes217 (FX192 k) (FX220 k) (FX251 k)) (fun k=>fc ⟨ok192 k,fc ⟨ok220 k,fc ⟨ok251 k,fz⟩⟩⟩) (N:=60) (an:=an217) (c:=cd217) (rms:=rm217) (ask:=ask217) (rsk:=rsk217) (enc:=enc217) (dec:=dec217) (tbl:=[p217.getD 0 ⟨0,[], .skip⟩]) (fun s=>rfl) Tryz.func217 (by kernel_rfl) (by kernel_rfl) (by kernel_rfl) (fun k=>les217 (GX217l0 k))
  (fc ⟨fun s=>rfl,fz⟩) (fun k s0=> .cons (by kernel_rfl) (by kernel_rfl) (fun s r h=>(e217l0 (GX217l0 k) (FX192 k) (FX220 k) (FX251 k) s0 s).trans (b217l0 k s.1.1 s.1.2.1 s.1.2.2.1 s.2.1 s.2.2.1 s.2.2.2.1 r h)) (.nil))
  (F:=fun k s=>FX217 k s.1.1 s.1.2.1) (fun k s r h=>(e217 (GX217l0 k) (FX192 k) (FX220 k) (FX251 k) s).trans (b217 k s.1.1 s.1.2.1 r h)) k
theorem b218 (k:Nat) (x0:ByteArray) (x1:ByteArray):LeO (FX218 k x0 x1) (B218 x0 x1):=LeO.refl _
theorem ok218 (k:Nat):FeOk Tryz.prog (fe218 (FX218 k)):=
 fe_ok EOK HM (es:=fun k=>fes218) (fun k=>fz) (N:=27) (an:=an218) (c:=cd218) (rms:=rm218) (ask:=ask218) (rsk:=rsk218) (enc:=enc218) (dec:=dec218) (tbl:=[]) (fun s=>rfl) Tryz.func218 (by kernel_rfl) (by kernel_rfl) (by kernel_rfl) (fun k=>les218)
  (fz) (fun k s0=> .nil)
  (F:=fun k s=>FX218 k s.1.1 s.1.2.1) (fun k s r h=>(e218 s).trans (b218 k s.1.1 s.1.2.1 r h)) k
theorem b271 (k:Nat) (x0:Int):LeO (FX271 k x0) (B271 x0):=LeO.refl _
theorem ok271 (k:Nat):FeOk Tryz.prog (fe271 (FX271 k)):=
 fe_ok EOK HM (es:=fun k=>fes271) (fun k=>fz) (N:=6) (an:=an271) (c:=cd271) (rms:=rm271) (ask:=ask271) (rsk:=rsk271) (enc:=enc271) (dec:=dec271) (tbl:=[]) (fun s=>rfl) Tryz.func271 (by kernel_rfl) (by kernel_rfl) (by kernel_rfl) (fun k=>les271)
  (fz) (fun k s0=> .nil)
  (F:=fun k s=>FX271 k s.1.1) (fun k s r h=>(e271 s).trans (b271 k s.1.1 r h)) k
theorem b255 (k:Nat) (x0:ByteArray):LeO (FX255 k x0) (B255 (FX271 k) x0):=LeO.refl _
theorem ok255 (k:Nat):FeOk Tryz.prog (fe255 (FX255 k)):=
 fe_ok EOK HM (es:=fun k=>fes255 (FX271 k)) (fun k=>fc ⟨ok271 k,fz⟩) (N:=13) (an:=an255) (c:=cd255) (rms:=rm255) (ask:=ask255) (rsk:=rsk255) (enc:=enc255) (dec:=dec255) (tbl:=[]) (fun s=>rfl) Tryz.func255 (by kernel_rfl) (by kernel_rfl) (by kernel_rfl) (fun k=>les255)
  (fz) (fun k s0=> .nil)
  (F:=fun k s=>FX255 k s.1.1) (fun k s r h=>(e255 (FX271 k) s).trans (b255 k s.1.1 r h)) k
theorem b256 (k:Nat) (x0:Int):LeO (FX256 k x0) (B256 x0):=LeO.refl _
theorem ok256 (k:Nat):FeOk Tryz.prog (fe256 (FX256 k)):=
 fe_ok EOK HM (es:=fun k=>fes256) (fun k=>fz) (N:=15) (an:=an256) (c:=cd256) (rms:=rm256) (ask:=ask256) (rsk:=rsk256) (enc:=enc256) (dec:=dec256) (tbl:=[]) (fun s=>rfl) Tryz.func256 (by kernel_rfl) (by kernel_rfl) (by kernel_rfl) (fun k=>les256)
  (fz) (fun k s0=> .nil)
  (F:=fun k s=>FX256 k s.1.1) (fun k s r h=>(e256 s).trans (b256 k s.1.1 r h)) k
theorem b225l0 (k:Nat) (x0:ByteArray) (x1:Int) (x5:ByteArray) (x6:Int):LeO (GX225l0 (k+1) x0 x1 x5 x6) (B225l0 (GX225l0 k) (FX188 k) (FX217 k) (FX218 k) (FX256 k) x0 x1 x5 x6):=by rw [GX225l0];exact LeO.refl _
theorem b225 (k:Nat) (x0:ByteArray) (x1:Int):LeO (FX225 k x0 x1) (B225 (GX225l0 k) (FX255 k) x0 x1):=LeO.refl _
theorem ok225 (k:Nat):FeOk Tryz.prog (fe225 (FX225 k)):=
 fe_ok EOK HM (es:=fun k=>fes225 (FX188 k) (FX217 k) (FX218 k) (FX255 k) (FX256 k)) (fun k=>fc ⟨ok188 k,fc ⟨ok217 k,fc ⟨ok218 k,fc ⟨ok255 k,fc ⟨ok256 k,fz⟩⟩⟩⟩⟩) (N:=31) (an:=an225) (c:=cd225) (rms:=rm225) (ask:=ask225) (rsk:=rsk225) (enc:=enc225) (dec:=dec225) (tbl:=[p225.getD 0 ⟨0,[], .skip⟩]) (fun s=>rfl) Tryz.func225 (by kernel_rfl) (by kernel_rfl) (by kernel_rfl) (fun k=>les225 (GX225l0 k))
  (fc ⟨fun s=>rfl,fz⟩) (fun k s0=> .cons (by kernel_rfl) (by kernel_rfl) (fun s r h=>(e225l0 (GX225l0 k) (FX188 k) (FX217 k) (FX218 k) (FX255 k) (FX256 k) s0 s).trans (b225l0 k s.1.1 s.1.2.1 s.1.2.2.1 s.1.2.2.2.1 r h)) (.nil))
  (F:=fun k s=>FX225 k s.1.1 s.1.2.1) (fun k s r h=>(e225 (GX225l0 k) (FX188 k) (FX217 k) (FX218 k) (FX255 k) (FX256 k) s).trans (b225 k s.1.1 s.1.2.1 r h)) k
theorem b155 (k:Nat) (x0:TI):LeO (FX155 k x0) (B155 (FX144 k) (FX225 k) x0):=LeO.refl _
theorem ok155 (k:Nat):FeOk Tryz.prog (fe155 (FX155 k)):=
 fe_ok EOK HM (es:=fun k=>fes155 (FX144 k) (FX225 k)) (fun k=>fc ⟨ok144 k,fc ⟨ok225 k,fz⟩⟩) (N:=20) (an:=an155) (c:=cd155) (rms:=rm155) (ask:=ask155) (rsk:=rsk155) (enc:=enc155) (dec:=dec155) (tbl:=[]) (fun s=>rfl) Tryz.func155 (by kernel_rfl) (by kernel_rfl) (by kernel_rfl) (fun k=>les155)
  (fz) (fun k s0=> .nil)
  (F:=fun k s=>FX155 k s.1.1) (fun k s r h=>(e155 (FX144 k) (FX225 k) s).trans (b155 k s.1.1 r h)) k
theorem b69 (k:Nat) (x0:TQ):LeO (FX69 k x0) (B69 (FX122 k) (FX155 k) x0):=LeO.refl _
theorem ok69 (k:Nat):FeOk Tryz.prog (fe69 (FX69 k)):=
 fe_ok EOK HM (es:=fun k=>fes69 (FX122 k) (FX155 k)) (fun k=>fc ⟨ok122 k,fc ⟨ok155 k,fz⟩⟩) (N:=32) (an:=an69) (c:=cd69) (rms:=rm69) (ask:=ask69) (rsk:=rsk69) (enc:=enc69) (dec:=dec69) (tbl:=[]) (fun s=>rfl) Tryz.func69 (by kernel_rfl) (by kernel_rfl) (by kernel_rfl) (fun k=>les69)
  (fz) (fun k s0=> .nil)
  (F:=fun k s=>FX69 k s.1.1) (fun k s r h=>(e69 (FX122 k) (FX155 k) s).trans (b69 k s.1.1 r h)) k
theorem b152 (k:Nat) (x0:TQ) (x1:TQ) (x2:TQ):LeO (FX152 k x0 x1 x2) (B152 (FX69 k) x0 x1 x2):=LeO.refl _
theorem ok152 (k:Nat):FeOk Tryz.prog (fe152 (FX152 k)):=
 fe_ok EOK HM (es:=fun k=>fes152 (FX69 k)) (fun k=>fc ⟨ok69 k,fz⟩) (N:=15) (an:=an152) (c:=cd152) (rms:=rm152) (ask:=ask152) (rsk:=rsk152) (enc:=enc152) (dec:=dec152) (tbl:=[]) (fun s=>rfl) Tryz.func152 (by kernel_rfl) (by kernel_rfl) (by kernel_rfl) (fun k=>les152)
  (fz) (fun k s0=> .nil)
  (F:=fun k s=>FX152 k s.1.1 s.1.2.1 s.1.2.2.1) (fun k s r h=>(e152 (FX69 k) s).trans (b152 k s.1.1 s.1.2.1 s.1.2.2.1 r h)) k
theorem b153 (k:Nat) (x0:TQ) (x1:TQ) (x2:TQ):LeO (FX153 k x0 x1 x2) (B153 (FX78 k) x0 x1 x2):=LeO.refl _
theorem ok153 (k:Nat):FeOk Tryz.prog (fe153 (FX153 k)):=
 fe_ok EOK HM (es:=fun k=>fes153 (FX78 k)) (fun k=>fc ⟨ok78 k,fz⟩) (N:=9) (an:=an153) (c:=cd153) (rms:=rm153) (ask:=ask153) (rsk:=rsk153) (enc:=enc153) (dec:=dec153) (tbl:=[]) (fun s=>rfl) Tryz.func153 (by kernel_rfl) (by kernel_rfl) (by kernel_rfl) (fun k=>les153)
  (fz) (fun k s0=> .nil)
  (F:=fun k s=>FX153 k s.1.1 s.1.2.1 s.1.2.2.1) (fun k s r h=>(e153 (FX78 k) s).trans (b153 k s.1.1 s.1.2.1 s.1.2.2.1 r h)) k
theorem b143 (k:Nat) (x0:Bool) (x1:ByteArray):LeO (FX143 k x0 x1) (B143 x0 x1):=LeO.refl _
theorem ok143 (k:Nat):FeOk Tryz.prog (fe143 (FX143 k)):=
 fe_ok EOK HM (es:=fun k=>fes143) (fun k=>fz) (N:=12) (an:=an143) (c:=cd143) (rms:=rm143) (ask:=ask143) (rsk:=rsk143) (enc:=enc143) (dec:=dec143) (tbl:=[]) (fun s=>rfl) Tryz.func143 (by kernel_rfl) (by kernel_rfl) (by kernel_rfl) (fun k=>les143)
  (fz) (fun k s0=> .nil)
  (F:=fun k s=>FX143 k s.1.1 s.1.2.1) (fun k s r h=>(e143 s).trans (b143 k s.1.1 s.1.2.1 r h)) k
theorem b56 (k:Nat) (x0:TI) (x1:TI):LeO (FX56 k x0 x1) (B56 (FX143 k) (FX144 k) x0 x1):=LeO.refl _
theorem ok56 (k:Nat):FeOk Tryz.prog (fe56 (FX56 k)):=
 fe_ok EOK HM (es:=fun k=>fes56 (FX143 k) (FX144 k)) (fun k=>fc ⟨ok143 k,fc ⟨ok144 k,fz⟩⟩) (N:=16) (an:=an56) (c:=cd56) (rms:=rm56) (ask:=ask56) (rsk:=rsk56) (enc:=enc56) (dec:=dec56) (tbl:=[]) (fun s=>rfl) Tryz.func56 (by kernel_rfl) (by kernel_rfl) (by kernel_rfl) (fun k=>les56)
  (fz) (fun k s0=> .nil)
  (F:=fun k s=>FX56 k s.1.1 s.1.2.1) (fun k s r h=>(e56 (FX143 k) (FX144 k) s).trans (b56 k s.1.1 s.1.2.1 r h)) k
theorem b189 (k:Nat) (x0:ByteArray) (x1:ByteArray):LeO (FX189 k x0 x1) (B189 (FX192 k) (FX220 k) (FX233 k) x0 x1):=LeO.refl _
theorem ok189 (k:Nat):FeOk Tryz.prog (fe189 (FX189 k)):=
 fe_ok EOK HM (es:=fun k=>fes189 (FX192 k) (FX220 k) (FX233 k)) (fun k=>fc ⟨ok192 k,fc ⟨ok220 k,fc ⟨ok233 k,fz⟩⟩⟩) (N:=20) (an:=an189) (c:=cd189) (rms:=rm189) (ask:=ask189) (rsk:=rsk189) (enc:=enc189) (dec:=dec189) (tbl:=[]) (fun s=>rfl) Tryz.func189 (by kernel_rfl) (by kernel_rfl) (by kernel_rfl) (fun k=>les189)
  (fz) (fun k s0=> .nil)
  (F:=fun k s=>FX189 k s.1.1 s.1.2.1) (fun k s r h=>(e189 (FX192 k) (FX220 k) (FX233 k) s).trans (b189 k s.1.1 s.1.2.1 r h)) k
theorem b160 (k:Nat) (x0:TI) (x1:TI):LeO (FX160 k x0 x1) (B160 (FX143 k) (FX189 k) (FX224 k) x0 x1):=LeO.refl _
theorem ok160 (k:Nat):FeOk Tryz.prog (fe160 (FX160 k)):=
 fe_ok EOK HM (es:=fun k=>fes160 (FX143 k) (FX189 k) (FX224 k)) (fun k=>fc ⟨ok143 k,fc ⟨ok189 k,fc ⟨ok224 k,fz⟩⟩⟩) (N:=40) (an:=an160) (c:=cd160) (rms:=rm160) (ask:=ask160) (rsk:=rsk160) (enc:=enc160) (dec:=dec160) (tbl:=[]) (fun s=>rfl) Tryz.func160 (by kernel_rfl) (by kernel_rfl) (by kernel_rfl) (fun k=>les160)
  (fz) (fun k s0=> .nil)
  (F:=fun k s=>FX160 k s.1.1 s.1.2.1) (fun k s r h=>(e160 (FX143 k) (FX189 k) (FX224 k) s).trans (b160 k s.1.1 s.1.2.1 r h)) k
theorem b156 (k:Nat) (x0:TQ) (x1:TQ):LeO (FX156 k x0 x1) (B156 (FX56 k) (FX144 k) (FX159 k) (FX160 k) x0 x1):=LeO.refl _
theorem ok156 (k:Nat):FeOk Tryz.prog (fe156 (FX156 k)):=
 fe_ok EOK HM (es:=fun k=>fes156 (FX56 k) (FX144 k) (FX159 k) (FX160 k)) (fun k=>fc ⟨ok56 k,fc ⟨ok144 k,fc ⟨ok159 k,fc ⟨ok160 k,fz⟩⟩⟩⟩) (N:=31) (an:=an156) (c:=cd156) (rms:=rm156) (ask:=ask156) (rsk:=rsk156) (enc:=enc156) (dec:=dec156) (tbl:=[]) (fun s=>rfl) Tryz.func156 (by kernel_rfl) (by kernel_rfl) (by kernel_rfl) (fun k=>les156)
  (fz) (fun k s0=> .nil)
  (F:=fun k s=>FX156 k s.1.1 s.1.2.1) (fun k s r h=>(e156 (FX56 k) (FX144 k) (FX159 k) (FX160 k) s).trans (b156 k s.1.1 s.1.2.1 r h)) k
theorem b226 (k:Nat) (x0:TI) (x1:TI):LeO (FX226 k x0 x1) (B226 (FX218 k) x0 x1):=LeO.refl _
theorem ok226 (k:Nat):FeOk Tryz.prog (fe226 (FX226 k)):=
 fe_ok EOK HM (es:=fun k=>fes226 (FX218 k)) (fun k=>fc ⟨ok218 k,fz⟩) (N:=24) (an:=an226) (c:=cd226) (rms:=rm226) (ask:=ask226) (rsk:=rsk226) (enc:=enc226) (dec:=dec226) (tbl:=[]) (fun s=>rfl) Tryz.func226 (by kernel_rfl) (by kernel_rfl) (by kernel_rfl) (fun k=>les226)
  (fz) (fun k s0=> .nil)
  (F:=fun k s=>FX226 k s.1.1 s.1.2.1) (fun k s r h=>(e226 (FX218 k) s).trans (b226 k s.1.1 s.1.2.1 r h)) k
theorem b166 (k:Nat) (x0:TQ) (x1:TQ):LeO (FX166 k x0 x1) (B166 (FX143 k) (FX144 k) (FX226 k) x0 x1):=LeO.refl _
theorem ok166 (k:Nat):FeOk Tryz.prog (fe166 (FX166 k)):=
 fe_ok EOK HM (es:=fun k=>fes166 (FX143 k) (FX144 k) (FX226 k)) (fun k=>fc ⟨ok143 k,fc ⟨ok144 k,fc ⟨ok226 k,fz⟩⟩⟩) (N:=36) (an:=an166) (c:=cd166) (rms:=rm166) (ask:=ask166) (rsk:=rsk166) (enc:=enc166) (dec:=dec166) (tbl:=[]) (fun s=>rfl) Tryz.func166 (by kernel_rfl) (by kernel_rfl) (by kernel_rfl) (fun k=>les166)
  (fz) (fun k s0=> .nil)
  (F:=fun k s=>FX166 k s.1.1 s.1.2.1) (fun k s r h=>(e166 (FX143 k) (FX144 k) (FX226 k) s).trans (b166 k s.1.1 s.1.2.1 r h)) k
theorem b80 (k:Nat) (x0:TQ) (x1:TQ) (x2:TQ):LeO (FX80 k x0 x1 x2) (B80 (FX71 k) (FX156 k) (FX166 k) x0 x1 x2):=LeO.refl _
theorem ok80 (k:Nat):FeOk Tryz.prog (fe80 (FX80 k)):=
 fe_ok EOK HM (es:=fun k=>fes80 (FX71 k) (FX156 k) (FX166 k)) (fun k=>fc ⟨ok71 k,fc ⟨ok156 k,fc ⟨ok166 k,fz⟩⟩⟩) (N:=33) (an:=an80) (c:=cd80) (rms:=rm80) (ask:=ask80) (rsk:=rsk80) (enc:=enc80) (dec:=dec80) (tbl:=[]) (fun s=>rfl) Tryz.func80 (by kernel_rfl) (by kernel_rfl) (by kernel_rfl) (fun k=>les80)
  (fz) (fun k s0=> .nil)
  (F:=fun k s=>FX80 k s.1.1 s.1.2.1 s.1.2.2.1) (fun k s r h=>(e80 (FX71 k) (FX156 k) (FX166 k) s).trans (b80 k s.1.1 s.1.2.1 s.1.2.2.1 r h)) k
theorem b154 (k:Nat) (x0:TQ) (x1:TQ) (x2:TQ):LeO (FX154 k x0 x1 x2) (B154 (FX80 k) x0 x1 x2):=LeO.refl _
theorem ok154 (k:Nat):FeOk Tryz.prog (fe154 (FX154 k)):=
 fe_ok EOK HM (es:=fun k=>fes154 (FX80 k)) (fun k=>fc ⟨ok80 k,fz⟩) (N:=12) (an:=an154) (c:=cd154) (rms:=rm154) (ask:=ask154) (rsk:=rsk154) (enc:=enc154) (dec:=dec154) (tbl:=[]) (fun s=>rfl) Tryz.func154 (by kernel_rfl) (by kernel_rfl) (by kernel_rfl) (fun k=>les154)
  (fz) (fun k s0=> .nil)
  (F:=fun k s=>FX154 k s.1.1 s.1.2.1 s.1.2.2.1) (fun k s r h=>(e154 (FX80 k) s).trans (b154 k s.1.1 s.1.2.1 s.1.2.2.1 r h)) k
theorem b63l0 (k:Nat) (x3:(List (Int×Int))) (x18:Int) (x19:Int) (x4:TQ) (x5:TQ) (x6:TQ) (x17:(List TQ)):LeO (GX63l0 (k+1) x3 x18 x19 x4 x5 x6 x17) (B63l0 (GX63l0 k) (GX63l1 k) (FX150 k) x3 x18 x19 x4 x5 x6 x17):=by rw [GX63l0];exact LeO.refl _
theorem b63l1 (k:Nat) (x29:(List (Int×Int))) (x30:Int) (x31:Int) (x4:TQ) (x5:TQ) (x6:TQ):LeO (GX63l1 (k+1) x29 x30 x31 x4 x5 x6) (B63l1 (GX63l1 k) (FX151 k) (FX152 k) (FX153 k) (FX154 k) x29 x30 x31 x4 x5 x6):=by rw [GX63l1];exact LeO.refl _
theorem b63 (k:Nat) (x0:TQ) (x1:TQ) (x2:TQ) (x3:(List (Int×Int))):LeO (FX63 k x0 x1 x2 x3) (B63 (GX63l0 k) x0 x1 x2 x3):=LeO.refl _
theorem ok63 (k:Nat):FeOk Tryz.prog (fe63 (FX63 k)):=
 fe_ok EOK HM (es:=fun k=>fes63 (FX150 k) (FX151 k) (FX152 k) (FX153 k) (FX154 k)) (fun k=>fc ⟨ok150 k,fc ⟨ok151 k,fc ⟨ok152 k,fc ⟨ok153 k,fc ⟨ok154 k,fz⟩⟩⟩⟩⟩) (N:=44) (an:=an63) (c:=cd63) (rms:=rm63) (ask:=ask63) (rsk:=rsk63) (enc:=enc63) (dec:=dec63) (tbl:=[p63.getD 0 ⟨0,[], .skip⟩,p63.getD 1 ⟨0,[], .skip⟩]) (fun s=>rfl) Tryz.func63 (by kernel_rfl) (by kernel_rfl) (by kernel_rfl) (fun k=>les63 (GX63l0 k) (GX63l1 k))
  (fc ⟨fun s=>rfl,fc ⟨fun s=>rfl,fz⟩⟩) (fun k s0=> .cons (by kernel_rfl) (by kernel_rfl) (fun s r h=>(e63l0 (GX63l0 k) (GX63l1 k) (FX150 k) (FX151 k) (FX152 k) (FX153 k) (FX154 k) s0 s).trans (b63l0 k s.1.1 s.1.2.1 s.1.2.2.1 s.2.1 s.2.2.1 s.2.2.2.1 s.2.2.2.2.1 r h)) (.cons (by kernel_rfl) (by kernel_rfl) (fun s r h=>(e63l1 (GX63l0 k) (GX63l1 k) (FX150 k) (FX151 k) (FX152 k) (FX153 k) (FX154 k) s0 s).trans (b63l1 k s.1.1 s.1.2.1 s.1.2.2.1 s.2.1 s.2.2.1 s.2.2.2.1 r h)) (.nil)))
  (F:=fun k s=>FX63 k s.1.1 s.1.2.1 s.1.2.2.1 s.1.2.2.2.1) (fun k s r h=>(e63 (GX63l0 k) (GX63l1 k) (FX150 k) (FX151 k) (FX152 k) (FX153 k) (FX154 k) s).trans (b63 k s.1.1 s.1.2.1 s.1.2.2.1 s.1.2.2.2.1 r h)) k
theorem b64 (k:Nat):LeO (FX64 k) (B64):=LeO.refl _
theorem ok64 (k:Nat):FeOk Tryz.prog (fe64 (FX64 k)):=
 fe_ok EOK HM (es:=fun k=>fes64) (fun k=>fz) (N:=2) (an:=an64) (c:=cd64) (rms:=rm64) (ask:=ask64) (rsk:=rsk64) (enc:=enc64) (dec:=dec64) (tbl:=[]) (fun s=>rfl) Tryz.func64 (by kernel_rfl) (by kernel_rfl) (by kernel_rfl) (fun k=>les64)
  (fz) (fun k s0=> .nil)
  (F:=fun k s=>FX64 k) (fun k s r h=>(e64 s).trans (b64 k r h)) k
theorem b65 (k:Nat):LeO (FX65 k) (B65):=LeO.refl _
theorem ok65 (k:Nat):FeOk Tryz.prog (fe65 (FX65 k)):=
 fe_ok EOK HM (es:=fun k=>fes65) (fun k=>fz) (N:=2) (an:=an65) (c:=cd65) (rms:=rm65) (ask:=ask65) (rsk:=rsk65) (enc:=enc65) (dec:=dec65) (tbl:=[]) (fun s=>rfl) Tryz.func65 (by kernel_rfl) (by kernel_rfl) (by kernel_rfl) (fun k=>les65)
  (fz) (fun k s0=> .nil)
  (F:=fun k s=>FX65 k) (fun k s r h=>(e65 s).trans (b65 k r h)) k
theorem b66 (k:Nat):LeO (FX66 k) (B66):=LeO.refl _
theorem ok66 (k:Nat):FeOk Tryz.prog (fe66 (FX66 k)):=
 fe_ok EOK HM (es:=fun k=>fes66) (fun k=>fz) (N:=2) (an:=an66) (c:=cd66) (rms:=rm66) (ask:=ask66) (rsk:=rsk66) (enc:=enc66) (dec:=dec66) (tbl:=[]) (fun s=>rfl) Tryz.func66 (by kernel_rfl) (by kernel_rfl) (by kernel_rfl) (fun k=>les66)
  (fz) (fun k s0=> .nil)
  (F:=fun k s=>FX66 k) (fun k s r h=>(e66 s).trans (b66 k r h)) k
theorem b67 (k:Nat):LeO (FX67 k) (B67):=LeO.refl _
theorem ok67 (k:Nat):FeOk Tryz.prog (fe67 (FX67 k)):=
 fe_ok EOK HM (es:=fun k=>fes67) (fun k=>fz) (N:=2) (an:=an67) (c:=cd67) (rms:=rm67) (ask:=ask67) (rsk:=rsk67) (enc:=enc67) (dec:=dec67) (tbl:=[]) (fun s=>rfl) Tryz.func67 (by kernel_rfl) (by kernel_rfl) (by kernel_rfl) (fun k=>les67)
  (fz) (fun k s0=> .nil)
  (F:=fun k s=>FX67 k) (fun k s r h=>(e67 s).trans (b67 k r h)) k
theorem b68 (k:Nat) (x0:Int):LeO (FX68 k x0) (B68 x0):=LeO.refl _
theorem ok68 (k:Nat):FeOk Tryz.prog (fe68 (FX68 k)):=
 fe_ok EOK HM (es:=fun k=>fes68) (fun k=>fz) (N:=8) (an:=an68) (c:=cd68) (rms:=rm68) (ask:=ask68) (rsk:=rsk68) (enc:=enc68) (dec:=dec68) (tbl:=[]) (fun s=>rfl) Tryz.func68 (by kernel_rfl) (by kernel_rfl) (by kernel_rfl) (fun k=>les68)
  (fz) (fun k s0=> .nil)
  (F:=fun k s=>FX68 k s.1.1) (fun k s r h=>(e68 s).trans (b68 k s.1.1 r h)) k
theorem b187l0 (k:Nat) (x7:Int) (x15:Int) (x16:Int) (x5:(List Int)) (x6:(List Int)):LeO (GX187l0 (k+1) x7 x15 x16 x5 x6) (B187l0 (GX187l0 k) (FX192 k) (FX232 k) x7 x15 x16 x5 x6):=by rw [GX187l0];exact LeO.refl _
theorem b187 (k:Nat) (x0:ByteArray) (x1:ByteArray):LeO (FX187 k x0 x1) (B187 (GX187l0 k) (FX220 k) x0 x1):=LeO.refl _
theorem ok187 (k:Nat):FeOk Tryz.prog (fe187 (FX187 k)):=
 fe_ok EOK HM (es:=fun k=>fes187 (FX192 k) (FX220 k) (FX232 k)) (fun k=>fc ⟨ok192 k,fc ⟨ok220 k,fc ⟨ok232 k,fz⟩⟩⟩) (N:=43) (an:=an187) (c:=cd187) (rms:=rm187) (ask:=ask187) (rsk:=rsk187) (enc:=enc187) (dec:=dec187) (tbl:=[p187.getD 0 ⟨0,[], .skip⟩]) (fun s=>rfl) Tryz.func187 (by kernel_rfl) (by kernel_rfl) (by kernel_rfl) (fun k=>les187 (GX187l0 k))
  (fc ⟨fun s=>rfl,fz⟩) (fun k s0=> .cons (by kernel_rfl) (by kernel_rfl) (fun s r h=>(e187l0 (GX187l0 k) (FX192 k) (FX220 k) (FX232 k) s0 s).trans (b187l0 k s.1.1 s.1.2.1 s.1.2.2.1 s.2.1 s.2.2.1 r h)) (.nil))
  (F:=fun k s=>FX187 k s.1.1 s.1.2.1) (fun k s r h=>(e187 (GX187l0 k) (FX192 k) (FX220 k) (FX232 k) s).trans (b187 k s.1.1 s.1.2.1 r h)) k
theorem b141 (k:Nat) (x0:TI) (x1:TI):LeO (FX141 k x0 x1) (B141 (FX143 k) (FX187 k) (FX217 k) (FX218 k) x0 x1):=LeO.refl _
theorem ok141 (k:Nat):FeOk Tryz.prog (fe141 (FX141 k)):=
 fe_ok EOK HM (es:=fun k=>fes141 (FX143 k) (FX187 k) (FX217 k) (FX218 k)) (fun k=>fc ⟨ok143 k,fc ⟨ok187 k,fc ⟨ok217 k,fc ⟨ok218 k,fz⟩⟩⟩⟩) (N:=42) (an:=an141) (c:=cd141) (rms:=rm141) (ask:=ask141) (rsk:=rsk141) (enc:=enc141) (dec:=dec141) (tbl:=[]) (fun s=>rfl) Tryz.func141 (by kernel_rfl) (by kernel_rfl) (by kernel_rfl) (fun k=>les141)
  (fz) (fun k s0=> .nil)
  (F:=fun k s=>FX141 k s.1.1 s.1.2.1) (fun k s r h=>(e141 (FX143 k) (FX187 k) (FX217 k) (FX218 k) s).trans (b141 k s.1.1 s.1.2.1 r h)) k
theorem b74 (k:Nat) (x0:TQ) (x1:TQ):LeO (FX74 k x0 x1) (B74 (FX141 k) (FX143 k) (FX144 k) (FX159 k) (FX160 k) x0 x1):=LeO.refl _
theorem ok74 (k:Nat):FeOk Tryz.prog (fe74 (FX74 k)):=
 fe_ok EOK HM (es:=fun k=>fes74 (FX141 k) (FX143 k) (FX144 k) (FX159 k) (FX160 k)) (fun k=>fc ⟨ok141 k,fc ⟨ok143 k,fc ⟨ok144 k,fc ⟨ok159 k,fc ⟨ok160 k,fz⟩⟩⟩⟩⟩) (N:=58) (an:=an74) (c:=cd74) (rms:=rm74) (ask:=ask74) (rsk:=rsk74) (enc:=enc74) (dec:=dec74) (tbl:=[]) (fun s=>rfl) Tryz.func74 (by kernel_rfl) (by kernel_rfl) (by kernel_rfl) (fun k=>les74)
  (fz) (fun k s0=> .nil)
  (F:=fun k s=>FX74 k s.1.1 s.1.2.1) (fun k s r h=>(e74 (FX141 k) (FX143 k) (FX144 k) (FX159 k) (FX160 k) s).trans (b74 k s.1.1 s.1.2.1 r h)) k
theorem b142 (k:Nat) (x0:TI):LeO (FX142 k x0) (B142 (FX143 k) x0):=LeO.refl _
theorem ok142 (k:Nat):FeOk Tryz.prog (fe142 (FX142 k)):=
 fe_ok EOK HM (es:=fun k=>fes142 (FX143 k)) (fun k=>fc ⟨ok143 k,fz⟩) (N:=9) (an:=an142) (c:=cd142) (rms:=rm142) (ask:=ask142) (rsk:=rsk142) (enc:=enc142) (dec:=dec142) (tbl:=[]) (fun s=>rfl) Tryz.func142 (by kernel_rfl) (by kernel_rfl) (by kernel_rfl) (fun k=>les142)
  (fz) (fun k s0=> .nil)
  (F:=fun k s=>FX142 k s.1.1) (fun k s r h=>(e142 (FX143 k) s).trans (b142 k s.1.1 r h)) k
theorem b81 (k:Nat) (x0:TQ):LeO (FX81 k x0) (B81 (FX142 k) x0):=LeO.refl _
theorem ok81 (k:Nat):FeOk Tryz.prog (fe81 (FX81 k)):=
 fe_ok EOK HM (es:=fun k=>fes81 (FX142 k)) (fun k=>fc ⟨ok142 k,fz⟩) (N:=9) (an:=an81) (c:=cd81) (rms:=rm81) (ask:=ask81) (rsk:=rsk81) (enc:=enc81) (dec:=dec81) (tbl:=[]) (fun s=>rfl) Tryz.func81 (by kernel_rfl) (by kernel_rfl) (by kernel_rfl) (fun k=>les81)
  (fz) (fun k s0=> .nil)
  (F:=fun k s=>FX81 k s.1.1) (fun k s r h=>(e81 (FX142 k) s).trans (b81 k s.1.1 r h)) k
theorem b75 (k:Nat) (x0:TQ) (x1:TQ):LeO (FX75 k x0 x1) (B75 (FX74 k) (FX81 k) x0 x1):=LeO.refl _
theorem ok75 (k:Nat):FeOk Tryz.prog (fe75 (FX75 k)):=
 fe_ok EOK HM (es:=fun k=>fes75 (FX74 k) (FX81 k)) (fun k=>fc ⟨ok74 k,fc ⟨ok81 k,fz⟩⟩) (N:=9) (an:=an75) (c:=cd75) (rms:=rm75) (ask:=ask75) (rsk:=rsk75) (enc:=enc75) (dec:=dec75) (tbl:=[]) (fun s=>rfl) Tryz.func75 (by kernel_rfl) (by kernel_rfl) (by kernel_rfl) (fun k=>les75)
  (fz) (fun k s0=> .nil)
  (F:=fun k s=>FX75 k s.1.1 s.1.2.1) (fun k s r h=>(e75 (FX74 k) (FX81 k) s).trans (b75 k s.1.1 s.1.2.1 r h)) k
theorem b70 (k:Nat) (x0:TQ) (x1:TQ) (x2:TQ):LeO (FX70 k x0 x1 x2) (B70 (FX75 k) (FX156 k) x0 x1 x2):=LeO.refl _
theorem ok70 (k:Nat):FeOk Tryz.prog (fe70 (FX70 k)):=
 fe_ok EOK HM (es:=fun k=>fes70 (FX75 k) (FX156 k)) (fun k=>fc ⟨ok75 k,fc ⟨ok156 k,fz⟩⟩) (N:=16) (an:=an70) (c:=cd70) (rms:=rm70) (ask:=ask70) (rsk:=rsk70) (enc:=enc70) (dec:=dec70) (tbl:=[]) (fun s=>rfl) Tryz.func70 (by kernel_rfl) (by kernel_rfl) (by kernel_rfl) (fun k=>les70)
  (fz) (fun k s0=> .nil)
  (F:=fun k s=>FX70 k s.1.1 s.1.2.1 s.1.2.2.1) (fun k s r h=>(e70 (FX75 k) (FX156 k) s).trans (b70 k s.1.1 s.1.2.1 s.1.2.2.1 r h)) k
theorem b158 (k:Nat) (x0:TQ):LeO (FX158 k x0) (B158 x0):=LeO.refl _
theorem ok158 (k:Nat):FeOk Tryz.prog (fe158 (FX158 k)):=
 fe_ok EOK HM (es:=fun k=>fes158) (fun k=>fz) (N:=14) (an:=an158) (c:=cd158) (rms:=rm158) (ask:=ask158) (rsk:=rsk158) (enc:=enc158) (dec:=dec158) (tbl:=[]) (fun s=>rfl) Tryz.func158 (by kernel_rfl) (by kernel_rfl) (by kernel_rfl) (fun k=>les158)
  (fz) (fun k s0=> .nil)
  (F:=fun k s=>FX158 k s.1.1) (fun k s r h=>(e158 s).trans (b158 k s.1.1 r h)) k
theorem b72 (k:Nat) (x0:TQ) (x1:TQ):LeO (FX72 k x0 x1) (B72 (FX158 k) x0 x1):=LeO.refl _
theorem ok72 (k:Nat):FeOk Tryz.prog (fe72 (FX72 k)):=
 fe_ok EOK HM (es:=fun k=>fes72 (FX158 k)) (fun k=>fc ⟨ok158 k,fz⟩) (N:=17) (an:=an72) (c:=cd72) (rms:=rm72) (ask:=ask72) (rsk:=rsk72) (enc:=enc72) (dec:=dec72) (tbl:=[]) (fun s=>rfl) Tryz.func72 (by kernel_rfl) (by kernel_rfl) (by kernel_rfl) (fun k=>les72)
  (fz) (fun k s0=> .nil)
  (F:=fun k s=>FX72 k s.1.1 s.1.2.1) (fun k s r h=>(e72 (FX158 k) s).trans (b72 k s.1.1 s.1.2.1 r h)) k
theorem b165 (k:Nat) (x0:TQ):LeO (FX165 k x0) (B165 x0):=LeO.refl _
theorem ok165 (k:Nat):FeOk Tryz.prog (fe165 (FX165 k)):=
 fe_ok EOK HM (es:=fun k=>fes165) (fun k=>fz) (N:=13) (an:=an165) (c:=cd165) (rms:=rm165) (ask:=ask165) (rsk:=rsk165) (enc:=enc165) (dec:=dec165) (tbl:=[]) (fun s=>rfl) Tryz.func165 (by kernel_rfl) (by kernel_rfl) (by kernel_rfl) (fun k=>les165)
  (fz) (fun k s0=> .nil)
  (F:=fun k s=>FX165 k s.1.1) (fun k s r h=>(e165 s).trans (b165 k s.1.1 r h)) k
theorem b79 (k:Nat) (x0:TQ) (x1:TQ):LeO (FX79 k x0 x1) (B79 (FX156 k) (FX165 k) x0 x1):=LeO.refl _
theorem ok79 (k:Nat):FeOk Tryz.prog (fe79 (FX79 k)):=
 fe_ok EOK HM (es:=fun k=>fes79 (FX156 k) (FX165 k)) (fun k=>fc ⟨ok156 k,fc ⟨ok165 k,fz⟩⟩) (N:=9) (an:=an79) (c:=cd79) (rms:=rm79) (ask:=ask79) (rsk:=rsk79) (enc:=enc79) (dec:=dec79) (tbl:=[]) (fun s=>rfl) Tryz.func79 (by kernel_rfl) (by kernel_rfl) (by kernel_rfl) (fun k=>les79)
  (fz) (fun k s0=> .nil)
  (F:=fun k s=>FX79 k s.1.1 s.1.2.1) (fun k s r h=>(e79 (FX156 k) (FX165 k) s).trans (b79 k s.1.1 s.1.2.1 r h)) k
theorem b73 (k:Nat) (x0:TQ):LeO (FX73 k x0) (B73 (FX79 k) (FX122 k) x0):=LeO.refl _
theorem ok73 (k:Nat):FeOk Tryz.prog (fe73 (FX73 k)):=
 fe_ok EOK HM (es:=fun k=>fes73 (FX79 k) (FX122 k)) (fun k=>fc ⟨ok79 k,fc ⟨ok122 k,fz⟩⟩) (N:=6) (an:=an73) (c:=cd73) (rms:=rm73) (ask:=ask73) (rsk:=rsk73) (enc:=enc73) (dec:=dec73) (tbl:=[]) (fun s=>rfl) Tryz.func73 (by kernel_rfl) (by kernel_rfl) (by kernel_rfl) (fun k=>les73)
  (fz) (fun k s0=> .nil)
  (F:=fun k s=>FX73 k s.1.1) (fun k s r h=>(e73 (FX79 k) (FX122 k) s).trans (b73 k s.1.1 r h)) k
theorem b15 (k:Nat) (x0:TQ) (x1:TQ) (x2:TQ):LeO (FX15 k x0 x1 x2) (B15 (FX63 k) (FX64 k) (FX65 k) (FX66 k) (FX67 k) (FX68 k) (FX69 k) (FX70 k) (FX71 k) (FX72 k) (FX73 k) (FX74 k) (FX75 k) x0 x1 x2):=LeO.refl _
theorem ok15 (k:Nat):FeOk Tryz.prog (fe15 (FX15 k)):=
 fe_ok EOK HM (es:=fun k=>fes15 (FX63 k) (FX64 k) (FX65 k) (FX66 k) (FX67 k) (FX68 k) (FX69 k) (FX70 k) (FX71 k) (FX72 k) (FX73 k) (FX74 k) (FX75 k)) (fun k=>fc ⟨ok63 k,fc ⟨ok64 k,fc ⟨ok65 k,fc ⟨ok66 k,fc ⟨ok67 k,fc ⟨ok68 k,fc ⟨ok69 k,fc ⟨ok70 k,fc ⟨ok71 k,fc ⟨ok72 k,fc ⟨ok73 k,fc ⟨ok74 k,fc ⟨ok75 k,fz⟩⟩⟩⟩⟩⟩⟩⟩⟩⟩⟩⟩⟩) (N:=59) (an:=an15) (c:=cd15) (rms:=rm15) (ask:=ask15) (rsk:=rsk15) (enc:=enc15) (dec:=dec15) (tbl:=[]) (fun s=>rfl) Tryz.func15 (by kernel_rfl) (by kernel_rfl) (by kernel_rfl) (fun k=>les15)
  (fz) (fun k s0=> .nil)
  (F:=fun k s=>FX15 k s.1.1 s.1.2.1 s.1.2.2.1) (fun k s r h=>(e15 (FX63 k) (FX64 k) (FX65 k) (FX66 k) (FX67 k) (FX68 k) (FX69 k) (FX70 k) (FX71 k) (FX72 k) (FX73 k) (FX74 k) (FX75 k) s).trans (b15 k s.1.1 s.1.2.1 s.1.2.2.1 r h)) k
theorem b161l0 (k:Nat) (x8:Int) (x9:Int) (x5:(List Int)) (x6:(List Int)) (x7:(List Int)):LeO (GX161l0 (k+1) x8 x9 x5 x6 x7) (B161l0 (GX161l0 k) (FX180 k) x8 x9 x5 x6 x7):=by rw [GX161l0];exact LeO.refl _
theorem b161 (k:Nat) (x0:ByteArray) (x1:ByteArray):LeO (FX161 k x0 x1) (B161 (GX161l0 k) (FX221 k) x0 x1):=LeO.refl _
theorem ok161 (k:Nat):FeOk Tryz.prog (fe161 (FX161 k)):=
 fe_ok EOK HM (es:=fun k=>fes161 (FX180 k) (FX221 k)) (fun k=>fc ⟨ok180 k,fc ⟨ok221 k,fz⟩⟩) (N:=61) (an:=an161) (c:=cd161) (rms:=rm161) (ask:=ask161) (rsk:=rsk161) (enc:=enc161) (dec:=dec161) (tbl:=[p161.getD 0 ⟨0,[], .skip⟩]) (fun s=>rfl) Tryz.func161 (by kernel_rfl) (by kernel_rfl) (by kernel_rfl) (fun k=>les161 (GX161l0 k))
  (fc ⟨fun s=>rfl,fz⟩) (fun k s0=> .cons (by kernel_rfl) (by kernel_rfl) (fun s r h=>(e161l0 (GX161l0 k) (FX180 k) (FX221 k) s0 s).trans (b161l0 k s.1.1 s.1.2.1 s.2.1 s.2.2.1 s.2.2.2.1 r h)) (.nil))
  (F:=fun k s=>FX161 k s.1.1 s.1.2.1) (fun k s r h=>(e161 (GX161l0 k) (FX180 k) (FX221 k) s).trans (b161 k s.1.1 s.1.2.1 r h)) k
theorem b162 (k:Nat) (x0:ByteArray) (x1:ByteArray):LeO (FX162 k x0 x1) (B162 x0 x1):=LeO.refl _
theorem ok162 (k:Nat):FeOk Tryz.prog (fe162 (FX162 k)):=
 fe_ok EOK HM (es:=fun k=>fes162) (fun k=>fz) (N:=27) (an:=an162) (c:=cd162) (rms:=rm162) (ask:=ask162) (rsk:=rsk162) (enc:=enc162) (dec:=dec162) (tbl:=[]) (fun s=>rfl) Tryz.func162 (by kernel_rfl) (by kernel_rfl) (by kernel_rfl) (fun k=>les162)
  (fz) (fun k s0=> .nil)
  (F:=fun k s=>FX162 k s.1.1 s.1.2.1) (fun k s r h=>(e162 s).trans (b162 k s.1.1 s.1.2.1 r h)) k
theorem b163l0 (k:Nat) (x7:Int) (x8:Int) (x5:(List Int)) (x6:(List Int)):LeO (GX163l0 (k+1) x7 x8 x5 x6) (B163l0 (GX163l0 k) (FX180 k) x7 x8 x5 x6):=by rw [GX163l0];exact LeO.refl _
theorem b163 (k:Nat) (x0:ByteArray) (x1:ByteArray):LeO (FX163 k x0 x1) (B163 (GX163l0 k) (FX162 k) (FX221 k) x0 x1):=LeO.refl _
theorem ok163 (k:Nat):FeOk Tryz.prog (fe163 (FX163 k)):=
 fe_ok EOK HM (es:=fun k=>fes163 (FX162 k) (FX180 k) (FX221 k)) (fun k=>fc ⟨ok162 k,fc ⟨ok180 k,fc ⟨ok221 k,fz⟩⟩⟩) (N:=60) (an:=an163) (c:=cd163) (rms:=rm163) (ask:=ask163) (rsk:=rsk163) (enc:=enc163) (dec:=dec163) (tbl:=[p163.getD 0 ⟨0,[], .skip⟩]) (fun s=>rfl) Tryz.func163 (by kernel_rfl) (by kernel_rfl) (by kernel_rfl) (fun k=>les163 (GX163l0 k))
  (fc ⟨fun s=>rfl,fz⟩) (fun k s0=> .cons (by kernel_rfl) (by kernel_rfl) (fun s r h=>(e163l0 (GX163l0 k) (FX162 k) (FX180 k) (FX221 k) s0 s).trans (b163l0 k s.1.1 s.1.2.1 s.2.1 s.2.2.1 r h)) (.nil))
  (F:=fun k s=>FX163 k s.1.1 s.1.2.1) (fun k s r h=>(e163 (GX163l0 k) (FX162 k) (FX180 k) (FX221 k) s).trans (b163 k s.1.1 s.1.2.1 r h)) k
theorem b76 (k:Nat) (x0:TI) (x1:TI):LeO (FX76 k x0 x1) (B76 (FX148 k) (FX161 k) (FX162 k) (FX163 k) x0 x1):=LeO.refl _
theorem ok76 (k:Nat):FeOk Tryz.prog (fe76 (FX76 k)):=
 fe_ok EOK HM (es:=fun k=>fes76 (FX148 k) (FX161 k) (FX162 k) (FX163 k)) (fun k=>fc ⟨ok148 k,fc ⟨ok161 k,fc ⟨ok162 k,fc ⟨ok163 k,fz⟩⟩⟩⟩) (N:=40) (an:=an76) (c:=cd76) (rms:=rm76) (ask:=ask76) (rsk:=rsk76) (enc:=enc76) (dec:=dec76) (tbl:=[]) (fun s=>rfl) Tryz.func76 (by kernel_rfl) (by kernel_rfl) (by kernel_rfl) (fun k=>les76)
  (fz) (fun k s0=> .nil)
  (F:=fun k s=>FX76 k s.1.1 s.1.2.1) (fun k s r h=>(e76 (FX148 k) (FX161 k) (FX162 k) (FX163 k) s).trans (b76 k s.1.1 s.1.2.1 r h)) k
theorem b16 (k:Nat) (x0:TQ) (x1:TQ):LeO (FX16 k x0 x1) (B16 (FX13 k) (FX60 k) (FX61 k) (FX62 k) (FX76 k) x0 x1):=LeO.refl _
theorem ok16 (k:Nat):FeOk Tryz.prog (fe16 (FX16 k)):=
 fe_ok EOK HM (es:=fun k=>fes16 (FX13 k) (FX60 k) (FX61 k) (FX62 k) (FX76 k)) (fun k=>fc ⟨ok13 k,fc ⟨ok60 k,fc ⟨ok61 k,fc ⟨ok62 k,fc ⟨ok76 k,fz⟩⟩⟩⟩⟩) (N:=38) (an:=an16) (c:=cd16) (rms:=rm16) (ask:=ask16) (rsk:=rsk16) (enc:=enc16) (dec:=dec16) (tbl:=[]) (fun s=>rfl) Tryz.func16 (by kernel_rfl) (by kernel_rfl) (by kernel_rfl) (fun k=>les16)
  (fz) (fun k s0=> .nil)
  (F:=fun k s=>FX16 k s.1.1 s.1.2.1) (fun k s r h=>(e16 (FX13 k) (FX60 k) (FX61 k) (FX62 k) (FX76 k) s).trans (b16 k s.1.1 s.1.2.1 r h)) k
theorem b164 (k:Nat) (x0:TI):LeO (FX164 k x0) (B164 (FX148 k) x0):=LeO.refl _
theorem ok164 (k:Nat):FeOk Tryz.prog (fe164 (FX164 k)):=
 fe_ok EOK HM (es:=fun k=>fes164 (FX148 k)) (fun k=>fc ⟨ok148 k,fz⟩) (N:=9) (an:=an164) (c:=cd164) (rms:=rm164) (ask:=ask164) (rsk:=rsk164) (enc:=enc164) (dec:=dec164) (tbl:=[]) (fun s=>rfl) Tryz.func164 (by kernel_rfl) (by kernel_rfl) (by kernel_rfl) (fun k=>les164)
  (fz) (fun k s0=> .nil)
  (F:=fun k s=>FX164 k s.1.1) (fun k s r h=>(e164 (FX148 k) s).trans (b164 k s.1.1 r h)) k
theorem b77 (k:Nat) (x0:TQ):LeO (FX77 k x0) (B77 (FX164 k) x0):=LeO.refl _
theorem ok77 (k:Nat):FeOk Tryz.prog (fe77 (FX77 k)):=
 fe_ok EOK HM (es:=fun k=>fes77 (FX164 k)) (fun k=>fc ⟨ok164 k,fz⟩) (N:=9) (an:=an77) (c:=cd77) (rms:=rm77) (ask:=ask77) (rsk:=rsk77) (enc:=enc77) (dec:=dec77) (tbl:=[]) (fun s=>rfl) Tryz.func77 (by kernel_rfl) (by kernel_rfl) (by kernel_rfl) (fun k=>les77)
  (fz) (fun k s0=> .nil)
  (F:=fun k s=>FX77 k s.1.1) (fun k s r h=>(e77 (FX164 k) s).trans (b77 k s.1.1 r h)) k
theorem b17 (k:Nat) (x0:TQ) (x1:TQ):LeO (FX17 k x0 x1) (B17 (FX16 k) (FX77 k) x0 x1):=LeO.refl _
theorem ok17 (k:Nat):FeOk Tryz.prog (fe17 (FX17 k)):=
 fe_ok EOK HM (es:=fun k=>fes17 (FX16 k) (FX77 k)) (fun k=>fc ⟨ok16 k,fc ⟨ok77 k,fz⟩⟩) (N:=9) (an:=an17) (c:=cd17) (rms:=rm17) (ask:=ask17) (rsk:=rsk17) (enc:=enc17) (dec:=dec17) (tbl:=[]) (fun s=>rfl) Tryz.func17 (by kernel_rfl) (by kernel_rfl) (by kernel_rfl) (fun k=>les17)
  (fz) (fun k s0=> .nil)
  (F:=fun k s=>FX17 k s.1.1 s.1.2.1) (fun k s r h=>(e17 (FX16 k) (FX77 k) s).trans (b17 k s.1.1 s.1.2.1 r h)) k
theorem b18l0 (k:Nat) (x56:Int) (x57:Int) (x4:TQ) (x5:TQ) (x6:TQ) (x7:TQ) (x55:(List TQ)):LeO (GX18l0 (k+1) x56 x57 x4 x5 x6 x7 x55) (B18l0 (GX18l0 k) (FX68 k) (FX69 k) (FX72 k) (FX73 k) (FX78 k) (FX79 k) (FX80 k) (FX81 k) x56 x57 x4 x5 x6 x7 x55):=by rw [GX18l0];exact LeO.refl _
theorem b18 (k:Nat) (x0:TQ) (x1:TQ) (x2:TQ):LeO (FX18 k x0 x1 x2) (B18 (GX18l0 k) (FX63 k) (FX64 k) (FX65 k) (FX66 k) (FX67 k) (FX68 k) (FX69 k) (FX70 k) (FX73 k) (FX74 k) (FX75 k) x0 x1 x2):=LeO.refl _
theorem ok18 (k:Nat):FeOk Tryz.prog (fe18 (FX18 k)):=
 fe_ok EOK HM (es:=fun k=>fes18 (FX63 k) (FX64 k) (FX65 k) (FX66 k) (FX67 k) (FX68 k) (FX69 k) (FX70 k) (FX72 k) (FX73 k) (FX74 k) (FX75 k) (FX78 k) (FX79 k) (FX80 k) (FX81 k)) (fun k=>fc ⟨ok63 k,fc ⟨ok64 k,fc ⟨ok65 k,fc ⟨ok66 k,fc ⟨ok67 k,fc ⟨ok68 k,fc ⟨ok69 k,fc ⟨ok70 k,fc ⟨ok72 k,fc ⟨ok73 k,fc ⟨ok74 k,fc ⟨ok75 k,fc ⟨ok78 k,fc ⟨ok79 k,fc ⟨ok80 k,fc ⟨ok81 k,fz⟩⟩⟩⟩⟩⟩⟩⟩⟩⟩⟩⟩⟩⟩⟩⟩) (N:=96) (an:=an18) (c:=cd18) (rms:=rm18) (ask:=ask18) (rsk:=rsk18) (enc:=enc18) (dec:=dec18) (tbl:=[p18.getD 0 ⟨0,[], .skip⟩]) (fun s=>rfl) Tryz.func18 (by kernel_rfl) (by kernel_rfl) (by kernel_rfl) (fun k=>les18 (GX18l0 k))
  (fc ⟨fun s=>rfl,fz⟩) (fun k s0=> .cons (by kernel_rfl) (by kernel_rfl) (fun s r h=>(e18l0 (GX18l0 k) (FX63 k) (FX64 k) (FX65 k) (FX66 k) (FX67 k) (FX68 k) (FX69 k) (FX70 k) (FX72 k) (FX73 k) (FX74 k) (FX75 k) (FX78 k) (FX79 k) (FX80 k) (FX81 k) s0 s).trans (b18l0 k s.1.1 s.1.2.1 s.2.1 s.2.2.1 s.2.2.2.1 s.2.2.2.2.1 s.2.2.2.2.2.1 r h)) (.nil))
  (F:=fun k s=>FX18 k s.1.1 s.1.2.1 s.1.2.2.1) (fun k s r h=>(e18 (GX18l0 k) (FX63 k) (FX64 k) (FX65 k) (FX66 k) (FX67 k) (FX68 k) (FX69 k) (FX70 k) (FX72 k) (FX73 k) (FX74 k) (FX75 k) (FX78 k) (FX79 k) (FX80 k) (FX81 k) s).trans (b18 k s.1.1 s.1.2.1 s.1.2.2.1 r h)) k
theorem b55 (k:Nat) (x0:TI) (x1:TI):LeO (FX55 k x0 x1) (B55 (FX141 k) (FX142 k) x0 x1):=LeO.refl _
theorem ok55 (k:Nat):FeOk Tryz.prog (fe55 (FX55 k)):=
 fe_ok EOK HM (es:=fun k=>fes55 (FX141 k) (FX142 k)) (fun k=>fc ⟨ok141 k,fc ⟨ok142 k,fz⟩⟩) (N:=9) (an:=an55) (c:=cd55) (rms:=rm55) (ask:=ask55) (rsk:=rsk55) (enc:=enc55) (dec:=dec55) (tbl:=[]) (fun s=>rfl) Tryz.func55 (by kernel_rfl) (by kernel_rfl) (by kernel_rfl) (fun k=>les55)
  (fz) (fun k s0=> .nil)
  (F:=fun k s=>FX55 k s.1.1 s.1.2.1) (fun k s r h=>(e55 (FX141 k) (FX142 k) s).trans (b55 k s.1.1 s.1.2.1 r h)) k
theorem b145 (k:Nat) (x0:ByteArray):LeO (FX145 k x0) (B145 (FX220 k) x0):=LeO.refl _
theorem ok145 (k:Nat):FeOk Tryz.prog (fe145 (FX145 k)):=
 fe_ok EOK HM (es:=fun k=>fes145 (FX220 k)) (fun k=>fc ⟨ok220 k,fz⟩) (N:=16) (an:=an145) (c:=cd145) (rms:=rm145) (ask:=ask145) (rsk:=rsk145) (enc:=enc145) (dec:=dec145) (tbl:=[]) (fun s=>rfl) Tryz.func145 (by kernel_rfl) (by kernel_rfl) (by kernel_rfl) (fun k=>les145)
  (fz) (fun k s0=> .nil)
  (F:=fun k s=>FX145 k s.1.1) (fun k s r h=>(e145 (FX220 k) s).trans (b145 k s.1.1 r h)) k
theorem b58 (k:Nat) (x0:TI):LeO (FX58 k x0) (B58 (FX145 k) x0):=LeO.refl _
theorem ok58 (k:Nat):FeOk Tryz.prog (fe58 (FX58 k)):=
 fe_ok EOK HM (es:=fun k=>fes58 (FX145 k)) (fun k=>fc ⟨ok145 k,fz⟩) (N:=36) (an:=an58) (c:=cd58) (rms:=rm58) (ask:=ask58) (rsk:=rsk58) (enc:=enc58) (dec:=dec58) (tbl:=[]) (fun s=>rfl) Tryz.func58 (by kernel_rfl) (by kernel_rfl) (by kernel_rfl) (fun k=>les58)
  (fz) (fun k s0=> .nil)
  (F:=fun k s=>FX58 k s.1.1) (fun k s r h=>(e58 (FX145 k) s).trans (b58 k s.1.1 r h)) k
theorem b140l0 (k:Nat) (x0:Int) (x3:Int):LeO (GX140l0 (k+1) x0 x3) (B140l0 (GX140l0 k) x0 x3):=by rw [GX140l0];exact LeO.refl _
theorem b140 (k:Nat) (x0:Int):LeO (FX140 k x0) (B140 (GX140l0 k) x0):=LeO.refl _
theorem ok140 (k:Nat):FeOk Tryz.prog (fe140 (FX140 k)):=
 fe_ok EOK HM (es:=fun k=>fes140) (fun k=>fz) (N:=14) (an:=an140) (c:=cd140) (rms:=rm140) (ask:=ask140) (rsk:=rsk140) (enc:=enc140) (dec:=dec140) (tbl:=[p140.getD 0 ⟨0,[], .skip⟩]) (fun s=>rfl) Tryz.func140 (by kernel_rfl) (by kernel_rfl) (by kernel_rfl) (fun k=>les140 (GX140l0 k))
  (fc ⟨fun s=>rfl,fz⟩) (fun k s0=> .cons (by kernel_rfl) (by kernel_rfl) (fun s r h=>(e140l0 (GX140l0 k) s0 s).trans (b140l0 k s.1.1 s.1.2.1 r h)) (.nil))
  (F:=fun k s=>FX140 k s.1.1) (fun k s r h=>(e140 (GX140l0 k) s).trans (b140 k s.1.1 r h)) k
end Go.Proofs.YtfllafbphddooaaGreatV
namespace Go.Proofs.YtfllafbphddooaaGreatE
open Go.RowKit
theorem calls_of_ct {P:Program} {f:Nat} {fn:Func} {c:Code} (hf:P.funcs[f]?=some fn) (hname:(fn.name== "runtime.NumGoroutine")=false) (hb:fn.body=some c) {asx:List V} {r:V} {us:Bl} (h:Ct P f asx [] r us) {vs:List Value}
  (hv:∀w bl φ,RepVs w bl φ asx vs) (hr:∀w bl φ v,RepV w bl φ r v→v= .bool true) (w:World):Calls P f vs.toArray w fun e w'=>e= .returned (.bool true)∧Below w.heap.size w w':=by
 have hm:Mem w (lentBo [] (fun _=>⟨0,0,some 0⟩)) (fun _=> .fresh) (fun _=>⟨0,0,some 0⟩) w:=
  ⟨fun n=>trivial,(fun n m h=>by obtain⟨_,_,_,e⟩:=h;cases e),(fun n t l tl _ h=>by cases h),Frame'.refl _ _⟩
 rcases h.2 w (fun _=> .fresh) (fun _=>⟨0,0,some 0⟩) vs (fun n _=>rfl) hm (hv _ _ _)with⟨_,h1⟩| ⟨v,w',h1,_⟩
 ·refine h1.mono fun e w'=>?_
  rintro⟨v,rfl,φ',st,rv⟩
  have fr:=st.mem.fr
  refine⟨by rw [hr _ _ _ _ rv],fr.os,fr.tape,fr.output,fr.size,fun b hb=>fr.block b hb fun o h=>?_⟩
  obtain⟨n,t,l,tl,_,e,_⟩:=h
  cases e
 ·exfalso
  have e:(callFunc f vs.toArray).run P w= .ok (.enter f vs.toArray) w:=by simp only [callFunc,Sem.run_bind,run_program,Result.andThen_ok,hf,hname,hb,Option.isNone_some,Bool.false_eq_true,if_false,Sem.run_pure]
  rw [e]at h1;cases h1
theorem below_frame {w w':World} (h:Below w.heap.size w w'):Frame' w w' (fun _ _=>False):=by
 have hb:∀b,b<w.heap.size→w'.heap[b]?=w.heap[b]?:=h.block
 have hc:∀b o,b<w.heap.size→w'.cell? ⟨b,o,none⟩=w.cell? ⟨b,o,none⟩:=fun b o hl=>by unfold World.cell?;rw [hb b hl]
 exact⟨h.os,h.tape,h.output,h.size,fun b hl _=>hb b hl,fun b o hl _=>hc b o hl,fun b o hs=>by
  have hl:b<w.heap.size:=by
   obtain⟨v,hv⟩:=Option.isSome_iff_exists.1 hs
   exact cell_lt hv
  rw [hc b o hl];exact hs,fun b o hl=>by unfold World.frozen?;rw [hb b hl]⟩
theorem S_below {w0 w w':World} {Bo:Nat→Nat→Prop} {bl:Nat→Blk} {φ:Nat→Addr} (m:Mem w0 Bo bl φ w) (h:Below w.heap.size w w'):Step w0 Bo bl φ w bl φ w':=
 S_gen m (fun _=>False) (fun _ _=>⟨rfl,rfl⟩) (fun _ h=>h.elim) ((below_frame h).ext (fun _ _ _ h=>h.elim) fun _ _ h=>h) (fun n _ hl hs o v hv=>((below_frame h).cell _ _ (cell_lt hv) id).trans hv) (fun _ h=>h.elim) (fun _ _ h=>h.elim) (fun _ _ _ _ h=>h.elim) (m.fr.trans (below_frame h) fun _ _ _ h=>h.elim)
section
variable {w:World} {bl:Nat→Blk} {φ:Nat→Addr}
theorem rep_int {k:IntKind} {x:Int}:RepV w bl φ (.a (.v (.it k) x)) (.int k x):=⟨[.int k x],rfl,rfl⟩
theorem rep_true {v:Value} (h:RepV w bl φ (.a (.v .bo true)) v):v= .bool true:=by
 obtain⟨cs,h1,h2⟩:=h
 have h1:cs=[.bool true]:=h1
 subst h1
 have h2:[Value.bool true]=[v]:=h2
 cases h2;rfl
end
end Go.Proofs.YtfllafbphddooaaGreatE
set_option maxRecDepth 100000
namespace Go.Proofs.YtfllafbphddooaaGreatV
open Go Go.RowKit YtfllafbphddooaaGreatE YtfllafbphddooaaGreatW.PrintWords YtfllafbphddooaaGreatW.PrintLast YtfllafbphddooaaGreatW.PrintMore
abbrev KA:=List (Nat×KM)
def outS (L:KA) (sk:Sk) (b:Bool) (st:St):Option (Bool×sk.T):=match clean L st with
 |some st=>(match sk.dec st with|some s=>some (b,s)|none=>none)
 |none=>none
def outK (L:KA) (sk:Sk):KX (Bool×sk.T):=fun x st=>match x with| .norm=>outS L sk false st| .ret=>outS L sk true st| .exit _=>none
def outLo (sk:Sk):Nat→St→Option (Bool×sk.T):=fun _ st=>match sk.dec st with|some s=>some (false,s)|none=>none
def c1:Code→Code| .seq a _=>a| .block _ a=>a| .loop a=>a| .rangeFunc _ _ a _=>a|c=>c
def c2:Code→Code| .seq _ b=>b| .rangeFunc _ _ _ b=>b|c=>c
noncomputable def inIA:Sk:=⟨[(0, .d .fu),(1, .f (.a (.ptr 2010 0 [])))],[(2010, .froz (.it .i64))]⟩
noncomputable def outIA:Sk:=⟨[(0, .d .fu),(1, .f (.a (.ptr 2010 0 []))),(3, .d (.it .i64)),(4, .d (.it .i64)),(5, .d (.it .i64)),(6, .f (.a (.ptr 6 0 []))),(7, .f (.a (.ptr 7 0 [])))],[(2010, .froz (.it .i64)),(6, .cell (.ag (.pr (.ag (.pr .bo .st)) (.ag (.pr .bo .st)))) true),(7, .cell (.ag (.pr (.ag (.pr .bo .st)) (.ag (.pr .bo .st)))) true)]⟩
noncomputable def anIA:Ann:=⟨[(3,[(0, .any),(1, .any),(3, .any),(4, .any),(5, .any),(6, .any),(7, .any)])],[],[]⟩
noncomputable def fesIA (c57:Int→Option R57) (c140:Int→Option R140):List FE:=[(fe57 c57),(fe140 c140)]
noncomputable def cdIA:Code:=((Tryz.f139.body).getD .skip)
noncomputable def PIA (c57:Int→Option R57) (c140:Int→Option R140) (x0:Int) (y10:(List Int)):Option (Bool×outIA.T):=(c140 (rd y10 0)).bind fun r1=>(if(2:Int)=0 then(none)else((c57 0).bind fun r2=>((c57 1).bind fun r3=>((c57 1).bind fun r4=>((c57 0).bind fun r5=>(some (false,((x0,r1,Int.tmod (rd y10 0) 2,2,()),(y10,((r2.1,r2.2),(r3.1,r3.2)),((r4.1,r4.2),(r5.1,r5.2)),())))))))))
theorem eIA (c57:Int→Option R57) (c140:Int→Option R140) (s:inIA.T):ev E0 (orcOf (fesIA c57 c140)) 60 anIA (outLo outIA) cdIA (inIA.mk' s) (fun _ _=>none)=PIA c57 c140 s.1.1 s.2.1:=by kernel_rfl
noncomputable def inIB:Sk:=⟨[(0, .d .fu),(1, .f (.a (.ptr 2010 0 []))),(3, .d (.it .i64)),(4, .d (.it .i64)),(5, .d (.it .i64)),(6, .f (.a (.ptr 2006 0 []))),(7, .f (.a (.ptr 2007 0 [])))],[(2006, .cell (.ag (.pr (.ag (.pr .bo .st)) (.ag (.pr .bo .st)))) false),(2007, .cell (.ag (.pr (.ag (.pr .bo .st)) (.ag (.pr .bo .st)))) false),(2010, .froz (.it .i64))]⟩
noncomputable def outIB:Sk:=⟨[(0, .d .fu),(1, .f (.a (.ptr 2010 0 []))),(3, .d (.it .i64)),(4, .d (.it .i64)),(5, .d (.it .i64)),(6, .f (.a (.ptr 2006 0 []))),(7, .f (.a (.ptr 2007 0 []))),(8, .d (.it .i64)),(9, .f (.a (.ptr 9 0 [])))],[(2010, .froz (.it .i64)),(2006, .cell (.ag (.pr (.ag (.pr .bo .st)) (.ag (.pr .bo .st)))) false),(2007, .cell (.ag (.pr (.ag (.pr .bo .st)) (.ag (.pr .bo .st)))) false),(9, .cell (.ag (.pr (.ag (.pr .bo .st)) (.ag (.pr .bo .st)))) true)]⟩
noncomputable def anIB:Ann:=⟨[],[(5,[(0, .any),(1, .any),(3, .any),(4, .any),(5, .any),(6, .any),(7, .any),(8, .any),(9, .any)])],[]⟩
noncomputable def fesIB (c56:TI→TI→Option R56) (c57:Int→Option R57) (c141:TI→TI→Option R141):List FE:=[(fe56 c56),(fe57 c57),(fe141 c141)]
noncomputable def cdIB:Code:=(c1 (c1 (c2 (c2 (c2 ((Tryz.f139.body).getD .skip))))))
noncomputable def PIB (c56:TI→TI→Option R56) (c57:Int→Option R57) (c141:TI→TI→Option R141) (x0:Int) (x3:Int) (x4:Int) (x5:Int) (y6:(TI×TI)) (y7:(TI×TI)) (y10:(List Int)):Option (Bool×outIB.T):=if x5=0 then(none)else((c57 (wrap64 (Int.tdiv (wrap64 (x4+x3)) x5))).bind fun r1=>((c56 (r1.1,r1.2) y7.1).bind fun r2=>((c141 (r2.1,r2.2) y6.1).bind fun r3=>((c57 (wrap64 (Int.tdiv (wrap64 (x4+x3)) x5))).bind fun r4=>((c56 (r4.1,r4.2) y7.2).bind fun r5=>((c141 (r5.1,r5.2) y6.2).bind fun r6=>(some (false,((x0,x3,x4,x5,wrap64 (Int.tdiv (wrap64 (x4+x3)) x5),()),(y10,y6,y7,((r3.1,r3.2),(r6.1,r6.2)),()))))))))))
theorem eIB (c56:TI→TI→Option R56) (c57:Int→Option R57) (c141:TI→TI→Option R141) (s:inIB.T):ev E0 (orcOf (fesIB c56 c57 c141)) 60 anIB (outLo outIB) cdIB (inIB.mk' s) (fun _ _=>none)=PIB c56 c57 c141 s.1.1 s.1.2.1 s.1.2.2.1 s.1.2.2.2.1 s.2.1 s.2.2.1 s.2.2.2.1:=by kernel_rfl
noncomputable def inIC:Sk:=⟨[(0, .d .fu),(1, .f (.a (.ptr 2010 0 []))),(3, .d (.it .i64)),(4, .d (.it .i64)),(5, .d (.it .i64)),(6, .f (.a (.ptr 2006 0 []))),(7, .f (.a (.ptr 2007 0 []))),(8, .d (.it .i64)),(9, .f (.a (.ptr 2009 0 [])))],[(2006, .cell (.ag (.pr (.ag (.pr .bo .st)) (.ag (.pr .bo .st)))) false),(2007, .cell (.ag (.pr (.ag (.pr .bo .st)) (.ag (.pr .bo .st)))) false),(2009, .cell (.ag (.pr (.ag (.pr .bo .st)) (.ag (.pr .bo .st)))) false),(2010, .froz (.it .i64))]⟩
noncomputable def outIC:Sk:=⟨[(0, .d .fu),(1, .f (.a (.ptr 2010 0 []))),(3, .d (.it .i64)),(4, .d (.it .i64)),(5, .d (.it .i64)),(6, .f (.a (.ptr 2006 0 []))),(7, .f (.a (.ptr 2007 0 [])))],[(2010, .froz (.it .i64)),(2006, .cell (.ag (.pr (.ag (.pr .bo .st)) (.ag (.pr .bo .st)))) false),(2007, .cell (.ag (.pr (.ag (.pr .bo .st)) (.ag (.pr .bo .st)))) false),(2009, .cell (.ag (.pr (.ag (.pr .bo .st)) (.ag (.pr .bo .st)))) false)]⟩
noncomputable def anIC:Ann:=⟨[],[],[]⟩
noncomputable def fesIC:List FE:=[]
noncomputable def cdIC:Code:=(c2 (c2 (c2 (c1 (c1 (c1 (c2 (c2 (c2 ((Tryz.f139.body).getD .skip))))))))))
noncomputable def PIC (x0:Int) (x3:Int) (x4:Int) (x5:Int) (x8:Int) (y6:(TI×TI)) (y7:(TI×TI)) (y9:(TI×TI)) (y10:(List Int)):Option (Bool×outIC.T):=if x5=0 then(none)else(some (false,((x0,x3,wrap64 ((wrap64 (x8*x5))-x4),wrap64 (Int.tdiv (wrap64 ((rd y10 0)-(wrap64 ((wrap64 ((wrap64 (x8*x5))-x4))*(wrap64 ((wrap64 (x8*x5))-x4)))))) x5),()),(y10,y7,y9,y9,()))))
theorem eIC (s:inIC.T):ev E0 (orcOf (fesIC)) 60 anIC (outLo outIC) cdIC (inIC.mk' s) (outK [(0, .any),(1, .any),(3, .any),(4, .any),(5, .any),(6, .any),(7, .any)] outIC)=PIC s.1.1 s.1.2.1 s.1.2.2.1 s.1.2.2.2.1 s.1.2.2.2.2.1 s.2.1 s.2.2.1 s.2.2.2.1 s.2.2.2.2.1:=by kernel_rfl
noncomputable def inBA:Sk:=⟨[(1, .f (.a (.ptr 2001 0 []))),(2, .f (.a (.ptr 2002 0 []))),(3, .f (.a (.ptr 2003 0 []))),(4, .f (.a (.ptr 2004 0 []))),(35, .d (.ag (.pr (.ag (.pr .bo .st)) (.ag (.pr .bo .st)))))],[(2001, .cell (.it .i64) false),(2002, .cell (.ag (.pr (.ag (.pr .bo .st)) (.ag (.pr .bo .st)))) false),(2003, .cell (.it .i64) false),(2004, .cell (.it .i64) false)]⟩
noncomputable def outBA:Sk:=⟨[(1, .f (.a (.ptr 2001 0 []))),(2, .f (.a (.ptr 2002 0 []))),(3, .f (.a (.ptr 2003 0 []))),(4, .f (.a (.ptr 2004 0 []))),(6, .f (.a (.ptr 6 0 [])))],[(2001, .cell (.it .i64) false),(2002, .cell (.ag (.pr (.ag (.pr .bo .st)) (.ag (.pr .bo .st)))) false),(2003, .cell (.it .i64) false),(2004, .cell (.it .i64) false),(6, .cell (.ag (.pr (.ag (.pr .bo .st)) (.ag (.pr .bo .st)))) true)]⟩
noncomputable def anBA:Ann:=⟨[],[],[]⟩
noncomputable def fesBA:List FE:=[]
noncomputable def cdBA:Code:=(c1 (c1 (c2 (c1 (c2 (c2 (c2 (c2 ((Tryz.f9.body).getD .skip)))))))))
noncomputable def PBA (x35:(TI×TI)) (y1:Int) (y2:(TI×TI)) (y3:Int) (y4:Int):Option (Bool×outBA.T):=some (false,((),(y1,y2,y3,y4,x35,())))
theorem eBA (s:inBA.T):ev E0 (orcOf (fesBA)) 80 anBA (outLo outBA) cdBA (inBA.mk' s) (outK [(1, .any),(2, .any),(3, .any),(4, .any),(6, .any)] outBA)=PBA s.1.1 s.2.1 s.2.2.1 s.2.2.2.1 s.2.2.2.2.1:=by kernel_rfl
noncomputable def inBB:Sk:=⟨[(1, .f (.a (.ptr 2001 0 []))),(2, .f (.a (.ptr 2002 0 []))),(3, .f (.a (.ptr 2003 0 []))),(4, .f (.a (.ptr 2004 0 []))),(6, .f (.a (.ptr 2006 0 [])))],[(2001, .cell (.it .i64) false),(2002, .cell (.ag (.pr (.ag (.pr .bo .st)) (.ag (.pr .bo .st)))) false),(2003, .cell (.it .i64) false),(2004, .cell (.it .i64) false),(2006, .cell (.ag (.pr (.ag (.pr .bo .st)) (.ag (.pr .bo .st)))) false)]⟩
noncomputable def outBB:Sk:=⟨[(1, .f (.a (.ptr 2001 0 []))),(2, .f (.a (.ptr 2002 0 []))),(3, .f (.a (.ptr 2003 0 []))),(4, .f (.a (.ptr 2004 0 [])))],[(2001, .cell (.it .i64) false),(2002, .cell (.ag (.pr (.ag (.pr .bo .st)) (.ag (.pr .bo .st)))) false),(2003, .cell (.it .i64) false),(2004, .cell (.it .i64) false),(2006, .cell (.ag (.pr (.ag (.pr .bo .st)) (.ag (.pr .bo .st)))) false)]⟩
noncomputable def anBB:Ann:=⟨[],[],[]⟩
noncomputable def fesBB (c55:TI→TI→Option R55) (c56:TI→TI→Option R56) (c57:Int→Option R57) (c58:TI→Option R58):List FE:=[(fe55 c55),(fe56 c56),(fe57 c57),(fe58 c58)]
noncomputable def cdBB:Code:=(c2 (c1 (c2 (c1 (c2 (c2 (c2 (c2 ((Tryz.f9.body).getD .skip)))))))))
noncomputable def PBB (c55:TI→TI→Option R55) (c56:TI→TI→Option R56) (c57:Int→Option R57) (c58:TI→Option R58) (y1:Int) (y2:(TI×TI)) (y3:Int) (y4:Int) (y6:(TI×TI)):Option (Bool×outBB.T):=(c57 2).bind fun r1=>((c56 (r1.1,r1.2) y6.1).bind fun r2=>(if(2:Int)=0 then(none)else((c57 (Int.tmod y1 2)).bind fun r3=>((c56 (r3.1,r3.2) y6.2).bind fun r4=>((c55 (r2.1,r2.2) (r4.1,r4.2)).bind fun r5=>((c56 (r5.1,r5.2) (r5.1,r5.2)).bind fun r6=>((c57 y1).bind fun r7=>((c56 y6.2 y6.2).bind fun r8=>((c56 (r7.1,r7.2) (r8.1,r8.2)).bind fun r9=>((c55 (r6.1,r6.2) (r9.1,r9.2)).bind fun r10=>((c58 (r10.1,r10.2)).bind fun r11=>(cnd (r11.2) (if r11.1=4 then(if(4:Int)=0 then(none)else(some (true,((),(y1,((r5.1,r5.2),y6.2),wrap64 (Int.tdiv r11.1 4),0,y6,())))))else(if r11.1=(-4)then(if(4:Int)=0 then(none)else(some (true,((),(y1,((r5.1,r5.2),y6.2),wrap64 (Int.tdiv r11.1 4),0,y6,())))))else(some (false,((),(y1,y2,y3,y4,y6,())))))) (some (false,((),(y1,y2,y3,y4,y6,()))))))))))))))))
theorem eBB (c55:TI→TI→Option R55) (c56:TI→TI→Option R56) (c57:Int→Option R57) (c58:TI→Option R58) (s:inBB.T):ev E0 (orcOf (fesBB c55 c56 c57 c58)) 80 anBB (outLo outBB) cdBB (inBB.mk' s) (outK [(1, .any),(2, .any),(3, .any),(4, .any)] outBB)=PBB c55 c56 c57 c58 s.2.1 s.2.2.1 s.2.2.2.1 s.2.2.2.2.1 s.2.2.2.2.2.1:=by kernel_rfl
end Go.Proofs.YtfllafbphddooaaGreatV
namespace Go.Proofs.YtfllafbphddooaaGreatE
open Go.RowKit
def plain:Ty→Bool
 | .pr a c=>plain a&&plain c| .ag a=>plain a| .ar a=>plain a| .li _=>false| .nz _=>false|_=>true
theorem Reps_plain {w w':World} {own own':Nat→Prop}:∀(t:Ty),plain t=true→∀(x:t.T) (cs:List Value),Reps w own t x cs→Reps w' own' t x cs
 | .bo,_,_,_,h=>h
 | .it _,_,_,_,h=>h
 | .st,_,_,_,h=>h
 | .un,_,_,_,h=>h
 | .fu,_,_,_,h=>h
 | .pr a c,hp,x,cs,h=>by
  obtain⟨c1,c2,e,h1,h2⟩:=h
  have hp:(plain a&&plain c)=true:=hp
  rw [Bool.and_eq_true]at hp
  exact⟨c1,c2,e,Reps_plain a hp.1 _ _ h1,Reps_plain c hp.2 _ _ h2⟩
 | .ag a,hp,x,cs,h=>Reps_plain a hp x cs h
 | .ar a,hp,x,cs,h=>Reps_plain a hp x cs h
 | .li _,hp,_,_,_=>by cases hp
 | .nz _,hp,_,_,_=>by cases hp
structure CellAt (w:World) (a:Addr) (t:Ty) (x:t.T):Prop where
 spot:a.spot=none
 lt:a.block<w.heap.size
 seg:∃cs,Seg w a.block a.off cs∧Reps w (fun _=>False) t x cs
 room:∀j,j<t.sz→(w.cell? ⟨a.block,a.off+j,none⟩).isSome=true∧w.frozen? ⟨a.block,a.off+j,none⟩=false
theorem CellAt.frame {w w':World} {a:Addr} {t:Ty} {x:t.T} {Bo:Nat→Nat→Prop} (h:CellAt w a t x) (hp:plain t=true) (f:Frame' w w' Bo) (hn:∀o,¬Bo a.block o):CellAt w' a t x:=by
 obtain⟨cs,h1,h2⟩:=h.seg
 refine⟨h.spot,Nat.lt_of_lt_of_le h.lt f.size,⟨cs,fun j v hv=>?_,Reps_plain t hp _ _ h2⟩,fun j hj=>⟨f.some_ _ _ (h.room j hj).1,?_⟩⟩
 ·rw [f.cell _ _ h.lt (hn _)];exact h1 j v hv
 ·rw [f.froz _ _ h.lt];exact(h.room j hj).2
theorem cell_congr {w w':World} {b o:Nat} (h:w'.heap[b]?=w.heap[b]?):w'.cell? ⟨b,o,none⟩=w.cell? ⟨b,o,none⟩∧w'.frozen? ⟨b,o,none⟩=w.frozen? ⟨b,o,none⟩:=by
 unfold World.cell? World.frozen?
 simp only [h]
 exact⟨trivial,trivial⟩
theorem frame_put {w:World} {l:Nat} {o o':Obj} (hl:w.heap[l]?=some o) (hc:∀k,w.cell? ⟨l,k,none⟩=none) (hf:∀k,(w.putObj l o').frozen? ⟨l,k,none⟩=w.frozen? ⟨l,k,none⟩):Frame' w (w.putObj l o') (fun b _=>b=l):=by
 have hs:(w.putObj l o').heap.size=w.heap.size:=by simp [World.putObj]
 refine⟨rfl,rfl,rfl,Nat.le_of_eq hs.symm,fun b hb hn=>World.putObj_heap_other (fun e=>hn 0 e),fun b k hb hn=>(cell_congr (World.putObj_heap_other (fun e=>hn e))).1,fun b k h1=>?_,fun b k hb=>?_⟩
 ·by_cases e:b=l
  ·subst e;rw [hc k]at h1;cases h1
  ·rw [(cell_congr (w:=w) (World.putObj_heap_other (fun e'=>e e'))).1];exact h1
 ·by_cases e:b=l
  ·subst e;exact hf k
  ·exact(cell_congr (World.putObj_heap_other (fun e'=>e e'))).2
theorem loOf_one {R:Type} {key:Nat} {sk:Sk} {l:sk.T→Option R} {st:St} {r:R} (h:loOf [⟨key,sk,l⟩] key st=some r):∃s,st=sk.mk' s∧l s=some r:=by
 unfold loOf at h
 simp only [Nat.beq_refl]at h
 rw [show∀(x y:Option R),cnd true x y=x from fun _ _=>rfl]at h
 split at h
 ·rename_i s hs
  exact⟨s,Sk.dec_ok hs,h⟩
 ·cases h
structure Cel where
 n:Nat
 a:Addr
 t:Ty
 x:t.T
def blOf (l:List Cel):Bl:=l.map fun c=>(c.n, .live c.t [c.x] false)
def φOf:List Cel→Nat→Addr
 | [],_=>⟨0,0,some 0⟩
 |c::l,n=>if c.n=n then c.a else φOf l n
def BoOf (l:List Cel):Nat→Nat→Prop:=lentBo (blOf l) (φOf l)
theorem getB_blOf:∀(l:List Cel) (n:Nat),(getB (blOf l) n= .fresh∧∀c,c∈l→c.n≠n)∨∃c,c∈l∧c.n=n∧getB (blOf l) n= .live c.t [c.x] false∧φOf l n=c.a
 | [],n=>Or.inl ⟨rfl,fun _ h=>nomatch h⟩
 |c::l,n=>by
  by_cases e:c.n=n
  ·refine Or.inr ⟨c,List.mem_cons_self,e,?_,?_⟩
   ·show(cnd (Nat.beq c.n n) _ _)=_
    rw [e,Nat.beq_refl];rfl
   ·unfold φOf;rw [if_pos e]
  ·have hb:Nat.beq c.n n=false:=by rw [Bool.eq_false_iff];exact fun h=>e (Nat.eq_of_beq_eq_true h)
   have h1:getB (blOf (c::l)) n=getB (blOf l) n:=by
    show(cnd (Nat.beq c.n n) _ _)=_
    rw [hb];rfl
   have h2:φOf (c::l) n=φOf l n:=by unfold φOf;rw [if_neg e];cases l<;>rfl
   rcases getB_blOf l n with⟨g1,g2⟩| ⟨c',g1,g2,g3,g4⟩
   ·refine Or.inl ⟨h1.trans g1,fun c' hc'=>?_⟩
    rcases List.mem_cons.1 hc' with rfl|hc'
    ·exact e
    ·exact g2 c' hc'
   ·exact Or.inr ⟨c',List.mem_cons_of_mem _ g1,g2,h1.trans g3,h2.trans g4⟩
theorem not_Bo {l:List Cel} {b o:Nat} (h:∀c,c∈l→c.a.block≠b):¬BoOf l b o:=by
 rintro⟨n,t,x,tl,hn,hb,hs,he,_⟩
 rcases getB_blOf l n with⟨g,_⟩| ⟨c,g1,g2,g3,g4⟩
 ·rw [g]at hb;cases hb
 ·rw [g4]at he;exact h c g1 he
theorem look_in:∀{l:Bl} {n:Nat} {b:Blk},look l n=some b→(n,b)∈l
 | [],_,_,h=>by cases h
 | (m,c)::l,n,b,h=>by
  replace h:(cnd (Nat.beq m n) (some c) (look l n))=some b:=h
  cases hb:Nat.beq m n with
  |true=>rw [hb]at h;injection h with h;rw [←h,←Nat.eq_of_beq_eq_true hb];exact List.mem_cons_self
  |false=>rw [hb]at h;exact List.mem_cons_of_mem _ (look_in h)
section
variable {P:Program} {N:Nat} {w0 w:World} {Bo:Nat→Nat→Prop} {bl0 bl:Nat→Blk} {φ0 φ:Nat→Addr} {T:Nat→V} {B:Nat→Blk} {a:Act}
theorem tm_ok {tm:List (Nat×V)} (h:∀q,q∈tm→RepV w bl φ q.2 (a.tmps.getD q.1 undef)):∀t,RepV w bl φ (getV tm t) (a.tmps.getD t undef):=by
 intro t
 induction tm with
 |nil=>exact trivial
 |cons q tm ih=>
  obtain⟨m,v⟩:=q
  show RepV w bl φ (cnd (Nat.beq m t) v (getV tm t)) _
  cases hb:Nat.beq m t with
  |true=>have:=h (m,v) List.mem_cons_self;rw [Nat.eq_of_beq_eq_true hb]at this;exact this
  |false=>exact ih fun q hq=>h q (List.mem_cons_of_mem _ hq)
theorem mk_relS {l:List Cel} {tm:List (Nat×V)} (hN:a.tmps.size=N) (hd:a.defers=[]) (hc:∀c,c∈l→CellAt w c.a c.t c.x∧plain c.t=true) (hb:∀c d,c∈l→d∈l→c.a.block=d.a.block→c.n=d.n)
  (ht:∀q,q∈tm→RepV w (getB (blOf l)) (φOf l) q.2 (a.tmps.getD q.1 undef)):RelS N w (BoOf l) (getB (blOf l)) (φOf l) (getV tm) (getB (blOf l)) (getB (blOf l)) (φOf l) a w:=by
 have hm:Mem w (BoOf l) (getB (blOf l)) (φOf l) w:=by
  refine⟨fun n=>?_,fun n m h1 h2 s1 s2 e=>?_,fun n t x tl hn h hs=>?_,Frame'.refl _ _⟩
  ·rcases getB_blOf l n with⟨g,_⟩| ⟨c,g1,g2,g3,g4⟩
   ·rw [g];exact trivial
   ·rw [g3,g4]
    obtain⟨k,kp⟩:=hc c g1
    refine Or.inr ⟨k.spot,k.lt,fun i y hy=>?_,fun j hj=>k.room j (by simpa using hj)⟩
    cases i with
    |zero=>
     cases hy
     obtain⟨cs,q1,q2⟩:=k.seg
     exact⟨cs,by simpa using q1,Reps_plain _ kp _ _ q2⟩
    |succ i=>cases hy
  ·rcases getB_blOf l n with⟨g,_⟩| ⟨c,g1,g2,g3,g4⟩
   ·rw [g]at h1;obtain⟨_,_,_,h1⟩:=h1;cases h1
   ·rcases getB_blOf l m with⟨g,_⟩| ⟨d,k1,k2,k3,k4⟩
    ·rw [g]at h2;obtain⟨_,_,_,h2⟩:=h2;cases h2
    ·rw [g4,k4]at e
     rw [←g2,←k2];exact hb c d g1 k1 e
  ·rcases getB_blOf l n with⟨g,_⟩| ⟨c,g1,g2,g3,g4⟩
   ·rw [g]at h;cases h
   ·rw [g3]at h;cases h
    exact Or.inr ⟨rfl,fun j hj=>⟨n,_,_,_,hn,g3,hs,rfl,Nat.le_add_right _ _,by omega⟩⟩
 exact⟨fun n _=>rfl,hm,tm_ok ht,hN,hd,fun _ _=>rfl,fun _ _=>⟨fun h=>h,fun _=>⟨.same _,fun _=>rfl⟩⟩⟩
theorem mk_rel {l:List Cel} {tm:List (Nat×V)} (hN:a.tmps.size=N) (hd:a.defers=[]) (hc:∀c,c∈l→CellAt w c.a c.t c.x∧plain c.t=true) (hb:∀c d,c∈l→d∈l→c.a.block=d.a.block→c.n=d.n)
  (ht:∀q,q∈tm→RepV w (getB (blOf l)) (φOf l) q.2 (a.tmps.getD q.1 undef)):Rel N w (BoOf l) (getB (blOf l)) (φOf l) ⟨tm,blOf l⟩ a w:=⟨_,_,mk_relS hN hd hc hb ht⟩
theorem rel_cell (h:RelS N w0 Bo bl0 φ0 T B bl φ a w) {n k:Nat} {t:Ty} {x:t.T} {tl:Bool} (hn:n<10000) (hb:B n= .live t [x] tl) (hp:T k= .a (.ptr n 0 [])) (pl:plain t=true):CellAt w (φ n) t x∧a.tmps.getD k undef= .pointer (some (φ n)):=by
 have h1:=h.tm k
 rw [hp]at h1
 have e:bl n= .live t [x] tl:=(h.loc n hn).trans hb
 have h1:(match bl n with| .live t l _=>PtrV (φ n) t l.length 0 [] (a.tmps.getD k undef)| .froz t l=>PtrV (φ n) t l.length 0 [] (a.tmps.getD k undef)| .husk _=>True| .dead=>True| .fresh=>False):=h1
 rw [e]at h1
 obtain⟨_,_,_,hs,hv⟩:=h1
 have hk:=h.mem.blk n
 rw [e]at hk
 rcases hk with⟨h2,_⟩| ⟨_,h3,h4,h5⟩
 ·exact absurd hs h2
 ·obtain⟨cs,q1,q2⟩:=h4 0 x rfl
  refine⟨⟨hs,h3,⟨cs,by simpa using q1,Reps_plain _ pl _ _ q2⟩,fun j hj=>h5 j (by simpa using hj)⟩,?_⟩
  rw [hv]
  have:(⟨(φ n).block,(φ n).off+(0:Int).toNat*t.sz+offP [] t,none⟩:Addr)=φ n:=by
   rw [←hs];simp [offP]
  rw [this]
theorem rel_kept (h:RelS N w0 Bo bl0 φ0 T B bl φ a w) {n:Nat} (hs:special n) (h0:bl0 n≠ .fresh) (hn:n<10000) (hl:lf (B n)):φ n=φ0 n:=by
 have:=((h.keep n hs).2 h0).2
 rw [h.loc n hn]at this
 exact this hl
end
structure Fel where
 n:Nat
 a:Addr
 t:Ty
 xs:List t.T
structure FrozAt (w:World) (a:Addr) (t:Ty) (xs:List t.T):Prop where
 spot:a.spot=none
 lt:a.block<w.heap.size
 arr:Arr w (fun _=>False) t xs a.block a.off
theorem Arr_plain {w w':World} {own own':Nat→Prop} {t:Ty} {xs:List t.T} {b o:Nat} (hp:plain t=true) (hs:∀k v,w.cell? ⟨b,k,none⟩=some v→w'.cell? ⟨b,k,none⟩=some v) (h:Arr w own t xs b o):Arr w' own' t xs b o:=by
 intro i y hy
 obtain⟨ci,h1,h2⟩:=h i y hy
 exact⟨ci,fun j v hj=>hs _ _ (h1 j v hj),Reps_plain t hp _ _ h2⟩
theorem FrozAt.frame {w w':World} {a:Addr} {t:Ty} {xs:List t.T} {Bo:Nat→Nat→Prop} (h:FrozAt w a t xs) (hp:plain t=true) (f:Frame' w w' Bo) (hn:∀o,¬Bo a.block o):FrozAt w' a t xs:=
 ⟨h.spot,Nat.lt_of_lt_of_le h.lt f.size,Arr_plain hp (fun k v hv=>by rw [f.cell _ _ h.lt (hn _)];exact hv) h.arr⟩
def blZ (l:List Cel) (z:Fel):Bl:=blOf l++[(z.n, .froz z.t z.xs)]
def φZ (l:List Cel) (z:Fel) (n:Nat):Addr:=if n=z.n then z.a else φOf l n
theorem getB_app (l:Bl) (m:Nat) (b:Blk) (n:Nat) (hn:getB l m= .fresh) (hl:∀q,q∈l→q.1≠m):getB (l++[(m,b)]) n=if n=m then b else getB l n:=by
 induction l with
 |nil=>
  show(cnd (Nat.beq m n) b .fresh)=_
  by_cases e:n=m
  ·subst e;rw [Nat.beq_refl,if_pos rfl];rfl
  ·have hb:Nat.beq m n=false:=by rw [Bool.eq_false_iff];exact fun h=>e (Nat.eq_of_beq_eq_true h).symm
   rw [hb,if_neg e];rfl
 |cons q l ih=>
  obtain⟨k,c⟩:=q
  have hk:k≠m:=hl (k,c) List.mem_cons_self
  have hf:getB l m= .fresh:=by
   have:(cnd (Nat.beq k m) c (getB l m))= .fresh:=hn
   have hb:Nat.beq k m=false:=by rw [Bool.eq_false_iff];exact fun h=>hk (Nat.eq_of_beq_eq_true h)
   rw [hb]at this;exact this
  have:=ih hf (fun q hq=>hl q (List.mem_cons_of_mem _ hq))
  show(cnd (Nat.beq k n) c (getB (l++[(m,b)]) n))=if n=m then b else(cnd (Nat.beq k n) c (getB l n))
  rw [this]
  by_cases e:k=n
  ·subst e
   rw [Nat.beq_refl]
   show c=if k=m then b else c
   rw [if_neg hk]
  ·have hb:Nat.beq k n=false:=by rw [Bool.eq_false_iff];exact fun h=>e (Nat.eq_of_beq_eq_true h)
   rw [hb];rfl
section
variable {P:Program} {N:Nat} {w:World} {a:Act}
theorem getB_blZ {l:List Cel} {z:Fel} (hz:∀c,c∈l→c.n≠z.n) (n:Nat):getB (blZ l z) n=if n=z.n then .froz z.t z.xs else getB (blOf l) n:=by
 refine getB_app _ _ _ _ ?_ ?_
 ·rcases getB_blOf l z.n with⟨g,_⟩| ⟨c,g1,g2,_⟩
  ·exact g
  ·exact absurd g2 (hz c g1)
 ·intro q hq
  obtain⟨c,hc,rfl⟩:=List.mem_map.1 hq
  exact hz c hc
def BoZ (l:List Cel) (z:Fel):Nat→Nat→Prop:=lentBo (blZ l z) (φZ l z)
theorem not_BoZ {l:List Cel} {z:Fel} (hz:∀c,c∈l→c.n≠z.n) {b o:Nat} (h:∀c,c∈l→c.a.block≠b):¬BoZ l z b o:=by
 rintro⟨n,t,x,tl,hn,hb,hs,he,_⟩
 rw [getB_blZ hz]at hb
 by_cases e:n=z.n
 ·rw [if_pos e]at hb;cases hb
 ·rw [if_neg e]at hb
  rcases getB_blOf l n with⟨g,_⟩| ⟨c,g1,g2,g3,g4⟩
  ·rw [g]at hb;cases hb
  ·unfold φZ at he
   rw [if_neg e,g4]at he;exact h c g1 he
theorem mk_relz {l:List Cel} {z:Fel} {tm:List (Nat×V)} (hN:a.tmps.size=N) (hd:a.defers=[]) (hc:∀c,c∈l→CellAt w c.a c.t c.x∧plain c.t=true) (hb:∀c d,c∈l→d∈l→c.a.block=d.a.block→c.n=d.n)
  (hz:∀c,c∈l→c.n≠z.n) (hzb:∀c,c∈l→c.a.block≠z.a.block) (hf:FrozAt w z.a z.t z.xs) (hp:plain z.t=true)
  (ht:∀q,q∈tm→RepV w (getB (blZ l z)) (φZ l z) q.2 (a.tmps.getD q.1 undef)):Rel N w (BoZ l z) (getB (blZ l z)) (φZ l z) ⟨tm,blZ l z⟩ a w:=by
 have hm:Mem w (BoZ l z) (getB (blZ l z)) (φZ l z) w:=by
  refine⟨fun n=>?_,fun n m h1 h2 s1 s2 e=>?_,fun n t x tl hn h hs=>?_,Frame'.refl _ _⟩
  ·rw [getB_blZ hz]
   by_cases en:n=z.n
   ·rw [if_pos en]
    have e2:φZ l z n=z.a:=by unfold φZ;rw [if_pos en]
    rw [e2]
    refine Or.inr ⟨hf.spot,hf.lt,?_,Arr_plain hp (fun _ _ h=>h) hf.arr⟩
    rintro⟨m,⟨t,x,tl,h1⟩,h2,h3⟩
    rw [getB_blZ hz]at h1
    by_cases em:m=z.n
    ·rw [if_pos em]at h1;cases h1
    ·rw [if_neg em]at h1
     rcases getB_blOf l m with⟨g,_⟩| ⟨c,g1,g2,g3,g4⟩
     ·rw [g]at h1;cases h1
     ·unfold φZ at h3
      rw [if_neg em,g4]at h3;exact hzb c g1 h3
   ·rw [if_neg en]
    have e2:φZ l z n=φOf l n:=by unfold φZ;rw [if_neg en]
    rw [e2]
    rcases getB_blOf l n with⟨g,_⟩| ⟨c,g1,g2,g3,g4⟩
    ·rw [g];exact trivial
    ·rw [g3,g4]
     obtain⟨k,kp⟩:=hc c g1
     refine Or.inr ⟨k.spot,k.lt,fun i y hy=>?_,fun j hj=>k.room j (by simpa using hj)⟩
     cases i with
     |zero=>
      cases hy
      obtain⟨cs,q1,q2⟩:=k.seg
      exact⟨cs,by simpa using q1,Reps_plain _ kp _ _ q2⟩
     |succ i=>cases hy
  ·obtain⟨_,_,_,h1⟩:=h1
   obtain⟨_,_,_,h2⟩:=h2
   rw [getB_blZ hz]at h1 h2
   by_cases en:n=z.n
   ·rw [if_pos en]at h1;cases h1
   ·by_cases em:m=z.n
    ·rw [if_pos em]at h2;cases h2
    ·rw [if_neg en]at h1;rw [if_neg em]at h2
     unfold φZ at e
     rw [if_neg en,if_neg em]at e
     rcases getB_blOf l n with⟨g,_⟩| ⟨c,g1,g2,g3,g4⟩
     ·rw [g]at h1;cases h1
     ·rcases getB_blOf l m with⟨g,_⟩| ⟨d,k1,k2,k3,k4⟩
      ·rw [g]at h2;cases h2
      ·rw [g4,k4]at e
       rw [←g2,←k2];exact hb c d g1 k1 e
  ·have h0:=h
   rw [getB_blZ hz]at h
   by_cases en:n=z.n
   ·rw [if_pos en]at h;cases h
   ·rw [if_neg en]at h
    rcases getB_blOf l n with⟨g,_⟩| ⟨c,g1,g2,g3,g4⟩
    ·rw [g]at h;cases h
    ·have g5:=g3
     rw [h]at g5;cases g5
     exact Or.inr ⟨rfl,fun j hj=>⟨n,_,_,_,hn,h0,hs,rfl,Nat.le_add_right _ _,by omega⟩⟩
 exact⟨_,_,fun n _=>rfl,hm,tm_ok ht,hN,hd,fun _ _=>rfl,fun _ _=>⟨fun h=>h,fun _=>⟨.same _,fun _=>rfl⟩⟩⟩
theorem rel_froz {w0:World} {Bo:Nat→Nat→Prop} {bl0 bl:Nat→Blk} {φ0 φ:Nat→Addr} {T:Nat→V} {B:Nat→Blk} (h:RelS N w0 Bo bl0 φ0 T B bl φ a w) {n k:Nat} {t:Ty} {xs:List t.T} (hn:n<10000) (hb:B n= .froz t xs) (hp:T k= .a (.ptr n 0 [])) (pl:plain t=true):
  FrozAt w (φ n) t xs∧a.tmps.getD k undef= .pointer (some (φ n))∧0<xs.length:=by
 have h1:=h.tm k
 rw [hp]at h1
 have e:bl n= .froz t xs:=(h.loc n hn).trans hb
 have h1:(match bl n with| .live t l _=>PtrV (φ n) t l.length 0 [] (a.tmps.getD k undef)| .froz t l=>PtrV (φ n) t l.length 0 [] (a.tmps.getD k undef)| .husk _=>True| .dead=>True| .fresh=>False):=h1
 rw [e]at h1
 obtain⟨_,hlen,_,hs,hv⟩:=h1
 have hk:=h.mem.blk n
 rw [e]at hk
 rcases hk with⟨h2,_⟩| ⟨_,h3,_,h4⟩
 ·exact absurd hs h2
 ·refine⟨⟨hs,h3,Arr_plain pl (fun _ _ h=>h) h4⟩,?_,by omega⟩
  rw [hv]
  have:(⟨(φ n).block,(φ n).off+(0:Int).toNat*t.sz+offP [] t,none⟩:Addr)=φ n:=by
   rw [←hs];simp [offP]
  rw [this]
end
theorem ptr_live {w:World} {bl:Nat→Blk} {φ:Nat→Addr} {n:Nat} {t:Ty} {x:t.T} {tl:Bool} {A:Addr} {v:Value} (hb:bl n= .live t [x] tl) (hφ:φ n=A) (hs:A.spot=none) (hv:v= .pointer (some A)):RepV w bl φ (.a (.ptr n 0 [])) v:=by
 show(match bl n with| .live t l' _=>PtrV (φ n) t l'.length 0 [] v| .froz t l'=>PtrV (φ n) t l'.length 0 [] v| .husk _=>True| .dead=>True| .fresh=>False)
 rw [hb,hφ]
 refine⟨Int.le_refl 0,by simp,⟨t,rfl⟩,hs,?_⟩
 rw [hv]
 have:A=(⟨A.block,A.off+(0:Int).toNat*t.sz+offP [] t,none⟩:Addr):=by
  rw [←hs];simp [offP]
 rw [←this]
theorem ptr_froz {w:World} {bl:Nat→Blk} {φ:Nat→Addr} {n:Nat} {t:Ty} {xs:List t.T} {A:Addr} {v:Value} (hb:bl n= .froz t xs) (h0:0<xs.length) (hφ:φ n=A) (hs:A.spot=none) (hv:v= .pointer (some A)):RepV w bl φ (.a (.ptr n 0 [])) v:=by
 show(match bl n with| .live t l' _=>PtrV (φ n) t l'.length 0 [] v| .froz t l'=>PtrV (φ n) t l'.length 0 [] v| .husk _=>True| .dead=>True| .fresh=>False)
 rw [hb,hφ]
 refine⟨Int.le_refl 0,by omega,⟨t,rfl⟩,hs,?_⟩
 rw [hv]
 have:A=(⟨A.block,A.off+(0:Int).toNat*t.sz+offP [] t,none⟩:Addr):=by
  rw [←hs];simp [offP]
 rw [←this]
theorem yl_rep {w:World} {bl:Nat→Blk} {φ:Nat→Addr} {l:Nat} {v:Value}:RepV w bl φ (.a (.v .fu (Int.negSucc (l+1)))) v↔v= .func (.yield l) #[] #[]:=by
 constructor
 ·rintro⟨cs,h1,h2⟩
  have h1:cs=[.func (.yield l) #[] #[]]:=h1
  have h2:cs=[v]:=h2
  rw [h1]at h2
  injection h2 with h2;exact h2.symm
 ·rintro rfl
  exact⟨_,rfl,rfl⟩
section
variable {F:Fence} {n:Nat} {P:Program} {ops:Array Oper} {Q:Exit→Act→World→Prop} {a:Act} {w w':World} {i:Nat} {rest:List Nat} {o:Oper}
theorem op_in (hF:Wide F) (ho:ops[i]?=some o) (hg:o.guard=none) {v:Value} (h:(execOp a.eval o).run P w= .ok (.value v) w') (k:wpOpsIn F n P ops Q rest (a.put o.dst v) w'):wpOpsIn F n P ops Q (i::rest) a w:=by
 unfold wpOpsIn
 rw [ho]
 have hw:Region.wanted o (yielded ops a.tmps)=true:=by unfold Region.wanted;rw [hg]
 simp only [hw,if_true]
 refine⟨fun f _=>hF.fn f,?_⟩
 rw [Oper.semAt_eq _ _ _ (not_defer h (fun d e=>nomatch e)),h,Oper.uponIn_value]
 exact k
theorem op_round (hF:Wide F) (ho:ops[i]?=some o) (hg:o.guard=none) {l f:Nat} {tmps:Array Value} {asg bd:Code} (h:(execOp a.eval o).run P w= .ok (.round l f tmps asg bd) w') {R:Ending→World→Prop}
  (k:RoundIn F (n-1) P l f tmps asg bd w' R) (hR:∀e w'',R e w''→∃v,e= .returned v∧wpOpsIn F n P ops Q rest (a.put o.dst v) w''):wpOpsIn F n P ops Q (i::rest) a w:=by
 unfold wpOpsIn
 rw [ho]
 have hw:Region.wanted o (yielded ops a.tmps)=true:=by unfold Region.wanted;rw [hg]
 simp only [hw,if_true]
 refine⟨fun f _=>hF.fn f,?_⟩
 rw [Oper.semAt_eq _ _ _ (not_defer h (fun d e=>nomatch e)),h,Oper.uponIn_round]
 refine⟨fun e=>(by rw [hF.dep]at e;cases e),RoundIn.mono k fun e w'' he=>?_⟩
 obtain⟨v,rfl,h2⟩:=hR e w'' he
 exact h2
theorem exec_yield {c:Call} {fo:Operand} {l:Nat} (ho:o.op= .call c) (hc:c.callee= .value fo) (hv:a.eval fo= .func (.yield l) #[] #[]) {x:Next} {w2:World} (h:(Instr.yield l (c.args.map a.eval)).run P w= .ok x w2):(execOp a.eval o).run P w= .ok x w2:=by
 have e:(#[]:Array Value)++c.args.map a.eval++(#[]:Array Value)=c.args.map a.eval:=by simp
 simp only [execOp,ho,resolve,hc,hv,Deferred.ofValue,Sem.run_bind,Sem.run_pure,Result.andThen_ok,invoke,e]
 simpa using h
end
end Go.Proofs.YtfllafbphddooaaGreatE
set_option maxRecDepth 100000
namespace Go.Proofs.YtfllafbphddooaaGreatV
open Go Go.RowKit YtfllafbphddooaaGreat YtfllafbphddooaaGreatE YtfllafbphddooaaGreatW.PrintWords YtfllafbphddooaaGreatW.PrintLast YtfllafbphddooaaGreatW.PrintMore
abbrev CT:=(TI×TI)
abbrev tC:Ty:= .ag (.pr (.ag (.pr .bo .st)) (.ag (.pr .bo .st)))
abbrev tI:Ty:= .it .i64
section
variable (k:Nat)
noncomputable abbrev qE:=PIA (FX57 k) (FX140 k)
noncomputable abbrev qB:=PIB (FX56 k) (FX57 k) (FX141 k)
noncomputable abbrev qS:=PBB (FX55 k) (FX56 k) (FX57 k) (FX58 k)
noncomputable def LP:Nat→List Int→Int→Int→Int→CT→CT→Int→CT→Int→Int→Option outBB.T
 |0,_,_,_,_,_,_,_,_,_,_=>none
 |j+1,ds,r,p,q,b,n,y1,y2,y3,y4=>(qB k 0 r p q b n ds).bind fun s=>(qS k y1 y2 y3 y4 s.2.2.2.2.2.1).bind fun t=>match t.1 with
  |true=>some t.2
  |false=>(PIC 0 s.2.1.2.1 s.2.1.2.2.1 s.2.1.2.2.2.1 s.2.1.2.2.2.2.1 s.2.2.2.1 s.2.2.2.2.1 s.2.2.2.2.2.1 s.2.2.1).bind fun u=>
   LP j u.2.2.1 u.2.1.2.1 u.2.1.2.2.1 u.2.1.2.2.2.1 u.2.2.2.1 u.2.2.2.2.1 t.2.2.1 t.2.2.2.1 t.2.2.2.2.1 t.2.2.2.2.2.1
noncomputable def GX9l0 (x34:Int×Unit) (x1:Int) (x2:CT) (x3 x4:Int):Option R9:=(qE k 0 [x34.1]).bind fun s=>
 (LP k k s.2.2.1 s.2.1.2.1 s.2.1.2.2.1 s.2.1.2.2.2.1 s.2.2.2.1 s.2.2.2.2.1 x1 x2 x3 x4).bind fun t=>some (t.2.2.1.1,t.2.2.1.2,t.2.2.2.1,t.2.2.2.2.1)
noncomputable abbrev FX9 (x0:Int):Option R9:=B9 (GX9l0 k) (FX52 k) (FX53 k) (FX54 k) x0
end
def sA (x:Int) (s:Bool×outIA.T):Bool×outIA.T:=(s.1,((x,s.2.1.2),s.2.2))
def sB (x:Int) (s:Bool×outIB.T):Bool×outIB.T:=(s.1,((x,s.2.1.2),s.2.2))
def sC (x:Int) (s:Bool×outIC.T):Bool×outIC.T:=(s.1,((x,s.2.1.2),s.2.2))
theorem map_if {α β:Type} {f:α→β} {c:Prop} [Decidable c] {a b:Option α}:Option.map f (if c then a else b)=if c then Option.map f a else Option.map f b:=by by_cases h:c<;>simp [h]
theorem qE_x {k:Nat} {x:Int} {ds:List Int}:qE k x ds=(qE k 0 ds).map (sA x):=by
 unfold qE PIA;simp only [Option.map_bind,Function.comp_def,Option.map_some,Option.map_none,map_if];rfl
theorem qB_x {k:Nat} {x r p q:Int} {b n:CT} {ds:List Int}:qB k x r p q b n ds=(qB k 0 r p q b n ds).map (sB x):=by
 unfold qB PIB;simp only [Option.map_bind,Function.comp_def,Option.map_some,Option.map_none,map_if];rfl
theorem qC_x {x r p q a:Int} {b n z:CT} {ds:List Int}:PIC x r p q a b n z ds=(PIC 0 r p q a b n z ds).map (sC x):=by
 unfold PIC;simp only [Option.map_bind,Function.comp_def,Option.map_some,Option.map_none,map_if];rfl
noncomputable def fs9:List Fr:=((posns an9 [] cd9).getD 0 ⟨0,[], .skip⟩).fs
theorem pos9:posns an9 [] cd9=[⟨7,fs9, .rangeFunc (.tmp 34) #[35] cdBA cdBB⟩]:=by kernel_rfl
theorem posIA:posns anIA [] cdIA=[⟨3,[.blk 0], .loop cdIB⟩]:=by kernel_rfl
noncomputable def cd5:Code:=c2 (c2 (c1 cdIB))
theorem posIB:posns anIB [] cdIB=[⟨5,[.blk 1],cd5⟩]:=by kernel_rfl
theorem posIC:posns anIC [] cdIC=[]:=by kernel_rfl
theorem posBA:posns anBA [] cdBA=[]:=by kernel_rfl
theorem posBB:posns anBB [] cdBB=[]:=by kernel_rfl
noncomputable def opsY:Array Oper:=match c1 (c1 cd5)with| .region _ ops _=>ops|_=> #[]
theorem cd5_eq:cd5= .seq (.seq (.region 5 opsY false) (.cond (.tmp 45) .ret .skip)) cdIC:=by kernel_rfl
theorem opsY_size:List.range opsY.size=[0,1,2,3]:=by kernel_rfl
noncomputable def oY (i:Nat):Oper:=(opsY[i]?).getD default
theorem oY0:opsY[0]?=some (oY 0)∧(oY 0).guard=none∧(oY 0).op= .move (.tmp 0)∧(oY 0).dst=some 42:=⟨by kernel_rfl,by kernel_rfl,by kernel_rfl,by kernel_rfl⟩
theorem oY1:opsY[1]?=some (oY 1)∧(oY 1).guard=none∧(oY 1).op= .load 90 (.tmp 9)∧(oY 1).dst=some 43:=⟨by kernel_rfl,by kernel_rfl,by kernel_rfl,by kernel_rfl⟩
theorem oY2:opsY[2]?=some (oY 2)∧(oY 2).guard=none∧(oY 2).op= .call {callee:= .value (.tmp 42),args:= #[.tmp 43],argTypes:= #[90]}∧(oY 2).dst=some 44:=⟨by kernel_rfl,by kernel_rfl,by kernel_rfl,by kernel_rfl⟩
theorem oY3:opsY[3]?=some (oY 3)∧(oY 3).guard=none∧(oY 3).op= .unOp .not 4 (.tmp 44)∧(oY 3).dst=some 45:=⟨by kernel_rfl,by kernel_rfl,by kernel_rfl,by kernel_rfl⟩
theorem q9_ret {F:Fence} {n:Nat} {P:Program} {Q:Exit→Act→World→Prop} {a:Act} {w:World} (h:Q .ret a w):qF F n P Q fs9 .ret a w:=by
 have e:fs9=[.blk 0, .seqL (c2 (c2 (c2 (c2 (c2 cd9)))))]∨True:=Or.inr trivial
 exact(show(qF F n P Q fs9 .ret=Q .ret)from by kernel_rfl)▸h
theorem outK_norm {L:KA} {sk:Sk} {st:St} {r:Bool×sk.T} (h:outK L sk .norm st=some r):clean L st=some (sk.mk' r.2)∧r.1=false:=by
 unfold outK outS at h
 simp only at h
 split at h
 ·rename_i st2 h2
  split at h
  ·rename_i s hs
   cases h
   exact⟨by rw [h2,Sk.dec_ok hs],rfl⟩
  ·cases h
 ·cases h
theorem outK_ret {L:KA} {sk:Sk} {st:St} {r:Bool×sk.T} (h:outK L sk .ret st=some r):clean L st=some (sk.mk' r.2)∧r.1=true:=by
 unfold outK outS at h
 simp only at h
 split at h
 ·rename_i st2 h2
  split at h
  ·rename_i s hs
   cases h
   exact⟨by rw [h2,Sk.dec_ok hs],rfl⟩
  ·cases h
 ·cases h
theorem outLo_eq {sk:Sk} {key:Nat} {st:St} {r:Bool×sk.T} (h:outLo sk key st=some r):st=sk.mk' r.2∧r.1=false:=by
 unfold outLo at h
 split at h
 ·rename_i s hs
  cases h
  exact⟨Sk.dec_ok hs,rfl⟩
 ·cases h
theorem loop_put {w:World} {l:Nat} {r:Loop} (o:Loop) (h:w.heap[l]?=some (.loop r)):Frame' w (w.putObj l (.loop o)) (fun b _=>b=l)∧(w.putObj l (.loop o)).heap[l]?=some (.loop o):=by
 have hs:=World.putObj_heap_same (o:= .loop o) (Array.getElem?_eq_some_iff.1 h).1
 refine⟨frame_put h (fun k=>by simp [World.cell?,h]) (fun k=>by simp [World.frozen?,h,hs]),hs⟩
def LC (A1 A2 A3 A4:Addr) (y1:Int) (y2:CT) (y3 y4:Int):List Cel:=[⟨2001,A1,tI,y1⟩,⟨2002,A2,tC,y2⟩,⟨2003,A3,tI,y3⟩,⟨2004,A4,tI,y4⟩]
structure Cells4 (W:World) (A1 A2 A3 A4:Addr) (y1:Int) (y2:CT) (y3 y4:Int):Prop where
 c1:CellAt W A1 tI y1
 c2:CellAt W A2 tC y2
 c3:CellAt W A3 tI y3
 c4:CellAt W A4 tI y4
structure Apart4 (A1 A2 A3 A4:Addr):Prop where
 h12:A1.block≠A2.block
 h13:A1.block≠A3.block
 h14:A1.block≠A4.block
 h23:A2.block≠A3.block
 h24:A2.block≠A4.block
 h34:A3.block≠A4.block
def Bo4 (A1 A2 A3 A4:Addr) (b _o:Nat):Prop:=b=A1.block∨b=A2.block∨b=A3.block∨b=A4.block
theorem Bo_LC {A1 A2 A3 A4:Addr} {y1:Int} {y2:CT} {y3 y4:Int} {b o:Nat} (h:BoOf (LC A1 A2 A3 A4 y1 y2 y3 y4) b o):Bo4 A1 A2 A3 A4 b o:=by
 refine Classical.byContradiction fun hn=>not_Bo (fun c hc e=>hn ?_) h
 unfold LC at hc
 simp only [List.mem_cons,List.not_mem_nil,or_false]at hc
 rcases hc with rfl|rfl|rfl|rfl
 ·exact Or.inl e.symm
 ·exact Or.inr (Or.inl e.symm)
 ·exact Or.inr (Or.inr (Or.inl e.symm))
 ·exact Or.inr (Or.inr (Or.inr e.symm))
theorem Frame'.weak {w w':World} {B B':Nat→Nat→Prop} (h:Frame' w w' B) (hb:∀b o,B b o→B' b o):Frame' w w' B':=
 (Frame'.refl w B').trans h fun b o _ k=>hb b o k
theorem ptr_rep {w:World} {l:List Cel} {n:Nat} {t:Ty} {x:t.T} {A:Addr} {v:Value} (hb:getB (blOf l) n= .live t [x] false) (hφ:φOf l n=A) (hs:A.spot=none) (hv:v= .pointer (some A)):RepV w (getB (blOf l)) (φOf l) (.a (.ptr n 0 [])) v:=by
 show(match getB (blOf l) n with| .live t l' _=>PtrV (φOf l n) t l'.length 0 [] v| .froz t l'=>PtrV (φOf l n) t l'.length 0 [] v| .husk _=>True| .dead=>True| .fresh=>False)
 rw [hb,hφ]
 refine⟨Int.le_refl 0,by simp,⟨t,rfl⟩,hs,?_⟩
 rw [hv]
 have:A=(⟨A.block,A.off+(0:Int).toNat*t.sz+offP [] t,none⟩:Addr):=by
  rw [←hs];simp [offP]
 rw [←this]
theorem v_rep {w w':World} {bl bl':Nat→Blk} {φ φ':Nat→Addr} {t:Ty} {x:t.T} {v:Value} (hp:plain t=true) (h:RepV w bl φ (.a (.v t x)) v):RepV w' bl' φ' (.a (.v t x)) v:=by
 obtain⟨cs,h1,h2⟩:=h
 exact⟨cs,Reps_plain t hp _ _ h1,h2⟩
section
variable {k l m D fn:Nat} {T0:Array Value} {A1 A2 A3 A4:Addr}
noncomputable def recY (fn D:Nat) (T0:Array Value) (st:LoopState) (pe:Option Code):Loop:={state:=st,pending:=pe,fn:=fn,tmps:=T0,params:= #[35],assign:=cdBA,body:=cdBB,defers:=D}
def After (l D fn:Nat) (T0:Array Value) (A1 A2 A3 A4:Addr) (t:Bool×outBB.T) (W:World) (e:Ending) (W':World):Prop:=
 e= .returned (.bool (!t.1))∧W'.heap[l]?=some (.loop (match t.1 with|false=>recY fn D T0 .ready none|true=>recY fn D T0 .done (some .ret)))∧
 Cells4 W' A1 A2 A3 A4 t.2.2.1 t.2.2.2.1 t.2.2.2.2.1 t.2.2.2.2.2.1∧Frame' W W' (fun b o=>Bo4 A1 A2 A3 A4 b o∨b=l)
theorem body_ok (hap:Apart4 A1 A2 A3 A4) {y1:Int} {y2:CT} {y3 y4:Int} {x:CT} {t:Bool×outBB.T} (ht:qS k y1 y2 y3 y4 x=some t) {A6:Addr} (hA6:A6.block≠A1.block∧A6.block≠A2.block∧A6.block≠A3.block∧A6.block≠A4.block)
  {a:Act} {W:World} (hc:Cells4 W A1 A2 A3 A4 y1 y2 y3 y4) (h6:CellAt W A6 tC x) (hsz:a.tmps.size=80) (hd:a.defers=[])
  (p1:a.tmps.getD 1 undef= .pointer (some A1)) (p2:a.tmps.getD 2 undef= .pointer (some A2)) (p3:a.tmps.getD 3 undef= .pointer (some A3)) (p4:a.tmps.getD 4 undef= .pointer (some A4)) (p6:a.tmps.getD 6 undef= .pointer (some A6))
  (hl:W.heap[l]?=some (.loop (recY fn D T0 .busy none))) (hne:A1.block≠l∧A2.block≠l∧A3.block≠l∧A4.block≠l∧A6.block≠l) {R:Ending→World→Prop}
  (hR:∀e W',After l D fn T0 A1 A2 A3 A4 t W e W'∨(e= .returned (.bool (!t.1))∧W'.heap[l]?=some (.loop (match t.1 with|false=>recY fn D T0 .ready none|true=>recY fn D T0 .done (some .ret)))∧
   Cells4 W' A1 A2 A3 A4 t.2.2.1 t.2.2.2.1 t.2.2.2.2.1 t.2.2.2.2.2.1∧Frame' W W' (fun b o=>Bo4 A1 A2 A3 A4 b o∨b=A6.block∨b=l))→R e W'):
  cdBB.wpIn (Fence.wide.inRound l) m Tryz.prog (roundPost Tryz.prog l R) a W:=by
 let lc:List Cel:=[⟨2001,A1,tI,y1⟩,⟨2002,A2,tC,y2⟩,⟨2003,A3,tI,y3⟩,⟨2004,A4,tI,y4⟩,⟨2006,A6,tC,x⟩]
 have hrel:Rel 80 W (BoOf lc) (getB (blOf lc)) (φOf lc) ⟨[(1, .a (.ptr 2001 0 [])),(2, .a (.ptr 2002 0 [])),(3, .a (.ptr 2003 0 [])),(4, .a (.ptr 2004 0 [])),(6, .a (.ptr 2006 0 []))],blOf lc⟩ a W:=by
  refine mk_rel hsz hd (fun c hc'=>?_) (fun c d h1 h2 e=>?_) (fun q hq=>?_)
  ·simp only [lc,List.mem_cons,List.not_mem_nil,or_false]at hc'
   rcases hc' with rfl|rfl|rfl|rfl|rfl
   ·exact⟨hc.c1,rfl⟩
   ·exact⟨hc.c2,rfl⟩
   ·exact⟨hc.c3,rfl⟩
   ·exact⟨hc.c4,rfl⟩
   ·exact⟨h6,rfl⟩
  ·have a1:=hap.h12;have a2:=hap.h13;have a3:=hap.h14;have a4:=hap.h23;have a5:=hap.h24;have a6:=hap.h34
   obtain⟨b1,b2,b3,b4⟩:=hA6
   simp only [lc,List.mem_cons,List.not_mem_nil,or_false]at h1 h2
   rcases h1 with rfl|rfl|rfl|rfl|rfl<;>rcases h2 with rfl|rfl|rfl|rfl|rfl<;>simp only at e⊢<;>omega
  ·simp only [List.mem_cons,List.not_mem_nil,or_false]at hq
   rcases hq with rfl|rfl|rfl|rfl|rfl
   ·exact ptr_rep (t:=tI) (x:=y1) rfl rfl hc.c1.spot p1
   ·exact ptr_rep (t:=tC) (x:=y2) rfl rfl hc.c2.spot p2
   ·exact ptr_rep (t:=tI) (x:=y3) rfl rfl hc.c3.spot p3
   ·exact ptr_rep (t:=tI) (x:=y4) rfl rfl hc.c4.spot p4
   ·exact ptr_rep (t:=tC) (x:=x) rfl rfl h6.spot p6
 have hev:=eBB (FX55 k) (FX56 k) (FX57 k) (FX58 k) ((),(y1,y2,y3,y4,x,()))
 have hev:=hev.trans ht
 have horc:OrcOk (R:=Bool×outBB.T) Tryz.prog (orcOf (fesBB (FX55 k) (FX56 k) (FX57 k) (FX58 k))):=orcOf_ok _ (fc ⟨ok55 k,fc ⟨ok56 k,fc ⟨ok57 k,fc ⟨ok58 k,List.forall_mem_nil _⟩⟩⟩⟩)
 have fin:∀(jump:Option Code) (st:St) (a':Act) (W':World),clean [(1, .any),(2, .any),(3, .any),(4, .any)] st=some (outBB.mk' t.2)→Rel 80 W (BoOf lc) (getB (blOf lc)) (φOf lc) st a' W'→
   ∃W2,(Instr.endRound l jump).run Tryz.prog W'= .ok (.bool jump.isNone) W2∧W2.heap[l]?=some (.loop (recY fn D T0 (if jump.isNone then .ready else .done) jump))∧
    Cells4 W2 A1 A2 A3 A4 t.2.2.1 t.2.2.2.1 t.2.2.2.2.1 t.2.2.2.2.2.1∧Frame' W W2 (fun b o=>Bo4 A1 A2 A3 A4 b o∨b=A6.block∨b=l):=by
  intro jump st a' W' hcl hr
  obtain⟨bl,φ,h⟩:=clean_ok hcl hr
  have f1:φ 2001=A1:=rel_kept h (Or.inl ⟨by omega,by omega⟩) (fun e=>by cases e) (by omega) rfl
  have f2:φ 2002=A2:=rel_kept h (Or.inl ⟨by omega,by omega⟩) (fun e=>by cases e) (by omega) rfl
  have f3:φ 2003=A3:=rel_kept h (Or.inl ⟨by omega,by omega⟩) (fun e=>by cases e) (by omega) rfl
  have f4:φ 2004=A4:=rel_kept h (Or.inl ⟨by omega,by omega⟩) (fun e=>by cases e) (by omega) rfl
  have g1:=(rel_cell (t:=tI) (x:=t.2.2.1) (tl:=false) (k:=1) h (n:=2001) (by omega) rfl rfl rfl).1
  have g2:=(rel_cell (t:=tC) (x:=t.2.2.2.1) (tl:=false) (k:=2) h (n:=2002) (by omega) rfl rfl rfl).1
  have g3:=(rel_cell (t:=tI) (x:=t.2.2.2.2.1) (tl:=false) (k:=3) h (n:=2003) (by omega) rfl rfl rfl).1
  have g4:=(rel_cell (t:=tI) (x:=t.2.2.2.2.2.1) (tl:=false) (k:=4) h (n:=2004) (by omega) rfl rfl rfl).1
  rw [f1]at g1;rw [f2]at g2;rw [f3]at g3;rw [f4]at g4
  have hfr:=h.mem.fr
  have hBo:∀b o,BoOf lc b o→Bo4 A1 A2 A3 A4 b o∨b=A6.block:=by
   intro b o hb
   refine Classical.byContradiction fun hn=>not_Bo (fun c hc e=>hn ?_) hb
   simp only [lc,List.mem_cons,List.not_mem_nil,or_false]at hc
   rcases hc with rfl|rfl|rfl|rfl|rfl
   ·exact Or.inl (Or.inl e.symm)
   ·exact Or.inl (Or.inr (Or.inl e.symm))
   ·exact Or.inl (Or.inr (Or.inr (Or.inl e.symm)))
   ·exact Or.inl (Or.inr (Or.inr (Or.inr e.symm)))
   ·exact Or.inr e.symm
  have hl':W'.heap[l]?=some (.loop (recY fn D T0 .busy none)):=by
   rw [hfr.block l (Array.getElem?_eq_some_iff.1 hl).1 (fun o hb=>?_)];exact hl
   obtain⟨n1,n2,n3,n4,n6⟩:=hne
   rcases hBo _ _ hb with(e|e|e|e)|e
   ·exact n1 e.symm
   ·exact n2 e.symm
   ·exact n3 e.symm
   ·exact n4 e.symm
   ·exact n6 e.symm
  obtain⟨fp,hp⟩:=loop_put (recY fn D T0 (if jump.isNone then .ready else .done) jump) hl'
  refine⟨_,run_endRound jump hl',hp,⟨g1.frame rfl fp (fun _=>hne.1),g2.frame rfl fp (fun _=>hne.2.1),g3.frame rfl fp (fun _=>hne.2.2.1),g4.frame rfl fp (fun _=>hne.2.2.2.1)⟩,?_⟩
  refine(Frame'.weak hfr fun b o hb=>?_).trans fp fun b o _ e=>Or.inr (Or.inr e)
  rcases hBo b o hb with e|e
  ·exact Or.inl e
  ·exact Or.inr (Or.inl e)
 refine ev_ok (Or.inr ⟨l,rfl⟩) EOK HM horc cdBB _ (losQ_posns cdBB [] fun q hq=>by rw [posBB]at hq;cases hq) _ (fun x' st a' W' hk hr=>?_) _ _ _ hev hrel
 cases x' with
 |norm=>
  obtain⟨hcl,hf⟩:=outK_norm hk
  obtain⟨W2,e1,e2,e3,e4⟩:=fin none st a' W' hcl hr
  refine⟨_,W2,e1,hR _ _ (Or.inr ⟨?_,?_,e3,e4⟩)⟩
  ·rw [hf];rfl
  ·rw [hf];exact e2
 |ret=>
  obtain⟨hcl,hf⟩:=outK_ret hk
  obtain⟨W2,e1,e2,e3,e4⟩:=fin (some .ret) st a' W' hcl hr
  refine⟨_,W2,e1,hR _ _ (Or.inr ⟨?_,?_,e3,e4⟩)⟩
  ·rw [hf];rfl
  ·rw [hf];exact e2
 |exit j=>cases hk
theorem round_ok (hap:Apart4 A1 A2 A3 A4) {y1:Int} {y2:CT} {y3 y4:Int} {x:CT} {t:Bool×outBB.T} (ht:qS k y1 y2 y3 y4 x=some t) {W:World} (hc:Cells4 W A1 A2 A3 A4 y1 y2 y3 y4) (hsz:T0.size=80)
  (p1:T0.getD 1 undef= .pointer (some A1)) (p2:T0.getD 2 undef= .pointer (some A2)) (p3:T0.getD 3 undef= .pointer (some A3)) (p4:T0.getD 4 undef= .pointer (some A4))
  (hl:W.heap[l]?=some (.loop (recY fn D T0 .ready none))) (hne:A1.block≠l∧A2.block≠l∧A3.block≠l∧A4.block≠l) {v:Value} {bl0:Nat→Blk} {φ0:Nat→Addr} (hv:RepV W bl0 φ0 (.a (.v tC x)) v):
  YieldAt Fence.wide m Tryz.prog l #[v] W (After l D fn T0 A1 A2 A3 A4 t W):=by
 have hy:=run_yield (P:=Tryz.prog) (args:= #[v]) hl rfl
 have ez:((recY fn D T0 .ready none).params.zip #[v]).foldl (fun tmps (t,a)=>tmps.setIfInBounds t a) (recY fn D T0 .ready none).tmps=T0.setIfInBounds 35 v:=by simp [recY]
 rw [ez]at hy
 refine⟨fn,T0.setIfInBounds 35 v,cdBA,cdBB,hy,roundIn_of_wpIn trivial ?_⟩
 have hgd:∀i,i≠35→(T0.setIfInBounds 35 v).getD i undef=T0.getD i undef:=by
  intro i hi
  simp only [Array.getD_eq_getD_getElem?,Array.getElem?_setIfInBounds_ne (Ne.symm hi)]
 have hg35:(T0.setIfInBounds 35 v).getD 35 undef=v:=by
  simp only [Array.getD_eq_getD_getElem?]
  rw [Array.getElem?_setIfInBounds_self_of_lt (by omega)];rfl
 let lc:List Cel:=LC A1 A2 A3 A4 y1 y2 y3 y4
 have hrel:Rel 80 W (BoOf lc) (getB (blOf lc)) (φOf lc) ⟨[(1, .a (.ptr 2001 0 [])),(2, .a (.ptr 2002 0 [])),(3, .a (.ptr 2003 0 [])),(4, .a (.ptr 2004 0 [])),(35, .a (.v tC x))],blOf lc⟩ {tmps:=T0.setIfInBounds 35 v,defers:=[]} W:=by
  refine mk_rel (by simp [hsz]) rfl (fun c hc'=>?_) (fun c d h1 h2 e=>?_) (fun q hq=>?_)
  ·simp only [lc,LC,List.mem_cons,List.not_mem_nil,or_false]at hc'
   rcases hc' with rfl|rfl|rfl|rfl
   ·exact⟨hc.c1,rfl⟩
   ·exact⟨hc.c2,rfl⟩
   ·exact⟨hc.c3,rfl⟩
   ·exact⟨hc.c4,rfl⟩
  ·have a1:=hap.h12;have a2:=hap.h13;have a3:=hap.h14;have a4:=hap.h23;have a5:=hap.h24;have a6:=hap.h34
   simp only [lc,LC,List.mem_cons,List.not_mem_nil,or_false]at h1 h2
   rcases h1 with rfl|rfl|rfl|rfl<;>rcases h2 with rfl|rfl|rfl|rfl<;>simp only at e⊢<;>omega
  ·simp only [List.mem_cons,List.not_mem_nil,or_false]at hq
   rcases hq with rfl|rfl|rfl|rfl|rfl
   ·exact ptr_rep (t:=tI) (x:=y1) rfl rfl hc.c1.spot ((hgd 1 (by omega)).trans p1)
   ·exact ptr_rep (t:=tC) (x:=y2) rfl rfl hc.c2.spot ((hgd 2 (by omega)).trans p2)
   ·exact ptr_rep (t:=tI) (x:=y3) rfl rfl hc.c3.spot ((hgd 3 (by omega)).trans p3)
   ·exact ptr_rep (t:=tI) (x:=y4) rfl rfl hc.c4.spot ((hgd 4 (by omega)).trans p4)
   ·exact(hg35▸v_rep rfl hv:RepV W _ _ _ ((T0.setIfInBounds 35 v).getD 35 undef))
 have hev:=eBA ((x,()),(y1,y2,y3,y4,()))
 have horc:OrcOk (R:=Bool×outBA.T) Tryz.prog (orcOf fesBA):=orcOf_ok _ (List.forall_mem_nil _)
 have hmain:cdBA.wpIn (Fence.wide.inRound l) m Tryz.prog (Exit.then (fun a₁ w₁=>∃w₂,(Instr.beginRound l).run Tryz.prog w₁= .ok () w₂∧cdBB.wpIn (Fence.wide.inRound l) m Tryz.prog (roundPost Tryz.prog l (After l D fn T0 A1 A2 A3 A4 t W)) a₁ w₂) (fun _ _ _=>False))
   {tmps:=T0.setIfInBounds 35 v,defers:=[]} W:=by
  refine ev_ok (Or.inr ⟨l,rfl⟩) EOK HM horc cdBA _ (losQ_posns cdBA [] fun q hq=>by rw [posBA]at hq;cases hq) _ (fun x' st a' W' hk hr=>?_) _ _ _ hev hrel
  cases x' with
  |ret=>have:=(outK_ret hk).2;cases this
  |exit j=>cases hk
  |norm=>
   obtain⟨hcl,_⟩:=outK_norm hk
   obtain⟨bl,φ,h⟩:=clean_ok hcl hr
   have f1:φ 2001=A1:=rel_kept h (Or.inl ⟨by omega,by omega⟩) (fun e=>by cases e) (by omega) rfl
   have f2:φ 2002=A2:=rel_kept h (Or.inl ⟨by omega,by omega⟩) (fun e=>by cases e) (by omega) rfl
   have f3:φ 2003=A3:=rel_kept h (Or.inl ⟨by omega,by omega⟩) (fun e=>by cases e) (by omega) rfl
   have f4:φ 2004=A4:=rel_kept h (Or.inl ⟨by omega,by omega⟩) (fun e=>by cases e) (by omega) rfl
   obtain⟨g1,q1⟩:=rel_cell (t:=tI) (x:=y1) (tl:=false) (k:=1) h (n:=2001) (by omega) rfl rfl rfl
   obtain⟨g2,q2⟩:=rel_cell (t:=tC) (x:=y2) (tl:=false) (k:=2) h (n:=2002) (by omega) rfl rfl rfl
   obtain⟨g3,q3⟩:=rel_cell (t:=tI) (x:=y3) (tl:=false) (k:=3) h (n:=2003) (by omega) rfl rfl rfl
   obtain⟨g4,q4⟩:=rel_cell (t:=tI) (x:=y4) (tl:=false) (k:=4) h (n:=2004) (by omega) rfl rfl rfl
   obtain⟨g6,q6⟩:=rel_cell (t:=tC) (x:=x) (tl:=true) (k:=6) h (n:=6) (by omega) rfl rfl rfl
   rw [f1]at g1 q1;rw [f2]at g2 q2;rw [f3]at g3 q3;rw [f4]at g4 q4
   have h6:W.heap.size≤(φ 6).block:=by
    rcases h.mem.lo 6 tC [x] true (by omega) (h.loc 6 (by omega)) g6.spot with e| ⟨e,_⟩
    ·exact e
    ·cases e
   have hfr:=h.mem.fr
   have lt1:=hc.c1.lt;have lt2:=hc.c2.lt;have lt3:=hc.c3.lt;have lt4:=hc.c4.lt
   have ltl:=(Array.getElem?_eq_some_iff.1 hl).1
   obtain⟨n1,n2,n3,n4⟩:=hne
   have hl':W'.heap[l]?=some (.loop (recY fn D T0 .ready none)):=by
    rw [hfr.block l ltl (fun o hb=>?_)];exact hl
    rcases Bo_LC hb with e|e|e|e
    ·exact n1 e.symm
    ·exact n2 e.symm
    ·exact n3 e.symm
    ·exact n4 e.symm
   obtain⟨fp,hp⟩:=loop_put (recY fn D T0 .busy none) hl'
   refine⟨_,run_beginRound hl' rfl,?_⟩
   refine body_ok (A6:=φ 6) hap ht ⟨by omega,by omega,by omega,by omega⟩ ⟨g1.frame rfl fp (fun _=>n1),g2.frame rfl fp (fun _=>n2),g3.frame rfl fp (fun _=>n3),g4.frame rfl fp (fun _=>n4)⟩ (g6.frame rfl fp (fun _=>by omega)) h.size h.defers q1 q2 q3 q4 q6 hp ⟨n1,n2,n3,n4,by omega⟩ ?_
   intro e W2 he
   have h02:Frame' W (W'.putObj l (.loop (recY fn D T0 .busy none))) (fun b o=>Bo4 A1 A2 A3 A4 b o∨b=l):=(Frame'.weak hfr fun b o hb=>Or.inl (Bo_LC hb)).trans fp fun b o _ e=>Or.inr e
   rcases he with⟨e1,e2,e3,e4⟩| ⟨e1,e2,e3,e4⟩
   ·exact⟨e1,e2,e3,h02.trans e4 fun b o _ hb=>hb⟩
   ·refine⟨e1,e2,e3,h02.trans e4 fun b o hlt hb=>?_⟩
    rcases hb with hb|hb|hb
    ·exact Or.inl hb
    ·omega
    ·exact Or.inr hb
 exact hmain
end
def yv (l:Nat):Int:=Int.negSucc (l+1)
structure Fast (l D:Nat) (A1 A2 A3 A4 Az:Addr) (w0s W1s:Nat) (T0:Array Value):Prop where
 ap:Apart4 A1 A2 A3 A4
 nl:A1.block≠l∧A2.block≠l∧A3.block≠l∧A4.block≠l
 nD:D≠A1.block∧D≠A2.block∧D≠A3.block∧D≠A4.block
 lt:A1.block<W1s∧A2.block<W1s∧A3.block<W1s∧A4.block<W1s
 ge:w0s≤A1.block∧w0s≤A2.block∧w0s≤A3.block∧w0s≤A4.block
 l1:l<W1s
 D1:D<W1s
 l0:w0s≤l
 lD:D≠l
 z1:Az.block<W1s
 nz:Az.block≠A1.block∧Az.block≠A2.block∧Az.block≠A3.block∧Az.block≠A4.block
 zl:Az.block≠l
 w01:w0s≤W1s
 tsz:T0.size=80
 p1:T0.getD 1 undef= .pointer (some A1)
 p2:T0.getD 2 undef= .pointer (some A2)
 p3:T0.getD 3 undef= .pointer (some A3)
 p4:T0.getD 4 undef= .pointer (some A4)
structure Env9 (l D fn:Nat) (T0:Array Value) (A1 A2 A3 A4 Az:Addr) (w0:World) (W1s:Nat) (ds:List Int) (y1:Int) (y2:CT) (y3 y4:Int) (W:World):Prop where
 cells:Cells4 W A1 A2 A3 A4 y1 y2 y3 y4
 rec_:W.heap[l]?=some (.loop (recY fn D T0 .ready none))
 dfr:W.heap[D]?=some (.deferred (some []))
 fr:Frame' w0 W (fun _ _=>False)
 fz:FrozAt W Az tI ds
 pos:0<ds.length
 sz:W1s≤W.heap.size
structure Head (l W1s:Nat) (Az:Addr) (a:Act) (W:World) (r p q:Int) (b n:CT) (A6 A7:Addr):Prop where
 sz:a.tmps.size=60
 df:a.defers=[]
 t0:a.tmps.getD 0 undef= .func (.yield l) #[] #[]
 t1:a.tmps.getD 1 undef= .pointer (some Az)
 t3:a.tmps.getD 3 undef= .int .i64 r
 t4:a.tmps.getD 4 undef= .int .i64 p
 t5:a.tmps.getD 5 undef= .int .i64 q
 t6:a.tmps.getD 6 undef= .pointer (some A6)
 t7:a.tmps.getD 7 undef= .pointer (some A7)
 c6:CellAt W A6 tC b
 c7:CellAt W A7 tC n
 n67:A6.block≠A7.block
 g6:W1s≤A6.block
 g7:W1s≤A7.block
section
variable {k l D fn:Nat} {T0:Array Value} {A1 A2 A3 A4 Az:Addr} {w0:World} {W1s:Nat}
theorem Cells4.frame {W W':World} {y1:Int} {y2:CT} {y3 y4:Int} {B:Nat→Nat→Prop} (h:Cells4 W A1 A2 A3 A4 y1 y2 y3 y4) (f:Frame' W W' B) (h1:∀o,¬B A1.block o) (h2:∀o,¬B A2.block o) (h3:∀o,¬B A3.block o) (h4:∀o,¬B A4.block o):Cells4 W' A1 A2 A3 A4 y1 y2 y3 y4:=
 ⟨h.c1.frame rfl f h1,h.c2.frame rfl f h2,h.c3.frame rfl f h3,h.c4.frame rfl f h4⟩
theorem env_own (hf:Fast l D A1 A2 A3 A4 Az w0.heap.size W1s T0) {ds:List Int} {y1:Int} {y2:CT} {y3 y4:Int} {W W':World} (h:Env9 l D fn T0 A1 A2 A3 A4 Az w0 W1s ds y1 y2 y3 y4 W) {B:Nat→Nat→Prop} (f:Frame' W W' B) (hB:∀b o,B b o→W1s≤b):
  Env9 l D fn T0 A1 A2 A3 A4 Az w0 W1s ds y1 y2 y3 y4 W':=by
 obtain⟨l1,l2,l3,l4⟩:=hf.lt
 have hl:=hf.l1;have hD:=hf.D1;have hz:=hf.z1;have hw:=hf.w01
 refine⟨h.cells.frame f (fun o hb=>?_) (fun o hb=>?_) (fun o hb=>?_) (fun o hb=>?_),?_,?_,h.fr.trans f fun b o hlt hb=>?_,h.fz.frame rfl f fun o hb=>?_,h.pos,Nat.le_trans h.sz f.size⟩
 ·have:=hB _ _ hb;omega
 ·have:=hB _ _ hb;omega
 ·have:=hB _ _ hb;omega
 ·have:=hB _ _ hb;omega
 ·rw [f.block l (Array.getElem?_eq_some_iff.1 h.rec_).1 fun o hb=>by have:=hB _ _ hb;omega];exact h.rec_
 ·rw [f.block D (Array.getElem?_eq_some_iff.1 h.dfr).1 fun o hb=>by have:=hB _ _ hb;omega];exact h.dfr
 ·have:=hB _ _ hb;omega
 ·have:=hB _ _ hb;omega
theorem env_round (hf:Fast l D A1 A2 A3 A4 Az w0.heap.size W1s T0) {ds:List Int} {y1:Int} {y2:CT} {y3 y4:Int} {W W':World} (h:Env9 l D fn T0 A1 A2 A3 A4 Az w0 W1s ds y1 y2 y3 y4 W) {t:Bool×outBB.T} {e:Ending} (ha:After l D fn T0 A1 A2 A3 A4 t W e W'):
  (t.1=false→Env9 l D fn T0 A1 A2 A3 A4 Az w0 W1s ds t.2.2.1 t.2.2.2.1 t.2.2.2.2.1 t.2.2.2.2.2.1 W')∧Frame' w0 W' (fun _ _=>False)∧W'.heap[D]?=some (.deferred (some [])):=by
 obtain⟨g1,g2,g3,g4⟩:=hf.ge
 obtain⟨d1,d2,d3,d4⟩:=hf.nD
 obtain⟨z1,z2,z3,z4⟩:=hf.nz
 have hl0:=hf.l0;have hlD:=hf.lD;have hzl:=hf.zl
 obtain⟨e1,e2,e3,e4⟩:=ha
 have hfr:Frame' w0 W' (fun _ _=>False):=h.fr.trans e4 fun b o hlt hb=>by
  rcases hb with(hb|hb|hb|hb)|hb<;>omega
 have hD:W'.heap[D]?=some (.deferred (some [])):=by
  rw [e4.block D (Array.getElem?_eq_some_iff.1 h.dfr).1 fun o hb=>by rcases hb with(hb|hb|hb|hb)|hb<;>omega];exact h.dfr
 refine⟨fun ht=>?_,hfr,hD⟩
 rw [ht]at e2
 exact⟨e3,e2,hD,hfr,h.fz.frame rfl e4 (fun o hb=>by rcases hb with(hb|hb|hb|hb)|hb<;>omega),h.pos,Nat.le_trans h.sz e4.size⟩
end
theorem ty90:tyOk Tryz.prog 50 90 tC=true:=by kernel_rfl
theorem put_get {a:Act} {d t:Nat} {v:Value} (h:d≠t):(a.put (some d) v).tmps.getD t undef=a.tmps.getD t undef:=by
 simp only [Act.put,Array.getD_eq_getD_getElem?,Array.getElem?_setIfInBounds_ne h]
theorem put_self {a:Act} {d:Nat} {v:Value} (h:d<a.tmps.size):(a.put (some d) v).tmps.getD d undef=v:=by
 simp only [Act.put,Array.getD_eq_getD_getElem?]
 rw [Array.getElem?_setIfInBounds_self_of_lt h];rfl
theorem put_size {a:Act} {d:Nat} {v:Value}:(a.put (some d) v).tmps.size=a.tmps.size:=by simp [Act.put]
section
variable {k l D fn:Nat} {T0:Array Value} {A1 A2 A3 A4 Az:Addr} {w0:World} {W1s:Nat}
theorem ask_ok (hf:Fast l D A1 A2 A3 A4 Az w0.heap.size W1s T0) {ds:List Int} {y1:Int} {y2:CT} {y3 y4:Int} {a:Act} {W:World} (he:Env9 l D fn T0 A1 A2 A3 A4 Az w0 W1s ds y1 y2 y3 y4 W) {x:CT} {t:Bool×outBB.T} (ht:qS k y1 y2 y3 y4 x=some t)
  (hs:a.tmps.size=60) (t0:a.tmps.getD 0 undef= .func (.yield l) #[] #[]) {A9:Addr} (t9:a.tmps.getD 9 undef= .pointer (some A9)) (c9:CellAt W A9 tC x) {Q:Exit→Act→World→Prop}
  (hQ:∀(a':Act) (W':World) (e:Ending),After l D fn T0 A1 A2 A3 A4 t W e W'→a'.tmps.size=60→a'.defers=a.defers→(∀i,i<42→a'.tmps.getD i undef=a.tmps.getD i undef)→a'.tmps.getD 45 undef= .bool t.1→Q .normal a' W'):
  (Code.region 5 opsY false).wpIn Fence.wide 0 Tryz.prog Q a W:=by
 refine wpIn_region ?_
 rw [opsY_size]
 obtain⟨h0,g0,o0,d0⟩:=oY0
 obtain⟨h1,g1,o1,d1⟩:=oY1
 obtain⟨h2,g2,o2,d2⟩:=oY2
 obtain⟨h3,g3,o3,d3⟩:=oY3
 refine op_in (Or.inl rfl) h0 g0 (v:= .func (.yield l) #[] #[]) (w':=W) (by simp only [execOp,o0,Act.eval,t0,Sem.run_pure]) ?_
 rw [d0]
 have hrel:=mk_rel (N:=60) (l:=[⟨2009,A9,tC,x⟩]) (tm:=[(9, .a (.ptr 2009 0 []))]) (a:={a.put (some 42) (.func (.yield l) #[] #[])with defers:=[]}) (w:=W) (by show(a.put (some 42) _).tmps.size=60;rw [put_size];exact hs) rfl
  (fun c hc=>by rw [List.mem_singleton]at hc;subst hc;exact⟨c9,rfl⟩) (fun c d hc hd _=>by rw [List.mem_singleton]at hc hd;subst hc;subst hd;rfl)
  (fun q hq=>by
   rw [List.mem_singleton]at hq;subst hq
   exact ptr_live (t:=tC) (x:=x) rfl rfl c9.spot ((put_get (by omega)).trans t9))
 obtain⟨bl,φ,hr⟩:=hrel
 have hp:RepA W bl φ (.ptr 2009 0 []) ((a.put (some 42) (.func (.yield l) #[] #[])).tmps.getD 9 undef):=hr.tm 9
 have hb9:bl 2009= .live tC [x] false:=hr.loc 2009 (by omega)
 obtain⟨v,hv1,hv2⟩:=ld_ok hr.mem (n:=2009) (t:=tC) (l:=[x]) (Or.inl ⟨false,hb9⟩) hp (d:=⟨tC,x⟩) rfl ty90
 refine op_in (Or.inl rfl) h1 g1 (v:=v) (w':=W) (by simp only [execOp,o1,Act.eval,Sem.run_bind,hv1,Result.andThen_ok,Sem.run_pure]) ?_
 rw [d1]
 have e42:((a.put (some 42) (.func (.yield l) #[] #[])).put (some 43) v).eval (.tmp 42)= .func (.yield l) #[] #[]:=(put_get (by omega)).trans (put_self (by omega))
 have e43:((a.put (some 42) (.func (.yield l) #[] #[])).put (some 43) v).eval (.tmp 43)=v:=put_self (by rw [put_size];omega)
 obtain⟨fn',tm',asg,bd,hy,hR⟩:=round_ok (k:=k) (m:=0) (t:=t) hf.ap ht he.cells hf.tsz hf.p1 hf.p2 hf.p3 hf.p4 he.rec_ hf.nl hv2
 have e44:(#[Operand.tmp 43]:Array Operand).map ((a.put (some 42) (.func (.yield l) #[] #[])).put (some 43) v).eval= #[v]:=by simp [e43]
 refine op_round (Or.inl rfl) h2 g2 (exec_yield (c:={callee:= .value (.tmp 42),args:= #[.tmp 43],argTypes:= #[90]}) o2 rfl e42 (by rw [e44];exact hy)) hR ?_
 intro e W' ha
 refine⟨_,ha.1,?_⟩
 rw [d2]
 refine op_in (Or.inl rfl) h3 g3 (v:= .bool t.1) (w':=W') ?_ ?_
 ·have ee:(((a.put (some 42) (.func (.yield l) #[] #[])).put (some 43) v).put (some 44) (.bool (!t.1))).eval (.tmp 44)= .bool (!t.1):=put_self (by rw [put_size,put_size];omega)
  simp only [execOp,o3,ee]
  cases t.1<;>rfl
 ·rw [d3]
  refine hQ _ W' e ha ?_ rfl (fun i hi=>?_) ?_
  ·rw [put_size,put_size,put_size,put_size];exact hs
  ·rw [put_get (by omega),put_get (by omega),put_get (by omega),put_get (by omega)]
  ·exact put_self (by rw [put_size,put_size,put_size];omega)
end
theorem posIB':posns anIB [] cdIB=[⟨5,[.blk 1], .seq (.seq (.region 5 opsY false) (.cond (.tmp 45) .ret .skip)) cdIC⟩]:=by rw [posIB,cd5_eq]
theorem PIC_false {x r p q a:Int} {b n z:CT} {ds:List Int} {u:Bool×outIC.T} (h:PIC x r p q a b n z ds=some u):u.1=false:=by
 unfold PIC at h
 split at h
 ·cases h
 ·cases h;rfl
theorem it_val {W:World} {bl:Nat→Blk} {φ:Nat→Addr} {x:Int} {v:Value} (h:RepV W bl φ (.a (.v tI x)) v):v= .int .i64 x:=rep_it.1 h
theorem it_rep {W:World} {bl:Nat→Blk} {φ:Nat→Addr} {x:Int} {v:Value} (h:v= .int .i64 x):RepV W bl φ (.a (.v tI x)) v:=rep_it.2 h
section
variable {k l D fn:Nat} {T0:Array Value} {A1 A2 A3 A4 Az:Addr} {w0:World} {W1s:Nat}
theorem loop_ok (hf:Fast l D A1 A2 A3 A4 Az w0.heap.size W1s T0) {Qi:Exit→Act→World→Prop} {tR:outBB.T}
  (hfin:∀(a:Act) (W':World),a.defers=[]→Cells4 W' A1 A2 A3 A4 tR.2.1 tR.2.2.1 tR.2.2.2.1 tR.2.2.2.2.1→W'.heap[l]?=some (.loop (recY fn D T0 .done (some .ret)))→W'.heap[D]?=some (.deferred (some []))→Frame' w0 W' (fun _ _=>False)→Qi .ret a W'):
  ∀(j:Nat) (ds:List Int) (r p q:Int) (b n:CT) (y1:Int) (y2:CT) (y3 y4:Int) (a:Act) (W:World) (A6 A7:Addr),LP k j ds r p q b n y1 y2 y3 y4=some tR→Head l W1s Az a W r p q b n A6 A7→Env9 l D fn T0 A1 A2 A3 A4 Az w0 W1s ds y1 y2 y3 y4 W→
   lw Fence.wide 0 Tryz.prog cdIB (Exit.inBlock 0 Qi) a W
 |0,ds,r,p,q,b,n,y1,y2,y3,y4,a,W,A6,A7,h,_,_=>by cases h
 |j+1,ds,r,p,q,b,n,y1,y2,y3,y4,a,W,A6,A7,h,hh,he=>by
  unfold LP at h
  obtain⟨s,hs,h⟩:=Option.bind_eq_some_iff.1 h
  obtain⟨t,ht,h⟩:=Option.bind_eq_some_iff.1 h
  have hz1:=hf.z1;have hg6:=hh.g6;have hg7:=hh.g7;have h67:=hh.n67
  refine lw_round ?_
  let lc:List Cel:=[⟨2006,A6,tC,b⟩,⟨2007,A7,tC,n⟩]
  let z:Fel:=⟨2010,Az,tI,ds⟩
  have hrel:Rel 60 W (BoZ lc z) (getB (blZ lc z)) (φZ lc z) ⟨[(0, .a (.v .fu (yv l))),(1, .a (.ptr 2010 0 [])),(3, .a (.v tI r)),(4, .a (.v tI p)),(5, .a (.v tI q)),(6, .a (.ptr 2006 0 [])),(7, .a (.ptr 2007 0 []))],blZ lc z⟩ a W:=by
   refine mk_relz hh.sz hh.df (fun c hc=>?_) (fun c d h1 h2 e=>?_) (fun c hc=>?_) (fun c hc=>?_) he.fz rfl (fun q hq=>?_)
   ·simp only [lc,List.mem_cons,List.not_mem_nil,or_false]at hc
    rcases hc with rfl|rfl
    ·exact⟨hh.c6,rfl⟩
    ·exact⟨hh.c7,rfl⟩
   ·simp only [lc,List.mem_cons,List.not_mem_nil,or_false]at h1 h2
    rcases h1 with rfl|rfl<;>rcases h2 with rfl|rfl<;>simp only at e⊢<;>omega
   ·simp only [lc,List.mem_cons,List.not_mem_nil,or_false]at hc
    rcases hc with rfl|rfl<;>simp [z]
   ·simp only [lc,List.mem_cons,List.not_mem_nil,or_false]at hc
    rcases hc with rfl|rfl<;>simp only [z]<;>omega
   ·simp only [List.mem_cons,List.not_mem_nil,or_false]at hq
    rcases hq with rfl|rfl|rfl|rfl|rfl|rfl|rfl
    ·exact yl_rep.2 hh.t0
    ·exact ptr_froz (t:=tI) (xs:=ds) rfl he.pos rfl he.fz.spot hh.t1
    ·exact it_rep hh.t3
    ·exact it_rep hh.t4
    ·exact it_rep hh.t5
    ·exact ptr_live (t:=tC) (x:=b) rfl rfl hh.c6.spot hh.t6
    ·exact ptr_live (t:=tC) (x:=n) rfl rfl hh.c7.spot hh.t7
  have hBo:∀b o,BoZ lc z b o→W1s≤b:=by
   intro b' o hb
   refine Classical.byContradiction fun hn=>not_BoZ (l:=lc) (z:=z) (fun c hc=>?_) (fun c hc e=>?_) hb
   ·simp only [lc,List.mem_cons,List.not_mem_nil,or_false]at hc
    rcases hc with rfl|rfl<;>simp [z]
   ·simp only [lc,List.mem_cons,List.not_mem_nil,or_false]at hc
    rcases hc with rfl|rfl<;>simp only at e<;>omega
  have hev:=eIB (FX56 k) (FX57 k) (FX141 k) ((yv l,r,p,q,()),(b,n,ds,()))
  have hq:qB k (yv l) r p q b n ds=some (sB (yv l) s):=by rw [qB_x,hs];rfl
  have hev:=hev.trans hq
  have horc:OrcOk (R:=Bool×outIB.T) Tryz.prog (orcOf (fesIB (FX56 k) (FX57 k) (FX141 k))):=orcOf_ok _ (fc ⟨ok56 k,fc ⟨ok57 k,fc ⟨ok141 k,List.forall_mem_nil _⟩⟩⟩)
  refine ev_ok (Or.inl rfl) EOK HM horc cdIB _ (losQ_posns cdIB [] fun q' hq'=>?_) _ (fun x st a w hk=>by cases hk) _ _ _ hev hrel
  rw [posIB',List.mem_singleton]at hq'
  subst hq'
  intro st a5 W5 hlo hr5
  obtain⟨hst,_⟩:=outLo_eq hlo
  subst hst
  obtain⟨bl5,φ5,h5⟩:=hr5
  have f6:φ5 2006=A6:=rel_kept h5 (Or.inl ⟨by omega,by omega⟩) (fun e=>by cases e) (by omega) rfl
  have f7:φ5 2007=A7:=rel_kept h5 (Or.inl ⟨by omega,by omega⟩) (fun e=>by cases e) (by omega) rfl
  have fz:φ5 2010=Az:=rel_kept h5 (Or.inl ⟨by omega,by omega⟩) (fun e=>by cases e) (by omega) rfl
  obtain⟨c6,q6⟩:=rel_cell (t:=tC) (x:=s.2.2.2.1) (tl:=false) (k:=6) h5 (n:=2006) (by omega) rfl rfl rfl
  obtain⟨c7,q7⟩:=rel_cell (t:=tC) (x:=s.2.2.2.2.1) (tl:=false) (k:=7) h5 (n:=2007) (by omega) rfl rfl rfl
  obtain⟨c9,q9⟩:=rel_cell (t:=tC) (x:=s.2.2.2.2.2.1) (tl:=true) (k:=9) h5 (n:=9) (by omega) rfl rfl rfl
  obtain⟨cz,qz,pz⟩:=rel_froz (t:=tI) (xs:=s.2.2.1) (k:=1) h5 (n:=2010) (by omega) rfl rfl rfl
  rw [f6]at c6 q6;rw [f7]at c7 q7;rw [fz]at cz qz
  have g9:W.heap.size≤(φ5 9).block:=by
   rcases h5.mem.lo 9 tC [s.2.2.2.2.2.1] true (by omega) (h5.loc 9 (by omega)) c9.spot with e| ⟨e,_⟩
   ·exact e
   ·cases e
  have hWs:=he.sz
  have u0:a5.tmps.getD 0 undef= .func (.yield l) #[] #[]:=yl_rep.1 (h5.tm 0)
  have u3:a5.tmps.getD 3 undef= .int .i64 s.2.1.2.1:=it_val (h5.tm 3)
  have u4:a5.tmps.getD 4 undef= .int .i64 s.2.1.2.2.1:=it_val (h5.tm 4)
  have u5:a5.tmps.getD 5 undef= .int .i64 s.2.1.2.2.2.1:=it_val (h5.tm 5)
  have u8:a5.tmps.getD 8 undef= .int .i64 s.2.1.2.2.2.2.1:=it_val (h5.tm 8)
  have he5:Env9 l D fn T0 A1 A2 A3 A4 Az w0 W1s s.2.2.1 y1 y2 y3 y4 W5:=by
   have:=env_own hf he h5.mem.fr hBo
   exact {this with fz:=cz,pos:=pz}
  have hlt6:=hh.c6.lt;have hlt7:=hh.c7.lt
  refine wpIn_seq (wpIn_seq (ask_ok hf he5 ht h5.size u0 q9 c9 ?_))
  intro a' W' e ha hs' hd' hk' h45
  have hr:=env_round hf he5 ha
  obtain⟨m1,m2,m3,m4⟩:=hf.lt
  have hl1:=hf.l1
  have hfr:=ha.2.2.2
  cases htt:t.1 with
  |true=>
   rw [htt]at h h45
   injection h with h
   refine wpIn_cond (t:=true) h45 (wpIn_ret ?_)
   show Qi .ret a' W'
   obtain⟨e1,e2,e3,e4⟩:=ha
   rw [htt]at e2
   rw [h]at e3
   exact hfin a' W' (hd'.trans h5.defers) e3 e2 hr.2.2 hr.2.1
  |false=>
   rw [htt]at h h45
   obtain⟨u,hu,h⟩:=Option.bind_eq_some_iff.1 h
   refine wpIn_cond (t:=false) h45 (wpIn_skip ?_)
   show cdIC.wpIn Fence.wide 0 Tryz.prog _ a' W'
   have he':=hr.1 htt
   let lc2:List Cel:=[⟨2006,A6,tC,s.2.2.2.1⟩,⟨2007,A7,tC,s.2.2.2.2.1⟩,⟨2009,φ5 9,tC,s.2.2.2.2.2.1⟩]
   let z2:Fel:=⟨2010,Az,tI,s.2.2.1⟩
   have k6:CellAt W' A6 tC s.2.2.2.1:=c6.frame rfl hfr fun o hb=>by rcases hb with(hb|hb|hb|hb)|hb<;>omega
   have k7:CellAt W' A7 tC s.2.2.2.2.1:=c7.frame rfl hfr fun o hb=>by rcases hb with(hb|hb|hb|hb)|hb<;>omega
   have k9:CellAt W' (φ5 9) tC s.2.2.2.2.2.1:=c9.frame rfl hfr fun o hb=>by rcases hb with(hb|hb|hb|hb)|hb<;>omega
   have hrel2:Rel 60 W' (BoZ lc2 z2) (getB (blZ lc2 z2)) (φZ lc2 z2) ⟨[(0, .a (.v .fu (yv l))),(1, .a (.ptr 2010 0 [])),(3, .a (.v tI s.2.1.2.1)),(4, .a (.v tI s.2.1.2.2.1)),(5, .a (.v tI s.2.1.2.2.2.1)),(6, .a (.ptr 2006 0 [])),(7, .a (.ptr 2007 0 [])),(8, .a (.v tI s.2.1.2.2.2.2.1)),(9, .a (.ptr 2009 0 []))],blZ lc2 z2⟩ a' W':=by
    refine mk_relz hs' (hd'.trans h5.defers) (fun c hc=>?_) (fun c d h1 h2 e=>?_) (fun c hc=>?_) (fun c hc=>?_) he'.fz rfl (fun q hq=>?_)
    ·simp only [lc2,List.mem_cons,List.not_mem_nil,or_false]at hc
     rcases hc with rfl|rfl|rfl
     ·exact⟨k6,rfl⟩
     ·exact⟨k7,rfl⟩
     ·exact⟨k9,rfl⟩
    ·simp only [lc2,List.mem_cons,List.not_mem_nil,or_false]at h1 h2
     rcases h1 with rfl|rfl|rfl<;>rcases h2 with rfl|rfl|rfl<;>simp only at e⊢<;>omega
    ·simp only [lc2,List.mem_cons,List.not_mem_nil,or_false]at hc
     rcases hc with rfl|rfl|rfl<;>simp [z2]
    ·simp only [lc2,List.mem_cons,List.not_mem_nil,or_false]at hc
     rcases hc with rfl|rfl|rfl<;>simp only [z2]<;>omega
    ·simp only [List.mem_cons,List.not_mem_nil,or_false]at hq
     rcases hq with rfl|rfl|rfl|rfl|rfl|rfl|rfl|rfl|rfl
     ·exact yl_rep.2 ((hk' 0 (by omega)).trans u0)
     ·exact ptr_froz (t:=tI) (xs:=s.2.2.1) rfl he'.pos rfl he'.fz.spot ((hk' 1 (by omega)).trans qz)
     ·exact it_rep ((hk' 3 (by omega)).trans u3)
     ·exact it_rep ((hk' 4 (by omega)).trans u4)
     ·exact it_rep ((hk' 5 (by omega)).trans u5)
     ·exact ptr_live (t:=tC) (x:=s.2.2.2.1) rfl rfl k6.spot ((hk' 6 (by omega)).trans q6)
     ·exact ptr_live (t:=tC) (x:=s.2.2.2.2.1) rfl rfl k7.spot ((hk' 7 (by omega)).trans q7)
     ·exact it_rep ((hk' 8 (by omega)).trans u8)
     ·exact ptr_live (t:=tC) (x:=s.2.2.2.2.2.1) rfl rfl k9.spot ((hk' 9 (by omega)).trans q9)
   have hBo2:∀b o,BoZ lc2 z2 b o→W1s≤b:=by
    intro b' o hb
    refine Classical.byContradiction fun hn=>not_BoZ (l:=lc2) (z:=z2) (fun c hc=>?_) (fun c hc e=>?_) hb
    ·simp only [lc2,List.mem_cons,List.not_mem_nil,or_false]at hc
     rcases hc with rfl|rfl|rfl<;>simp [z2]
    ·simp only [lc2,List.mem_cons,List.not_mem_nil,or_false]at hc
     rcases hc with rfl|rfl|rfl<;>simp only at e<;>omega
   have hev2:=eIC ((yv l,s.2.1.2.1,s.2.1.2.2.1,s.2.1.2.2.2.1,s.2.1.2.2.2.2.1,()),(s.2.2.2.1,s.2.2.2.2.1,s.2.2.2.2.2.1,s.2.2.1,()))
   have hq2:PIC (yv l) s.2.1.2.1 s.2.1.2.2.1 s.2.1.2.2.2.1 s.2.1.2.2.2.2.1 s.2.2.2.1 s.2.2.2.2.1 s.2.2.2.2.2.1 s.2.2.1=some (sC (yv l) u):=by rw [qC_x,hu];rfl
   have hev2:=hev2.trans hq2
   have horc2:OrcOk (R:=Bool×outIC.T) Tryz.prog (orcOf fesIC):=orcOf_ok _ (List.forall_mem_nil _)
   refine ev_ok (Or.inl rfl) EOK HM horc2 cdIC _ (losQ_posns cdIC [] fun q hq=>by rw [posIC]at hq;cases hq) _ (fun x st a8 W8 hk hr8=>?_) _ _ _ hev2 hrel2
   cases x with
   |exit i=>cases hk
   |ret=>
    have e1:=(outK_ret hk).2
    have e2:=PIC_false hu
    have e3:u.1=true:=e1
    rw [e2]at e3;cases e3
   |norm=>
    obtain⟨hcl,_⟩:=outK_norm hk
    obtain⟨bl8,φ8,h8⟩:=clean_ok hcl hr8
    have v6:φ8 2006=A6:=rel_kept h8 (Or.inl ⟨by omega,by omega⟩) (fun e=>by cases e) (by omega) rfl
    have v7:φ8 2007=A7:=rel_kept h8 (Or.inl ⟨by omega,by omega⟩) (fun e=>by cases e) (by omega) rfl
    have vz:φ8 2010=Az:=rel_kept h8 (Or.inl ⟨by omega,by omega⟩) (fun e=>by cases e) (by omega) rfl
    obtain⟨n6,r6⟩:=rel_cell (t:=tC) (x:=u.2.2.2.1) (tl:=false) (k:=6) h8 (n:=2006) (by omega) rfl rfl rfl
    obtain⟨n7,r7⟩:=rel_cell (t:=tC) (x:=u.2.2.2.2.1) (tl:=false) (k:=7) h8 (n:=2007) (by omega) rfl rfl rfl
    obtain⟨nz,rz,pz2⟩:=rel_froz (t:=tI) (xs:=u.2.2.1) (k:=1) h8 (n:=2010) (by omega) rfl rfl rfl
    rw [v6]at n6 r6;rw [v7]at n7 r7;rw [vz]at nz rz
    have he8:Env9 l D fn T0 A1 A2 A3 A4 Az w0 W1s u.2.2.1 t.2.2.1 t.2.2.2.1 t.2.2.2.2.1 t.2.2.2.2.2.1 W8:=by
     have:=env_own hf he' h8.mem.fr hBo2
     exact {this with fz:=nz,pos:=pz2}
    exact loop_ok hf hfin j _ _ _ _ _ _ _ _ _ _ a8 W8 A6 A7 h ⟨h8.size,h8.defers,yl_rep.1 (h8.tm 0),rz,it_val (h8.tm 3),it_val (h8.tm 4),it_val (h8.tm 5),r6,r7,n6,n7,h67,hg6,hg7⟩ he8
end
def rv9 (r:R9):V:= .tup [.v tC (r.1,r.2.1), .v tI r.2.2.1, .v tI r.2.2.2]
theorem rv9_rep {w w':World} {bl bl':Nat→Blk} {φ φ':Nat→Addr} {r:R9} {v:Value} (h:RepV w bl φ (rv9 r) v):RepV w' bl' φ' (rv9 r) v:=by
 obtain⟨cv,rfl,h⟩:=h
 refine⟨cv,rfl,?_⟩
 cases h with
 |cons h1 h=>
  cases h with
  |cons h2 h=>
   cases h with
   |cons h3 h=>cases h with|nil=>exact .cons (v_rep (t:=tC) rfl h1) (.cons (v_rep (t:=tI) rfl h2) (.cons (v_rep (t:=tI) rfl h3) .nil))
def Fin9 (w:World) (r:R9) (e:Ending) (w':World):Prop:=∃v,e= .returned v∧RepV w' (fun _=> .fresh) (fun _=>⟨0,0,some 0⟩) (rv9 r) v∧Below w.heap.size w w'
theorem below_of {w w':World} (f:Frame' w w' (fun _ _=>False)):Below w.heap.size w w':=⟨f.os,f.tape,f.output,f.size,fun b hb=>f.block b hb fun _ h=>h⟩
noncomputable def skR:Sk:=⟨[(0, .d tC),(1, .d tI),(2, .d tI)],[(2001, .cell tI false),(2002, .cell tC false),(2003, .cell tI false),(2004, .cell tI false)]⟩
theorem ev_res (A1 A2 A3 A4:Addr) (y1:Int) (y2:CT) (y3 y4:Int):evRet E0 Tryz.f9.results.toList rm9 (blOf (LC A1 A2 A3 A4 y1 y2 y3 y4)) ⟨[(2, .a (.ptr 2002 0 [])),(3, .a (.ptr 2003 0 [])),(4, .a (.ptr 2004 0 []))],blOf (LC A1 A2 A3 A4 y1 y2 y3 y4)⟩ (fun st=>skR.dec st)=
  some ((y2,y3,y4,()),(y1,y2,y3,y4,())):=by kernel_rfl
section
variable {A1 A2 A3 A4:Addr}
theorem res_ok (hap:Apart4 A1 A2 A3 A4) {y1:Int} {y2:CT} {y3 y4:Int} {W:World} (hc:Cells4 W A1 A2 A3 A4 y1 y2 y3 y4) {T0:Array Value} (hs:T0.size=80) (p2:T0.getD 2 undef= .pointer (some A2)) (p3:T0.getD 3 undef= .pointer (some A3)) (p4:T0.getD 4 undef= .pointer (some A4)):
  ∃v,(results Tryz.f9 T0).run Tryz.prog W= .ok v W∧RepV W (fun _=> .fresh) (fun _=>⟨0,0,some 0⟩) (rv9 (y2.1,y2.2,y3,y4)) v:=by
 let lc:=LC A1 A2 A3 A4 y1 y2 y3 y4
 have hr:=mk_relS (N:=80) (w:=W) (l:=lc) (tm:=[(2, .a (.ptr 2002 0 [])),(3, .a (.ptr 2003 0 [])),(4, .a (.ptr 2004 0 []))]) (a:={tmps:=T0,defers:=[]}) hs rfl (fun c hc'=>by
   simp only [lc,LC,List.mem_cons,List.not_mem_nil,or_false]at hc'
   rcases hc' with rfl|rfl|rfl|rfl
   ·exact⟨hc.c1,rfl⟩
   ·exact⟨hc.c2,rfl⟩
   ·exact⟨hc.c3,rfl⟩
   ·exact⟨hc.c4,rfl⟩) (fun c d h1 h2 e=>by
   have a1:=hap.h12;have a2:=hap.h13;have a3:=hap.h14;have a4:=hap.h23;have a5:=hap.h24;have a6:=hap.h34
   simp only [lc,LC,List.mem_cons,List.not_mem_nil,or_false]at h1 h2
   rcases h1 with rfl|rfl|rfl|rfl<;>rcases h2 with rfl|rfl|rfl|rfl<;>simp only at e⊢<;>omega) (fun q hq=>by
   simp only [List.mem_cons,List.not_mem_nil,or_false]at hq
   rcases hq with rfl|rfl|rfl
   ·exact ptr_live (t:=tC) (x:=y2) rfl rfl hc.c2.spot p2
   ·exact ptr_live (t:=tI) (x:=y3) rfl rfl hc.c3.spot p3
   ·exact ptr_live (t:=tI) (x:=y4) rfl rfl hc.c4.spot p4)
 obtain⟨_,v,h1,φ',_,h3⟩:=ret_ok (P:=Tryz.prog) (fn:=Tryz.f9) (bs:=blOf lc) (K:=fun st=>skR.dec st) (st1:=skR.mk' ((y2,y3,y4,()),(y1,y2,y3,y4,()))) (rv:=rv9 (y2.1,y2.2,y3,y4)) EOK (fun n b h=>by
  have hm:=look_in h
  simp only [lc,LC,blOf,List.map_cons,List.map_nil,List.mem_cons,List.not_mem_nil,or_false,Prod.mk.injEq]at hm
  rcases hm with⟨rfl,rfl⟩| ⟨rfl,rfl⟩| ⟨rfl,rfl⟩| ⟨rfl,rfl⟩<;>exact⟨rfl,_,_,_,rfl⟩) (fun st h=>Sk.dec_ok h) rfl (fun n _=>rfl) hr.mem hr (ev_res A1 A2 A3 A4 y1 y2 y3 y4)
 exact⟨v,h1,rv9_rep h3⟩
end
theorem it139:Tryz.f139.body=some cdIA:=by kernel_rfl
theorem res139:Tryz.f139.results= #[]:=by kernel_rfl
theorem enter139 (args:Array Value) (w:World):(callFunc 139 args).run Tryz.prog w= .ok (.enter 139 args) w:=by
 have hb:(Tryz.f139.name== "runtime.NumGoroutine")=false:=by kernel_rfl
 simp only [callFunc,Sem.run_bind,run_program,Result.andThen_ok,Tryz.func139,hb,it139,Option.isNone_some,Bool.false_eq_true,if_false,Sem.run_pure]
section
variable {k:Nat}
theorem rf_ok {w:World} {a:Act} {W:World} {bl0:Nat→Blk} {φ0:Nat→Addr} {s:k9l0.T} {r:R9} (h:GX9l0 k s.1.1 s.2.1 s.2.2.1 s.2.2.2.1 s.2.2.2.2.1=some r) (hr:Rel 80 w (BoOf []) bl0 φ0 (k9l0.mk' s) a W)
  {Q:Exit→Act→World→Prop} (hQ:∀(D:Nat) (W' W2:World),W'.heap[D]?=some (.deferred (some []))→Frame' w W' (fun _ _=>False)→w.heap.size≤D→(∀W2,Frame' W' W2 (fun b _=>b=D)→∃v,(results Tryz.f9 a.tmps).run Tryz.prog W2= .ok v W2∧RepV W2 (fun _=> .fresh) (fun _=>⟨0,0,some 0⟩) (rv9 r) v)→
   Q .ret {a with defers:=[{target:= .collected D,args:= #[]}]} W'):
  (Code.rangeFunc (.tmp 34) #[35] cdBA cdBB).wpIn Fence.wide 0 Tryz.prog Q a W:=by
 unfold GX9l0 at h
 obtain⟨sA0,hA,h⟩:=Option.bind_eq_some_iff.1 h
 obtain⟨tR,hL,h⟩:=Option.bind_eq_some_iff.1 h
 injection h with h
 obtain⟨bl,φ,h0⟩:=hr
 obtain⟨c1,p1⟩:=rel_cell (t:=tI) (x:=s.2.1) (tl:=true) (k:=1) h0 (n:=1) (by omega) rfl rfl rfl
 obtain⟨c2,p2⟩:=rel_cell (t:=tC) (x:=s.2.2.1) (tl:=true) (k:=2) h0 (n:=2) (by omega) rfl rfl rfl
 obtain⟨c3,p3⟩:=rel_cell (t:=tI) (x:=s.2.2.2.1) (tl:=true) (k:=3) h0 (n:=3) (by omega) rfl rfl rfl
 obtain⟨c4,p4⟩:=rel_cell (t:=tI) (x:=s.2.2.2.2.1) (tl:=true) (k:=4) h0 (n:=4) (by omega) rfl rfl rfl
 have b1:bl 1= .live tI [s.2.1] true:=h0.loc 1 (by omega)
 have b2:bl 2= .live tC [s.2.2.1] true:=h0.loc 2 (by omega)
 have b3:bl 3= .live tI [s.2.2.2.1] true:=h0.loc 3 (by omega)
 have b4:bl 4= .live tI [s.2.2.2.2.1] true:=h0.loc 4 (by omega)
 have lo:∀{n:Nat} {t:Ty} {l:List t.T},n<10000→bl n= .live t l true→(φ n).spot=none→w.heap.size≤(φ n).block:=by
  intro n t l hn hb hs
  rcases h0.mem.lo n t l true hn hb hs with e| ⟨e,_⟩
  ·exact e
  ·cases e
 have g1:=lo (by omega) b1 c1.spot
 have g2:=lo (by omega) b2 c2.spot
 have g3:=lo (by omega) b3 c3.spot
 have g4:=lo (by omega) b4 c4.spot
 have L1:live (bl 1):=⟨_,_,_,b1⟩
 have L2:live (bl 2):=⟨_,_,_,b2⟩
 have L3:live (bl 3):=⟨_,_,_,b3⟩
 have L4:live (bl 4):=⟨_,_,_,b4⟩
 have hap:Apart4 (φ 1) (φ 2) (φ 3) (φ 4):=
  ⟨fun e=>absurd (h0.mem.uniq 1 2 L1 L2 c1.spot c2.spot e) (by omega),fun e=>absurd (h0.mem.uniq 1 3 L1 L3 c1.spot c3.spot e) (by omega),fun e=>absurd (h0.mem.uniq 1 4 L1 L4 c1.spot c4.spot e) (by omega),
   fun e=>absurd (h0.mem.uniq 2 3 L2 L3 c2.spot c3.spot e) (by omega),fun e=>absurd (h0.mem.uniq 2 4 L2 L4 c2.spot c4.spot e) (by omega),fun e=>absurd (h0.mem.uniq 3 4 L3 L4 c3.spot c4.spot e) (by omega)⟩
 have h34:RepV W bl φ (.cl 139 [.pv tI s.1.1.1]) (a.tmps.getD 34 undef):=h0.tm 34
 obtain⟨cv,e34,hcv⟩:=h34
 cases hcv with
 | @cons _ pv _ cvs hpv hnil=>
 cases hnil
 obtain⟨zb,zo,zcs,rfl,hown,hzlt,hseg,hreps⟩:=hpv
 have nown:∀{n:Nat},live (bl n)→(φ n).spot=none→zb≠(φ n).block:=fun hl hs e=>hown ⟨_,hl,hs,e.symm⟩
 let Az:Addr:=⟨zb,zo,none⟩
 have hfz:FrozAt W Az tI [s.1.1.1]:=⟨rfl,hzlt,fun i y hy=>by
  cases i with
  |zero=>cases hy;exact⟨zcs,by simpa using hseg,hreps⟩
  |succ i=>cases hy⟩
 have hfr:=h0.mem.fr
 have hfr0:Frame' w W (fun _ _=>False):=Frame'.weak hfr fun b o hb=>not_Bo (l:=[]) (fun c hc=>by cases hc) hb
 refine wpIn_rangeFunc fun fn hfn=>?_
 obtain⟨W1,hW1⟩:∃W1,(W.alloc (.deferred (some []))).alloc (.loop (recY fn W.heap.size a.tmps .ready none))=W1:=⟨_,rfl⟩
 have hBl:Below W.heap.size W W1:=by rw [←hW1];exact((Below.refl _ W).alloc (Nat.le_refl _) _).alloc (by simp) _
 have hF1:Frame' W W1 (fun _ _=>False):=below_frame hBl
 have hsz:W1.heap.size=W.heap.size+2:=by rw [←hW1];simp
 have hl:W1.heap[W.heap.size+1]?=some (.loop (recY fn W.heap.size a.tmps .ready none)):=by
  rw [←hW1];have:=World.alloc_heap_new (W.alloc (.deferred (some []))) (.loop (recY fn W.heap.size a.tmps .ready none));rwa [World.size_alloc]at this
 have hD:W1.heap[W.heap.size]?=some (.deferred (some [])):=by
  rw [←hW1];exact(Below.heap_alloc _ _ _ (by simp)).trans (World.alloc_heap_new W _)
 have hsz0:=hfr.size
 have l1:=c1.lt;have l2:=c2.lt;have l3:=c3.lt;have l4:=c4.lt
 have hfast:Fast (W.heap.size+1) W.heap.size (φ 1) (φ 2) (φ 3) (φ 4) Az w.heap.size W1.heap.size a.tmps:=
  ⟨hap,⟨by omega,by omega,by omega,by omega⟩,⟨by omega,by omega,by omega,by omega⟩,⟨by omega,by omega,by omega,by omega⟩,⟨g1,g2,g3,g4⟩,by omega,by omega,by omega,by omega,by show zb<_;omega,
   ⟨nown L1 c1.spot,nown L2 c2.spot,nown L3 c3.spot,nown L4 c4.spot⟩,by show zb≠_;omega,by omega,h0.size,p1,p2,p3,p4⟩
 have hc1:Cells4 W1 (φ 1) (φ 2) (φ 3) (φ 4) s.2.1 s.2.2.1 s.2.2.2.1 s.2.2.2.2.1:=Cells4.frame ⟨c1,c2,c3,c4⟩ hF1 (fun _ h=>h) (fun _ h=>h) (fun _ h=>h) (fun _ h=>h)
 have henv:Env9 (W.heap.size+1) W.heap.size fn a.tmps (φ 1) (φ 2) (φ 3) (φ 4) Az w W1.heap.size [s.1.1.1] s.2.1 s.2.2.1 s.2.2.2.1 s.2.2.2.2.1 W1:=
  ⟨hc1,hl,hD,hfr0.trans hF1 (fun _ _ _ h=>h),hfz.frame rfl hF1 (fun _ h=>h),by simp,Nat.le_refl _⟩
 refine⟨W.heap.size+1,[{target:= .collected W.heap.size,args:= #[]}],W1,{target:= .fn (.func 139) #[.pointer (some Az)],args:= #[.func (.yield (W.heap.size+1)) #[] #[]]},W1,139, #[.func (.yield (W.heap.size+1)) #[] #[]]++ #[.pointer (some Az)],W1,?_,?_,?_,?_,fun e=>(by cases e),?_⟩
 ·rw [←hW1];exact run_enterLoop_outer _ _ _ _ _
 ·have ev34:a.eval (.tmp 34)= .func (.func 139) #[] #[.pointer (some Az)]:=e34
  have e34':a.tmps[34]?.getD undef= .func (.func 139) #[] #[.pointer (some Az)]:=by rw [←Array.getD_eq_getD_getElem?];exact e34
  simp [resolve,rangeCall,e34',Deferred.ofValue,Sem.run_bind,Sem.run_pure,Act.eval]
 ·intro f' _;trivial
 ·simp only [invoke];exact enter139 _ _
 ·have hda:a.defers=[]:=h0.defers
  rw [hda]
  refine callsIn_of_wp Tryz.func139 it139 trivial ?_ rfl
  let z:Fel:=⟨2010,Az,tI,[s.1.1.1]⟩
  have hrel:Rel 60 W1 (BoZ [] z) (getB (blZ [] z)) (φZ [] z) ⟨[(0, .a (.v .fu (yv (W.heap.size+1)))),(1, .a (.ptr 2010 0 []))],blZ [] z⟩ {tmps:=(#[Value.func (.yield (W.heap.size+1)) #[] #[]]++ #[Value.pointer (some Az)])++Array.replicate (Tryz.f139.ntmps-(#[Value.func (.yield (W.heap.size+1)) #[] #[]]++ #[Value.pointer (some Az)]).size) undef,defers:=[]} W1:=by
   have hn:Tryz.f139.ntmps=60:=by kernel_rfl
   rw [hn]
   refine mk_relz (by simp) rfl (fun c hc=>by cases hc) (fun c d hc=>by cases hc) (fun c hc=>by cases hc) (fun c hc=>by cases hc) henv.fz rfl (fun q hq=>?_)
   simp only [List.mem_cons,List.not_mem_nil,or_false]at hq
   rcases hq with rfl|rfl
   ·exact yl_rep.2 (by simp [Array.getD_eq_getD_getElem?])
   ·exact ptr_froz (t:=tI) (xs:=[s.1.1.1]) (A:=Az) rfl (by simp) rfl rfl (by simp [Array.getD_eq_getD_getElem?])
  have hev:=eIA (FX57 k) (FX140 k) ((yv (W.heap.size+1),()),([s.1.1.1],()))
  have hq:qE k (yv (W.heap.size+1)) [s.1.1.1]=some (sA (yv (W.heap.size+1)) sA0):=by rw [qE_x,hA];rfl
  have hev:=hev.trans hq
  have horc:OrcOk (R:=Bool×outIA.T) Tryz.prog (orcOf (fesIA (FX57 k) (FX140 k))):=orcOf_ok _ (fc ⟨ok57 k,fc ⟨ok140 k,List.forall_mem_nil _⟩⟩)
  refine ev_ok (Or.inl rfl) EOK HM horc cdIA _ (losQ_posns cdIA [] fun q hq=>?_) _ (fun x st a w hk=>by cases hk) _ _ _ hev hrel
  rw [posIA,List.mem_singleton]at hq
  subst hq
  intro st a6 W6 hlo hr6
  obtain⟨hst,_⟩:=outLo_eq hlo
  subst hst
  obtain⟨bl6,φ6,h6⟩:=hr6
  have fz:φ6 2010=Az:=rel_kept h6 (Or.inl ⟨by omega,by omega⟩) (fun e=>by cases e) (by omega) rfl
  obtain⟨d6,q6⟩:=rel_cell (t:=tC) (x:=sA0.2.2.2.1) (tl:=true) (k:=6) h6 (n:=6) (by omega) rfl rfl rfl
  obtain⟨d7,q7⟩:=rel_cell (t:=tC) (x:=sA0.2.2.2.2.1) (tl:=true) (k:=7) h6 (n:=7) (by omega) rfl rfl rfl
  obtain⟨dz,qz,pz⟩:=rel_froz (t:=tI) (xs:=sA0.2.2.1) (k:=1) h6 (n:=2010) (by omega) rfl rfl rfl
  rw [fz]at dz qz
  have lo6:∀{n:Nat} {t:Ty} {l:List t.T},n<10000→bl6 n= .live t l true→(φ6 n).spot=none→W1.heap.size≤(φ6 n).block:=by
   intro n t l hn hb hs
   rcases h6.mem.lo n t l true hn hb hs with e| ⟨e,_⟩
   ·exact e
   ·cases e
  have e6:bl6 6= .live tC [sA0.2.2.2.1] true:=h6.loc 6 (by omega)
  have e7:bl6 7= .live tC [sA0.2.2.2.2.1] true:=h6.loc 7 (by omega)
  have henv6:Env9 (W.heap.size+1) W.heap.size fn a.tmps (φ 1) (φ 2) (φ 3) (φ 4) Az w W1.heap.size sA0.2.2.1 s.2.1 s.2.2.1 s.2.2.2.1 s.2.2.2.2.1 W6:=by
   have:=env_own hfast henv h6.mem.fr (fun b o hb=>absurd hb (not_BoZ (l:=[]) (z:=z) (fun c hc=>by cases hc) (fun c hc=>by cases hc)))
   exact {this with fz:=dz,pos:=pz}
  refine loop_ok (k:=k) hfast (tR:=tR) (fun a' W' hd' hc' hrec' hD' hfr'=>?_) k _ _ _ _ _ _ _ _ _ _ a6 W6 (φ6 6) (φ6 7) hL
   ⟨h6.size,h6.defers,yl_rep.1 (h6.tm 0),qz,it_val (h6.tm 3),it_val (h6.tm 4),it_val (h6.tm 5),q6,q7,d6,d7,fun e=>absurd (h6.mem.uniq 6 7 ⟨_,_,_,e6⟩ ⟨_,_,_,e7⟩ d6.spot d7.spot e) (by omega),lo6 (by omega) e6 d6.spot,lo6 (by omega) e7 d7.spot⟩ henv6
  refine⟨hd',_,results_none res139 _ _ _,some .ret,_,run_endLoop hrec' (by simp [recY]),wpIn_ret ?_⟩
  obtain⟨fp,hp⟩:=loop_put {recY fn W.heap.size a.tmps .done (some .ret)with state:= .exhausted} hrec'
  have hl0:w.heap.size≤W.heap.size:=hsz0
  refine hQ W.heap.size _ W' ?_ (hfr'.trans fp fun b o hlt e=>by omega) hl0 (fun W2 f2=>?_)
  ·rw [fp.block _ (Array.getElem?_eq_some_iff.1 hD').1 (fun o e=>by omega)];exact hD'
  ·have cc:=(Cells4.frame hc' fp (fun _ e=>hfast.nl.1 e) (fun _ e=>hfast.nl.2.1 e) (fun _ e=>hfast.nl.2.2.1 e) (fun _ e=>hfast.nl.2.2.2 e)).frame f2 (fun _ e=>hfast.nD.1 e.symm) (fun _ e=>hfast.nD.2.1 e.symm) (fun _ e=>hfast.nD.2.2.1 e.symm) (fun _ e=>hfast.nD.2.2.2 e.symm)
   obtain⟨v,v1,v2⟩:=res_ok hap cc h0.size p2 p3 p4
   exact⟨v,v1,by rw [←h];exact v2⟩
end
theorem body9:Tryz.f9.body=some cd9:=by kernel_rfl
theorem calls9 {k:Nat} {d:Int} {r:R9} (h:FX9 k d=some r) (w:World):Calls Tryz.prog 9 #[.int .i64 d] w (Fin9 w r):=by
 refine(callsIn_wide (n:=0)).1 (callsIn_of_wp_marks Tryz.func9 body9 trivial ?_ rfl)
 have hn:Tryz.f9.ntmps=80:=by kernel_rfl
 have hrel:Rel 80 w (BoOf []) (getB (blOf [])) (φOf []) ⟨[(0, .a (.v tI d))],blOf []⟩ {tmps:= #[Value.int .i64 d]++Array.replicate (Tryz.f9.ntmps-(#[Value.int .i64 d]:Array Value).size) undef,defers:=[]} w:=by
  rw [hn]
  refine mk_rel (by simp) rfl (fun c hc=>by cases hc) (fun c d hc=>by cases hc) (fun q hq=>?_)
  rw [List.mem_singleton]at hq
  subst hq
  exact it_rep (by simp [Array.getD_eq_getD_getElem?])
 have hev:=e9 (GX9l0 k) (FX52 k) (FX53 k) (FX54 k) ((d,()),())
 have hev:=hev.trans h
 unfold evFn at hev
 have horc:OrcOk (R:=R9) Tryz.prog (orcOf (fes9 (FX52 k) (FX53 k) (FX54 k))):=orcOf_ok _ (fc ⟨ok52 k,fc ⟨ok53 k,fc ⟨ok54 k,List.forall_mem_nil _⟩⟩⟩)
 have m0:Mem w (lentBo [] (φOf [])) (getB (blOf [])) (φOf []) w:=⟨fun n=>trivial,(fun n m h=>by obtain⟨_,_,_,e⟩:=h;cases e),(fun n t l tl _ h=>by cases h),Frame'.refl _ _⟩
 refine ev_ok (Or.inl rfl) EOK HM horc cd9 _ (losQ_posns cd9 [] fun q hq=>?_) _ (fun x st a' W' hk hr=>?_) _ _ _ hev hrel
 ·rw [pos9,List.mem_singleton]at hq
  subst hq
  intro st a' W' hlo hr
  obtain⟨s,e,hgx⟩:=loOf_one hlo
  subst e
  refine rf_ok hgx hr fun D W1 _ hD hfr h0 hres=>q9_ret ?_
  obtain⟨fp,hp⟩:Frame' W1 (W1.putObj D (.deferred none)) (fun b _=>b=D)∧True:=
   ⟨frame_put hD (fun k=>by simp [World.cell?,hD]) (fun k=>by simp [World.frozen?,hD,World.putObj_heap_same (o:= .deferred none) (Array.getElem?_eq_some_iff.1 hD).1]),trivial⟩
  obtain⟨v,v1,v2⟩:=hres _ fp
  refine⟨by simp, .inl ⟨_,_,rfl,run_takeDeferred hD,?_⟩⟩
  exact⟨v,v1,v,rfl,v2,below_of (hfr.trans fp fun b o hlt e=>by omega)⟩
 ·have fin:evRet E0 Tryz.f9.results.toList rm9 [] st (decW rsk9 dec9)=some r→LeavesInM Fence.wide 0 Tryz.prog Tryz.f9 a'.tmps (Fin9 w r) a'.defers .returning W':=by
   intro hk
   obtain⟨bl,φ,hr⟩:=hr
   obtain⟨hd,v,h1,φ',h2,h3⟩:=ret_ok (P:=Tryz.prog) (fn:=Tryz.f9) (bs:=[]) (K:=decW rsk9 dec9) (st1:=rsk9.mk' (enc9 r)) (rv:=rv9 r) EOK (fun n b h=>by cases h) (fun st h=>by
    unfold decW at h
    split at h
    ·rename_i s hs
     cases h
     exact Sk.dec_ok hs
    ·cases h) rfl (fun n _=>rfl) m0 hr hk
   rw [hd]
   exact⟨v,h1,v,rfl,rv9_rep h3,below_of (Frame'.weak h2.mem.fr fun b o hb=>not_Bo (l:=[]) (fun c hc=>by cases hc) hb)⟩
  cases x with
  |norm=>exact fin hk
  |ret=>exact fin hk
  |exit j=>cases hk
theorem ok9 (k:Nat):FeOk Tryz.prog (fe9 (FX9 k)):=by
 rintro⟨⟨x,⟨⟩⟩,⟨⟩⟩ o h v hv
 replace h:FX9 k x=some o:=h
 replace hv:v=rv9 o:=(Option.some.inj hv).symm
 subst hv
 refine⟨(fun q hq=>nomatch hq),fun w0 bl0 φ0 vs _ hm hr=>?_⟩
 cases hr with
 |cons h1 hr=>
  cases hr with
  |nil=>
   rw [rep_it.1 h1]
   refine sem_enter (c:=cd9) Tryz.func9 (by kernel_rfl) (by kernel_rfl) ((calls9 h w0).mono ?_)
   rintro e w' ⟨v,rfl,h3,hb⟩
   exact⟨_,rfl,φ0,S_below hm hb,rv9_rep h3⟩
noncomputable abbrev FX3 (k:Nat) (x0:Int):Option R3:=B3 (FX7 k) (FX8 k) (FX9 k) (FX10 k) (FX11 k) (FX12 k) (FX13 k) (FX14 k) (FX15 k) (FX16 k) (FX17 k) (FX18 k) x0
theorem b3 (k:Nat) (x0:Int):LeO (FX3 k x0) (B3 (FX7 k) (FX8 k) (FX9 k) (FX10 k) (FX11 k) (FX12 k) (FX13 k) (FX14 k) (FX15 k) (FX16 k) (FX17 k) (FX18 k) x0):=LeO.refl _
theorem ok3 (k:Nat):FeOk Tryz.prog (fe3 (FX3 k)):=
 fe_ok EOK HM (es:=fun k=>fes3 (FX7 k) (FX8 k) (FX9 k) (FX10 k) (FX11 k) (FX12 k) (FX13 k) (FX14 k) (FX15 k) (FX16 k) (FX17 k) (FX18 k)) (fun k=>fc ⟨ok7 k,fc ⟨ok8 k,fc ⟨ok9 k,fc ⟨ok10 k,fc ⟨ok11 k,fc ⟨ok12 k,fc ⟨ok13 k,fc ⟨ok14 k,fc ⟨ok15 k,fc ⟨ok16 k,fc ⟨ok17 k,fc ⟨ok18 k,List.forall_mem_nil _⟩⟩⟩⟩⟩⟩⟩⟩⟩⟩⟩⟩) (N:=130) (an:=an3) (c:=cd3) (f:=3) (fn:=Tryz.f3) (rms:=rm3) (ask:=ask3) (rsk:=rsk3) (enc:=enc3) (dec:=dec3) (tbl:=[]) (fun s=>rfl) Tryz.func3 (by kernel_rfl) (by kernel_rfl) (by kernel_rfl) (fun k=>les3)
  (List.forall_mem_nil _) (fun k s0=> .nil)
  (F:=fun k s=>FX3 k s.1.1) (fun k s r h=>(e3 (FX7 k) (FX8 k) (FX9 k) (FX10 k) (FX11 k) (FX12 k) (FX13 k) (FX14 k) (FX15 k) (FX16 k) (FX17 k) (FX18 k) s).trans (b3 k s.1.1 r h)) k
theorem calls3 (a:Int) (h:∃k,FX3 k a=some true) (w:World):
  Calls Tryz.prog 3 #[.int .u8 a] w fun e w'=>e= .returned (.bool true)∧Below w.heap.size w w':=by
 obtain⟨k,hk⟩:=h
 have hc:=ok3 k ((a,()),()) true hk (.a (.v .bo true)) rfl
 exact calls_of_ct (vs:=[.int .u8 a]) Tryz.func3 (by kernel_rfl) (c:=cd3) (by kernel_rfl) hc (fun w bl φ=> .cons rep_int (.nil)) (fun w bl φ v h=>rep_true h) w
end Go.Proofs.YtfllafbphddooaaGreatV
set_option maxRecDepth 100000
namespace Go.Proofs.YtfllafbphddooaaGreatV
open Go Go.RowKit Go.Proofs.YtfllafbphddooaaGreat Go.Proofs.YtfllafbphddooaaGreatE Go.Proofs.YtfllafbphddooaaGreatW.PrintWords Go.Proofs.YtfllafbphddooaaGreatW.PrintLast Go.Proofs.YtfllafbphddooaaGreatW.PrintMore
def isT (x:Option Bool):Bool:=match x with|some true=>true|_=>false
theorem isT_eq {x:Option Bool} (h:isT x=true):x=some true:=by
  unfold isT at h;split at h
  · rfl
  · cases h
noncomputable def fU (d:Nat):Bool:=isT (FX3 300 (d:Int))
def NF:List Nat:=[0,1,2,3,4,6,7,9,10,11,14,15,16,18,19,20,22,23,25,26,27,30,31,32,34,35,36,38,39,42,43,45,46,47,48,49,50,51,52,54,55,58,59,62,63,64,66,67,68,70,71,72,74,75,78,79,80,81,82,83,84,86,87,90,91,94,95,96,98,99,100,102,103,106,107,108,110,111,112,114,115,116,117,118,119,121,122,123,125,126,127,128,130,131,132,134,135,138,139,142,143,144,146,147,148,150,151,153,154,155,158,159,160,162,163,164,166,167,169,170,171,174,175,176,178,179,180,182,183,186,187,189,190,191,192,194,195,196,198,199,200,201,202,203,204,205,206,207,208,209,210,211,212,213,214,215,216,217,218,219,220,221,222,223,224,225,226,227,228,229,230,231,232,233,234,235,236,237,238,239,240,241,242,243,244,245,246,247,248,249,250,251,252,253,254,255]
theorem nf_:NF.all fU=true:=by decide +kernel
end Go.Proofs.YtfllafbphddooaaGreatV
