/- Part of the proof of the statement RationalTexts: lemmas on the model's steps, Lean functions that say what the program's functions compute, and proofs that the calls do just that. No hypothesis is added. -/
import Derived.Test.YtjllholdppjllaaGreatKRationalTexts3
set_option linter.all false
namespace Go.Proofs.YtjllholdppjllaaGreat.All
open YtjllholdppjllaaGreatX
open Go.RowKit YtjllholdppjllaaGreatW.PrintWords YtjllholdppjllaaGreatW.PrintLast YtjllholdppjllaaGreatW.PrintMore
attribute [local go_sem] max2_int min2_int max_two min_two max_three min_three max_four min_four
theorem natural_Of.copied {w:World} {base:Nat} {ok:Nat→Prop} {v:Value} {a:Int} (h:Kd.R (Kd.int .u8) 5 w base ok v ((natural_Of.bytes a 8).take (min 8 (List.replicate 8 (0:Int)).length)++(List.replicate 8 (0:Int)).drop (min 8 (List.replicate 8 (0:Int)).length))):Kd.R (Kd.int .u8) 5 w base ok v (natural_Of.bytes a 8):=by
 rw [List.take_of_length_le (by rw [natural_Of.bytes_len a 8 (Nat.le_refl _)];simp),List.drop_of_length_le (by simp),List.append_nil]at h
 exact h
theorem natural_Of.then_ {w w1 w2:World} (h:Below w.heap.size w w1) (k:Below w1.heap.size w1 w2):Below w.heap.size w w2:=below_then h h.size k
theorem natural_Of.drop1 (l:List Int) (h:¬l.length=0) (h0:rd l 0=0):(l.drop 1).dropWhile (· ==0)=l.dropWhile (· ==0):=by
 cases l with
 |nil=>exact absurd rfl h
 |cons x l=>
  have:x=0:=h0
  subst this
  simp
theorem natural_Of.keep (l:List Int) (h0:¬rd l 0=0):l.dropWhile (· ==0)=l:=by
 cases l with
 |nil=>rfl
 |cons x l=>
  have:¬x=0:=h0
  simp [this]
theorem natural_Of.add0 (a:Addr):a.add 0=a:=by
 unfold Addr.add
 split<;>simp_all
set_option maxHeartbeats 2000000 in
set_option maxRecDepth 100000 in
theorem natural_Of.calls (a0:Int) (r:ByteArray) (w:World) (h:natural_Of.f a0=some r):
  Calls Tryz.prog 135 #[.int .u64 a0] w fun e w'=>e= .returned (.string r)∧Below w.heap.size w w':=by
 unfold natural_Of.f at h
 by_cases c:0≤a0∧a0≤18446744073709551615
 case neg=>
  rw [if_neg c]at h
  exact absurd h (by simp)
 rw [if_pos c]at h
 obtain rfl:=Option.some.inj h
 clear h
 obtain⟨h0,h1⟩:=c
 go_enter Tryz.func135,Tryz.ntmps135
 go_wp2
 have HR0:=Aside0.mk (natural_Of.made w)
 have HB0:=Aside0.mk (below_alloc (Below.refl w.heap.size w) (.cells #[.int .u8 0, .int .u8 0, .int .u8 0, .int .u8 0, .int .u8 0, .int .u8 0, .int .u8 0, .int .u8 0] 139))
 go_loopw [6] (fun i wr=>∃k:Nat,k≤8∧i= .int .i64 k∧Aside0 (Kd.R (Kd.int .u8) 139 wr w.heap.size (fun _=>True) (.slice (some ⟨w.heap.size,0,none⟩) 8 8) (natural_Of.bytes a0 k))∧Aside0 (Below w.heap.size w wr)) (fun i _=>8-(intOf i).toNat)
 case atStart=>exact⟨0,by omega,rfl,HR0,HB0⟩
 case round=>
  obtain⟨k,hk,rfl,HR,HB⟩:=hrel
  clear HR0 HB0
  by_cases hlt:k<8
  ·have e1:IntKind.i64.wrap (8*(k:Int))=8*(k:Int):=IntWalk.i64_in _ (by omega)
   have e2:IntKind.i64.wrap (56-8*(k:Int))=56-8*(k:Int):=IntWalk.i64_in _ (by omega)
   have e3:(0:Int)≤56-8*(k:Int):=by omega
   obtain⟨hc,hf⟩:=Kd.R_celln (0:Int) HR.out (k:Int) (by omega) (by omega)
   (try simp only [Int.toNat_natCast]at hc hf)
   go_wp2
   go_roundw
   case rel=>
    have hp:=(Kd.R_putg HR.out (k:Int) (natural_Of.byte a0 k)).1
    rw [Int.toNat_natCast,natural_Of.bytes_set a0 k hlt]at hp
    exact⟨k+1,by omega,by go_num,⟨hp⟩,⟨below_set HB.out (Nat.le_refl _)⟩⟩
   case measure=>simp [intOf];omega
  ·obtain rfl:k=8:=by omega
   clear hlt hk
   go_wp2_with (first
    | ((with_reducible refine gate_dst (N:=18) rfl ?_);refine Kd.R_make (Kd.int .u8) _ 5 rfl (N:=18) rfl 125 _ _ rfl 8 rfl rfl Tryz.underlying125 (.int .u8 0) 1 info5 rfl (by decide) (by omega) 0 (ok:=fun _=>True) (okp:=fun _=>True) rfl (fun _ hk=>hk) trivial (by omega) (by decide) (Below.refl _ _) (Nat.le_refl _) ?_;intro v1 w1 ho hb hg hn;have HO:=Aside0.mk ho;have HG:=Aside0.mk hb;have HC:=Aside0.mk (natural_Of.reads (Kd.R_below HR.out hb));clear ho hb hg hn)
    | ((with_reducible refine gate_builtin (b:= .copy) rfl ?_);refine Kd.R_copy (0:Int) wr.heap.size rfl _ _ 125 125 5 rfl Tryz.underlying125 natural_Of.info5s v1 (List.replicate 8 0) (natural_Of.bytes a0 8) (some ⟨w.heap.size,0,none⟩) 8 8 (fun _=>True) rfl rfl HO.out HC.out HG.out HG.out.size ?_;intro w2 ho hb hg;have HO2:=Aside0.mk (natural_Of.copied ho);have HB2:=Aside0.mk (natural_Of.then_ HB.out hb);clear ho hb hg HR HB HO HG HC))
   obtain⟨A,cp,hv,hcp,hC⟩:=Kd.Q_reads (Kd.Q_of_R HO2.out)
   have HQ:=Aside0.mk (Kd.Q_of_R HO2.out)
   clear HO2
   rw [natural_Of.bytes_len a0 8 (Nat.le_refl _)]at hv
   subst hv
   have hl8:=natural_Of.bytes_len a0 8 (Nat.le_refl _)
   have HQ':Aside0 (Kd.Q (Kd.int .u8) 5 w2 wr.heap.size (fun _=>True) (.slice A (natural_Of.bytes a0 8).length cp) (natural_Of.bytes a0 8)):=⟨by rw [hl8];exact HQ.out⟩
   have HL:=Aside0.mk hl8
   clear hl8 hC hcp HQ
   (try simp only [Act.put,List.setIfInBounds_toArray,List.set_cons_zero,List.set_cons_succ])
   go_loop [5] (fun v=>∃(l:List Int) (A:Option Addr) (c:Nat),v= .slice A l.length c∧Aside0 (Kd.Q (Kd.int .u8) 5 w2 wr.heap.size (fun _=>True) (.slice A l.length c) l)∧Aside0 (l.dropWhile (· ==0)=(natural_Of.bytes a0 8).dropWhile (· ==0))) (fun v=>natural_Of.len v)
   case atStart=>exact⟨natural_Of.bytes a0 8,A,cp,by rw [HL.out],HQ',⟨rfl⟩⟩
   case round=>
    obtain⟨l,A1,c1,rfl,HQ1,HD⟩:=hrel
    clear HQ' HL
    obtain⟨hn,hcp,hC⟩:=Kd.Q_reads' HQ1.out
    have HC:=Aside0.mk hC
    clear hC hn
    by_cases hz:l.length=0
    ·have hnil:l=[]:=List.eq_nil_of_length_eq_zero hz
     have hstr:=Kd.C_string (P:=Tryz.prog) Tryz.underlying125 Tryz.underlying5 Tryz.underlying22 (c:=c1) HC.out
     have c1b:decide (0<l.length)=false:=by rw [hz];rfl
     have HN:=Aside0.mk hnil
     clear hz hnil hcp
     go_wp2
     go_ret
     refine⟨?_,HB2.out⟩
     rw [←HD.out,HN.out]
     rfl
    ·obtain⟨ad,rfl,hx⟩:=Kd.at_int HC.out 0 (by omega) (by omega)
     have hx':w2.cell? ad=some (.int .u8 (rd l 0)):=by rw [←natural_Of.add0 ad];exact hx
     clear hx
     have c1b:decide (0<l.length)=true:=by simp;omega
     have c2b:decide ((0:Int)<(l.length:Int))=true:=by simp;omega
     have c4b:(0<l.length)=True:=eq_true (by omega)
     have c5b:((0:Int)<(l.length:Int))=True:=eq_true (by omega)
     have HZ:=Aside0.mk hz
     by_cases hx0:rd l 0=0
     ·have c3b:(rd l 0==0)=true:=beq_iff_eq.mpr hx0
      have HX:=Aside0.mk hx0
      obtain⟨i0,hi0,_,hsz,_⟩:=info_parts info5
      have hcut:=cut_from (P:=Tryz.prog) 125 5 .i64 Tryz.underlying125 hi0 1 hsz (some ad) l.length c1 1 (by omega) (by omega)
      have hq:=Kd.Q_drop (k:=1) HQ1.out (by omega)
      obtain⟨A2,hA2⟩:∃A2,A2=(if c1=1 then some ad else(some ad:Option Addr).map (·.add (1*1))):=⟨_,rfl⟩
      have hl2:(l.drop 1).length=l.length-1:=by simp
      have hq2:Kd.Q (Kd.int .u8) 5 w2 wr.heap.size (fun _=>True) (.slice A2 (l.drop 1).length (c1-1)) (l.drop 1):=by rw [hl2,hA2];exact hq
      obtain⟨l2,hl2'⟩:∃l2,l2=l.drop 1:=⟨_,rfl⟩
      obtain⟨c2,hc2⟩:∃c2,c2=c1-1:=⟨_,rfl⟩
      have hcut2:∀W:World,(Instr.slice 125 (.slice (some ad) l.length c1) (some (.int .i64 1)) none none).run Tryz.prog W= .ok (.slice A2 l2.length c2) W:=by
       intro W
       rw [hcut W,hl2',hl2,hc2,hA2]
       rfl
      rw [←hl2',←hc2]at hq2
      have HQ2:=Aside0.mk hq2
      have HL2:=Aside0.mk hl2'
      clear hcut hq hA2 hl2 hq2 hl2' hc2 hx0 hi0 hsz hcp hz
      go_wp2
      go_round
      case rel=>
       refine⟨l2,A2,c2,by first|rfl|exact⟨rfl,rfl,rfl⟩,HQ2,⟨?_⟩⟩
       rw [←HD.out,HL2.out]
       exact natural_Of.drop1 l HZ.out HX.out
      case measure=>
       show natural_Of.len (.slice A2 l2.length c2)<natural_Of.len (.slice (some ad) l.length c1)
       rw [HL2.out]
       have:=HZ.out
       simp [natural_Of.len]
       omega
     ·have c3b:(rd l 0==0)=false:=beq_eq_false_iff_ne.mpr hx0
      have HX:=Aside0.mk hx0
      have hstr:=Kd.C_string (P:=Tryz.prog) Tryz.underlying125 Tryz.underlying5 Tryz.underlying22 (c:=c1) HC.out
      clear hz hcp hx0
      go_wp2
      go_ret
      refine⟨?_,HB2.out⟩
      rw [←HD.out,natural_Of.keep l HX.out]
      rfl
end Go.Proofs.YtjllholdppjllaaGreat.All
namespace Go.Proofs.YtjllholdppjllaaGreatE
open Go.RowKit
theorem calls_of_ct {P:Program} {f:Nat} {fn:Func} {c:Code} (hf:P.funcs[f]?=some fn) (hname:(fn.name== "runtime.NumGoroutine")=false) (hb:fn.body=some c) {asx:List V} {r:V} {us:Bl} (h:Ct P f asx [] r us) {vs:List Value}
  (hv:∀w bl φ,RepVs w bl φ asx vs) (hr:∀w bl φ v,RepV w bl φ r v→v= .bool true) (w:World):Calls P f vs.toArray w fun e w'=>e= .returned (.bool true)∧Below w.heap.size w w':=by
 have hm:Mem w (lentBo [] (fun _=>⟨0,0,some 0⟩)) (fun _=> .fresh) (fun _=>⟨0,0,some 0⟩) w:=
  ⟨fun n=>trivial,(fun n m h=>by obtain⟨_,_,_,e⟩:=h;cases e),(fun n t l tl _ h=>by cases h),Frame'.refl _ _⟩
 rcases h.2 w (fun _=> .fresh) (fun _=>⟨0,0,some 0⟩) vs (fun n _=>rfl) hm (hv _ _ _)with⟨_,h1⟩| ⟨v,w',h1,_⟩
 ·refine h1.mono fun e w'=>?_
  rintro⟨v,rfl,φ',st,rv⟩
  have fr:=st.mem.fr
  refine⟨by rw [hr _ _ _ _ rv],fr.os,fr.tape,fr.output,fr.size,fun b hb=>fr.block b hb fun o h=>?_⟩
  obtain⟨n,t,l,tl,_,e,_⟩:=h
  cases e
 ·exfalso
  have e:(callFunc f vs.toArray).run P w= .ok (.enter f vs.toArray) w:=by simp only [callFunc,Sem.run_bind,run_program,Result.andThen_ok,hf,hname,hb,Option.isNone_some,Bool.false_eq_true,if_false,Sem.run_pure]
  rw [e]at h1;cases h1
theorem below_frame {w w':World} (h:Below w.heap.size w w'):Frame' w w' (fun _ _=>False):=by
 have hb:∀b,b<w.heap.size→w'.heap[b]?=w.heap[b]?:=h.block
 have hc:∀b o,b<w.heap.size→w'.cell? ⟨b,o,none⟩=w.cell? ⟨b,o,none⟩:=fun b o hl=>by unfold World.cell?;rw [hb b hl]
 exact⟨h.os,h.tape,h.output,h.size,fun b hl _=>hb b hl,fun b o hl _=>hc b o hl,fun b o hs=>by
  have hl:b<w.heap.size:=by
   obtain⟨v,hv⟩:=Option.isSome_iff_exists.1 hs
   exact cell_lt hv
  rw [hc b o hl];exact hs,fun b o hl=>by unfold World.frozen?;rw [hb b hl]⟩
theorem S_below {w0 w w':World} {Bo:Nat→Nat→Prop} {bl:Nat→Blk} {φ:Nat→Addr} (m:Mem w0 Bo bl φ w) (h:Below w.heap.size w w'):Step w0 Bo bl φ w bl φ w':=
 S_gen m (fun _=>False) (fun _ _=>⟨rfl,rfl⟩) (fun _ h=>h.elim) ((below_frame h).ext (fun _ _ _ h=>h.elim) fun _ _ h=>h) (fun n _ hl hs o v hv=>((below_frame h).cell _ _ (cell_lt hv) id).trans hv) (fun _ h=>h.elim) (fun _ _ h=>h.elim) (fun _ _ _ _ h=>h.elim) (m.fr.trans (below_frame h) fun _ _ _ h=>h.elim)
section
variable {w:World} {bl:Nat→Blk} {φ:Nat→Addr}
theorem rep_str {x:ByteArray}:RepV w bl φ (.a (.v .st x)) (.string x):=⟨[.string x],rfl,rfl⟩
theorem rep_true {v:Value} (h:RepV w bl φ (.a (.v .bo true)) v):v= .bool true:=by
 obtain⟨cs,h1,h2⟩:=h
 have h1:cs=[.bool true]:=h1
 subst h1
 have h2:[Value.bool true]=[v]:=h2
 cases h2;rfl
end
end Go.Proofs.YtjllholdppjllaaGreatE
namespace Go.Proofs.YtjllholdppjllaaGreatV
open Go Go.RowKit YtjllholdppjllaaGreat YtjllholdppjllaaGreatE YtjllholdppjllaaGreatW.PrintWords YtjllholdppjllaaGreatW.PrintLast YtjllholdppjllaaGreatW.PrintMore
theorem ok135 (k:Nat):FeOk Tryz.prog (fe135 (FX135 k)):=by
 rintro⟨⟨x,⟨⟩⟩,⟨⟩⟩ o h v hv
 replace h:All.natural_Of.f x=some o:=h
 cases hv
 refine⟨(fun q hq=>nomatch hq),fun w0 bl0 φ0 vs _ hm hr=>?_⟩
 cases hr with
 |cons h1 hr=>
  cases hr with
  |nil=>
   rw [rep_it.1 h1]
   refine sem_enter (c:=(Tryz.f135.body).getD .skip) Tryz.func135 (by kernel_rfl) (by kernel_rfl) ((All.natural_Of.calls x o w0 h).mono ?_)
   rintro e w' ⟨rfl,hb⟩
   exact⟨_,rfl,φ0,S_below hm hb,rep_str⟩
end Go.Proofs.YtjllholdppjllaaGreatV
set_option maxRecDepth 100000
namespace Go.Proofs.YtjllholdppjllaaGreatV
open Go Go.RowKit YtjllholdppjllaaGreat YtjllholdppjllaaGreatE YtjllholdppjllaaGreatW.PrintWords YtjllholdppjllaaGreatW.PrintLast YtjllholdppjllaaGreatW.PrintMore
theorem b84 (k:Nat) (x0:ByteArray):LeO (FX84 k x0) (B84 x0):=by
 show LeO (All.natural_Check.f k x0) _
 unfold All.natural_Check.f
 unfold B84
 (try simp only [All.integer_zero.f,All.exact_stepAt.f,All.S24.f0,All.S24.f1,All.rd_T24,All.z24])
 (try simp only [List.take_append_drop,List.drop_length,List.append_nil,Int.zero_sub,Int.toNat_natCast,Int.reduceToNat,Int.zero_add,List.take_zero,List.nil_append,List.append_assoc,List.length_set,ite_bind_,List.take_left,BAe,bne,decide_int_eq,decide_not,wrap_mod,if_true,if_false,Bool.false_eq_true,bind_assoc_,slice_def,List.drop_zero,List.take_length,wrap_u8,bind_some_,cnd_eq_if,rdOf,ite_not,Bool.and_eq_true,Bool.or_eq_true,Bool.not_eq_true',bfalse,Bool.not_eq_false',beq_iff_eq,decide_eq_true_eq,isEmpty_eq,ite_and_,ite_or_,ne_eq,toList_mk,List.toList_toArray])
 repeat' first
 | (with_reducible refine LeO.trans ((All.natural_Check.mono_l k) _ _) ?_;rw [All.natural_Check.j0];(try simp only [if_true,if_false,decide_eq_true_eq,Bool.false_eq_true,decide_not,ite_not,bne,decide_int_eq,beq_iff_eq,Bool.not_eq_true',bfalse,toList_mk,List.toList_toArray,ite_and_,ite_or_,Bool.and_eq_true,Bool.or_eq_true,isEmpty_eq,wrap_mod,wrap_u8,All.integer_zero.f,bind_some_,Int.toNat_natCast,Int.reduceToNat,Int.zero_sub,BAe]))
 | (with_reducible exact LeO.none _)
 | (with_reducible exact LeO.refl _)
 | (with_reducible refine LeO.posR (by with_reducible assumption) ?_)
 | (with_reducible refine LeO.negR (by with_reducible assumption) ?_)
 | (with_reducible refine LeO.bindR (by with_reducible assumption) ?_)
 | (with_reducible refine LeO.posL (by with_reducible assumption) ?_)
 | (with_reducible refine LeO.negL (by with_reducible assumption) ?_)
 | (with_reducible refine LeO.iteL (fun _=>?_) (fun _=>?_))
 | (with_reducible refine LeO.bindK (by with_reducible assumption) ?_)
 | (with_reducible refine LeO.bindL (fun _ _=>?_))
 | (refine LeO.posR (by first|decide|exact Int.le_refl _|omega|assumption) ?_)
 | (refine LeO.negR (by first|decide|omega) ?_)
theorem ok84 (k:Nat):FeOk Tryz.prog (fe84 (FX84 k)):=
 fe_ok EOK HM (es:=fun k=>fes84) (fun k=>fz) (N:=14) (an:=an84) (c:=cd84) (rms:=rm84) (ask:=ask84) (rsk:=rsk84) (enc:=enc84) (dec:=dec84) (tbl:=[]) (fun s=>rfl) Tryz.func84 (by kernel_rfl) (by kernel_rfl) (by kernel_rfl) (fun k=>les84)
  (fz) (fun k s0=> .nil)
  (F:=fun k s=>FX84 k s.1.1) (fun k s r h=>(e84 s).trans (b84 k s.1.1 r h)) k
theorem b128 (k:Nat):LeO (FX128 k) (B128):=by
 show LeO (All.integer_zero.f) _
 unfold All.integer_zero.f;unfold B128;(try simp only [All.integer_zero.f,All.exact_stepAt.f,All.S24.f0,All.S24.f1,All.rd_T24,All.z24]);exact BR
theorem ok128 (k:Nat):FeOk Tryz.prog (fe128 (FX128 k)):=
 fe_ok EOK HM (es:=fun k=>fes128) (fun k=>fz) (N:=2) (an:=an128) (c:=cd128) (rms:=rm128) (ask:=ask128) (rsk:=rsk128) (enc:=enc128) (dec:=dec128) (tbl:=[]) (fun s=>rfl) Tryz.func128 (by kernel_rfl) (by kernel_rfl) (by kernel_rfl) (fun k=>les128)
  (fz) (fun k s0=> .nil)
  (F:=fun k s=>FX128 k) (fun k s r h=>(e128 s).trans (b128 k r h)) k
theorem b83 (k:Nat) (x0:TI):LeO (FX83 k x0) (B83 (FX84 k) (FX128 k) x0):=by
 show LeO (All.integer_Check.f k x0.1 x0.2) _
 unfold All.integer_Check.f;unfold B83;(try simp only [FX84,FX128,All.integer_zero.f,All.exact_stepAt.f,All.S24.f0,All.S24.f1,All.rd_T24,All.z24]);exact BR
theorem ok83 (k:Nat):FeOk Tryz.prog (fe83 (FX83 k)):=
 fe_ok EOK HM (es:=fun k=>fes83 (FX84 k) (FX128 k)) (fun k=>fc ⟨ok84 k,fc ⟨ok128 k,fz⟩⟩) (N:=21) (an:=an83) (c:=cd83) (rms:=rm83) (ask:=ask83) (rsk:=rsk83) (enc:=enc83) (dec:=dec83) (tbl:=[]) (fun s=>rfl) Tryz.func83 (by kernel_rfl) (by kernel_rfl) (by kernel_rfl) (fun k=>les83)
  (fz) (fun k s0=> .nil)
  (F:=fun k s=>FX83 k s.1.1) (fun k s r h=>(e83 (FX84 k) (FX128 k) s).trans (b83 k s.1.1 r h)) k
theorem ok152 (k:Nat):FeOk Tryz.prog (fe152 (FX152 k)):=
 fe_ok EOK HM (es:=fun k=>fes152) (fun k=>fz) (N:=21) (an:=an152) (c:=cd152) (rms:=rm152) (ask:=ask152) (rsk:=rsk152) (enc:=enc152) (dec:=dec152) (tbl:=[p152.getD 0 ⟨0,[], .skip⟩]) (fun s=>rfl) Tryz.func152 (by kernel_rfl) (by kernel_rfl) (by kernel_rfl) (fun k=>les152 (GX152l0 k))
  (fc ⟨fun s=>rfl,fz⟩) (fun k s0=> .cons (by kernel_rfl) (by kernel_rfl) (fun s r h=>(e152l0 (GX152l0 k) s0 s).trans (b152l0 k s.1.1 s.2.1 r h)) (.nil))
  (F:=fun k s=>FX152 k s.2.1) (fun k s r h=>(e152 (GX152l0 k) s).trans (b152 k s.2.1 r h)) k
noncomputable abbrev GX129l0 (k:Nat) (x0:ByteArray) (x12:Int) (x13:Int) (x3:(List Int)):Option R129:=All.exact_words.l0 k x0 x3 x12 x13
theorem b129l0 (k:Nat) (x0:ByteArray) (x12:Int) (x13:Int) (x3:(List Int)):LeO (All.exact_words.l0 (k+1) x0 x3 x12 x13) (B129l0 (GX129l0 k) (FX152 k) x0 x12 x13 x3):=by rw [All.exact_words.l0];unfold B129l0;(try simp only [GX129l0,FX152,All.integer_zero.f,All.exact_stepAt.f,All.S24.f0,All.S24.f1,All.rd_T24,All.z24]);exact BR
theorem b129 (k:Nat) (x0:ByteArray):LeO (FX129 k x0) (B129 (GX129l0 k) x0):=by
 show LeO (All.exact_words.f k x0) _
 unfold All.exact_words.f;unfold B129;(try simp only [GX129l0,FX152,All.integer_zero.f,All.exact_stepAt.f,All.S24.f0,All.S24.f1,All.rd_T24,All.z24]);exact BR
theorem ok129 (k:Nat):FeOk Tryz.prog (fe129 (FX129 k)):=
 fe_ok EOK HM (es:=fun k=>fes129 (FX152 k)) (fun k=>fc ⟨ok152 k,fz⟩) (N:=39) (an:=an129) (c:=cd129) (rms:=rm129) (ask:=ask129) (rsk:=rsk129) (enc:=enc129) (dec:=dec129) (tbl:=[p129.getD 0 ⟨0,[], .skip⟩]) (fun s=>rfl) Tryz.func129 (by kernel_rfl) (by kernel_rfl) (by kernel_rfl) (fun k=>les129 (GX129l0 k))
  (fc ⟨fun s=>rfl,fz⟩) (fun k s0=> .cons (by kernel_rfl) (by kernel_rfl) (fun s r h=>(e129l0 (GX129l0 k) (FX152 k) s0 s).trans (b129l0 k s.1.1 s.1.2.1 s.1.2.2.1 s.2.1 r h)) (.nil))
  (F:=fun k s=>FX129 k s.1.1) (fun k s r h=>(e129 (GX129l0 k) (FX152 k) s).trans (b129 k s.1.1 r h)) k
noncomputable abbrev GX153l0 (k:Nat) (x0:(List Int)) (x1:(List Int)) (x5:Int):Option R153:=All.exact_compareWords.l0 k x0 x1 x5
theorem b153l0 (k:Nat) (x0:(List Int)) (x1:(List Int)) (x5:Int):LeO (All.exact_compareWords.l0 (k+1) x0 x1 x5) (B153l0 (GX153l0 k) x0 x1 x5):=by rw [All.exact_compareWords.l0];unfold B153l0;(try simp only [GX153l0,All.integer_zero.f,All.exact_stepAt.f,All.S24.f0,All.S24.f1,All.rd_T24,All.z24]);exact BR
theorem b153 (k:Nat) (x0:(List Int)) (x1:(List Int)):LeO (FX153 k x0 x1) (B153 (GX153l0 k) x0 x1):=by
 show LeO (All.exact_compareWords.f k x0 x1) _
 unfold All.exact_compareWords.f;unfold B153;(try simp only [GX153l0,All.integer_zero.f,All.exact_stepAt.f,All.S24.f0,All.S24.f1,All.rd_T24,All.z24]);exact BR
theorem ok153 (k:Nat):FeOk Tryz.prog (fe153 (FX153 k)):=
 fe_ok EOK HM (es:=fun k=>fes153) (fun k=>fz) (N:=41) (an:=an153) (c:=cd153) (rms:=rm153) (ask:=ask153) (rsk:=rsk153) (enc:=enc153) (dec:=dec153) (tbl:=[p153.getD 0 ⟨0,[], .skip⟩]) (fun s=>rfl) Tryz.func153 (by kernel_rfl) (by kernel_rfl) (by kernel_rfl) (fun k=>les153 (GX153l0 k))
  (fc ⟨fun s=>rfl,fz⟩) (fun k s0=> .cons (by kernel_rfl) (by kernel_rfl) (fun s r h=>(e153l0 (GX153l0 k) s0 s).trans (b153l0 k s.1.1 s.1.2.1 s.1.2.2.1 r h)) (.nil))
  (F:=fun k s=>FX153 k s.1.1 s.1.2.1) (fun k s r h=>(e153 (GX153l0 k) s).trans (b153 k s.1.1 s.1.2.1 r h)) k
theorem b155 (k:Nat) (x0:Int):LeO (FX155 k x0) (B155 (FX167 k) x0):=by
 show LeO (All.bits_LeadingZeros64.f x0) _
 unfold All.bits_LeadingZeros64.f;unfold B155;(try simp only [FX167,All.integer_zero.f,All.exact_stepAt.f,All.S24.f0,All.S24.f1,All.rd_T24,All.z24]);exact BR
theorem ok155 (k:Nat):FeOk Tryz.prog (fe155 (FX155 k)):=
 fe_ok EOK HM (es:=fun k=>fes155 (FX167 k)) (fun k=>fc ⟨ok167 k,fz⟩) (N:=6) (an:=an155) (c:=cd155) (rms:=rm155) (ask:=ask155) (rsk:=rsk155) (enc:=enc155) (dec:=dec155) (tbl:=[]) (fun s=>rfl) Tryz.func155 (by kernel_rfl) (by kernel_rfl) (by kernel_rfl) (fun k=>les155)
  (fz) (fun k s0=> .nil)
  (F:=fun k s=>FX155 k s.1.1) (fun k s r h=>(e155 (FX167 k) s).trans (b155 k s.1.1 r h)) k
noncomputable abbrev GX154l0 (k:Nat) (x2:Int) (x8:Int) (x9:Int) (x10:Int) (x11:Int) (x13:Int) (x14:Int) (x15:Int) (x16:Int):Option R154:=All.bits_Div64.l0 k x2 x8 x9 x10 x11 x13 x14 x15 x16
noncomputable abbrev GX154l1 (k:Nat) (x2:Int) (x8:Int) (x9:Int) (x10:Int) (x14:Int) (x15:Int) (x16:Int) (x17:Int) (x18:Int):Option R154:=All.bits_Div64.l1 k x2 x8 x9 x10 x14 x15 x16 x17 x18
theorem b154l0 (k:Nat) (x2:Int) (x8:Int) (x9:Int) (x10:Int) (x11:Int) (x13:Int) (x14:Int) (x15:Int) (x16:Int):LeO (All.bits_Div64.l0 (k+1) x2 x8 x9 x10 x11 x13 x14 x15 x16) (B154l0 (GX154l0 k) (GX154l1 k) x2 x8 x9 x10 x11 x13 x14 x15 x16):=by
 rw [All.bits_Div64.l0]
 unfold B154l0
 (try simp only [GX154l0,GX154l1,FX155,All.integer_zero.f,All.exact_stepAt.f,All.S24.f0,All.S24.f1,All.rd_T24,All.z24])
 (try simp only [List.take_append_drop,List.drop_length,List.append_nil,Int.zero_sub,Int.toNat_natCast,Int.reduceToNat,Int.zero_add,List.take_zero,List.nil_append,List.append_assoc,List.length_set,ite_bind_,List.take_left,BAe,bne,decide_int_eq,decide_not,wrap_mod,if_true,if_false,Bool.false_eq_true,bind_assoc_,slice_def,List.drop_zero,List.take_length,wrap_u8,bind_some_,cnd_eq_if,rdOf,ite_not,Bool.and_eq_true,Bool.or_eq_true,Bool.not_eq_true',bfalse,Bool.not_eq_false',beq_iff_eq,decide_eq_true_eq,isEmpty_eq,ite_and_,ite_or_,ne_eq,toList_mk,List.toList_toArray])
 repeat' first
 | (with_reducible refine LeO.trans ((All.bits_Div64.mono_l k).2.2.2.2 _ _ _ _ _ _ _ _ _ _) ?_;rw [All.bits_Div64.j1];(try simp only [if_true,if_false,decide_eq_true_eq,Bool.false_eq_true,decide_not,ite_not,bne,decide_int_eq,beq_iff_eq,Bool.not_eq_true',bfalse,toList_mk,List.toList_toArray,ite_and_,ite_or_,Bool.and_eq_true,Bool.or_eq_true,isEmpty_eq,wrap_mod,wrap_u8,All.integer_zero.f,bind_some_,Int.toNat_natCast,Int.reduceToNat,Int.zero_sub,BAe]))
 | (with_reducible refine LeO.trans ((All.bits_Div64.mono_l k).1 _ _ _ _ _ _ _ _) ?_;rw [All.bits_Div64.j2];(try simp only [if_true,if_false,decide_eq_true_eq,Bool.false_eq_true,decide_not,ite_not,bne,decide_int_eq,beq_iff_eq,Bool.not_eq_true',bfalse,toList_mk,List.toList_toArray,ite_and_,ite_or_,Bool.and_eq_true,Bool.or_eq_true,isEmpty_eq,wrap_mod,wrap_u8,All.integer_zero.f,bind_some_,Int.toNat_natCast,Int.reduceToNat,Int.zero_sub,BAe]))
 | (with_reducible refine LeO.trans ((All.bits_Div64.mono_l k).2.2.1 _ _ _ _ _ _ _ _ _ _) ?_;rw [All.bits_Div64.j4];(try simp only [if_true,if_false,decide_eq_true_eq,Bool.false_eq_true,decide_not,ite_not,bne,decide_int_eq,beq_iff_eq,Bool.not_eq_true',bfalse,toList_mk,List.toList_toArray,ite_and_,ite_or_,Bool.and_eq_true,Bool.or_eq_true,isEmpty_eq,wrap_mod,wrap_u8,All.integer_zero.f,bind_some_,Int.toNat_natCast,Int.reduceToNat,Int.zero_sub,BAe]))
 | (with_reducible exact LeO.none _)
 | (with_reducible exact LeO.refl _)
 | (with_reducible refine LeO.posR (by with_reducible assumption) ?_)
 | (with_reducible refine LeO.negR (by with_reducible assumption) ?_)
 | (with_reducible refine LeO.bindR (by with_reducible assumption) ?_)
 | (with_reducible refine LeO.posL (by with_reducible assumption) ?_)
 | (with_reducible refine LeO.negL (by with_reducible assumption) ?_)
 | (with_reducible refine LeO.iteL (fun _=>?_) (fun _=>?_))
 | (with_reducible refine LeO.bindK (by with_reducible assumption) ?_)
 | (with_reducible refine LeO.bindL (fun _ _=>?_))
 | (refine LeO.posR (by first|decide|exact Int.le_refl _|omega|assumption) ?_)
 | (refine LeO.negR (by first|decide|omega) ?_)
theorem b154l1 (k:Nat) (x2:Int) (x8:Int) (x9:Int) (x10:Int) (x14:Int) (x15:Int) (x16:Int) (x17:Int) (x18:Int):LeO (All.bits_Div64.l1 (k+1) x2 x8 x9 x10 x14 x15 x16 x17 x18) (B154l1 (GX154l1 k) x2 x8 x9 x10 x14 x15 x16 x17 x18):=by
 rw [All.bits_Div64.l1]
 unfold B154l1
 (try simp only [GX154l0,GX154l1,FX155,All.integer_zero.f,All.exact_stepAt.f,All.S24.f0,All.S24.f1,All.rd_T24,All.z24])
 (try simp only [List.take_append_drop,List.drop_length,List.append_nil,Int.zero_sub,Int.toNat_natCast,Int.reduceToNat,Int.zero_add,List.take_zero,List.nil_append,List.append_assoc,List.length_set,ite_bind_,List.take_left,BAe,bne,decide_int_eq,decide_not,wrap_mod,if_true,if_false,Bool.false_eq_true,bind_assoc_,slice_def,List.drop_zero,List.take_length,wrap_u8,bind_some_,cnd_eq_if,rdOf,ite_not,Bool.and_eq_true,Bool.or_eq_true,Bool.not_eq_true',bfalse,Bool.not_eq_false',beq_iff_eq,decide_eq_true_eq,isEmpty_eq,ite_and_,ite_or_,ne_eq,toList_mk,List.toList_toArray])
 repeat' first
 | (with_reducible refine LeO.trans ((All.bits_Div64.mono_l k).2.2.2.2 _ _ _ _ _ _ _ _ _ _) ?_;rw [All.bits_Div64.j1];(try simp only [if_true,if_false,decide_eq_true_eq,Bool.false_eq_true,decide_not,ite_not,bne,decide_int_eq,beq_iff_eq,Bool.not_eq_true',bfalse,toList_mk,List.toList_toArray,ite_and_,ite_or_,Bool.and_eq_true,Bool.or_eq_true,isEmpty_eq,wrap_mod,wrap_u8,All.integer_zero.f,bind_some_,Int.toNat_natCast,Int.reduceToNat,Int.zero_sub,BAe]))
 | (with_reducible refine LeO.trans ((All.bits_Div64.mono_l k).1 _ _ _ _ _ _ _ _) ?_;rw [All.bits_Div64.j2];(try simp only [if_true,if_false,decide_eq_true_eq,Bool.false_eq_true,decide_not,ite_not,bne,decide_int_eq,beq_iff_eq,Bool.not_eq_true',bfalse,toList_mk,List.toList_toArray,ite_and_,ite_or_,Bool.and_eq_true,Bool.or_eq_true,isEmpty_eq,wrap_mod,wrap_u8,All.integer_zero.f,bind_some_,Int.toNat_natCast,Int.reduceToNat,Int.zero_sub,BAe]))
 | (with_reducible refine LeO.trans ((All.bits_Div64.mono_l k).2.2.1 _ _ _ _ _ _ _ _ _ _) ?_;rw [All.bits_Div64.j4];(try simp only [if_true,if_false,decide_eq_true_eq,Bool.false_eq_true,decide_not,ite_not,bne,decide_int_eq,beq_iff_eq,Bool.not_eq_true',bfalse,toList_mk,List.toList_toArray,ite_and_,ite_or_,Bool.and_eq_true,Bool.or_eq_true,isEmpty_eq,wrap_mod,wrap_u8,All.integer_zero.f,bind_some_,Int.toNat_natCast,Int.reduceToNat,Int.zero_sub,BAe]))
 | (with_reducible exact LeO.none _)
 | (with_reducible exact LeO.refl _)
 | (with_reducible refine LeO.posR (by with_reducible assumption) ?_)
 | (with_reducible refine LeO.negR (by with_reducible assumption) ?_)
 | (with_reducible refine LeO.bindR (by with_reducible assumption) ?_)
 | (with_reducible refine LeO.posL (by with_reducible assumption) ?_)
 | (with_reducible refine LeO.negL (by with_reducible assumption) ?_)
 | (with_reducible refine LeO.iteL (fun _=>?_) (fun _=>?_))
 | (with_reducible refine LeO.bindK (by with_reducible assumption) ?_)
 | (with_reducible refine LeO.bindL (fun _ _=>?_))
 | (refine LeO.posR (by first|decide|exact Int.le_refl _|omega|assumption) ?_)
 | (refine LeO.negR (by first|decide|omega) ?_)
theorem b154 (k:Nat) (x0:Int) (x1:Int) (x2:Int):LeO (FX154 k x0 x1 x2) (B154 (GX154l0 k) (FX155 k) x0 x1 x2):=by
 show LeO (All.bits_Div64.f k x0 x1 x2) _
 unfold All.bits_Div64.f
 unfold B154
 (try simp only [GX154l0,GX154l1,FX155,All.integer_zero.f,All.exact_stepAt.f,All.S24.f0,All.S24.f1,All.rd_T24,All.z24])
 (try simp only [List.take_append_drop,List.drop_length,List.append_nil,Int.zero_sub,Int.toNat_natCast,Int.reduceToNat,Int.zero_add,List.take_zero,List.nil_append,List.append_assoc,List.length_set,ite_bind_,List.take_left,BAe,bne,decide_int_eq,decide_not,wrap_mod,if_true,if_false,Bool.false_eq_true,bind_assoc_,slice_def,List.drop_zero,List.take_length,wrap_u8,bind_some_,cnd_eq_if,rdOf,ite_not,Bool.and_eq_true,Bool.or_eq_true,Bool.not_eq_true',bfalse,Bool.not_eq_false',beq_iff_eq,decide_eq_true_eq,isEmpty_eq,ite_and_,ite_or_,ne_eq,toList_mk,List.toList_toArray])
 repeat' first
 | (with_reducible refine LeO.trans ((All.bits_Div64.mono_l k).2.2.2.2 _ _ _ _ _ _ _ _ _ _) ?_;rw [All.bits_Div64.j1];(try simp only [if_true,if_false,decide_eq_true_eq,Bool.false_eq_true,decide_not,ite_not,bne,decide_int_eq,beq_iff_eq,Bool.not_eq_true',bfalse,toList_mk,List.toList_toArray,ite_and_,ite_or_,Bool.and_eq_true,Bool.or_eq_true,isEmpty_eq,wrap_mod,wrap_u8,All.integer_zero.f,bind_some_,Int.toNat_natCast,Int.reduceToNat,Int.zero_sub,BAe]))
 | (with_reducible refine LeO.trans ((All.bits_Div64.mono_l k).1 _ _ _ _ _ _ _ _) ?_;rw [All.bits_Div64.j2];(try simp only [if_true,if_false,decide_eq_true_eq,Bool.false_eq_true,decide_not,ite_not,bne,decide_int_eq,beq_iff_eq,Bool.not_eq_true',bfalse,toList_mk,List.toList_toArray,ite_and_,ite_or_,Bool.and_eq_true,Bool.or_eq_true,isEmpty_eq,wrap_mod,wrap_u8,All.integer_zero.f,bind_some_,Int.toNat_natCast,Int.reduceToNat,Int.zero_sub,BAe]))
 | (with_reducible refine LeO.trans ((All.bits_Div64.mono_l k).2.2.1 _ _ _ _ _ _ _ _ _ _) ?_;rw [All.bits_Div64.j4];(try simp only [if_true,if_false,decide_eq_true_eq,Bool.false_eq_true,decide_not,ite_not,bne,decide_int_eq,beq_iff_eq,Bool.not_eq_true',bfalse,toList_mk,List.toList_toArray,ite_and_,ite_or_,Bool.and_eq_true,Bool.or_eq_true,isEmpty_eq,wrap_mod,wrap_u8,All.integer_zero.f,bind_some_,Int.toNat_natCast,Int.reduceToNat,Int.zero_sub,BAe]))
 | (with_reducible exact LeO.none _)
 | (with_reducible exact LeO.refl _)
 | (with_reducible refine LeO.posR (by with_reducible assumption) ?_)
 | (with_reducible refine LeO.negR (by with_reducible assumption) ?_)
 | (with_reducible refine LeO.bindR (by with_reducible assumption) ?_)
 | (with_reducible refine LeO.posL (by with_reducible assumption) ?_)
 | (with_reducible refine LeO.negL (by with_reducible assumption) ?_)
 | (with_reducible refine LeO.iteL (fun _=>?_) (fun _=>?_))
 | (with_reducible refine LeO.bindK (by with_reducible assumption) ?_)
 | (with_reducible refine LeO.bindL (fun _ _=>?_))
 | (refine LeO.posR (by first|decide|exact Int.le_refl _|omega|assumption) ?_)
 | (refine LeO.negR (by first|decide|omega) ?_)
theorem ok154 (k:Nat):FeOk Tryz.prog (fe154 (FX154 k)):=
 fe_ok EOK HM (es:=fun k=>fes154 (FX155 k)) (fun k=>fc ⟨ok155 k,fz⟩) (N:=135) (an:=an154) (c:=cd154) (rms:=rm154) (ask:=ask154) (rsk:=rsk154) (enc:=enc154) (dec:=dec154) (tbl:=[p154.getD 0 ⟨0,[], .skip⟩,p154.getD 1 ⟨0,[], .skip⟩]) (fun s=>rfl) Tryz.func154 (by kernel_rfl) (by kernel_rfl) (by kernel_rfl) (fun k=>les154 (GX154l0 k) (GX154l1 k))
  (fc ⟨fun s=>rfl,fc ⟨fun s=>rfl,fz⟩⟩) (fun k s0=> .cons (by kernel_rfl) (by kernel_rfl) (fun s r h=>(e154l0 (GX154l0 k) (GX154l1 k) (FX155 k) s0 s).trans (b154l0 k s.1.1 s.1.2.1 s.1.2.2.1 s.1.2.2.2.1 s.1.2.2.2.2.1 s.1.2.2.2.2.2.1 s.1.2.2.2.2.2.2.1 s.1.2.2.2.2.2.2.2.1 s.1.2.2.2.2.2.2.2.2.1 r h)) (.cons (by kernel_rfl) (by kernel_rfl) (fun s r h=>(e154l1 (GX154l0 k) (GX154l1 k) (FX155 k) s0 s).trans (b154l1 k s.1.1 s.1.2.1 s.1.2.2.1 s.1.2.2.2.1 s.1.2.2.2.2.1 s.1.2.2.2.2.2.1 s.1.2.2.2.2.2.2.1 s.1.2.2.2.2.2.2.2.1 s.1.2.2.2.2.2.2.2.2.1 r h)) (.nil)))
  (F:=fun k s=>FX154 k s.1.1 s.1.2.1 s.1.2.2.1) (fun k s r h=>(e154 (GX154l0 k) (GX154l1 k) (FX155 k) s).trans (b154 k s.1.1 s.1.2.1 s.1.2.2.1 r h)) k
noncomputable abbrev GX156l0 (k:Nat) (x1:Int) (x12:(List Int)) (x13:Int) (x14:Int) (x5:(List Int)):Option R156:=All.exact_shiftUp.l0 k x1 x5 x12 x13 x14
theorem b156l0 (k:Nat) (x1:Int) (x12:(List Int)) (x13:Int) (x14:Int) (x5:(List Int)):LeO (All.exact_shiftUp.l0 (k+1) x1 x5 x12 x13 x14) (B156l0 (GX156l0 k) x1 x12 x13 x14 x5):=by rw [All.exact_shiftUp.l0];unfold B156l0;(try simp only [GX156l0,All.integer_zero.f,All.exact_stepAt.f,All.S24.f0,All.S24.f1,All.rd_T24,All.z24]);exact BR
theorem b156 (k:Nat) (x0:(List Int)) (x1:Int):LeO (FX156 k x0 x1) (B156 (GX156l0 k) x0 x1):=by
 show LeO (All.exact_shiftUp.f k x0 x1) _
 unfold All.exact_shiftUp.f;unfold B156;(try simp only [GX156l0,All.integer_zero.f,All.exact_stepAt.f,All.S24.f0,All.S24.f1,All.rd_T24,All.z24]);exact BR
theorem ok156 (k:Nat):FeOk Tryz.prog (fe156 (FX156 k)):=
 fe_ok EOK HM (es:=fun k=>fes156) (fun k=>fz) (N:=40) (an:=an156) (c:=cd156) (rms:=rm156) (ask:=ask156) (rsk:=rsk156) (enc:=enc156) (dec:=dec156) (tbl:=[p156.getD 0 ⟨0,[], .skip⟩]) (fun s=>rfl) Tryz.func156 (by kernel_rfl) (by kernel_rfl) (by kernel_rfl) (fun k=>les156 (GX156l0 k))
  (fc ⟨fun s=>rfl,fz⟩) (fun k s0=> .cons (by kernel_rfl) (by kernel_rfl) (fun s r h=>(e156l0 (GX156l0 k) s0 s).trans (b156l0 k s.1.1 s.1.2.1 s.1.2.2.1 s.1.2.2.2.1 s.2.1 r h)) (.nil))
  (F:=fun k s=>FX156 k s.1.1 s.1.2.1) (fun k s r h=>(e156 (GX156l0 k) s).trans (b156 k s.1.1 s.1.2.1 r h)) k
theorem b161 (k:Nat) (x0:Int) (x1:Int):LeO (FX161 k x0 x1) (B161 x0 x1):=by
 show LeO (All.bits_Mul64.f x0 x1) _
 unfold All.bits_Mul64.f;unfold B161;(try simp only [All.integer_zero.f,All.exact_stepAt.f,All.S24.f0,All.S24.f1,All.rd_T24,All.z24]);exact BR
theorem ok161 (k:Nat):FeOk Tryz.prog (fe161 (FX161 k)):=
 fe_ok EOK HM (es:=fun k=>fes161) (fun k=>fz) (N:=51) (an:=an161) (c:=cd161) (rms:=rm161) (ask:=ask161) (rsk:=rsk161) (enc:=enc161) (dec:=dec161) (tbl:=[]) (fun s=>rfl) Tryz.func161 (by kernel_rfl) (by kernel_rfl) (by kernel_rfl) (fun k=>les161)
  (fz) (fun k s0=> .nil)
  (F:=fun k s=>FX161 k s.1.1 s.1.2.1) (fun k s r h=>(e161 s).trans (b161 k s.1.1 s.1.2.1 r h)) k
noncomputable abbrev GX157l0 (k:Nat) (x1:(List Int)) (x5:Int) (x6:Int) (x7:Int) (x8:Int) (y0:(List Int)):Option R157:=All.exact_step.l0 k y0 x1 x5 x6 x7 x8
noncomputable abbrev GX157l1 (k:Nat) (x1:(List Int)) (x5:Int) (x6:Int) (x11:Int) (x12:Int) (x104:Int) (x105:Int) (y0:(List Int)):Option R157:=All.exact_step.l1 k y0 x1 x5 x6 x11 x12 x104 x105
noncomputable abbrev GX157l2 (k:Nat) (x1:(List Int)) (x5:Int) (x6:Int) (x17:Int) (x156:Int) (x157:Int) (y0:(List Int)):Option R157:=All.exact_step.l2 k y0 x1 x5 x6 x17 x156 x157
theorem b157l0 (k:Nat) (x1:(List Int)) (x5:Int) (x6:Int) (x7:Int) (x8:Int) (y0:(List Int)):LeO (All.exact_step.l0 (k+1) y0 x1 x5 x6 x7 x8) (B157l0 (GX157l0 k) (GX157l1 k) (FX159 k) (FX161 k) x1 x5 x6 x7 x8 y0):=by
 rw [All.exact_step.l0]
 unfold B157l0
 (try simp only [GX157l0,GX157l1,GX157l2,FX154,FX159,FX160,FX161,All.integer_zero.f,All.exact_stepAt.f,All.S24.f0,All.S24.f1,All.rd_T24,All.z24])
 (try simp only [List.take_append_drop,List.drop_length,List.append_nil,Int.zero_sub,Int.toNat_natCast,Int.reduceToNat,Int.zero_add,List.take_zero,List.nil_append,List.append_assoc,List.length_set,ite_bind_,List.take_left,BAe,bne,decide_int_eq,decide_not,wrap_mod,if_true,if_false,Bool.false_eq_true,bind_assoc_,slice_def,List.drop_zero,List.take_length,wrap_u8,bind_some_,cnd_eq_if,rdOf,ite_not,Bool.and_eq_true,Bool.or_eq_true,Bool.not_eq_true',bfalse,Bool.not_eq_false',beq_iff_eq,decide_eq_true_eq,isEmpty_eq,ite_and_,ite_or_,ne_eq,toList_mk,List.toList_toArray])
 repeat' first
 | (with_reducible refine LeO.trans ((All.exact_step.mono_l k).1 _ _ _ _ _ _) ?_;rw [All.exact_step.j0];(try simp only [if_true,if_false,decide_eq_true_eq,Bool.false_eq_true,decide_not,ite_not,bne,decide_int_eq,beq_iff_eq,Bool.not_eq_true',bfalse,toList_mk,List.toList_toArray,ite_and_,ite_or_,Bool.and_eq_true,Bool.or_eq_true,isEmpty_eq,wrap_mod,wrap_u8,All.integer_zero.f,bind_some_,Int.toNat_natCast,Int.reduceToNat,Int.zero_sub,BAe]))
 | (with_reducible refine LeO.trans ((All.exact_step.mono_l k).2.1 _ _ _ _) ?_;rw [All.exact_step.j2];(try simp only [if_true,if_false,decide_eq_true_eq,Bool.false_eq_true,decide_not,ite_not,bne,decide_int_eq,beq_iff_eq,Bool.not_eq_true',bfalse,toList_mk,List.toList_toArray,ite_and_,ite_or_,Bool.and_eq_true,Bool.or_eq_true,isEmpty_eq,wrap_mod,wrap_u8,All.integer_zero.f,bind_some_,Int.toNat_natCast,Int.reduceToNat,Int.zero_sub,BAe]))
 | (with_reducible exact LeO.none _)
 | (with_reducible exact LeO.refl _)
 | (with_reducible refine LeO.posR (by with_reducible assumption) ?_)
 | (with_reducible refine LeO.negR (by with_reducible assumption) ?_)
 | (with_reducible refine LeO.bindR (by with_reducible assumption) ?_)
 | (with_reducible refine LeO.posL (by with_reducible assumption) ?_)
 | (with_reducible refine LeO.negL (by with_reducible assumption) ?_)
 | (with_reducible refine LeO.iteL (fun _=>?_) (fun _=>?_))
 | (with_reducible refine LeO.bindK (by with_reducible assumption) ?_)
 | (with_reducible refine LeO.bindL (fun _ _=>?_))
 | (refine LeO.posR (by first|decide|exact Int.le_refl _|omega|assumption) ?_)
 | (refine LeO.negR (by first|decide|omega) ?_)
theorem b157l1 (k:Nat) (x1:(List Int)) (x5:Int) (x6:Int) (x11:Int) (x12:Int) (x104:Int) (x105:Int) (y0:(List Int)):LeO (All.exact_step.l1 (k+1) y0 x1 x5 x6 x11 x12 x104 x105) (B157l1 (GX157l1 k) (GX157l2 k) (FX159 k) (FX160 k) (FX161 k) x1 x5 x6 x11 x12 x104 x105 y0):=by
 rw [All.exact_step.l1]
 unfold B157l1
 (try simp only [GX157l0,GX157l1,GX157l2,FX154,FX159,FX160,FX161,All.integer_zero.f,All.exact_stepAt.f,All.S24.f0,All.S24.f1,All.rd_T24,All.z24])
 (try simp only [List.take_append_drop,List.drop_length,List.append_nil,Int.zero_sub,Int.toNat_natCast,Int.reduceToNat,Int.zero_add,List.take_zero,List.nil_append,List.append_assoc,List.length_set,ite_bind_,List.take_left,BAe,bne,decide_int_eq,decide_not,wrap_mod,if_true,if_false,Bool.false_eq_true,bind_assoc_,slice_def,List.drop_zero,List.take_length,wrap_u8,bind_some_,cnd_eq_if,rdOf,ite_not,Bool.and_eq_true,Bool.or_eq_true,Bool.not_eq_true',bfalse,Bool.not_eq_false',beq_iff_eq,decide_eq_true_eq,isEmpty_eq,ite_and_,ite_or_,ne_eq,toList_mk,List.toList_toArray])
 repeat' first
 | (with_reducible refine LeO.trans ((All.exact_step.mono_l k).1 _ _ _ _ _ _) ?_;rw [All.exact_step.j0];(try simp only [if_true,if_false,decide_eq_true_eq,Bool.false_eq_true,decide_not,ite_not,bne,decide_int_eq,beq_iff_eq,Bool.not_eq_true',bfalse,toList_mk,List.toList_toArray,ite_and_,ite_or_,Bool.and_eq_true,Bool.or_eq_true,isEmpty_eq,wrap_mod,wrap_u8,All.integer_zero.f,bind_some_,Int.toNat_natCast,Int.reduceToNat,Int.zero_sub,BAe]))
 | (with_reducible refine LeO.trans ((All.exact_step.mono_l k).2.1 _ _ _ _) ?_;rw [All.exact_step.j2];(try simp only [if_true,if_false,decide_eq_true_eq,Bool.false_eq_true,decide_not,ite_not,bne,decide_int_eq,beq_iff_eq,Bool.not_eq_true',bfalse,toList_mk,List.toList_toArray,ite_and_,ite_or_,Bool.and_eq_true,Bool.or_eq_true,isEmpty_eq,wrap_mod,wrap_u8,All.integer_zero.f,bind_some_,Int.toNat_natCast,Int.reduceToNat,Int.zero_sub,BAe]))
 | (with_reducible exact LeO.none _)
 | (with_reducible exact LeO.refl _)
 | (with_reducible refine LeO.posR (by with_reducible assumption) ?_)
 | (with_reducible refine LeO.negR (by with_reducible assumption) ?_)
 | (with_reducible refine LeO.bindR (by with_reducible assumption) ?_)
 | (with_reducible refine LeO.posL (by with_reducible assumption) ?_)
 | (with_reducible refine LeO.negL (by with_reducible assumption) ?_)
 | (with_reducible refine LeO.iteL (fun _=>?_) (fun _=>?_))
 | (with_reducible refine LeO.bindK (by with_reducible assumption) ?_)
 | (with_reducible refine LeO.bindL (fun _ _=>?_))
 | (refine LeO.posR (by first|decide|exact Int.le_refl _|omega|assumption) ?_)
 | (refine LeO.negR (by first|decide|omega) ?_)
theorem b157l2 (k:Nat) (x1:(List Int)) (x5:Int) (x6:Int) (x17:Int) (x156:Int) (x157:Int) (y0:(List Int)):LeO (All.exact_step.l2 (k+1) y0 x1 x5 x6 x17 x156 x157) (B157l2 (GX157l2 k) (FX159 k) x1 x5 x6 x17 x156 x157 y0):=by
 rw [All.exact_step.l2]
 unfold B157l2
 (try simp only [GX157l0,GX157l1,GX157l2,FX154,FX159,FX160,FX161,All.integer_zero.f,All.exact_stepAt.f,All.S24.f0,All.S24.f1,All.rd_T24,All.z24])
 (try simp only [List.take_append_drop,List.drop_length,List.append_nil,Int.zero_sub,Int.toNat_natCast,Int.reduceToNat,Int.zero_add,List.take_zero,List.nil_append,List.append_assoc,List.length_set,ite_bind_,List.take_left,BAe,bne,decide_int_eq,decide_not,wrap_mod,if_true,if_false,Bool.false_eq_true,bind_assoc_,slice_def,List.drop_zero,List.take_length,wrap_u8,bind_some_,cnd_eq_if,rdOf,ite_not,Bool.and_eq_true,Bool.or_eq_true,Bool.not_eq_true',bfalse,Bool.not_eq_false',beq_iff_eq,decide_eq_true_eq,isEmpty_eq,ite_and_,ite_or_,ne_eq,toList_mk,List.toList_toArray])
 repeat' first
 | (with_reducible refine LeO.trans ((All.exact_step.mono_l k).1 _ _ _ _ _ _) ?_;rw [All.exact_step.j0];(try simp only [if_true,if_false,decide_eq_true_eq,Bool.false_eq_true,decide_not,ite_not,bne,decide_int_eq,beq_iff_eq,Bool.not_eq_true',bfalse,toList_mk,List.toList_toArray,ite_and_,ite_or_,Bool.and_eq_true,Bool.or_eq_true,isEmpty_eq,wrap_mod,wrap_u8,All.integer_zero.f,bind_some_,Int.toNat_natCast,Int.reduceToNat,Int.zero_sub,BAe]))
 | (with_reducible refine LeO.trans ((All.exact_step.mono_l k).2.1 _ _ _ _) ?_;rw [All.exact_step.j2];(try simp only [if_true,if_false,decide_eq_true_eq,Bool.false_eq_true,decide_not,ite_not,bne,decide_int_eq,beq_iff_eq,Bool.not_eq_true',bfalse,toList_mk,List.toList_toArray,ite_and_,ite_or_,Bool.and_eq_true,Bool.or_eq_true,isEmpty_eq,wrap_mod,wrap_u8,All.integer_zero.f,bind_some_,Int.toNat_natCast,Int.reduceToNat,Int.zero_sub,BAe]))
 | (with_reducible exact LeO.none _)
 | (with_reducible exact LeO.refl _)
 | (with_reducible refine LeO.posR (by with_reducible assumption) ?_)
 | (with_reducible refine LeO.negR (by with_reducible assumption) ?_)
 | (with_reducible refine LeO.bindR (by with_reducible assumption) ?_)
 | (with_reducible refine LeO.posL (by with_reducible assumption) ?_)
 | (with_reducible refine LeO.negL (by with_reducible assumption) ?_)
 | (with_reducible refine LeO.iteL (fun _=>?_) (fun _=>?_))
 | (with_reducible refine LeO.bindK (by with_reducible assumption) ?_)
 | (with_reducible refine LeO.bindL (fun _ _=>?_))
 | (refine LeO.posR (by first|decide|exact Int.le_refl _|omega|assumption) ?_)
 | (refine LeO.negR (by first|decide|omega) ?_)
theorem b157 (k:Nat) (x1:(List Int)) (y0:(List Int)):LeO (FX157 k x1 y0) (B157 (GX157l0 k) (FX154 k) (FX159 k) x1 y0):=by
 show LeO (All.exact_step.f k y0 x1) _
 unfold All.exact_step.f
 unfold B157
 (try simp only [GX157l0,GX157l1,GX157l2,FX154,FX159,FX160,FX161,All.integer_zero.f,All.exact_stepAt.f,All.S24.f0,All.S24.f1,All.rd_T24,All.z24])
 (try simp only [List.take_append_drop,List.drop_length,List.append_nil,Int.zero_sub,Int.toNat_natCast,Int.reduceToNat,Int.zero_add,List.take_zero,List.nil_append,List.append_assoc,List.length_set,ite_bind_,List.take_left,BAe,bne,decide_int_eq,decide_not,wrap_mod,if_true,if_false,Bool.false_eq_true,bind_assoc_,slice_def,List.drop_zero,List.take_length,wrap_u8,bind_some_,cnd_eq_if,rdOf,ite_not,Bool.and_eq_true,Bool.or_eq_true,Bool.not_eq_true',bfalse,Bool.not_eq_false',beq_iff_eq,decide_eq_true_eq,isEmpty_eq,ite_and_,ite_or_,ne_eq,toList_mk,List.toList_toArray])
 repeat' first
 | (with_reducible refine LeO.trans ((All.exact_step.mono_l k).1 _ _ _ _ _ _) ?_;rw [All.exact_step.j0];(try simp only [if_true,if_false,decide_eq_true_eq,Bool.false_eq_true,decide_not,ite_not,bne,decide_int_eq,beq_iff_eq,Bool.not_eq_true',bfalse,toList_mk,List.toList_toArray,ite_and_,ite_or_,Bool.and_eq_true,Bool.or_eq_true,isEmpty_eq,wrap_mod,wrap_u8,All.integer_zero.f,bind_some_,Int.toNat_natCast,Int.reduceToNat,Int.zero_sub,BAe]))
 | (with_reducible refine LeO.trans ((All.exact_step.mono_l k).2.1 _ _ _ _) ?_;rw [All.exact_step.j2];(try simp only [if_true,if_false,decide_eq_true_eq,Bool.false_eq_true,decide_not,ite_not,bne,decide_int_eq,beq_iff_eq,Bool.not_eq_true',bfalse,toList_mk,List.toList_toArray,ite_and_,ite_or_,Bool.and_eq_true,Bool.or_eq_true,isEmpty_eq,wrap_mod,wrap_u8,All.integer_zero.f,bind_some_,Int.toNat_natCast,Int.reduceToNat,Int.zero_sub,BAe]))
 | (with_reducible exact LeO.none _)
 | (with_reducible exact LeO.refl _)
 | (with_reducible refine LeO.posR (by with_reducible assumption) ?_)
 | (with_reducible refine LeO.negR (by with_reducible assumption) ?_)
 | (with_reducible refine LeO.bindR (by with_reducible assumption) ?_)
 | (with_reducible refine LeO.posL (by with_reducible assumption) ?_)
 | (with_reducible refine LeO.negL (by with_reducible assumption) ?_)
 | (with_reducible refine LeO.iteL (fun _=>?_) (fun _=>?_))
 | (with_reducible refine LeO.bindK (by with_reducible assumption) ?_)
 | (with_reducible refine LeO.bindL (fun _ _=>?_))
 | (refine LeO.posR (by first|decide|exact Int.le_refl _|omega|assumption) ?_)
 | (refine LeO.negR (by first|decide|omega) ?_)
theorem ok157 (k:Nat):FeOk Tryz.prog (fe157 (FX157 k)):=
 fe_ok EOK HM (es:=fun k=>fes157 (FX154 k) (FX159 k) (FX160 k) (FX161 k)) (fun k=>fc ⟨ok154 k,fc ⟨ok159 k,fc ⟨ok160 k,fc ⟨ok161 k,fz⟩⟩⟩⟩) (N:=186) (an:=an157) (c:=cd157) (rms:=rm157) (ask:=ask157) (rsk:=rsk157) (enc:=enc157) (dec:=dec157) (tbl:=[p157.getD 0 ⟨0,[], .skip⟩,p157.getD 1 ⟨0,[], .skip⟩,p157.getD 2 ⟨0,[], .skip⟩]) (fun s=>rfl) Tryz.func157 (by kernel_rfl) (by kernel_rfl) (by kernel_rfl) (fun k=>les157 (GX157l0 k) (GX157l1 k) (GX157l2 k))
  (fc ⟨fun s=>rfl,fc ⟨fun s=>rfl,fc ⟨fun s=>rfl,fz⟩⟩⟩) (fun k s0=> .cons (by kernel_rfl) (by kernel_rfl) (fun s r h=>(e157l0 (GX157l0 k) (GX157l1 k) (GX157l2 k) (FX154 k) (FX159 k) (FX160 k) (FX161 k) s0 s).trans (b157l0 k s.1.1 s.1.2.1 s.1.2.2.1 s.1.2.2.2.1 s.1.2.2.2.2.1 s.2.1 r h)) (.cons (by kernel_rfl) (by kernel_rfl) (fun s r h=>(e157l1 (GX157l0 k) (GX157l1 k) (GX157l2 k) (FX154 k) (FX159 k) (FX160 k) (FX161 k) s0 s).trans (b157l1 k s.1.1 s.1.2.1 s.1.2.2.1 s.1.2.2.2.1 s.1.2.2.2.2.1 s.1.2.2.2.2.2.1 s.1.2.2.2.2.2.2.1 s.2.1 r h)) (.cons (by kernel_rfl) (by kernel_rfl) (fun s r h=>(e157l2 (GX157l0 k) (GX157l1 k) (GX157l2 k) (FX154 k) (FX159 k) (FX160 k) (FX161 k) s0 s).trans (b157l2 k s.1.1 s.1.2.1 s.1.2.2.1 s.1.2.2.2.1 s.1.2.2.2.2.1 s.1.2.2.2.2.2.1 s.2.1 r h)) (.nil))))
  (F:=fun k s=>FX157 k s.1.1 s.2.1) (fun k s r h=>(e157 (GX157l0 k) (GX157l1 k) (GX157l2 k) (FX154 k) (FX159 k) (FX160 k) (FX161 k) s).trans (b157 k s.1.1 s.2.1 r h)) k
noncomputable abbrev GX130l0 (k:Nat) (x0:(List Int)) (x1:(List Int)) (x7:Int) (x8:Int) (x6:(List Int)):Option R130:=All.exact_divide.l0 k x0 x1 x6 x7 x8
noncomputable abbrev GX130l1 (k:Nat) (x9:Int) (x10:(List Int)) (x12:Int) (x14:Int) (x11:(List Int)) (x13:(List Int)):Option R130:=All.exact_divide.l1 k x9 x10 x11 x12 x13 x14
noncomputable abbrev GX130l2 (k:Nat) (x9:Int) (x12:Int) (x96:Int) (x97:Int) (x11:(List Int)) (x13:(List Int)):Option R130:=All.exact_divide.l2 k x9 x11 x12 x13 x96 x97
theorem b130l0 (k:Nat) (x0:(List Int)) (x1:(List Int)) (x7:Int) (x8:Int) (x6:(List Int)):LeO (All.exact_divide.l0 (k+1) x0 x1 x6 x7 x8) (B130l0 (GX130l0 k) (FX152 k) (FX154 k) x0 x1 x7 x8 x6):=by rw [All.exact_divide.l0];unfold B130l0;(try simp only [GX130l0,GX130l1,GX130l2,FX152,FX153,FX154,FX155,FX156,FX157,All.integer_zero.f,All.exact_stepAt.f,All.S24.f0,All.S24.f1,All.rd_T24,All.z24]);exact BR
theorem b130l1 (k:Nat) (x9:Int) (x10:(List Int)) (x12:Int) (x14:Int) (x11:(List Int)) (x13:(List Int)):LeO (All.exact_divide.l1 (k+1) x9 x10 x11 x12 x13 x14) (B130l1 (GX130l1 k) (GX130l2 k) (FX157 k) x9 x10 x12 x14 x11 x13):=by rw [All.exact_divide.l1];unfold B130l1;(try simp only [GX130l0,GX130l1,GX130l2,FX152,FX153,FX154,FX155,FX156,FX157,All.integer_zero.f,All.exact_stepAt.f,All.S24.f0,All.S24.f1,All.rd_T24,All.z24]);exact BR
theorem b130l2 (k:Nat) (x9:Int) (x12:Int) (x96:Int) (x97:Int) (x11:(List Int)) (x13:(List Int)):LeO (All.exact_divide.l2 (k+1) x9 x11 x12 x13 x96 x97) (B130l2 (GX130l2 k) (FX152 k) x9 x12 x96 x97 x11 x13):=by rw [All.exact_divide.l2];unfold B130l2;(try simp only [GX130l0,GX130l1,GX130l2,FX152,FX153,FX154,FX155,FX156,FX157,All.integer_zero.f,All.exact_stepAt.f,All.S24.f0,All.S24.f1,All.rd_T24,All.z24]);exact BR
theorem b130 (k:Nat) (x0:(List Int)) (x1:(List Int)):LeO (FX130 k x0 x1) (B130 (GX130l0 k) (GX130l1 k) (FX152 k) (FX153 k) (FX155 k) (FX156 k) x0 x1):=by
 show LeO (All.exact_divide.f k x0 x1) _
 unfold All.exact_divide.f;unfold B130;(try simp only [GX130l0,GX130l1,GX130l2,FX152,FX153,FX154,FX155,FX156,FX157,All.integer_zero.f,All.exact_stepAt.f,All.S24.f0,All.S24.f1,All.rd_T24,All.z24]);exact BR
theorem ok130 (k:Nat):FeOk Tryz.prog (fe130 (FX130 k)):=
 fe_ok EOK HM (es:=fun k=>fes130 (FX152 k) (FX153 k) (FX154 k) (FX155 k) (FX156 k) (FX157 k)) (fun k=>fc ⟨ok152 k,fc ⟨ok153 k,fc ⟨ok154 k,fc ⟨ok155 k,fc ⟨ok156 k,fc ⟨ok157 k,fz⟩⟩⟩⟩⟩⟩) (N:=137) (an:=an130) (c:=cd130) (rms:=rm130) (ask:=ask130) (rsk:=rsk130) (enc:=enc130) (dec:=dec130) (tbl:=[p130.getD 0 ⟨0,[], .skip⟩,p130.getD 1 ⟨0,[], .skip⟩,p130.getD 2 ⟨0,[], .skip⟩]) (fun s=>rfl) Tryz.func130 (by kernel_rfl) (by kernel_rfl) (by kernel_rfl) (fun k=>les130 (GX130l0 k) (GX130l1 k) (GX130l2 k))
  (fc ⟨fun s=>rfl,fc ⟨fun s=>rfl,fc ⟨fun s=>rfl,fz⟩⟩⟩) (fun k s0=> .cons (by kernel_rfl) (by kernel_rfl) (fun s r h=>(e130l0 (GX130l0 k) (GX130l1 k) (GX130l2 k) (FX152 k) (FX153 k) (FX154 k) (FX155 k) (FX156 k) (FX157 k) s0 s).trans (b130l0 k s.1.1 s.1.2.1 s.1.2.2.1 s.1.2.2.2.1 s.2.1 r h)) (.cons (by kernel_rfl) (by kernel_rfl) (fun s r h=>(e130l1 (GX130l0 k) (GX130l1 k) (GX130l2 k) (FX152 k) (FX153 k) (FX154 k) (FX155 k) (FX156 k) (FX157 k) s0 s).trans (b130l1 k s.1.1 s.1.2.1 s.1.2.2.1 s.1.2.2.2.1 s.2.1 s.2.2.1 r h)) (.cons (by kernel_rfl) (by kernel_rfl) (fun s r h=>(e130l2 (GX130l0 k) (GX130l1 k) (GX130l2 k) (FX152 k) (FX153 k) (FX154 k) (FX155 k) (FX156 k) (FX157 k) s0 s).trans (b130l2 k s.1.1 s.1.2.1 s.1.2.2.1 s.1.2.2.2.1 s.2.1 s.2.2.1 r h)) (.nil))))
  (F:=fun k s=>FX130 k s.1.1 s.1.2.1) (fun k s r h=>(e130 (GX130l0 k) (GX130l1 k) (GX130l2 k) (FX152 k) (FX153 k) (FX154 k) (FX155 k) (FX156 k) (FX157 k) s).trans (b130 k s.1.1 s.1.2.1 r h)) k
noncomputable abbrev GX152vl0 (k:Nat) (x0:(List Int)) (x3:Int):Option R152v:=All.exact_trim.l0 k x0 x3
theorem b152vl0 (k:Nat) (x0:(List Int)) (x3:Int):LeO (All.exact_trim.l0 (k+1) x0 x3) (B152vl0 (GX152vl0 k) x0 x3):=by rw [All.exact_trim.l0];unfold B152vl0;(try simp only [GX152vl0,All.integer_zero.f,All.exact_stepAt.f,All.S24.f0,All.S24.f1,All.rd_T24,All.z24]);exact BR
theorem b152v (k:Nat) (x0:(List Int)):LeO (FX152v k x0) (B152v (GX152vl0 k) x0):=by
 show LeO (All.exact_trim.f k x0) _
 unfold All.exact_trim.f;unfold B152v;(try simp only [GX152vl0,All.integer_zero.f,All.exact_stepAt.f,All.S24.f0,All.S24.f1,All.rd_T24,All.z24]);exact BR
theorem ok152v (k:Nat):FeOk Tryz.prog (fe152v (FX152v k)):=
 fe_ok EOK HM (es:=fun k=>fes152v) (fun k=>fz) (N:=21) (an:=an152v) (c:=cd152v) (rms:=rm152v) (ask:=ask152v) (rsk:=rsk152v) (enc:=enc152v) (dec:=dec152v) (tbl:=[p152v.getD 0 ⟨0,[], .skip⟩]) (fun s=>rfl) Tryz.func152 (by kernel_rfl) (by kernel_rfl) (by kernel_rfl) (fun k=>les152v (GX152vl0 k))
  (fc ⟨fun s=>rfl,fz⟩) (fun k s0=> .cons (by kernel_rfl) (by kernel_rfl) (fun s r h=>(e152vl0 (GX152vl0 k) s0 s).trans (b152vl0 k s.1.1 s.1.2.1 r h)) (.nil))
  (F:=fun k s=>FX152v k s.1.1) (fun k s r h=>(e152v (GX152vl0 k) s).trans (b152v k s.1.1 r h)) k
noncomputable abbrev GX131l0 (k:Nat) (x17:(List Int)) (x18:Int) (x19:Int) (x3:(List Int)):Option R131:=All.exact_pack.l0 k x3 x17 x18 x19
noncomputable abbrev GX131l1 (k:Nat) (x4:Int) (x5:Int) (x17:(List Int)) (x18:Int) (x19:Int) (x24:Int) (x3:(List Int)):Option R131:=All.exact_pack.l1 k x3 x4 x5 x17 x18 x19 x24
noncomputable abbrev GX131l2 (k:Nat) (x7:Int) (x3:(List Int)):Option R131:=All.exact_pack.l2 k x3 x7
theorem b131l0 (k:Nat) (x17:(List Int)) (x18:Int) (x19:Int) (x3:(List Int)):LeO (All.exact_pack.l0 (k+1) x3 x17 x18 x19) (B131l0 (GX131l1 k) (GX131l2 k) x17 x18 x19 x3):=by rw [All.exact_pack.l0];unfold B131l0;(try simp only [GX131l0,GX131l1,GX131l2,FX152v,All.integer_zero.f,All.exact_stepAt.f,All.S24.f0,All.S24.f1,All.rd_T24,All.z24]);exact BR
theorem b131l1 (k:Nat) (x4:Int) (x5:Int) (x17:(List Int)) (x18:Int) (x19:Int) (x24:Int) (x3:(List Int)):LeO (All.exact_pack.l1 (k+1) x3 x4 x5 x17 x18 x19 x24) (B131l1 (GX131l0 k) (GX131l1 k) x4 x5 x17 x18 x19 x24 x3):=by rw [All.exact_pack.l1];unfold B131l1;(try simp only [GX131l0,GX131l1,GX131l2,FX152v,All.integer_zero.f,All.exact_stepAt.f,All.S24.f0,All.S24.f1,All.rd_T24,All.z24]);exact BR
theorem b131l2 (k:Nat) (x7:Int) (x3:(List Int)):LeO (All.exact_pack.l2 (k+1) x3 x7) (B131l2 (GX131l2 k) x7 x3):=by rw [All.exact_pack.l2];unfold B131l2;(try simp only [GX131l0,GX131l1,GX131l2,FX152v,All.integer_zero.f,All.exact_stepAt.f,All.S24.f0,All.S24.f1,All.rd_T24,All.z24]);exact BR
theorem b131 (k:Nat) (x0:(List Int)):LeO (FX131 k x0) (B131 (GX131l0 k) (FX152v k) x0):=by
 show LeO (All.exact_pack.f k x0) _
 unfold All.exact_pack.f;unfold B131;(try simp only [GX131l0,GX131l1,GX131l2,FX152v,All.integer_zero.f,All.exact_stepAt.f,All.S24.f0,All.S24.f1,All.rd_T24,All.z24]);exact BR
theorem ok131 (k:Nat):FeOk Tryz.prog (fe131 (FX131 k)):=
 fe_ok EOK HM (es:=fun k=>fes131 (FX152v k)) (fun k=>fc ⟨ok152v k,fz⟩) (N:=55) (an:=an131) (c:=cd131) (rms:=rm131) (ask:=ask131) (rsk:=rsk131) (enc:=enc131) (dec:=dec131) (tbl:=[p131.getD 0 ⟨0,[], .skip⟩,p131.getD 1 ⟨0,[], .skip⟩,p131.getD 2 ⟨0,[], .skip⟩]) (fun s=>rfl) Tryz.func131 (by kernel_rfl) (by kernel_rfl) (by kernel_rfl) (fun k=>les131 (GX131l0 k) (GX131l1 k) (GX131l2 k))
  (fc ⟨fun s=>rfl,fc ⟨fun s=>rfl,fc ⟨fun s=>rfl,fz⟩⟩⟩) (fun k s0=> .cons (by kernel_rfl) (by kernel_rfl) (fun s r h=>(e131l0 (GX131l0 k) (GX131l1 k) (GX131l2 k) (FX152v k) s0 s).trans (b131l0 k s.1.1 s.1.2.1 s.1.2.2.1 s.2.1 r h)) (.cons (by kernel_rfl) (by kernel_rfl) (fun s r h=>(e131l1 (GX131l0 k) (GX131l1 k) (GX131l2 k) (FX152v k) s0 s).trans (b131l1 k s.1.1 s.1.2.1 s.1.2.2.1 s.1.2.2.2.1 s.1.2.2.2.2.1 s.1.2.2.2.2.2.1 s.2.1 r h)) (.cons (by kernel_rfl) (by kernel_rfl) (fun s r h=>(e131l2 (GX131l0 k) (GX131l1 k) (GX131l2 k) (FX152v k) s0 s).trans (b131l2 k s.1.1 s.2.1 r h)) (.nil))))
  (F:=fun k s=>FX131 k s.1.1) (fun k s r h=>(e131 (GX131l0 k) (GX131l1 k) (GX131l2 k) (FX152v k) s).trans (b131 k s.1.1 r h)) k
noncomputable abbrev GX85l0 (k:Nat) (x5:(List Int)) (x6:(List Int)):Option R85:=All.exact_NatGcd.l0 k x5 x6
theorem b85l0 (k:Nat) (x5:(List Int)) (x6:(List Int)):LeO (All.exact_NatGcd.l0 (k+1) x5 x6) (B85l0 (GX85l0 k) (FX130 k) (FX131 k) x5 x6):=by rw [All.exact_NatGcd.l0];unfold B85l0;(try simp only [GX85l0,FX129,FX130,FX131,All.integer_zero.f,All.exact_stepAt.f,All.S24.f0,All.S24.f1,All.rd_T24,All.z24]);exact BR
theorem b85 (k:Nat) (x0:ByteArray) (x1:ByteArray):LeO (FX85 k x0 x1) (B85 (GX85l0 k) (FX129 k) x0 x1):=by
 show LeO (All.exact_NatGcd.f k x0 x1) _
 unfold All.exact_NatGcd.f;unfold B85;(try simp only [GX85l0,FX129,FX130,FX131,All.integer_zero.f,All.exact_stepAt.f,All.S24.f0,All.S24.f1,All.rd_T24,All.z24]);exact BR
theorem ok85 (k:Nat):FeOk Tryz.prog (fe85 (FX85 k)):=
 fe_ok EOK HM (es:=fun k=>fes85 (FX129 k) (FX130 k) (FX131 k)) (fun k=>fc ⟨ok129 k,fc ⟨ok130 k,fc ⟨ok131 k,fz⟩⟩⟩) (N:=26) (an:=an85) (c:=cd85) (rms:=rm85) (ask:=ask85) (rsk:=rsk85) (enc:=enc85) (dec:=dec85) (tbl:=[p85.getD 0 ⟨0,[], .skip⟩]) (fun s=>rfl) Tryz.func85 (by kernel_rfl) (by kernel_rfl) (by kernel_rfl) (fun k=>les85 (GX85l0 k))
  (fc ⟨fun s=>rfl,fz⟩) (fun k s0=> .cons (by kernel_rfl) (by kernel_rfl) (fun s r h=>(e85l0 (GX85l0 k) (FX129 k) (FX130 k) (FX131 k) s0 s).trans (b85l0 k s.1.1 s.1.2.1 r h)) (.nil))
  (F:=fun k s=>FX85 k s.1.1 s.1.2.1) (fun k s r h=>(e85 (GX85l0 k) (FX129 k) (FX130 k) (FX131 k) s).trans (b85 k s.1.1 s.1.2.1 r h)) k
theorem b34 (k:Nat) (x0:TQ):LeO (FX34 k x0) (B34 (FX83 k) (FX84 k) (FX85 k) x0):=LeO.refl _
theorem ok34 (k:Nat):FeOk Tryz.prog (fe34 (FX34 k)):=
 fe_ok EOK HM (es:=fun k=>fes34 (FX83 k) (FX84 k) (FX85 k)) (fun k=>fc ⟨ok83 k,fc ⟨ok84 k,fc ⟨ok85 k,fz⟩⟩⟩) (N:=44) (an:=an34) (c:=cd34) (rms:=rm34) (ask:=ask34) (rsk:=rsk34) (enc:=enc34) (dec:=dec34) (tbl:=[]) (fun s=>rfl) Tryz.func34 (by kernel_rfl) (by kernel_rfl) (by kernel_rfl) (fun k=>les34)
  (fz) (fun k s0=> .nil)
  (F:=fun k s=>FX34 k s.1.1) (fun k s r h=>(e34 (FX83 k) (FX84 k) (FX85 k) s).trans (b34 k s.1.1 r h)) k
theorem b50 (k:Nat) (x0:TI):LeO (FX50 k x0) (B50 x0):=LeO.refl _
theorem ok50 (k:Nat):FeOk Tryz.prog (fe50 (FX50 k)):=
 fe_ok EOK HM (es:=fun k=>fes50) (fun k=>fz) (N:=10) (an:=an50) (c:=cd50) (rms:=rm50) (ask:=ask50) (rsk:=rsk50) (enc:=enc50) (dec:=dec50) (tbl:=[]) (fun s=>rfl) Tryz.func50 (by kernel_rfl) (by kernel_rfl) (by kernel_rfl) (fun k=>les50)
  (fz) (fun k s0=> .nil)
  (F:=fun k s=>FX50 k s.1.1) (fun k s r h=>(e50 s).trans (b50 k s.1.1 r h)) k
theorem b108 (k:Nat) (x0:Bool) (x1:ByteArray):LeO (FX108 k x0 x1) (B108 x0 x1):=by
 show LeO (All.exact_IntMake.f x0 x1) _
 unfold All.exact_IntMake.f;unfold B108;(try simp only [All.integer_zero.f,All.exact_stepAt.f,All.S24.f0,All.S24.f1,All.rd_T24,All.z24]);exact BR
theorem ok108 (k:Nat):FeOk Tryz.prog (fe108 (FX108 k)):=
 fe_ok EOK HM (es:=fun k=>fes108) (fun k=>fz) (N:=12) (an:=an108) (c:=cd108) (rms:=rm108) (ask:=ask108) (rsk:=rsk108) (enc:=enc108) (dec:=dec108) (tbl:=[]) (fun s=>rfl) Tryz.func108 (by kernel_rfl) (by kernel_rfl) (by kernel_rfl) (fun k=>les108)
  (fz) (fun k s0=> .nil)
  (F:=fun k s=>FX108 k s.1.1 s.1.2.1) (fun k s r h=>(e108 s).trans (b108 k s.1.1 s.1.2.1 r h)) k
theorem b134 (k:Nat) (x0:ByteArray) (x1:ByteArray):LeO (FX134 k x0 x1) (B134 (FX129 k) (FX130 k) (FX131 k) x0 x1):=by
 show LeO (All.exact_NatDivMod.f k x0 x1) _
 unfold All.exact_NatDivMod.f;unfold B134;(try simp only [FX129,FX130,FX131,All.integer_zero.f,All.exact_stepAt.f,All.S24.f0,All.S24.f1,All.rd_T24,All.z24]);exact BR
theorem ok134 (k:Nat):FeOk Tryz.prog (fe134 (FX134 k)):=
 fe_ok EOK HM (es:=fun k=>fes134 (FX129 k) (FX130 k) (FX131 k)) (fun k=>fc ⟨ok129 k,fc ⟨ok130 k,fc ⟨ok131 k,fz⟩⟩⟩) (N:=20) (an:=an134) (c:=cd134) (rms:=rm134) (ask:=ask134) (rsk:=rsk134) (enc:=enc134) (dec:=dec134) (tbl:=[]) (fun s=>rfl) Tryz.func134 (by kernel_rfl) (by kernel_rfl) (by kernel_rfl) (fun k=>les134)
  (fz) (fun k s0=> .nil)
  (F:=fun k s=>FX134 k s.1.1 s.1.2.1) (fun k s r h=>(e134 (FX129 k) (FX130 k) (FX131 k) s).trans (b134 k s.1.1 s.1.2.1 r h)) k
noncomputable abbrev GX138l0 (k:Nat) (x8:Int) (x27:Int) (x28:Int) (x5:(List Int)) (x6:(List Int)) (x7:(List Int)):Option R138:=All.exact_NatAdd.l0 k x5 x6 x7 x8 x27 x28
theorem b138l0 (k:Nat) (x8:Int) (x27:Int) (x28:Int) (x5:(List Int)) (x6:(List Int)) (x7:(List Int)):LeO (All.exact_NatAdd.l0 (k+1) x5 x6 x7 x8 x27 x28) (B138l0 (GX138l0 k) (FX131 k) (FX159 k) x8 x27 x28 x5 x6 x7):=by
 rw [All.exact_NatAdd.l0]
 unfold B138l0
 (try simp only [GX138l0,FX129,FX131,FX159,All.integer_zero.f,All.exact_stepAt.f,All.S24.f0,All.S24.f1,All.rd_T24,All.z24])
 (try simp only [List.take_append_drop,List.drop_length,List.append_nil,Int.zero_sub,Int.toNat_natCast,Int.reduceToNat,Int.zero_add,List.take_zero,List.nil_append,List.append_assoc,List.length_set,ite_bind_,List.take_left,BAe,bne,decide_int_eq,decide_not,wrap_mod,if_true,if_false,Bool.false_eq_true,bind_assoc_,slice_def,List.drop_zero,List.take_length,wrap_u8,bind_some_,cnd_eq_if,rdOf,ite_not,Bool.and_eq_true,Bool.or_eq_true,Bool.not_eq_true',bfalse,Bool.not_eq_false',beq_iff_eq,decide_eq_true_eq,isEmpty_eq,ite_and_,ite_or_,ne_eq,toList_mk,List.toList_toArray])
 repeat' first
 | (with_reducible refine LeO.trans ((All.exact_NatAdd.mono_l k).1 _ _) ?_;rw [All.exact_NatAdd.j0];(try simp only [if_true,if_false,decide_eq_true_eq,Bool.false_eq_true,decide_not,ite_not,bne,decide_int_eq,beq_iff_eq,Bool.not_eq_true',bfalse,toList_mk,List.toList_toArray,ite_and_,ite_or_,Bool.and_eq_true,Bool.or_eq_true,isEmpty_eq,wrap_mod,wrap_u8,All.integer_zero.f,bind_some_,Int.toNat_natCast,Int.reduceToNat,Int.zero_sub,BAe]))
 | (with_reducible exact LeO.none _)
 | (with_reducible exact LeO.refl _)
 | (with_reducible refine LeO.posR (by with_reducible assumption) ?_)
 | (with_reducible refine LeO.negR (by with_reducible assumption) ?_)
 | (with_reducible refine LeO.bindR (by with_reducible assumption) ?_)
 | (with_reducible refine LeO.posL (by with_reducible assumption) ?_)
 | (with_reducible refine LeO.negL (by with_reducible assumption) ?_)
 | (with_reducible refine LeO.iteL (fun _=>?_) (fun _=>?_))
 | (with_reducible refine LeO.bindK (by with_reducible assumption) ?_)
 | (with_reducible refine LeO.bindL (fun _ _=>?_))
 | (refine LeO.posR (by first|decide|exact Int.le_refl _|omega|assumption) ?_)
 | (refine LeO.negR (by first|decide|omega) ?_)
theorem b138 (k:Nat) (x0:ByteArray) (x1:ByteArray):LeO (FX138 k x0 x1) (B138 (GX138l0 k) (FX129 k) x0 x1):=by
 show LeO (All.exact_NatAdd.f k x0 x1) _
 unfold All.exact_NatAdd.f
 unfold B138
 (try simp only [GX138l0,FX129,FX131,FX159,All.integer_zero.f,All.exact_stepAt.f,All.S24.f0,All.S24.f1,All.rd_T24,All.z24])
 (try simp only [List.take_append_drop,List.drop_length,List.append_nil,Int.zero_sub,Int.toNat_natCast,Int.reduceToNat,Int.zero_add,List.take_zero,List.nil_append,List.append_assoc,List.length_set,ite_bind_,List.take_left,BAe,bne,decide_int_eq,decide_not,wrap_mod,if_true,if_false,Bool.false_eq_true,bind_assoc_,slice_def,List.drop_zero,List.take_length,wrap_u8,bind_some_,cnd_eq_if,rdOf,ite_not,Bool.and_eq_true,Bool.or_eq_true,Bool.not_eq_true',bfalse,Bool.not_eq_false',beq_iff_eq,decide_eq_true_eq,isEmpty_eq,ite_and_,ite_or_,ne_eq,toList_mk,List.toList_toArray])
 repeat' first
 | (with_reducible refine LeO.trans ((All.exact_NatAdd.mono_l k).1 _ _) ?_;rw [All.exact_NatAdd.j0];(try simp only [if_true,if_false,decide_eq_true_eq,Bool.false_eq_true,decide_not,ite_not,bne,decide_int_eq,beq_iff_eq,Bool.not_eq_true',bfalse,toList_mk,List.toList_toArray,ite_and_,ite_or_,Bool.and_eq_true,Bool.or_eq_true,isEmpty_eq,wrap_mod,wrap_u8,All.integer_zero.f,bind_some_,Int.toNat_natCast,Int.reduceToNat,Int.zero_sub,BAe]))
 | (with_reducible exact LeO.none _)
 | (with_reducible exact LeO.refl _)
 | (with_reducible refine LeO.posR (by with_reducible assumption) ?_)
 | (with_reducible refine LeO.negR (by with_reducible assumption) ?_)
 | (with_reducible refine LeO.bindR (by with_reducible assumption) ?_)
 | (with_reducible refine LeO.posL (by with_reducible assumption) ?_)
 | (with_reducible refine LeO.negL (by with_reducible assumption) ?_)
 | (with_reducible refine LeO.iteL (fun _=>?_) (fun _=>?_))
 | (with_reducible refine LeO.bindK (by with_reducible assumption) ?_)
 | (with_reducible refine LeO.bindL (fun _ _=>?_))
 | (refine LeO.posR (by first|decide|exact Int.le_refl _|omega|assumption) ?_)
 | (refine LeO.negR (by first|decide|omega) ?_)
theorem ok138 (k:Nat):FeOk Tryz.prog (fe138 (FX138 k)):=
 fe_ok EOK HM (es:=fun k=>fes138 (FX129 k) (FX131 k) (FX159 k)) (fun k=>fc ⟨ok129 k,fc ⟨ok131 k,fc ⟨ok159 k,fz⟩⟩⟩) (N:=60) (an:=an138) (c:=cd138) (rms:=rm138) (ask:=ask138) (rsk:=rsk138) (enc:=enc138) (dec:=dec138) (tbl:=[p138.getD 0 ⟨0,[], .skip⟩]) (fun s=>rfl) Tryz.func138 (by kernel_rfl) (by kernel_rfl) (by kernel_rfl) (fun k=>les138 (GX138l0 k))
  (fc ⟨fun s=>rfl,fz⟩) (fun k s0=> .cons (by kernel_rfl) (by kernel_rfl) (fun s r h=>(e138l0 (GX138l0 k) (FX129 k) (FX131 k) (FX159 k) s0 s).trans (b138l0 k s.1.1 s.1.2.1 s.1.2.2.1 s.2.1 s.2.2.1 s.2.2.2.1 r h)) (.nil))
  (F:=fun k s=>FX138 k s.1.1 s.1.2.1) (fun k s r h=>(e138 (GX138l0 k) (FX129 k) (FX131 k) (FX159 k) s).trans (b138 k s.1.1 s.1.2.1 r h)) k
theorem b143 (k:Nat) (x0:Int):LeO (FX143 k x0) (B143 (FX131 k) x0):=by
 show LeO (All.exact_NatOf.f k x0) _
 unfold All.exact_NatOf.f;unfold B143;(try simp only [FX131,All.integer_zero.f,All.exact_stepAt.f,All.S24.f0,All.S24.f1,All.rd_T24,All.z24]);exact BR
theorem ok143 (k:Nat):FeOk Tryz.prog (fe143 (FX143 k)):=
 fe_ok EOK HM (es:=fun k=>fes143 (FX131 k)) (fun k=>fc ⟨ok131 k,fz⟩) (N:=6) (an:=an143) (c:=cd143) (rms:=rm143) (ask:=ask143) (rsk:=rsk143) (enc:=enc143) (dec:=dec143) (tbl:=[]) (fun s=>rfl) Tryz.func143 (by kernel_rfl) (by kernel_rfl) (by kernel_rfl) (fun k=>les143)
  (fz) (fun k s0=> .nil)
  (F:=fun k s=>FX143 k s.1.1) (fun k s r h=>(e143 (FX131 k) s).trans (b143 k s.1.1 r h)) k
noncomputable abbrev GX144l0 (k:Nat) (x7:Int) (x15:Int) (x16:Int) (x5:(List Int)) (x6:(List Int)):Option R144:=All.exact_NatSub.l0 k x5 x6 x7 x15 x16
theorem b144l0 (k:Nat) (x7:Int) (x15:Int) (x16:Int) (x5:(List Int)) (x6:(List Int)):LeO (All.exact_NatSub.l0 (k+1) x5 x6 x7 x15 x16) (B144l0 (GX144l0 k) (FX131 k) (FX160 k) x7 x15 x16 x5 x6):=by rw [All.exact_NatSub.l0];unfold B144l0;(try simp only [GX144l0,FX129,FX131,FX160,All.integer_zero.f,All.exact_stepAt.f,All.S24.f0,All.S24.f1,All.rd_T24,All.z24]);exact BR
theorem b144 (k:Nat) (x0:ByteArray) (x1:ByteArray):LeO (FX144 k x0 x1) (B144 (GX144l0 k) (FX129 k) x0 x1):=by
 show LeO (All.exact_NatSub.f k x0 x1) _
 unfold All.exact_NatSub.f;unfold B144;(try simp only [GX144l0,FX129,FX131,FX160,All.integer_zero.f,All.exact_stepAt.f,All.S24.f0,All.S24.f1,All.rd_T24,All.z24]);exact BR
theorem ok144 (k:Nat):FeOk Tryz.prog (fe144 (FX144 k)):=
 fe_ok EOK HM (es:=fun k=>fes144 (FX129 k) (FX131 k) (FX160 k)) (fun k=>fc ⟨ok129 k,fc ⟨ok131 k,fc ⟨ok160 k,fz⟩⟩⟩) (N:=43) (an:=an144) (c:=cd144) (rms:=rm144) (ask:=ask144) (rsk:=rsk144) (enc:=enc144) (dec:=dec144) (tbl:=[p144.getD 0 ⟨0,[], .skip⟩]) (fun s=>rfl) Tryz.func144 (by kernel_rfl) (by kernel_rfl) (by kernel_rfl) (fun k=>les144 (GX144l0 k))
  (fc ⟨fun s=>rfl,fz⟩) (fun k s0=> .cons (by kernel_rfl) (by kernel_rfl) (fun s r h=>(e144l0 (GX144l0 k) (FX129 k) (FX131 k) (FX160 k) s0 s).trans (b144l0 k s.1.1 s.1.2.1 s.1.2.2.1 s.2.1 s.2.2.1 r h)) (.nil))
  (F:=fun k s=>FX144 k s.1.1 s.1.2.1) (fun k s r h=>(e144 (GX144l0 k) (FX129 k) (FX131 k) (FX160 k) s).trans (b144 k s.1.1 s.1.2.1 r h)) k
theorem b105 (k:Nat) (x0:TI) (x1:TI):LeO (FX105 k x0 x1) (B105 (FX108 k) (FX134 k) (FX138 k) (FX143 k) (FX144 k) x0 x1):=by
 show LeO (All.exact_IntDivMod.f k x0.1 x0.2 x1.1 x1.2) _
 unfold All.exact_IntDivMod.f
 unfold B105
 (try simp only [FX108,FX134,FX138,FX143,FX144,All.integer_zero.f,All.exact_stepAt.f,All.S24.f0,All.S24.f1,All.rd_T24,All.z24])
 (try simp only [List.take_append_drop,List.drop_length,List.append_nil,Int.zero_sub,Int.toNat_natCast,Int.reduceToNat,Int.zero_add,List.take_zero,List.nil_append,List.append_assoc,List.length_set,ite_bind_,List.take_left,BAe,bne,decide_int_eq,decide_not,wrap_mod,if_true,if_false,Bool.false_eq_true,bind_assoc_,slice_def,List.drop_zero,List.take_length,wrap_u8,bind_some_,cnd_eq_if,rdOf,ite_not,Bool.and_eq_true,Bool.or_eq_true,Bool.not_eq_true',bfalse,Bool.not_eq_false',beq_iff_eq,decide_eq_true_eq,isEmpty_eq,ite_and_,ite_or_,ne_eq,toList_mk,List.toList_toArray])
 repeat' first
 | (with_reducible refine LeO.trans ((All.exact_IntDivMod.mono_l k) _ _ _ _ _ _ _) ?_;rw [All.exact_IntDivMod.j0];(try simp only [if_true,if_false,decide_eq_true_eq,Bool.false_eq_true,decide_not,ite_not,bne,decide_int_eq,beq_iff_eq,Bool.not_eq_true',bfalse,toList_mk,List.toList_toArray,ite_and_,ite_or_,Bool.and_eq_true,Bool.or_eq_true,isEmpty_eq,wrap_mod,wrap_u8,All.integer_zero.f,bind_some_,Int.toNat_natCast,Int.reduceToNat,Int.zero_sub,BAe]))
 | (with_reducible exact LeO.none _)
 | (with_reducible exact LeO.refl _)
 | (with_reducible refine LeO.posR (by with_reducible assumption) ?_)
 | (with_reducible refine LeO.negR (by with_reducible assumption) ?_)
 | (with_reducible refine LeO.bindR (by with_reducible assumption) ?_)
 | (with_reducible refine LeO.posL (by with_reducible assumption) ?_)
 | (with_reducible refine LeO.negL (by with_reducible assumption) ?_)
 | (with_reducible refine LeO.iteL (fun _=>?_) (fun _=>?_))
 | (with_reducible refine LeO.bindK (by with_reducible assumption) ?_)
 | (with_reducible refine LeO.bindL (fun _ _=>?_))
 | (refine LeO.posR (by first|decide|exact Int.le_refl _|omega|assumption) ?_)
 | (refine LeO.negR (by first|decide|omega) ?_)
theorem ok105 (k:Nat):FeOk Tryz.prog (fe105 (FX105 k)):=
 fe_ok EOK HM (es:=fun k=>fes105 (FX108 k) (FX134 k) (FX138 k) (FX143 k) (FX144 k)) (fun k=>fc ⟨ok108 k,fc ⟨ok134 k,fc ⟨ok138 k,fc ⟨ok143 k,fc ⟨ok144 k,fz⟩⟩⟩⟩⟩) (N:=38) (an:=an105) (c:=cd105) (rms:=rm105) (ask:=ask105) (rsk:=rsk105) (enc:=enc105) (dec:=dec105) (tbl:=[]) (fun s=>rfl) Tryz.func105 (by kernel_rfl) (by kernel_rfl) (by kernel_rfl) (fun k=>les105)
  (fz) (fun k s0=> .nil)
  (F:=fun k s=>FX105 k s.1.1 s.1.2.1) (fun k s r h=>(e105 (FX108 k) (FX134 k) (FX138 k) (FX143 k) (FX144 k) s).trans (b105 k s.1.1 s.1.2.1 r h)) k
theorem b51 (k:Nat) (x0:TQ):LeO (FX51 k x0) (B51 (FX105 k) x0):=LeO.refl _
theorem ok51 (k:Nat):FeOk Tryz.prog (fe51 (FX51 k)):=
 fe_ok EOK HM (es:=fun k=>fes51 (FX105 k)) (fun k=>fc ⟨ok105 k,fz⟩) (N:=15) (an:=an51) (c:=cd51) (rms:=rm51) (ask:=ask51) (rsk:=rsk51) (enc:=enc51) (dec:=dec51) (tbl:=[]) (fun s=>rfl) Tryz.func51 (by kernel_rfl) (by kernel_rfl) (by kernel_rfl) (fun k=>les51)
  (fz) (fun k s0=> .nil)
  (F:=fun k s=>FX51 k s.1.1) (fun k s r h=>(e51 (FX105 k) s).trans (b51 k s.1.1 r h)) k
theorem b12 (k:Nat) (x0:TQ):LeO (FX12 k x0) (B12 (FX34 k) (FX50 k) (FX51 k) x0):=LeO.refl _
theorem ok12 (k:Nat):FeOk Tryz.prog (fe12 (FX12 k)):=
 fe_ok EOK HM (es:=fun k=>fes12 (FX34 k) (FX50 k) (FX51 k)) (fun k=>fc ⟨ok34 k,fc ⟨ok50 k,fc ⟨ok51 k,fz⟩⟩⟩) (N:=16) (an:=an12) (c:=cd12) (rms:=rm12) (ask:=ask12) (rsk:=rsk12) (enc:=enc12) (dec:=dec12) (tbl:=[]) (fun s=>rfl) Tryz.func12 (by kernel_rfl) (by kernel_rfl) (by kernel_rfl) (fun k=>les12)
  (fz) (fun k s0=> .nil)
  (F:=fun k s=>FX12 k s.1.1) (fun k s r h=>(e12 (FX34 k) (FX50 k) (FX51 k) s).trans (b12 k s.1.1 r h)) k
theorem b93 (k:Nat) (x0:TI):LeO (FX93 k x0) (B93 x0):=LeO.refl _
theorem ok93 (k:Nat):FeOk Tryz.prog (fe93 (FX93 k)):=
 fe_ok EOK HM (es:=fun k=>fes93) (fun k=>fz) (N:=5) (an:=an93) (c:=cd93) (rms:=rm93) (ask:=ask93) (rsk:=rsk93) (enc:=enc93) (dec:=dec93) (tbl:=[]) (fun s=>rfl) Tryz.func93 (by kernel_rfl) (by kernel_rfl) (by kernel_rfl) (fun k=>les93)
  (fz) (fun k s0=> .nil)
  (F:=fun k s=>FX93 k s.1.1) (fun k s r h=>(e93 s).trans (b93 k s.1.1 r h)) k
theorem b145 (k:Nat) (x0:ByteArray) (x1:ByteArray):LeO (FX145 k x0 x1) (B145 x0 x1):=by
 show LeO (All.exact_NatCmp.f k x0 x1) _
 unfold All.exact_NatCmp.f
 unfold B145
 (try simp only [All.integer_zero.f,All.exact_stepAt.f,All.S24.f0,All.S24.f1,All.rd_T24,All.z24])
 (try simp only [List.take_append_drop,List.drop_length,List.append_nil,Int.zero_sub,Int.toNat_natCast,Int.reduceToNat,Int.zero_add,List.take_zero,List.nil_append,List.append_assoc,List.length_set,ite_bind_,List.take_left,BAe,bne,decide_int_eq,decide_not,wrap_mod,if_true,if_false,Bool.false_eq_true,bind_assoc_,slice_def,List.drop_zero,List.take_length,wrap_u8,bind_some_,cnd_eq_if,rdOf,ite_not,Bool.and_eq_true,Bool.or_eq_true,Bool.not_eq_true',bfalse,Bool.not_eq_false',beq_iff_eq,decide_eq_true_eq,isEmpty_eq,ite_and_,ite_or_,ne_eq,toList_mk,List.toList_toArray])
 repeat' first
 | (with_reducible refine LeO.trans ((All.exact_NatCmp.mono_l k) _ _ _) ?_;rw [All.exact_NatCmp.j0];(try simp only [if_true,if_false,decide_eq_true_eq,Bool.false_eq_true,decide_not,ite_not,bne,decide_int_eq,beq_iff_eq,Bool.not_eq_true',bfalse,toList_mk,List.toList_toArray,ite_and_,ite_or_,Bool.and_eq_true,Bool.or_eq_true,isEmpty_eq,wrap_mod,wrap_u8,All.integer_zero.f,bind_some_,Int.toNat_natCast,Int.reduceToNat,Int.zero_sub,BAe]))
 | (with_reducible exact LeO.none _)
 | (with_reducible exact LeO.refl _)
 | (with_reducible refine LeO.posR (by with_reducible assumption) ?_)
 | (with_reducible refine LeO.negR (by with_reducible assumption) ?_)
 | (with_reducible refine LeO.bindR (by with_reducible assumption) ?_)
 | (with_reducible refine LeO.posL (by with_reducible assumption) ?_)
 | (with_reducible refine LeO.negL (by with_reducible assumption) ?_)
 | (with_reducible refine LeO.iteL (fun _=>?_) (fun _=>?_))
 | (with_reducible refine LeO.bindK (by with_reducible assumption) ?_)
 | (with_reducible refine LeO.bindL (fun _ _=>?_))
 | (refine LeO.posR (by first|decide|exact Int.le_refl _|omega|assumption) ?_)
 | (refine LeO.negR (by first|decide|omega) ?_)
theorem ok145 (k:Nat):FeOk Tryz.prog (fe145 (FX145 k)):=
 fe_ok EOK HM (es:=fun k=>fes145) (fun k=>fz) (N:=27) (an:=an145) (c:=cd145) (rms:=rm145) (ask:=ask145) (rsk:=rsk145) (enc:=enc145) (dec:=dec145) (tbl:=[]) (fun s=>rfl) Tryz.func145 (by kernel_rfl) (by kernel_rfl) (by kernel_rfl) (fun k=>les145)
  (fz) (fun k s0=> .nil)
  (F:=fun k s=>FX145 k s.1.1 s.1.2.1) (fun k s r h=>(e145 s).trans (b145 k s.1.1 s.1.2.1 r h)) k
theorem b106 (k:Nat) (x0:TI) (x1:TI):LeO (FX106 k x0 x1) (B106 (FX108 k) (FX138 k) (FX144 k) (FX145 k) x0 x1):=by
 show LeO (All.exact_IntAdd.f k x0.1 x0.2 x1.1 x1.2) _
 unfold All.exact_IntAdd.f;unfold B106;(try simp only [FX108,FX138,FX144,FX145,All.integer_zero.f,All.exact_stepAt.f,All.S24.f0,All.S24.f1,All.rd_T24,All.z24]);exact BR
theorem ok106 (k:Nat):FeOk Tryz.prog (fe106 (FX106 k)):=
 fe_ok EOK HM (es:=fun k=>fes106 (FX108 k) (FX138 k) (FX144 k) (FX145 k)) (fun k=>fc ⟨ok108 k,fc ⟨ok138 k,fc ⟨ok144 k,fc ⟨ok145 k,fz⟩⟩⟩⟩) (N:=42) (an:=an106) (c:=cd106) (rms:=rm106) (ask:=ask106) (rsk:=rsk106) (enc:=enc106) (dec:=dec106) (tbl:=[]) (fun s=>rfl) Tryz.func106 (by kernel_rfl) (by kernel_rfl) (by kernel_rfl) (fun k=>les106)
  (fz) (fun k s0=> .nil)
  (F:=fun k s=>FX106 k s.1.1 s.1.2.1) (fun k s r h=>(e106 (FX108 k) (FX138 k) (FX144 k) (FX145 k) s).trans (b106 k s.1.1 s.1.2.1 r h)) k
theorem b107 (k:Nat) (x0:TI) (x1:TI):LeO (FX107 k x0 x1) (B107 (FX85 k) (FX108 k) (FX134 k) x0 x1):=LeO.refl _
theorem ok107 (k:Nat):FeOk Tryz.prog (fe107 (FX107 k)):=
 fe_ok EOK HM (es:=fun k=>fes107 (FX85 k) (FX108 k) (FX134 k)) (fun k=>fc ⟨ok85 k,fc ⟨ok108 k,fc ⟨ok134 k,fz⟩⟩⟩) (N:=40) (an:=an107) (c:=cd107) (rms:=rm107) (ask:=ask107) (rsk:=rsk107) (enc:=enc107) (dec:=dec107) (tbl:=[]) (fun s=>rfl) Tryz.func107 (by kernel_rfl) (by kernel_rfl) (by kernel_rfl) (fun k=>les107)
  (fz) (fun k s0=> .nil)
  (F:=fun k s=>FX107 k s.1.1 s.1.2.1) (fun k s r h=>(e107 (FX85 k) (FX108 k) (FX134 k) s).trans (b107 k s.1.1 s.1.2.1 r h)) k
noncomputable abbrev GX146l0 (k:Nat) (x1:(List Int)) (x20:(List Int)) (x21:Int) (x22:Int) (x5:(List Int)):Option R146:=All.exact_mulWords.l0 k x1 x5 x20 x21 x22
noncomputable abbrev GX146l1 (k:Nat) (x1:(List Int)) (x6:Int) (x7:Int) (x8:Int) (x20:(List Int)) (x21:Int) (x22:Int) (x27:(List Int)) (x28:Int) (x29:Int) (x5:(List Int)):Option R146:=All.exact_mulWords.l1 k x1 x5 x6 x7 x8 x20 x21 x22 x27 x28 x29
theorem b146l0 (k:Nat) (x1:(List Int)) (x20:(List Int)) (x21:Int) (x22:Int) (x5:(List Int)):LeO (All.exact_mulWords.l0 (k+1) x1 x5 x20 x21 x22) (B146l0 (GX146l1 k) (FX152 k) x1 x20 x21 x22 x5):=by rw [All.exact_mulWords.l0];unfold B146l0;(try simp only [GX146l0,GX146l1,FX152,FX159,FX161,All.integer_zero.f,All.exact_stepAt.f,All.S24.f0,All.S24.f1,All.rd_T24,All.z24]);exact BR
theorem b146l1 (k:Nat) (x1:(List Int)) (x6:Int) (x7:Int) (x8:Int) (x20:(List Int)) (x21:Int) (x22:Int) (x27:(List Int)) (x28:Int) (x29:Int) (x5:(List Int)):LeO (All.exact_mulWords.l1 (k+1) x1 x5 x6 x7 x8 x20 x21 x22 x27 x28 x29) (B146l1 (GX146l0 k) (GX146l1 k) (FX159 k) (FX161 k) x1 x6 x7 x8 x20 x21 x22 x27 x28 x29 x5):=by rw [All.exact_mulWords.l1];unfold B146l1;(try simp only [GX146l0,GX146l1,FX152,FX159,FX161,All.integer_zero.f,All.exact_stepAt.f,All.S24.f0,All.S24.f1,All.rd_T24,All.z24]);exact BR
theorem b146 (k:Nat) (x0:(List Int)) (x1:(List Int)):LeO (FX146 k x0 x1) (B146 (GX146l0 k) x0 x1):=by
 show LeO (All.exact_mulWords.f k x0 x1) _
 unfold All.exact_mulWords.f;unfold B146;(try simp only [GX146l0,GX146l1,FX152,FX159,FX161,All.integer_zero.f,All.exact_stepAt.f,All.S24.f0,All.S24.f1,All.rd_T24,All.z24]);exact BR
theorem ok146 (k:Nat):FeOk Tryz.prog (fe146 (FX146 k)):=
 fe_ok EOK HM (es:=fun k=>fes146 (FX152 k) (FX159 k) (FX161 k)) (fun k=>fc ⟨ok152 k,fc ⟨ok159 k,fc ⟨ok161 k,fz⟩⟩⟩) (N:=80) (an:=an146) (c:=cd146) (rms:=rm146) (ask:=ask146) (rsk:=rsk146) (enc:=enc146) (dec:=dec146) (tbl:=[p146.getD 0 ⟨0,[], .skip⟩,p146.getD 1 ⟨0,[], .skip⟩]) (fun s=>rfl) Tryz.func146 (by kernel_rfl) (by kernel_rfl) (by kernel_rfl) (fun k=>les146 (GX146l0 k) (GX146l1 k))
  (fc ⟨fun s=>rfl,fc ⟨fun s=>rfl,fz⟩⟩) (fun k s0=> .cons (by kernel_rfl) (by kernel_rfl) (fun s r h=>(e146l0 (GX146l0 k) (GX146l1 k) (FX152 k) (FX159 k) (FX161 k) s0 s).trans (b146l0 k s.1.1 s.1.2.1 s.1.2.2.1 s.1.2.2.2.1 s.2.1 r h)) (.cons (by kernel_rfl) (by kernel_rfl) (fun s r h=>(e146l1 (GX146l0 k) (GX146l1 k) (FX152 k) (FX159 k) (FX161 k) s0 s).trans (b146l1 k s.1.1 s.1.2.1 s.1.2.2.1 s.1.2.2.2.1 s.1.2.2.2.2.1 s.1.2.2.2.2.2.1 s.1.2.2.2.2.2.2.1 s.1.2.2.2.2.2.2.2.1 s.1.2.2.2.2.2.2.2.2.1 s.1.2.2.2.2.2.2.2.2.2.1 s.2.1 r h)) (.nil)))
  (F:=fun k s=>FX146 k s.1.1 s.1.2.1) (fun k s r h=>(e146 (GX146l0 k) (GX146l1 k) (FX152 k) (FX159 k) (FX161 k) s).trans (b146 k s.1.1 s.1.2.1 r h)) k
theorem b109 (k:Nat) (x0:ByteArray) (x1:ByteArray):LeO (FX109 k x0 x1) (B109 (FX129 k) (FX131 k) (FX146 k) x0 x1):=by
 show LeO (All.exact_NatMul.f k x0 x1) _
 unfold All.exact_NatMul.f;unfold B109;(try simp only [FX129,FX131,FX146,All.integer_zero.f,All.exact_stepAt.f,All.S24.f0,All.S24.f1,All.rd_T24,All.z24]);exact BR
theorem ok109 (k:Nat):FeOk Tryz.prog (fe109 (FX109 k)):=
 fe_ok EOK HM (es:=fun k=>fes109 (FX129 k) (FX131 k) (FX146 k)) (fun k=>fc ⟨ok129 k,fc ⟨ok131 k,fc ⟨ok146 k,fz⟩⟩⟩) (N:=11) (an:=an109) (c:=cd109) (rms:=rm109) (ask:=ask109) (rsk:=rsk109) (enc:=enc109) (dec:=dec109) (tbl:=[]) (fun s=>rfl) Tryz.func109 (by kernel_rfl) (by kernel_rfl) (by kernel_rfl) (fun k=>les109)
  (fz) (fun k s0=> .nil)
  (F:=fun k s=>FX109 k s.1.1 s.1.2.1) (fun k s r h=>(e109 (FX129 k) (FX131 k) (FX146 k) s).trans (b109 k s.1.1 s.1.2.1 r h)) k
theorem b52 (k:Nat) (x0:TQ) (x1:TQ):LeO (FX52 k x0 x1) (B52 (FX93 k) (FX106 k) (FX107 k) (FX108 k) (FX109 k) x0 x1):=LeO.refl _
theorem ok52 (k:Nat):FeOk Tryz.prog (fe52 (FX52 k)):=
 fe_ok EOK HM (es:=fun k=>fes52 (FX93 k) (FX106 k) (FX107 k) (FX108 k) (FX109 k)) (fun k=>fc ⟨ok93 k,fc ⟨ok106 k,fc ⟨ok107 k,fc ⟨ok108 k,fc ⟨ok109 k,fz⟩⟩⟩⟩⟩) (N:=58) (an:=an52) (c:=cd52) (rms:=rm52) (ask:=ask52) (rsk:=rsk52) (enc:=enc52) (dec:=dec52) (tbl:=[]) (fun s=>rfl) Tryz.func52 (by kernel_rfl) (by kernel_rfl) (by kernel_rfl) (fun k=>les52)
  (fz) (fun k s0=> .nil)
  (F:=fun k s=>FX52 k s.1.1 s.1.2.1) (fun k s r h=>(e52 (FX93 k) (FX106 k) (FX107 k) (FX108 k) (FX109 k) s).trans (b52 k s.1.1 s.1.2.1 r h)) k
theorem b110 (k:Nat) (x0:Int):LeO (FX110 k x0) (B110 (FX143 k) x0):=by
 show LeO (All.exact_IntOf.f k x0) _
 unfold All.exact_IntOf.f;unfold B110;(try simp only [FX143,All.integer_zero.f,All.exact_stepAt.f,All.S24.f0,All.S24.f1,All.rd_T24,All.z24]);exact BR
theorem ok110 (k:Nat):FeOk Tryz.prog (fe110 (FX110 k)):=
 fe_ok EOK HM (es:=fun k=>fes110 (FX143 k)) (fun k=>fc ⟨ok143 k,fz⟩) (N:=14) (an:=an110) (c:=cd110) (rms:=rm110) (ask:=ask110) (rsk:=rsk110) (enc:=enc110) (dec:=dec110) (tbl:=[]) (fun s=>rfl) Tryz.func110 (by kernel_rfl) (by kernel_rfl) (by kernel_rfl) (fun k=>les110)
  (fz) (fun k s0=> .nil)
  (F:=fun k s=>FX110 k s.1.1) (fun k s r h=>(e110 (FX143 k) s).trans (b110 k s.1.1 r h)) k
theorem b53 (k:Nat) (x0:Int) (x1:Int):LeO (FX53 k x0 x1) (B53 (FX107 k) (FX110 k) x0 x1):=LeO.refl _
theorem ok53 (k:Nat):FeOk Tryz.prog (fe53 (FX53 k)):=
 fe_ok EOK HM (es:=fun k=>fes53 (FX107 k) (FX110 k)) (fun k=>fc ⟨ok107 k,fc ⟨ok110 k,fz⟩⟩) (N:=10) (an:=an53) (c:=cd53) (rms:=rm53) (ask:=ask53) (rsk:=rsk53) (enc:=enc53) (dec:=dec53) (tbl:=[]) (fun s=>rfl) Tryz.func53 (by kernel_rfl) (by kernel_rfl) (by kernel_rfl) (fun k=>les53)
  (fz) (fun k s0=> .nil)
  (F:=fun k s=>FX53 k s.1.1 s.1.2.1) (fun k s r h=>(e53 (FX107 k) (FX110 k) s).trans (b53 k s.1.1 s.1.2.1 r h)) k
theorem b13 (k:Nat) (x0:TQ):LeO (FX13 k x0) (B13 (FX34 k) (FX50 k) (FX51 k) (FX52 k) (FX53 k) x0):=LeO.refl _
theorem ok13 (k:Nat):FeOk Tryz.prog (fe13 (FX13 k)):=
 fe_ok EOK HM (es:=fun k=>fes13 (FX34 k) (FX50 k) (FX51 k) (FX52 k) (FX53 k)) (fun k=>fc ⟨ok34 k,fc ⟨ok50 k,fc ⟨ok51 k,fc ⟨ok52 k,fc ⟨ok53 k,fz⟩⟩⟩⟩⟩) (N:=18) (an:=an13) (c:=cd13) (rms:=rm13) (ask:=ask13) (rsk:=rsk13) (enc:=enc13) (dec:=dec13) (tbl:=[]) (fun s=>rfl) Tryz.func13 (by kernel_rfl) (by kernel_rfl) (by kernel_rfl) (fun k=>les13)
  (fz) (fun k s0=> .nil)
  (F:=fun k s=>FX13 k s.1.1) (fun k s r h=>(e13 (FX34 k) (FX50 k) (FX51 k) (FX52 k) (FX53 k) s).trans (b13 k s.1.1 r h)) k
theorem b114 (k:Nat) (x0:ByteArray):LeO (FX114 k x0) (B114 (FX149 k) x0):=by
 show LeO (All.exact_NatBits.f x0) _
 unfold All.exact_NatBits.f;unfold B114;(try simp only [FX149,All.integer_zero.f,All.exact_stepAt.f,All.S24.f0,All.S24.f1,All.rd_T24,All.z24]);exact BR
theorem ok114 (k:Nat):FeOk Tryz.prog (fe114 (FX114 k)):=
 fe_ok EOK HM (es:=fun k=>fes114 (FX149 k)) (fun k=>fc ⟨ok149 k,fz⟩) (N:=13) (an:=an114) (c:=cd114) (rms:=rm114) (ask:=ask114) (rsk:=rsk114) (enc:=enc114) (dec:=dec114) (tbl:=[]) (fun s=>rfl) Tryz.func114 (by kernel_rfl) (by kernel_rfl) (by kernel_rfl) (fun k=>les114)
  (fz) (fun k s0=> .nil)
  (F:=fun k s=>FX114 k s.1.1) (fun k s r h=>(e114 (FX149 k) s).trans (b114 k s.1.1 r h)) k
noncomputable abbrev GX116l0 (k:Nat) (x1:Int) (x5:(List Int)) (x6:(List Int)):Option R116:=All.exact_NatPow.l0 k x1 x5 x6
theorem b116l0 (k:Nat) (x1:Int) (x5:(List Int)) (x6:(List Int)):LeO (All.exact_NatPow.l0 (k+1) x1 x5 x6) (B116l0 (GX116l0 k) (FX131 k) (FX146 k) x1 x5 x6):=by rw [All.exact_NatPow.l0];unfold B116l0;(try simp only [GX116l0,FX129,FX131,FX146,All.integer_zero.f,All.exact_stepAt.f,All.S24.f0,All.S24.f1,All.rd_T24,All.z24]);exact BR
theorem b116 (k:Nat) (x0:ByteArray) (x1:Int):LeO (FX116 k x0 x1) (B116 (GX116l0 k) (FX129 k) x0 x1):=by
 show LeO (All.exact_NatPow.f k x0 x1) _
 unfold All.exact_NatPow.f;unfold B116;(try simp only [GX116l0,FX129,FX131,FX146,All.integer_zero.f,All.exact_stepAt.f,All.S24.f0,All.S24.f1,All.rd_T24,All.z24]);exact BR
theorem ok116 (k:Nat):FeOk Tryz.prog (fe116 (FX116 k)):=
 fe_ok EOK HM (es:=fun k=>fes116 (FX129 k) (FX131 k) (FX146 k)) (fun k=>fc ⟨ok129 k,fc ⟨ok131 k,fc ⟨ok146 k,fz⟩⟩⟩) (N:=25) (an:=an116) (c:=cd116) (rms:=rm116) (ask:=ask116) (rsk:=rsk116) (enc:=enc116) (dec:=dec116) (tbl:=[p116.getD 0 ⟨0,[], .skip⟩]) (fun s=>rfl) Tryz.func116 (by kernel_rfl) (by kernel_rfl) (by kernel_rfl) (fun k=>les116 (GX116l0 k))
  (fc ⟨fun s=>rfl,fz⟩) (fun k s0=> .cons (by kernel_rfl) (by kernel_rfl) (fun s r h=>(e116l0 (GX116l0 k) (FX129 k) (FX131 k) (FX146 k) s0 s).trans (b116l0 k s.1.1 s.1.2.1 s.1.2.2.1 r h)) (.nil))
  (F:=fun k s=>FX116 k s.1.1 s.1.2.1) (fun k s r h=>(e116 (GX116l0 k) (FX129 k) (FX131 k) (FX146 k) s).trans (b116 k s.1.1 s.1.2.1 r h)) k
theorem b162 (k:Nat) (x0:Int):LeO (FX162 k x0) (B162 x0):=by
 show LeO (All.exact_NatTwo.f x0) _
 unfold All.exact_NatTwo.f;unfold B162;(try simp only [All.integer_zero.f,All.exact_stepAt.f,All.S24.f0,All.S24.f1,All.rd_T24,All.z24]);exact BR
theorem ok162 (k:Nat):FeOk Tryz.prog (fe162 (FX162 k)):=
 fe_ok EOK HM (es:=fun k=>fes162) (fun k=>fz) (N:=15) (an:=an162) (c:=cd162) (rms:=rm162) (ask:=ask162) (rsk:=rsk162) (enc:=enc162) (dec:=dec162) (tbl:=[]) (fun s=>rfl) Tryz.func162 (by kernel_rfl) (by kernel_rfl) (by kernel_rfl) (fun k=>les162)
  (fz) (fun k s0=> .nil)
  (F:=fun k s=>FX162 k s.1.1) (fun k s r h=>(e162 s).trans (b162 k s.1.1 r h)) k
noncomputable abbrev GX147l0 (k:Nat) (x0:ByteArray) (x1:Int) (x5:ByteArray) (x6:Int):Option R147:=All.exact_NatRoot.l0 k x0 x1 x5 x6
theorem b147l0 (k:Nat) (x0:ByteArray) (x1:Int) (x5:ByteArray) (x6:Int):LeO (All.exact_NatRoot.l0 (k+1) x0 x1 x5 x6) (B147l0 (GX147l0 k) (FX116 k) (FX138 k) (FX145 k) (FX162 k) x0 x1 x5 x6):=by rw [All.exact_NatRoot.l0];unfold B147l0;(try simp only [GX147l0,FX114,FX116,FX138,FX145,FX162,All.integer_zero.f,All.exact_stepAt.f,All.S24.f0,All.S24.f1,All.rd_T24,All.z24]);exact BR
theorem b147 (k:Nat) (x0:ByteArray) (x1:Int):LeO (FX147 k x0 x1) (B147 (GX147l0 k) (FX114 k) x0 x1):=by
 show LeO (All.exact_NatRoot.f k x0 x1) _
 unfold All.exact_NatRoot.f;unfold B147;(try simp only [GX147l0,FX114,FX116,FX138,FX145,FX162,All.integer_zero.f,All.exact_stepAt.f,All.S24.f0,All.S24.f1,All.rd_T24,All.z24]);exact BR
theorem ok147 (k:Nat):FeOk Tryz.prog (fe147 (FX147 k)):=
 fe_ok EOK HM (es:=fun k=>fes147 (FX114 k) (FX116 k) (FX138 k) (FX145 k) (FX162 k)) (fun k=>fc ⟨ok114 k,fc ⟨ok116 k,fc ⟨ok138 k,fc ⟨ok145 k,fc ⟨ok162 k,fz⟩⟩⟩⟩⟩) (N:=31) (an:=an147) (c:=cd147) (rms:=rm147) (ask:=ask147) (rsk:=rsk147) (enc:=enc147) (dec:=dec147) (tbl:=[p147.getD 0 ⟨0,[], .skip⟩]) (fun s=>rfl) Tryz.func147 (by kernel_rfl) (by kernel_rfl) (by kernel_rfl) (fun k=>les147 (GX147l0 k))
  (fc ⟨fun s=>rfl,fz⟩) (fun k s0=> .cons (by kernel_rfl) (by kernel_rfl) (fun s r h=>(e147l0 (GX147l0 k) (FX114 k) (FX116 k) (FX138 k) (FX145 k) (FX162 k) s0 s).trans (b147l0 k s.1.1 s.1.2.1 s.1.2.2.1 s.1.2.2.2.1 r h)) (.nil))
  (F:=fun k s=>FX147 k s.1.1 s.1.2.1) (fun k s r h=>(e147 (GX147l0 k) (FX114 k) (FX116 k) (FX138 k) (FX145 k) (FX162 k) s).trans (b147 k s.1.1 s.1.2.1 r h)) k
theorem b111 (k:Nat) (x0:TI):LeO (FX111 k x0) (B111 (FX109 k) (FX147 k) x0):=by
 show LeO (All.exact_IntSqrt.f k x0.1 x0.2) _
 unfold All.exact_IntSqrt.f;unfold B111;(try simp only [FX109,FX147,All.integer_zero.f,All.exact_stepAt.f,All.S24.f0,All.S24.f1,All.rd_T24,All.z24]);exact BR
theorem ok111 (k:Nat):FeOk Tryz.prog (fe111 (FX111 k)):=
 fe_ok EOK HM (es:=fun k=>fes111 (FX109 k) (FX147 k)) (fun k=>fc ⟨ok109 k,fc ⟨ok147 k,fz⟩⟩) (N:=20) (an:=an111) (c:=cd111) (rms:=rm111) (ask:=ask111) (rsk:=rsk111) (enc:=enc111) (dec:=dec111) (tbl:=[]) (fun s=>rfl) Tryz.func111 (by kernel_rfl) (by kernel_rfl) (by kernel_rfl) (fun k=>les111)
  (fz) (fun k s0=> .nil)
  (F:=fun k s=>FX111 k s.1.1) (fun k s r h=>(e111 (FX109 k) (FX147 k) s).trans (b111 k s.1.1 r h)) k
theorem b112 (k:Nat) (x0:Int):LeO (FX112 k x0) (B112 (FX93 k) (FX110 k) x0):=LeO.refl _
theorem ok112 (k:Nat):FeOk Tryz.prog (fe112 (FX112 k)):=
 fe_ok EOK HM (es:=fun k=>fes112 (FX93 k) (FX110 k)) (fun k=>fc ⟨ok93 k,fc ⟨ok110 k,fz⟩⟩) (N:=6) (an:=an112) (c:=cd112) (rms:=rm112) (ask:=ask112) (rsk:=rsk112) (enc:=enc112) (dec:=dec112) (tbl:=[]) (fun s=>rfl) Tryz.func112 (by kernel_rfl) (by kernel_rfl) (by kernel_rfl) (fun k=>les112)
  (fz) (fun k s0=> .nil)
  (F:=fun k s=>FX112 k s.1.1) (fun k s r h=>(e112 (FX93 k) (FX110 k) s).trans (b112 k s.1.1 r h)) k
theorem b54 (k:Nat) (x0:TQ):LeO (FX54 k x0) (B54 (FX111 k) (FX112 k) x0):=LeO.refl _
theorem ok54 (k:Nat):FeOk Tryz.prog (fe54 (FX54 k)):=
 fe_ok EOK HM (es:=fun k=>fes54 (FX111 k) (FX112 k)) (fun k=>fc ⟨ok111 k,fc ⟨ok112 k,fz⟩⟩) (N:=32) (an:=an54) (c:=cd54) (rms:=rm54) (ask:=ask54) (rsk:=rsk54) (enc:=enc54) (dec:=dec54) (tbl:=[]) (fun s=>rfl) Tryz.func54 (by kernel_rfl) (by kernel_rfl) (by kernel_rfl) (fun k=>les54)
  (fz) (fun k s0=> .nil)
  (F:=fun k s=>FX54 k s.1.1) (fun k s r h=>(e54 (FX111 k) (FX112 k) s).trans (b54 k s.1.1 r h)) k
theorem b14 (k:Nat) (x0:TQ):LeO (FX14 k x0) (B14 (FX34 k) (FX54 k) x0):=LeO.refl _
theorem ok14 (k:Nat):FeOk Tryz.prog (fe14 (FX14 k)):=
 fe_ok EOK HM (es:=fun k=>fes14 (FX34 k) (FX54 k)) (fun k=>fc ⟨ok34 k,fc ⟨ok54 k,fz⟩⟩) (N:=23) (an:=an14) (c:=cd14) (rms:=rm14) (ask:=ask14) (rsk:=rsk14) (enc:=enc14) (dec:=dec14) (tbl:=[]) (fun s=>rfl) Tryz.func14 (by kernel_rfl) (by kernel_rfl) (by kernel_rfl) (fun k=>les14)
  (fz) (fun k s0=> .nil)
  (F:=fun k s=>FX14 k s.1.1) (fun k s r h=>(e14 (FX34 k) (FX54 k) s).trans (b14 k s.1.1 r h)) k
theorem b57 (k:Nat) (x0:TQ):LeO (FX57 k x0) (B57 x0):=LeO.refl _
theorem ok57 (k:Nat):FeOk Tryz.prog (fe57 (FX57 k)):=
 fe_ok EOK HM (es:=fun k=>fes57) (fun k=>fz) (N:=7) (an:=an57) (c:=cd57) (rms:=rm57) (ask:=ask57) (rsk:=rsk57) (enc:=enc57) (dec:=dec57) (tbl:=[]) (fun s=>rfl) Tryz.func57 (by kernel_rfl) (by kernel_rfl) (by kernel_rfl) (fun k=>les57)
  (fz) (fun k s0=> .nil)
  (F:=fun k s=>FX57 k s.1.1) (fun k s r h=>(e57 s).trans (b57 k s.1.1 r h)) k
theorem b58 (k:Nat) (x0:TQ):LeO (FX58 k x0) (B58 x0):=LeO.refl _
theorem ok58 (k:Nat):FeOk Tryz.prog (fe58 (FX58 k)):=
 fe_ok EOK HM (es:=fun k=>fes58) (fun k=>fz) (N:=13) (an:=an58) (c:=cd58) (rms:=rm58) (ask:=ask58) (rsk:=rsk58) (enc:=enc58) (dec:=dec58) (tbl:=[]) (fun s=>rfl) Tryz.func58 (by kernel_rfl) (by kernel_rfl) (by kernel_rfl) (fun k=>les58)
  (fz) (fun k s0=> .nil)
  (F:=fun k s=>FX58 k s.1.1) (fun k s r h=>(e58 s).trans (b58 k s.1.1 r h)) k
theorem b59 (k:Nat) (x0:ByteArray) (x1:Int):LeO (FX59 k x0 x1) (B59 (FX114 k) x0 x1):=LeO.refl _
theorem ok59 (k:Nat):FeOk Tryz.prog (fe59 (FX59 k)):=
 fe_ok EOK HM (es:=fun k=>fes59 (FX114 k)) (fun k=>fc ⟨ok114 k,fz⟩) (N:=15) (an:=an59) (c:=cd59) (rms:=rm59) (ask:=ask59) (rsk:=rsk59) (enc:=enc59) (dec:=dec59) (tbl:=[]) (fun s=>rfl) Tryz.func59 (by kernel_rfl) (by kernel_rfl) (by kernel_rfl) (fun k=>les59)
  (fz) (fun k s0=> .nil)
  (F:=fun k s=>FX59 k s.1.1 s.1.2.1) (fun k s r h=>(e59 (FX114 k) s).trans (b59 k s.1.1 s.1.2.1 r h)) k
theorem b115 (k:Nat) (x0:TI) (x1:Int):LeO (FX115 k x0 x1) (B115 (FX108 k) (FX116 k) x0 x1):=LeO.refl _
theorem ok115 (k:Nat):FeOk Tryz.prog (fe115 (FX115 k)):=
 fe_ok EOK HM (es:=fun k=>fes115 (FX108 k) (FX116 k)) (fun k=>fc ⟨ok108 k,fc ⟨ok116 k,fz⟩⟩) (N:=17) (an:=an115) (c:=cd115) (rms:=rm115) (ask:=ask115) (rsk:=rsk115) (enc:=enc115) (dec:=dec115) (tbl:=[]) (fun s=>rfl) Tryz.func115 (by kernel_rfl) (by kernel_rfl) (by kernel_rfl) (fun k=>les115)
  (fz) (fun k s0=> .nil)
  (F:=fun k s=>FX115 k s.1.1 s.1.2.1) (fun k s r h=>(e115 (FX108 k) (FX116 k) s).trans (b115 k s.1.1 s.1.2.1 r h)) k
theorem b60 (k:Nat) (x0:TQ) (x1:Int):LeO (FX60 k x0 x1) (B60 (FX115 k) (FX116 k) x0 x1):=LeO.refl _
theorem ok60 (k:Nat):FeOk Tryz.prog (fe60 (FX60 k)):=
 fe_ok EOK HM (es:=fun k=>fes60 (FX115 k) (FX116 k)) (fun k=>fc ⟨ok115 k,fc ⟨ok116 k,fz⟩⟩) (N:=14) (an:=an60) (c:=cd60) (rms:=rm60) (ask:=ask60) (rsk:=rsk60) (enc:=enc60) (dec:=dec60) (tbl:=[]) (fun s=>rfl) Tryz.func60 (by kernel_rfl) (by kernel_rfl) (by kernel_rfl) (fun k=>les60)
  (fz) (fun k s0=> .nil)
  (F:=fun k s=>FX60 k s.1.1 s.1.2.1) (fun k s r h=>(e60 (FX115 k) (FX116 k) s).trans (b60 k s.1.1 s.1.2.1 r h)) k
theorem b56 (k:Nat) (x0:(List TQ)) (y500:Int):LeO (FX56 k x0 y500) (B56 (FX57 k) (FX58 k) (FX59 k) (FX60 k) x0 y500):=LeO.refl _
theorem ok56 (k:Nat):FeOk Tryz.prog (fe56 (FX56 k)):=
 fe_ok EOK HM (es:=fun k=>fes56 (FX57 k) (FX58 k) (FX59 k) (FX60 k)) (fun k=>fc ⟨ok57 k,fc ⟨ok58 k,fc ⟨ok59 k,fc ⟨ok60 k,fz⟩⟩⟩⟩) (N:=40) (an:=an56) (c:=cd56) (rms:=rm56) (ask:=ask56) (rsk:=rsk56) (enc:=enc56) (dec:=dec56) (tbl:=[]) (fun s=>rfl) Tryz.func56 (by kernel_rfl) (by kernel_rfl) (by kernel_rfl) (fun k=>les56)
  (fz) (fun k s0=> .nil)
  (F:=fun k s=>FX56 k s.1.1 s.2.1) (fun k s r h=>(e56 (FX57 k) (FX58 k) (FX59 k) (FX60 k) s).trans (b56 k s.1.1 s.2.1 r h)) k
theorem b148 (k:Nat) (x0:TQ):LeO (FX148 k x0) (B148 x0):=LeO.refl _
theorem ok148 (k:Nat):FeOk Tryz.prog (fe148 (FX148 k)):=
 fe_ok EOK HM (es:=fun k=>fes148) (fun k=>fz) (N:=14) (an:=an148) (c:=cd148) (rms:=rm148) (ask:=ask148) (rsk:=rsk148) (enc:=enc148) (dec:=dec148) (tbl:=[]) (fun s=>rfl) Tryz.func148 (by kernel_rfl) (by kernel_rfl) (by kernel_rfl) (fun k=>les148)
  (fz) (fun k s0=> .nil)
  (F:=fun k s=>FX148 k s.1.1) (fun k s r h=>(e148 s).trans (b148 k s.1.1 r h)) k
theorem b113 (k:Nat) (x0:TQ):LeO (FX113 k x0) (B113 (FX148 k) x0):=LeO.refl _
theorem ok113 (k:Nat):FeOk Tryz.prog (fe113 (FX113 k)):=
 fe_ok EOK HM (es:=fun k=>fes113 (FX148 k)) (fun k=>fc ⟨ok148 k,fz⟩) (N:=8) (an:=an113) (c:=cd113) (rms:=rm113) (ask:=ask113) (rsk:=rsk113) (enc:=enc113) (dec:=dec113) (tbl:=[]) (fun s=>rfl) Tryz.func113 (by kernel_rfl) (by kernel_rfl) (by kernel_rfl) (fun k=>les113)
  (fz) (fun k s0=> .nil)
  (F:=fun k s=>FX113 k s.1.1) (fun k s r h=>(e113 (FX148 k) s).trans (b113 k s.1.1 r h)) k
theorem b55Powl0 (k:Nat) (x1:(List TQ)) (x11:(List TQ)) (x12:Int) (x13:Int) (y100:Int) (x4:TQ):LeO (GX55Powl0 (k+1) x1 x11 x12 x13 y100 x4) (B55Powl0 (GX55Powl0 k) (FX34 k) (FX56 k) (FX113 k) x1 x11 x12 x13 y100 x4):=by rw [GX55Powl0];exact LeO.refl _
theorem b55Pow (k:Nat) (x1:(List TQ)) (y100:Int):LeO (FX55Pow k x1 y100) (B55Pow (GX55Powl0 k) x1 y100):=LeO.refl _
theorem ok55Pow (k:Nat):FeOk Tryz.prog (fe55Pow (FX55Pow k)):=
 fe_ok EOK HM (es:=fun k=>fes55Pow (FX34 k) (FX56 k) (FX113 k)) (fun k=>fc ⟨ok34 k,fc ⟨ok56 k,fc ⟨ok113 k,fz⟩⟩⟩) (N:=38) (an:=an55Pow) (c:=cd55Pow) (rms:=rm55Pow) (ask:=ask55Pow) (rsk:=rsk55Pow) (enc:=enc55Pow) (dec:=dec55Pow) (tbl:=[p55Pow.getD 0 ⟨0,[], .skip⟩]) (fun s=>rfl) Tryz.func55 (by kernel_rfl) (by kernel_rfl) (by kernel_rfl) (fun k=>les55Pow (GX55Powl0 k))
  (fc ⟨fun s=>rfl,fz⟩) (fun k s0=> .cons (by kernel_rfl) (by kernel_rfl) (fun s r h=>(e55Powl0 (GX55Powl0 k) (FX34 k) (FX56 k) (FX113 k) s0 s).trans (b55Powl0 k s.1.1 s.1.2.1 s.1.2.2.1 s.1.2.2.2.1 s.2.1 s.2.2.1 r h)) (.nil))
  (F:=fun k s=>FX55Pow k s.1.1 s.2.1) (fun k s r h=>(e55Pow (GX55Powl0 k) (FX34 k) (FX56 k) (FX113 k) s).trans (b55Pow k s.1.1 s.2.1 r h)) k
theorem b15 (k:Nat) (x0:TQ) (x1:Int):LeO (FX15 k x0 x1) (B15 (FX55Pow k) x0 x1):=LeO.refl _
theorem ok15 (k:Nat):FeOk Tryz.prog (fe15 (FX15 k)):=
 fe_ok EOK HM (es:=fun k=>fes15 (FX55Pow k)) (fun k=>fc ⟨ok55Pow k,fz⟩) (N:=12) (an:=an15) (c:=cd15) (rms:=rm15) (ask:=ask15) (rsk:=rsk15) (enc:=enc15) (dec:=dec15) (tbl:=[]) (fun s=>rfl) Tryz.func15 (by kernel_rfl) (by kernel_rfl) (by kernel_rfl) (fun k=>les15)
  (fz) (fun k s0=> .nil)
  (F:=fun k s=>FX15 k s.1.1 s.1.2.1) (fun k s r h=>(e15 (FX55Pow k) s).trans (b15 k s.1.1 s.1.2.1 r h)) k
theorem b72 (k:Nat) (x0:(List TQ)):LeO (FX72 k x0) (B72 (FX52 k) x0):=LeO.refl _
theorem ok72 (k:Nat):FeOk Tryz.prog (fe72 (FX72 k)):=
 fe_ok EOK HM (es:=fun k=>fes72 (FX52 k)) (fun k=>fc ⟨ok52 k,fz⟩) (N:=11) (an:=an72) (c:=cd72) (rms:=rm72) (ask:=ask72) (rsk:=rsk72) (enc:=enc72) (dec:=dec72) (tbl:=[]) (fun s=>rfl) Tryz.func72 (by kernel_rfl) (by kernel_rfl) (by kernel_rfl) (fun k=>les72)
  (fz) (fun k s0=> .nil)
  (F:=fun k s=>FX72 k s.1.1) (fun k s r h=>(e72 (FX52 k) s).trans (b72 k s.1.1 r h)) k
theorem b55Addl0 (k:Nat) (x1:(List TQ)) (x11:(List TQ)) (x12:Int) (x13:Int) (x4:TQ):LeO (GX55Addl0 (k+1) x1 x11 x12 x13 x4) (B55Addl0 (GX55Addl0 k) (FX34 k) (FX72 k) (FX113 k) x1 x11 x12 x13 x4):=by rw [GX55Addl0];exact LeO.refl _
theorem b55Add (k:Nat) (x1:(List TQ)):LeO (FX55Add k x1) (B55Add (GX55Addl0 k) x1):=LeO.refl _
theorem ok55Add (k:Nat):FeOk Tryz.prog (fe55Add (FX55Add k)):=
 fe_ok EOK HM (es:=fun k=>fes55Add (FX34 k) (FX72 k) (FX113 k)) (fun k=>fc ⟨ok34 k,fc ⟨ok72 k,fc ⟨ok113 k,fz⟩⟩⟩) (N:=38) (an:=an55Add) (c:=cd55Add) (rms:=rm55Add) (ask:=ask55Add) (rsk:=rsk55Add) (enc:=enc55Add) (dec:=dec55Add) (tbl:=[p55Add.getD 0 ⟨0,[], .skip⟩]) (fun s=>rfl) Tryz.func55 (by kernel_rfl) (by kernel_rfl) (by kernel_rfl) (fun k=>les55Add (GX55Addl0 k))
  (fc ⟨fun s=>rfl,fz⟩) (fun k s0=> .cons (by kernel_rfl) (by kernel_rfl) (fun s r h=>(e55Addl0 (GX55Addl0 k) (FX34 k) (FX72 k) (FX113 k) s0 s).trans (b55Addl0 k s.1.1 s.1.2.1 s.1.2.2.1 s.1.2.2.2.1 s.2.1 r h)) (.nil))
  (F:=fun k s=>FX55Add k s.1.1) (fun k s r h=>(e55Add (GX55Addl0 k) (FX34 k) (FX72 k) (FX113 k) s).trans (b55Add k s.1.1 r h)) k
theorem b25 (k:Nat) (x0:TQ) (x1:TQ):LeO (FX25 k x0 x1) (B25 (FX55Add k) x0 x1):=LeO.refl _
theorem ok25 (k:Nat):FeOk Tryz.prog (fe25 (FX25 k)):=
 fe_ok EOK HM (es:=fun k=>fes25 (FX55Add k)) (fun k=>fc ⟨ok55Add k,fz⟩) (N:=12) (an:=an25) (c:=cd25) (rms:=rm25) (ask:=ask25) (rsk:=rsk25) (enc:=enc25) (dec:=dec25) (tbl:=[]) (fun s=>rfl) Tryz.func25 (by kernel_rfl) (by kernel_rfl) (by kernel_rfl) (fun k=>les25)
  (fz) (fun k s0=> .nil)
  (F:=fun k s=>FX25 k s.1.1 s.1.2.1) (fun k s r h=>(e25 (FX55Add k) s).trans (b25 k s.1.1 s.1.2.1 r h)) k
noncomputable abbrev GX140l0 (k:Nat) (x0:(List Int)) (x4:Int) (x3:(List Int)):Option R140:=All.galoisref01_pack.l0 k x0 x3 x4
noncomputable abbrev GX140l1 (k:Nat) (x0:(List Int)) (x4:Int) (x5:Int) (x3:(List Int)):Option R140:=All.galoisref01_pack.l1 k x0 x3 x4 x5
theorem b140l0 (k:Nat) (x0:(List Int)) (x4:Int) (x3:(List Int)):LeO (All.galoisref01_pack.l0 (k+1) x0 x3 x4) (B140l0 (GX140l1 k) x0 x4 x3):=by rw [All.galoisref01_pack.l0];unfold B140l0;(try simp only [GX140l0,GX140l1,All.integer_zero.f,All.exact_stepAt.f,All.S24.f0,All.S24.f1,All.rd_T24,All.z24]);exact BR
theorem b140l1 (k:Nat) (x0:(List Int)) (x4:Int) (x5:Int) (x3:(List Int)):LeO (All.galoisref01_pack.l1 (k+1) x0 x3 x4 x5) (B140l1 (GX140l0 k) (GX140l1 k) x0 x4 x5 x3):=by rw [All.galoisref01_pack.l1];unfold B140l1;(try simp only [GX140l0,GX140l1,All.integer_zero.f,All.exact_stepAt.f,All.S24.f0,All.S24.f1,All.rd_T24,All.z24]);exact BR
theorem b140 (k:Nat) (x0:(List Int)):LeO (FX140 k x0) (B140 (GX140l0 k) x0):=by
 show LeO (All.galoisref01_pack.f k x0) _
 unfold All.galoisref01_pack.f;unfold B140;(try simp only [GX140l0,GX140l1,All.integer_zero.f,All.exact_stepAt.f,All.S24.f0,All.S24.f1,All.rd_T24,All.z24]);exact BR
theorem ok140 (k:Nat):FeOk Tryz.prog (fe140 (FX140 k)):=
 fe_ok EOK HM (es:=fun k=>fes140) (fun k=>fz) (N:=38) (an:=an140) (c:=cd140) (rms:=rm140) (ask:=ask140) (rsk:=rsk140) (enc:=enc140) (dec:=dec140) (tbl:=[p140.getD 0 ⟨0,[], .skip⟩,p140.getD 1 ⟨0,[], .skip⟩]) (fun s=>rfl) Tryz.func140 (by kernel_rfl) (by kernel_rfl) (by kernel_rfl) (fun k=>les140 (GX140l0 k) (GX140l1 k))
  (fc ⟨fun s=>rfl,fc ⟨fun s=>rfl,fz⟩⟩) (fun k s0=> .cons (by kernel_rfl) (by kernel_rfl) (fun s r h=>(e140l0 (GX140l0 k) (GX140l1 k) s0 s).trans (b140l0 k s.1.1 s.1.2.1 s.2.1 r h)) (.cons (by kernel_rfl) (by kernel_rfl) (fun s r h=>(e140l1 (GX140l0 k) (GX140l1 k) s0 s).trans (b140l1 k s.1.1 s.1.2.1 s.1.2.2.1 s.2.1 r h)) (.nil)))
  (F:=fun k s=>FX140 k s.1.1) (fun k s r h=>(e140 (GX140l0 k) (GX140l1 k) s).trans (b140 k s.1.1 r h)) k
theorem b104 (k:Nat) (x0:Int):LeO (FX104 k x0) (B104 (FX140 k) x0):=by
 show LeO (All.galoisref01_Of.f k x0) _
 unfold All.galoisref01_Of.f;unfold B104;(try simp only [FX140,All.integer_zero.f,All.exact_stepAt.f,All.S24.f0,All.S24.f1,All.rd_T24,All.z24]);exact BR
theorem ok104 (k:Nat):FeOk Tryz.prog (fe104 (FX104 k)):=
 fe_ok EOK HM (es:=fun k=>fes104 (FX140 k)) (fun k=>fc ⟨ok140 k,fz⟩) (N:=9) (an:=an104) (c:=cd104) (rms:=rm104) (ask:=ask104) (rsk:=rsk104) (enc:=enc104) (dec:=dec104) (tbl:=[]) (fun s=>rfl) Tryz.func104 (by kernel_rfl) (by kernel_rfl) (by kernel_rfl) (fun k=>les104)
  (fz) (fun k s0=> .nil)
  (F:=fun k s=>FX104 k s.1.1) (fun k s r h=>(e104 (FX140 k) s).trans (b104 k s.1.1 r h)) k
theorem b49 (k:Nat) (x0:Int):LeO (FX49 k x0) (B49 (FX104 k) x0):=by
 show LeO (All.galoisref02_FromInt.f k x0) _
 unfold All.galoisref02_FromInt.f;unfold B49;(try simp only [FX104,All.integer_zero.f,All.exact_stepAt.f,All.S24.f0,All.S24.f1,All.rd_T24,All.z24]);exact BR
theorem ok49 (k:Nat):FeOk Tryz.prog (fe49 (FX49 k)):=
 fe_ok EOK HM (es:=fun k=>fes49 (FX104 k)) (fun k=>fc ⟨ok104 k,fz⟩) (N:=16) (an:=an49) (c:=cd49) (rms:=rm49) (ask:=ask49) (rsk:=rsk49) (enc:=enc49) (dec:=dec49) (tbl:=[]) (fun s=>rfl) Tryz.func49 (by kernel_rfl) (by kernel_rfl) (by kernel_rfl) (fun k=>les49)
  (fz) (fun k s0=> .nil)
  (F:=fun k s=>FX49 k s.1.1) (fun k s r h=>(e49 (FX104 k) s).trans (b49 k s.1.1 r h)) k
theorem ok142 (k:Nat):FeOk Tryz.prog (fe142 (FX142 k)):=
 fe_ok EOK HM (es:=fun k=>fes142) (fun k=>fz) (N:=21) (an:=an142) (c:=cd142) (rms:=rm142) (ask:=ask142) (rsk:=rsk142) (enc:=enc142) (dec:=dec142) (tbl:=[p142.getD 0 ⟨0,[], .skip⟩]) (fun s=>rfl) Tryz.func142 (by kernel_rfl) (by kernel_rfl) (by kernel_rfl) (fun k=>les142 (GX142l0 k))
  (fc ⟨fun s=>by show ite _ _ _=none;split<;>rfl,fz⟩) (fun k s0=> .cons (by kernel_rfl) (by kernel_rfl) (fun s r h=>(e142l0 (GX142l0 k) s0 s).trans (b142l0 k s.1.1 s.2.1 r h)) (.nil))
  (F:=fun k s=>FX142 k s.2.1) (fun k s r h=>(e142 (GX142l0 k) s).trans (b142 k s.2.1 r h)) k
noncomputable abbrev GX141l0 (k:Nat) (x0:ByteArray) (x4:Int) (x3:(List Int)):Option R141:=All.galoisref01_limbs.l0 k x0 x3 x4
noncomputable abbrev GX141l1 (k:Nat) (x0:ByteArray) (x4:Int) (x5:Int) (x6:Int) (x3:(List Int)):Option R141:=All.galoisref01_limbs.l1 k x0 x3 x4 x5 x6
theorem b141l0 (k:Nat) (x0:ByteArray) (x4:Int) (x3:(List Int)):LeO (All.galoisref01_limbs.l0 (k+1) x0 x3 x4) (B141l0 (GX141l1 k) (FX142 k) x0 x4 x3):=by rw [All.galoisref01_limbs.l0];unfold B141l0;(try simp only [GX141l0,GX141l1,FX142,All.integer_zero.f,All.exact_stepAt.f,All.S24.f0,All.S24.f1,All.rd_T24,All.z24]);exact BR
theorem b141l1 (k:Nat) (x0:ByteArray) (x4:Int) (x5:Int) (x6:Int) (x3:(List Int)):LeO (All.galoisref01_limbs.l1 (k+1) x0 x3 x4 x5 x6) (B141l1 (GX141l0 k) (GX141l1 k) x0 x4 x5 x6 x3):=by rw [All.galoisref01_limbs.l1];unfold B141l1;(try simp only [GX141l0,GX141l1,FX142,All.integer_zero.f,All.exact_stepAt.f,All.S24.f0,All.S24.f1,All.rd_T24,All.z24]);exact BR
theorem b141 (k:Nat) (x0:ByteArray):LeO (FX141 k x0) (B141 (GX141l0 k) x0):=by
 show LeO (All.galoisref01_limbs.f k x0) _
 unfold All.galoisref01_limbs.f;unfold B141;(try simp only [GX141l0,GX141l1,FX142,All.integer_zero.f,All.exact_stepAt.f,All.S24.f0,All.S24.f1,All.rd_T24,All.z24]);exact BR
theorem ok141 (k:Nat):FeOk Tryz.prog (fe141 (FX141 k)):=
 fe_ok EOK HM (es:=fun k=>fes141 (FX142 k)) (fun k=>fc ⟨ok142 k,fz⟩) (N:=34) (an:=an141) (c:=cd141) (rms:=rm141) (ask:=ask141) (rsk:=rsk141) (enc:=enc141) (dec:=dec141) (tbl:=[p141.getD 0 ⟨0,[], .skip⟩,p141.getD 1 ⟨0,[], .skip⟩]) (fun s=>rfl) Tryz.func141 (by kernel_rfl) (by kernel_rfl) (by kernel_rfl) (fun k=>les141 (GX141l0 k) (GX141l1 k))
  (fc ⟨fun s=>rfl,fc ⟨fun s=>rfl,fz⟩⟩) (fun k s0=> .cons (by kernel_rfl) (by kernel_rfl) (fun s r h=>(e141l0 (GX141l0 k) (GX141l1 k) (FX142 k) s0 s).trans (b141l0 k s.1.1 s.1.2.1 s.2.1 r h)) (.cons (by kernel_rfl) (by kernel_rfl) (fun s r h=>(e141l1 (GX141l0 k) (GX141l1 k) (FX142 k) s0 s).trans (b141l1 k s.1.1 s.1.2.1 s.1.2.2.1 s.1.2.2.2.1 s.2.1 r h)) (.nil)))
  (F:=fun k s=>FX141 k s.1.1) (fun k s r h=>(e141 (GX141l0 k) (GX141l1 k) (FX142 k) s).trans (b141 k s.1.1 r h)) k
theorem ok150 (k:Nat):FeOk Tryz.prog (fe150 (FX150 k)):=
 fe_ok EOK HM (es:=fun k=>fes150 (FX142 k)) (fun k=>fc ⟨ok142 k,fz⟩) (N:=43) (an:=an150) (c:=cd150) (rms:=rm150) (ask:=ask150) (rsk:=rsk150) (enc:=enc150) (dec:=dec150) (tbl:=[p150.getD 0 ⟨0,[], .skip⟩]) (fun s=>rfl) Tryz.func150 (by kernel_rfl) (by kernel_rfl) (by kernel_rfl) (fun k=>les150 (GX150l0 k))
  (fc ⟨fun s=>by show ite _ _ _=none;split<;>rfl,fz⟩) (fun k s0=> .cons (by kernel_rfl) (by kernel_rfl) (fun s r h=>(e150l0 (GX150l0 k) (FX142 k) s0 s).trans (b150l0 k s.1.1 s.1.2.1 s.1.2.2.1 s.2.1 r h)) (.nil))
  (F:=fun k s=>FX150 k s.1.1 s.2.1) (fun k s r h=>(e150 (GX150l0 k) (FX142 k) s).trans (b150 k s.1.1 s.2.1 r h)) k
noncomputable abbrev GX118l0 (k:Nat) (x7:(List Int)) (x8:Int) (x11:Int) (x9:(List Int)) (x10:(List Int)):Option R118:=All.galoisref01_DivMod.l0 k x7 x8 x9 x10 x11
noncomputable abbrev GX118l1 (k:Nat) (x7:(List Int)) (x8:Int) (x11:Int) (x9:(List Int)) (x10:(List Int)):Option R118:=All.galoisref01_DivMod.l1 k x7 x8 x9 x10 x11
noncomputable abbrev GX118l2 (k:Nat) (x7:(List Int)) (x8:Int) (x11:Int) (x12:Int) (x13:Int) (x14:Int) (x9:(List Int)) (x10:(List Int)):Option R118:=All.galoisref01_DivMod.l2 k x7 x8 x9 x10 x11 x12 x13 x14
theorem b118l0 (k:Nat) (x7:(List Int)) (x8:Int) (x11:Int) (x9:(List Int)) (x10:(List Int)):LeO (All.galoisref01_DivMod.l0 (k+1) x7 x8 x9 x10 x11) (B118l0 (GX118l1 k) (FX140 k) x7 x8 x11 x9 x10):=by rw [All.galoisref01_DivMod.l0];unfold B118l0;(try simp only [GX118l0,GX118l1,GX118l2,FX140,FX141,FX150,All.integer_zero.f,All.exact_stepAt.f,All.S24.f0,All.S24.f1,All.rd_T24,All.z24]);exact BR
theorem b118l1 (k:Nat) (x7:(List Int)) (x8:Int) (x11:Int) (x9:(List Int)) (x10:(List Int)):LeO (All.galoisref01_DivMod.l1 (k+1) x7 x8 x9 x10 x11) (B118l1 (GX118l0 k) (GX118l2 k) (FX150 k) x7 x8 x11 x9 x10):=by rw [All.galoisref01_DivMod.l1];unfold B118l1;(try simp only [GX118l0,GX118l1,GX118l2,FX140,FX141,FX150,All.integer_zero.f,All.exact_stepAt.f,All.S24.f0,All.S24.f1,All.rd_T24,All.z24]);exact BR
theorem b118l2 (k:Nat) (x7:(List Int)) (x8:Int) (x11:Int) (x12:Int) (x13:Int) (x14:Int) (x9:(List Int)) (x10:(List Int)):LeO (All.galoisref01_DivMod.l2 (k+1) x7 x8 x9 x10 x11 x12 x13 x14) (B118l2 (GX118l1 k) (GX118l2 k) x7 x8 x11 x12 x13 x14 x9 x10):=by rw [All.galoisref01_DivMod.l2];unfold B118l2;(try simp only [GX118l0,GX118l1,GX118l2,FX140,FX141,FX150,All.integer_zero.f,All.exact_stepAt.f,All.S24.f0,All.S24.f1,All.rd_T24,All.z24]);exact BR
theorem b118 (k:Nat) (x0:ByteArray) (x1:ByteArray):LeO (FX118 k x0 x1) (B118 (GX118l0 k) (FX141 k) x0 x1):=by
 show LeO (All.galoisref01_DivMod.f k x0 x1) _
 unfold All.galoisref01_DivMod.f;unfold B118;(try simp only [GX118l0,GX118l1,GX118l2,FX140,FX141,FX150,All.integer_zero.f,All.exact_stepAt.f,All.S24.f0,All.S24.f1,All.rd_T24,All.z24]);exact BR
theorem ok118 (k:Nat):FeOk Tryz.prog (fe118 (FX118 k)):=
 fe_ok EOK HM (es:=fun k=>fes118 (FX140 k) (FX141 k) (FX150 k)) (fun k=>fc ⟨ok140 k,fc ⟨ok141 k,fc ⟨ok150 k,fz⟩⟩⟩) (N:=148) (an:=an118) (c:=cd118) (rms:=rm118) (ask:=ask118) (rsk:=rsk118) (enc:=enc118) (dec:=dec118) (tbl:=[p118.getD 0 ⟨0,[], .skip⟩,p118.getD 1 ⟨0,[], .skip⟩,p118.getD 2 ⟨0,[], .skip⟩]) (fun s=>rfl) Tryz.func118 (by kernel_rfl) (by kernel_rfl) (by kernel_rfl) (fun k=>les118 (GX118l0 k) (GX118l1 k) (GX118l2 k))
  (fc ⟨fun s=>rfl,fc ⟨fun s=>rfl,fc ⟨fun s=>rfl,fz⟩⟩⟩) (fun k s0=> .cons (by kernel_rfl) (by kernel_rfl) (fun s r h=>(e118l0 (GX118l0 k) (GX118l1 k) (GX118l2 k) (FX140 k) (FX141 k) (FX150 k) s0 s).trans (b118l0 k s.1.1 s.1.2.1 s.1.2.2.1 s.2.1 s.2.2.1 r h)) (.cons (by kernel_rfl) (by kernel_rfl) (fun s r h=>(e118l1 (GX118l0 k) (GX118l1 k) (GX118l2 k) (FX140 k) (FX141 k) (FX150 k) s0 s).trans (b118l1 k s.1.1 s.1.2.1 s.1.2.2.1 s.2.1 s.2.2.1 r h)) (.cons (by kernel_rfl) (by kernel_rfl) (fun s r h=>(e118l2 (GX118l0 k) (GX118l1 k) (GX118l2 k) (FX140 k) (FX141 k) (FX150 k) s0 s).trans (b118l2 k s.1.1 s.1.2.1 s.1.2.2.1 s.1.2.2.2.1 s.1.2.2.2.2.1 s.1.2.2.2.2.2.1 s.2.1 s.2.2.1 r h)) (.nil))))
  (F:=fun k s=>FX118 k s.1.1 s.1.2.1) (fun k s r h=>(e118 (GX118l0 k) (GX118l1 k) (GX118l2 k) (FX140 k) (FX141 k) (FX150 k) s).trans (b118 k s.1.1 s.1.2.1 r h)) k
noncomputable abbrev GX64l0 (k:Nat) (x0:ByteArray) (x1:ByteArray):Option R64:=All.galoisref01_Gcd.l0 k x0 x1
theorem b64l0 (k:Nat) (x0:ByteArray) (x1:ByteArray):LeO (All.galoisref01_Gcd.l0 (k+1) x0 x1) (B64l0 (GX64l0 k) (FX118 k) x0 x1):=by rw [All.galoisref01_Gcd.l0];unfold B64l0;(try simp only [GX64l0,FX118,All.integer_zero.f,All.exact_stepAt.f,All.S24.f0,All.S24.f1,All.rd_T24,All.z24]);exact BR
theorem b64 (k:Nat) (x0:ByteArray) (x1:ByteArray):LeO (FX64 k x0 x1) (B64 (GX64l0 k) x0 x1):=by
 show LeO (All.galoisref01_Gcd.f k x0 x1) _
 unfold All.galoisref01_Gcd.f;unfold B64;(try simp only [GX64l0,FX118,All.integer_zero.f,All.exact_stepAt.f,All.S24.f0,All.S24.f1,All.rd_T24,All.z24]);exact BR
theorem ok64 (k:Nat):FeOk Tryz.prog (fe64 (FX64 k)):=
 fe_ok EOK HM (es:=fun k=>fes64 (FX118 k)) (fun k=>fc ⟨ok118 k,fz⟩) (N:=18) (an:=an64) (c:=cd64) (rms:=rm64) (ask:=ask64) (rsk:=rsk64) (enc:=enc64) (dec:=dec64) (tbl:=[p64.getD 0 ⟨0,[], .skip⟩]) (fun s=>rfl) Tryz.func64 (by kernel_rfl) (by kernel_rfl) (by kernel_rfl) (fun k=>les64 (GX64l0 k))
  (fc ⟨fun s=>rfl,fz⟩) (fun k s0=> .cons (by kernel_rfl) (by kernel_rfl) (fun s r h=>(e64l0 (GX64l0 k) (FX118 k) s0 s).trans (b64l0 k s.1.1 s.1.2.1 r h)) (.nil))
  (F:=fun k s=>FX64 k s.1.1 s.1.2.1) (fun k s r h=>(e64 (GX64l0 k) (FX118 k) s).trans (b64 k s.1.1 s.1.2.1 r h)) k
theorem b123 (k:Nat) (x0:Bool) (x1:ByteArray):LeO (FX123 k x0 x1) (B123 x0 x1):=by
 show LeO (All.galoisref02_Make.f x0 x1) _
 unfold All.galoisref02_Make.f;unfold B123;(try simp only [All.integer_zero.f,All.exact_stepAt.f,All.S24.f0,All.S24.f1,All.rd_T24,All.z24]);exact BR
theorem ok123 (k:Nat):FeOk Tryz.prog (fe123 (FX123 k)):=
 fe_ok EOK HM (es:=fun k=>fes123) (fun k=>fz) (N:=12) (an:=an123) (c:=cd123) (rms:=rm123) (ask:=ask123) (rsk:=rsk123) (enc:=enc123) (dec:=dec123) (tbl:=[]) (fun s=>rfl) Tryz.func123 (by kernel_rfl) (by kernel_rfl) (by kernel_rfl) (fun k=>les123)
  (fz) (fun k s0=> .nil)
  (F:=fun k s=>FX123 k s.1.1 s.1.2.1) (fun k s r h=>(e123 s).trans (b123 k s.1.1 s.1.2.1 r h)) k
theorem b90 (k:Nat) (x0:TI) (x1:TI):LeO (FX90 k x0 x1) (B90 (FX64 k) (FX118 k) (FX123 k) x0 x1):=LeO.refl _
theorem ok90 (k:Nat):FeOk Tryz.prog (fe90 (FX90 k)):=
 fe_ok EOK HM (es:=fun k=>fes90 (FX64 k) (FX118 k) (FX123 k)) (fun k=>fc ⟨ok64 k,fc ⟨ok118 k,fc ⟨ok123 k,fz⟩⟩⟩) (N:=42) (an:=an90) (c:=cd90) (rms:=rm90) (ask:=ask90) (rsk:=rsk90) (enc:=enc90) (dec:=dec90) (tbl:=[]) (fun s=>rfl) Tryz.func90 (by kernel_rfl) (by kernel_rfl) (by kernel_rfl) (fun k=>les90)
  (fz) (fun k s0=> .nil)
  (F:=fun k s=>FX90 k s.1.1 s.1.2.1) (fun k s r h=>(e90 (FX64 k) (FX118 k) (FX123 k) s).trans (b90 k s.1.1 s.1.2.1 r h)) k
theorem b69 (k:Nat) (x0:Int) (x1:Int):LeO (FX69 k x0 x1) (B69 (FX49 k) (FX90 k) x0 x1):=LeO.refl _
theorem ok69 (k:Nat):FeOk Tryz.prog (fe69 (FX69 k)):=
 fe_ok EOK HM (es:=fun k=>fes69 (FX49 k) (FX90 k)) (fun k=>fc ⟨ok49 k,fc ⟨ok90 k,fz⟩⟩) (N:=10) (an:=an69) (c:=cd69) (rms:=rm69) (ask:=ask69) (rsk:=rsk69) (enc:=enc69) (dec:=dec69) (tbl:=[]) (fun s=>rfl) Tryz.func69 (by kernel_rfl) (by kernel_rfl) (by kernel_rfl) (fun k=>les69)
  (fz) (fun k s0=> .nil)
  (F:=fun k s=>FX69 k s.1.1 s.1.2.1) (fun k s r h=>(e69 (FX49 k) (FX90 k) s).trans (b69 k s.1.1 s.1.2.1 r h)) k
theorem b30 (k:Nat) (x0:Int) (x1:Int):LeO (FX30 k x0 x1) (B30 (FX69 k) x0 x1):=LeO.refl _
theorem ok30 (k:Nat):FeOk Tryz.prog (fe30 (FX30 k)):=
 fe_ok EOK HM (es:=fun k=>fes30 (FX69 k)) (fun k=>fc ⟨ok69 k,fz⟩) (N:=8) (an:=an30) (c:=cd30) (rms:=rm30) (ask:=ask30) (rsk:=rsk30) (enc:=enc30) (dec:=dec30) (tbl:=[]) (fun s=>rfl) Tryz.func30 (by kernel_rfl) (by kernel_rfl) (by kernel_rfl) (fun k=>les30)
  (fz) (fun k s0=> .nil)
  (F:=fun k s=>FX30 k s.1.1 s.1.2.1) (fun k s r h=>(e30 (FX69 k) s).trans (b30 k s.1.1 s.1.2.1 r h)) k
theorem b168 (k:Nat) (x0:ByteArray) (x1:Int):LeO (FX168 k x0 x1) (B168 (FX172 k) x0 x1):=LeO.refl _
theorem ok168 (k:Nat):FeOk Tryz.prog (fe168 (FX168 k)):=
 fe_ok EOK HM (es:=fun k=>fes168 (FX172 k)) (fun k=>fc ⟨ok172 k,fz⟩) (N:=8) (an:=an168) (c:=cd168) (rms:=rm168) (ask:=ask168) (rsk:=rsk168) (enc:=enc168) (dec:=dec168) (tbl:=[]) (fun s=>rfl) Tryz.func168 (by kernel_rfl) (by kernel_rfl) (by kernel_rfl) (fun k=>les168)
  (fz) (fun k s0=> .nil)
  (F:=fun k s=>FX168 k s.1.1 s.1.2.1) (fun k s r h=>(e168 (FX172 k) s).trans (b168 k s.1.1 s.1.2.1 r h)) k
theorem b158 (k:Nat) (x0:ByteArray) (x1:ByteArray):LeO (FX158 k x0 x1) (B158 (FX168 k) x0 x1):=LeO.refl _
theorem ok158 (k:Nat):FeOk Tryz.prog (fe158 (FX158 k)):=
 fe_ok EOK HM (es:=fun k=>fes158 (FX168 k)) (fun k=>fc ⟨ok168 k,fz⟩) (N:=143) (an:=an158) (c:=cd158) (rms:=rm158) (ask:=ask158) (rsk:=rsk158) (enc:=enc158) (dec:=dec158) (tbl:=[p158.getD 0 ⟨0,[], .skip⟩]) (fun s=>rfl) Tryz.func158 (by kernel_rfl) (by kernel_rfl) (by kernel_rfl) (fun k=>les158 (GX158l0 k))
  (fc ⟨fun s=>rfl,fz⟩) (fun k s0=> .cons (by kernel_rfl) (by kernel_rfl) (fun s r h=>nomatch h) (.nil))
  (F:=fun k s=>FX158 k s.1.1 s.1.2.1) (fun k s r h=>(e158 (GX158l0 k) (FX168 k) s).trans (b158 k s.1.1 s.1.2.1 r h)) k
theorem b137 (k:Nat) (x0:ByteArray) (x1:ByteArray):LeO (FX137 k x0 x1) (B137 (FX158 k) x0 x1):=LeO.refl _
theorem ok137 (k:Nat):FeOk Tryz.prog (fe137 (FX137 k)):=
 fe_ok EOK HM (es:=fun k=>fes137 (FX158 k)) (fun k=>fc ⟨ok158 k,fz⟩) (N:=23) (an:=an137) (c:=cd137) (rms:=rm137) (ask:=ask137) (rsk:=rsk137) (enc:=enc137) (dec:=dec137) (tbl:=[]) (fun s=>rfl) Tryz.func137 (by kernel_rfl) (by kernel_rfl) (by kernel_rfl) (fun k=>les137)
  (fz) (fun k s0=> .nil)
  (F:=fun k s=>FX137 k s.1.1 s.1.2.1) (fun k s r h=>(e137 (FX158 k) s).trans (b137 k s.1.1 s.1.2.1 r h)) k
theorem b96 (k:Nat) (x0:ByteArray) (x1:ByteArray):LeO (FX96 k x0 x1) (B96 (FX137 k) x0 x1):=LeO.refl _
theorem ok96 (k:Nat):FeOk Tryz.prog (fe96 (FX96 k)):=
 fe_ok EOK HM (es:=fun k=>fes96 (FX137 k)) (fun k=>fc ⟨ok137 k,fz⟩) (N:=13) (an:=an96) (c:=cd96) (rms:=rm96) (ask:=ask96) (rsk:=rsk96) (enc:=enc96) (dec:=dec96) (tbl:=[]) (fun s=>rfl) Tryz.func96 (by kernel_rfl) (by kernel_rfl) (by kernel_rfl) (fun k=>les96)
  (fz) (fun k s0=> .nil)
  (F:=fun k s=>FX96 k s.1.1 s.1.2.1) (fun k s r h=>(e96 (FX137 k) s).trans (b96 k s.1.1 s.1.2.1 r h)) k
theorem b139 (k:Nat) (x0:ByteArray):LeO (FX139 k x0) (B139 x0):=by
 show LeO (All.natural_bounded.f x0) _
 unfold All.natural_bounded.f;unfold B139;(try simp only [All.integer_zero.f,All.exact_stepAt.f,All.S24.f0,All.S24.f1,All.rd_T24,All.z24]);exact BR
theorem ok139 (k:Nat):FeOk Tryz.prog (fe139 (FX139 k)):=
 fe_ok EOK HM (es:=fun k=>fes139) (fun k=>fz) (N:=8) (an:=an139) (c:=cd139) (rms:=rm139) (ask:=ask139) (rsk:=rsk139) (enc:=enc139) (dec:=dec139) (tbl:=[]) (fun s=>rfl) Tryz.func139 (by kernel_rfl) (by kernel_rfl) (by kernel_rfl) (fun k=>les139)
  (fz) (fun k s0=> .nil)
  (F:=fun k s=>FX139 k s.1.1) (fun k s r h=>(e139 s).trans (b139 k s.1.1 r h)) k
noncomputable abbrev GX98l0 (k:Nat) (x0:ByteArray) (x26:Int) (x27:Int):Option R98:=All.natural_Parse.l0 k x0 x26 x27
noncomputable abbrev GX98l1 (k:Nat) (x0:ByteArray) (x5:ByteArray) (x6:Int):Option R98:=All.natural_Parse.l1 k x0 x5 x6
noncomputable abbrev GX98l2 (k:Nat) (x0:ByteArray) (x5:ByteArray) (x6:Int) (x7:Int) (x8:Int) (x9:Int):Option R98:=All.natural_Parse.l2 k x0 x5 x6 x7 x8 x9
theorem b98l0 (k:Nat) (x0:ByteArray) (x26:Int) (x27:Int):LeO (All.natural_Parse.l0 (k+1) x0 x26 x27) (B98l0 (GX98l0 k) (GX98l1 k) x0 x26 x27):=by
 rw [All.natural_Parse.l0]
 unfold B98l0
 (try simp only [GX98l0,GX98l1,GX98l2,FX109,FX135,FX138,FX139,All.integer_zero.f,All.exact_stepAt.f,All.S24.f0,All.S24.f1,All.rd_T24,All.z24])
 (try simp only [List.take_append_drop,List.drop_length,List.append_nil,Int.zero_sub,Int.toNat_natCast,Int.reduceToNat,Int.zero_add,List.take_zero,List.nil_append,List.append_assoc,List.length_set,ite_bind_,List.take_left,BAe,bne,decide_int_eq,decide_not,wrap_mod,if_true,if_false,Bool.false_eq_true,bind_assoc_,slice_def,List.drop_zero,List.take_length,wrap_u8,bind_some_,cnd_eq_if,rdOf,ite_not,Bool.and_eq_true,Bool.or_eq_true,Bool.not_eq_true',bfalse,Bool.not_eq_false',beq_iff_eq,decide_eq_true_eq,isEmpty_eq,ite_and_,ite_or_,ne_eq,toList_mk,List.toList_toArray])
 repeat' first
 | (with_reducible refine LeO.trans ((All.natural_Parse.mono_l k).1 _ _) ?_;rw [All.natural_Parse.j0];(try simp only [if_true,if_false,decide_eq_true_eq,Bool.false_eq_true,decide_not,ite_not,bne,decide_int_eq,beq_iff_eq,Bool.not_eq_true',bfalse,toList_mk,List.toList_toArray,ite_and_,ite_or_,Bool.and_eq_true,Bool.or_eq_true,isEmpty_eq,wrap_mod,wrap_u8,All.integer_zero.f,bind_some_,Int.toNat_natCast,Int.reduceToNat,Int.zero_sub,BAe]))
 | (with_reducible exact LeO.none _)
 | (with_reducible exact LeO.refl _)
 | (with_reducible refine LeO.posR (by with_reducible assumption) ?_)
 | (with_reducible refine LeO.negR (by with_reducible assumption) ?_)
 | (with_reducible refine LeO.bindR (by with_reducible assumption) ?_)
 | (with_reducible refine LeO.posL (by with_reducible assumption) ?_)
 | (with_reducible refine LeO.negL (by with_reducible assumption) ?_)
 | (with_reducible refine LeO.iteL (fun _=>?_) (fun _=>?_))
 | (with_reducible refine LeO.bindK (by with_reducible assumption) ?_)
 | (with_reducible refine LeO.bindL (fun _ _=>?_))
 | (refine LeO.posR (by first|decide|exact Int.le_refl _|omega|assumption) ?_)
 | (refine LeO.negR (by first|decide|omega) ?_)
theorem b98l1 (k:Nat) (x0:ByteArray) (x5:ByteArray) (x6:Int):LeO (All.natural_Parse.l1 (k+1) x0 x5 x6) (B98l1 (GX98l2 k) (FX139 k) x0 x5 x6):=by
 rw [All.natural_Parse.l1]
 unfold B98l1
 (try simp only [GX98l0,GX98l1,GX98l2,FX109,FX135,FX138,FX139,All.integer_zero.f,All.exact_stepAt.f,All.S24.f0,All.S24.f1,All.rd_T24,All.z24])
 (try simp only [List.take_append_drop,List.drop_length,List.append_nil,Int.zero_sub,Int.toNat_natCast,Int.reduceToNat,Int.zero_add,List.take_zero,List.nil_append,List.append_assoc,List.length_set,ite_bind_,List.take_left,BAe,bne,decide_int_eq,decide_not,wrap_mod,if_true,if_false,Bool.false_eq_true,bind_assoc_,slice_def,List.drop_zero,List.take_length,wrap_u8,bind_some_,cnd_eq_if,rdOf,ite_not,Bool.and_eq_true,Bool.or_eq_true,Bool.not_eq_true',bfalse,Bool.not_eq_false',beq_iff_eq,decide_eq_true_eq,isEmpty_eq,ite_and_,ite_or_,ne_eq,toList_mk,List.toList_toArray])
 repeat' first
 | (with_reducible refine LeO.trans ((All.natural_Parse.mono_l k).1 _ _) ?_;rw [All.natural_Parse.j0];(try simp only [if_true,if_false,decide_eq_true_eq,Bool.false_eq_true,decide_not,ite_not,bne,decide_int_eq,beq_iff_eq,Bool.not_eq_true',bfalse,toList_mk,List.toList_toArray,ite_and_,ite_or_,Bool.and_eq_true,Bool.or_eq_true,isEmpty_eq,wrap_mod,wrap_u8,All.integer_zero.f,bind_some_,Int.toNat_natCast,Int.reduceToNat,Int.zero_sub,BAe]))
 | (with_reducible exact LeO.none _)
 | (with_reducible exact LeO.refl _)
 | (with_reducible refine LeO.posR (by with_reducible assumption) ?_)
 | (with_reducible refine LeO.negR (by with_reducible assumption) ?_)
 | (with_reducible refine LeO.bindR (by with_reducible assumption) ?_)
 | (with_reducible refine LeO.posL (by with_reducible assumption) ?_)
 | (with_reducible refine LeO.negL (by with_reducible assumption) ?_)
 | (with_reducible refine LeO.iteL (fun _=>?_) (fun _=>?_))
 | (with_reducible refine LeO.bindK (by with_reducible assumption) ?_)
 | (with_reducible refine LeO.bindL (fun _ _=>?_))
 | (refine LeO.posR (by first|decide|exact Int.le_refl _|omega|assumption) ?_)
 | (refine LeO.negR (by first|decide|omega) ?_)
theorem b98l2 (k:Nat) (x0:ByteArray) (x5:ByteArray) (x6:Int) (x7:Int) (x8:Int) (x9:Int):LeO (All.natural_Parse.l2 (k+1) x0 x5 x6 x7 x8 x9) (B98l2 (GX98l1 k) (GX98l2 k) (FX109 k) (FX135 k) (FX138 k) x0 x5 x6 x7 x8 x9):=by
 rw [All.natural_Parse.l2]
 unfold B98l2
 (try simp only [GX98l0,GX98l1,GX98l2,FX109,FX135,FX138,FX139,All.integer_zero.f,All.exact_stepAt.f,All.S24.f0,All.S24.f1,All.rd_T24,All.z24])
 (try simp only [List.take_append_drop,List.drop_length,List.append_nil,Int.zero_sub,Int.toNat_natCast,Int.reduceToNat,Int.zero_add,List.take_zero,List.nil_append,List.append_assoc,List.length_set,ite_bind_,List.take_left,BAe,bne,decide_int_eq,decide_not,wrap_mod,if_true,if_false,Bool.false_eq_true,bind_assoc_,slice_def,List.drop_zero,List.take_length,wrap_u8,bind_some_,cnd_eq_if,rdOf,ite_not,Bool.and_eq_true,Bool.or_eq_true,Bool.not_eq_true',bfalse,Bool.not_eq_false',beq_iff_eq,decide_eq_true_eq,isEmpty_eq,ite_and_,ite_or_,ne_eq,toList_mk,List.toList_toArray])
 repeat' first
 | (with_reducible refine LeO.trans ((All.natural_Parse.mono_l k).1 _ _) ?_;rw [All.natural_Parse.j0];(try simp only [if_true,if_false,decide_eq_true_eq,Bool.false_eq_true,decide_not,ite_not,bne,decide_int_eq,beq_iff_eq,Bool.not_eq_true',bfalse,toList_mk,List.toList_toArray,ite_and_,ite_or_,Bool.and_eq_true,Bool.or_eq_true,isEmpty_eq,wrap_mod,wrap_u8,All.integer_zero.f,bind_some_,Int.toNat_natCast,Int.reduceToNat,Int.zero_sub,BAe]))
 | (with_reducible exact LeO.none _)
 | (with_reducible exact LeO.refl _)
 | (with_reducible refine LeO.posR (by with_reducible assumption) ?_)
 | (with_reducible refine LeO.negR (by with_reducible assumption) ?_)
 | (with_reducible refine LeO.bindR (by with_reducible assumption) ?_)
 | (with_reducible refine LeO.posL (by with_reducible assumption) ?_)
 | (with_reducible refine LeO.negL (by with_reducible assumption) ?_)
 | (with_reducible refine LeO.iteL (fun _=>?_) (fun _=>?_))
 | (with_reducible refine LeO.bindK (by with_reducible assumption) ?_)
 | (with_reducible refine LeO.bindL (fun _ _=>?_))
 | (refine LeO.posR (by first|decide|exact Int.le_refl _|omega|assumption) ?_)
 | (refine LeO.negR (by first|decide|omega) ?_)
theorem b98 (k:Nat) (x0:ByteArray):LeO (FX98 k x0) (B98 (GX98l0 k) x0):=by
 show LeO (All.natural_Parse.f k x0) _
 unfold All.natural_Parse.f
 unfold B98
 (try simp only [GX98l0,GX98l1,GX98l2,FX109,FX135,FX138,FX139,All.integer_zero.f,All.exact_stepAt.f,All.S24.f0,All.S24.f1,All.rd_T24,All.z24])
 (try simp only [List.take_append_drop,List.drop_length,List.append_nil,Int.zero_sub,Int.toNat_natCast,Int.reduceToNat,Int.zero_add,List.take_zero,List.nil_append,List.append_assoc,List.length_set,ite_bind_,List.take_left,BAe,bne,decide_int_eq,decide_not,wrap_mod,if_true,if_false,Bool.false_eq_true,bind_assoc_,slice_def,List.drop_zero,List.take_length,wrap_u8,bind_some_,cnd_eq_if,rdOf,ite_not,Bool.and_eq_true,Bool.or_eq_true,Bool.not_eq_true',bfalse,Bool.not_eq_false',beq_iff_eq,decide_eq_true_eq,isEmpty_eq,ite_and_,ite_or_,ne_eq,toList_mk,List.toList_toArray])
 repeat' first
 | (with_reducible refine LeO.trans ((All.natural_Parse.mono_l k).1 _ _) ?_;rw [All.natural_Parse.j0];(try simp only [if_true,if_false,decide_eq_true_eq,Bool.false_eq_true,decide_not,ite_not,bne,decide_int_eq,beq_iff_eq,Bool.not_eq_true',bfalse,toList_mk,List.toList_toArray,ite_and_,ite_or_,Bool.and_eq_true,Bool.or_eq_true,isEmpty_eq,wrap_mod,wrap_u8,All.integer_zero.f,bind_some_,Int.toNat_natCast,Int.reduceToNat,Int.zero_sub,BAe]))
 | (with_reducible exact LeO.none _)
 | (with_reducible exact LeO.refl _)
 | (with_reducible refine LeO.posR (by with_reducible assumption) ?_)
 | (with_reducible refine LeO.negR (by with_reducible assumption) ?_)
 | (with_reducible refine LeO.bindR (by with_reducible assumption) ?_)
 | (with_reducible refine LeO.posL (by with_reducible assumption) ?_)
 | (with_reducible refine LeO.negL (by with_reducible assumption) ?_)
 | (with_reducible refine LeO.iteL (fun _=>?_) (fun _=>?_))
 | (with_reducible refine LeO.bindK (by with_reducible assumption) ?_)
 | (with_reducible refine LeO.bindL (fun _ _=>?_))
 | (refine LeO.posR (by first|decide|exact Int.le_refl _|omega|assumption) ?_)
 | (refine LeO.negR (by first|decide|omega) ?_)
theorem ok98 (k:Nat):FeOk Tryz.prog (fe98 (FX98 k)):=
 fe_ok EOK HM (es:=fun k=>fes98 (FX109 k) (FX135 k) (FX138 k) (FX139 k)) (fun k=>fc ⟨ok109 k,fc ⟨ok135 k,fc ⟨ok138 k,fc ⟨ok139 k,fz⟩⟩⟩⟩) (N:=76) (an:=an98) (c:=cd98) (rms:=rm98) (ask:=ask98) (rsk:=rsk98) (enc:=enc98) (dec:=dec98) (tbl:=[p98.getD 0 ⟨0,[], .skip⟩,p98.getD 1 ⟨0,[], .skip⟩,p98.getD 2 ⟨0,[], .skip⟩]) (fun s=>rfl) Tryz.func98 (by kernel_rfl) (by kernel_rfl) (by kernel_rfl) (fun k=>les98 (GX98l0 k) (GX98l1 k) (GX98l2 k))
  (fc ⟨fun s=>rfl,fc ⟨fun s=>rfl,fc ⟨fun s=>rfl,fz⟩⟩⟩) (fun k s0=> .cons (by kernel_rfl) (by kernel_rfl) (fun s r h=>(e98l0 (GX98l0 k) (GX98l1 k) (GX98l2 k) (FX109 k) (FX135 k) (FX138 k) (FX139 k) s0 s).trans (b98l0 k s.1.1 s.1.2.1 s.1.2.2.1 r h)) (.cons (by kernel_rfl) (by kernel_rfl) (fun s r h=>(e98l1 (GX98l0 k) (GX98l1 k) (GX98l2 k) (FX109 k) (FX135 k) (FX138 k) (FX139 k) s0 s).trans (b98l1 k s.1.1 s.1.2.1 s.1.2.2.1 r h)) (.cons (by kernel_rfl) (by kernel_rfl) (fun s r h=>(e98l2 (GX98l0 k) (GX98l1 k) (GX98l2 k) (FX109 k) (FX135 k) (FX138 k) (FX139 k) s0 s).trans (b98l2 k s.1.1 s.1.2.1 s.1.2.2.1 s.1.2.2.2.1 s.1.2.2.2.2.1 s.1.2.2.2.2.2.1 r h)) (.nil))))
  (F:=fun k s=>FX98 k s.1.1) (fun k s r h=>(e98 (GX98l0 k) (GX98l1 k) (GX98l2 k) (FX109 k) (FX135 k) (FX138 k) (FX139 k) s).trans (b98 k s.1.1 r h)) k
theorem b97 (k:Nat) (x0:ByteArray):LeO (FX97 k x0) (B97 (FX98 k) (FX128 k) x0):=by
 show LeO (All.integer_Parse.f k x0) _
 unfold All.integer_Parse.f
 unfold B97
 (try simp only [FX98,FX128,All.integer_zero.f,All.exact_stepAt.f,All.S24.f0,All.S24.f1,All.rd_T24,All.z24])
 (try simp only [List.take_append_drop,List.drop_length,List.append_nil,Int.zero_sub,Int.toNat_natCast,Int.reduceToNat,Int.zero_add,List.take_zero,List.nil_append,List.append_assoc,List.length_set,ite_bind_,List.take_left,BAe,bne,decide_int_eq,decide_not,wrap_mod,if_true,if_false,Bool.false_eq_true,bind_assoc_,slice_def,List.drop_zero,List.take_length,wrap_u8,bind_some_,cnd_eq_if,rdOf,ite_not,Bool.and_eq_true,Bool.or_eq_true,Bool.not_eq_true',bfalse,Bool.not_eq_false',beq_iff_eq,decide_eq_true_eq,isEmpty_eq,ite_and_,ite_or_,ne_eq,toList_mk,List.toList_toArray])
 repeat' first
 | (with_reducible refine LeO.trans ((All.integer_Parse.mono_l k).1 _ _) ?_;rw [All.integer_Parse.j0];(try simp only [if_true,if_false,decide_eq_true_eq,Bool.false_eq_true,decide_not,ite_not,bne,decide_int_eq,beq_iff_eq,Bool.not_eq_true',bfalse,toList_mk,List.toList_toArray,ite_and_,ite_or_,Bool.and_eq_true,Bool.or_eq_true,isEmpty_eq,wrap_mod,wrap_u8,All.integer_zero.f,bind_some_,Int.toNat_natCast,Int.reduceToNat,Int.zero_sub,BAe]))
 | (with_reducible refine LeO.trans ((All.integer_Parse.mono_l k).2 _ _) ?_;rw [All.integer_Parse.j1];(try simp only [if_true,if_false,decide_eq_true_eq,Bool.false_eq_true,decide_not,ite_not,bne,decide_int_eq,beq_iff_eq,Bool.not_eq_true',bfalse,toList_mk,List.toList_toArray,ite_and_,ite_or_,Bool.and_eq_true,Bool.or_eq_true,isEmpty_eq,wrap_mod,wrap_u8,All.integer_zero.f,bind_some_,Int.toNat_natCast,Int.reduceToNat,Int.zero_sub,BAe]))
 | (with_reducible exact LeO.none _)
 | (with_reducible exact LeO.refl _)
 | (with_reducible refine LeO.posR (by with_reducible assumption) ?_)
 | (with_reducible refine LeO.negR (by with_reducible assumption) ?_)
 | (with_reducible refine LeO.bindR (by with_reducible assumption) ?_)
 | (with_reducible refine LeO.posL (by with_reducible assumption) ?_)
 | (with_reducible refine LeO.negL (by with_reducible assumption) ?_)
 | (with_reducible refine LeO.iteL (fun _=>?_) (fun _=>?_))
 | (with_reducible refine LeO.bindK (by with_reducible assumption) ?_)
 | (with_reducible refine LeO.bindL (fun _ _=>?_))
 | (refine LeO.posR (by first|decide|exact Int.le_refl _|omega|assumption) ?_)
 | (refine LeO.negR (by first|decide|omega) ?_)
theorem ok97 (k:Nat):FeOk Tryz.prog (fe97 (FX97 k)):=
 fe_ok EOK HM (es:=fun k=>fes97 (FX98 k) (FX128 k)) (fun k=>fc ⟨ok98 k,fc ⟨ok128 k,fz⟩⟩) (N:=40) (an:=an97) (c:=cd97) (rms:=rm97) (ask:=ask97) (rsk:=rsk97) (enc:=enc97) (dec:=dec97) (tbl:=[]) (fun s=>rfl) Tryz.func97 (by kernel_rfl) (by kernel_rfl) (by kernel_rfl) (fun k=>les97)
  (fz) (fun k s0=> .nil)
  (F:=fun k s=>FX97 k s.1.1) (fun k s r h=>(e97 (FX98 k) (FX128 k) s).trans (b97 k s.1.1 r h)) k
theorem b45 (k:Nat) (x0:ByteArray):LeO (FX45 k x0) (B45 (FX34 k) (FX96 k) (FX97 k) (FX98 k) x0):=LeO.refl _
theorem ok45 (k:Nat):FeOk Tryz.prog (fe45 (FX45 k)):=
 fe_ok EOK HM (es:=fun k=>fes45 (FX34 k) (FX96 k) (FX97 k) (FX98 k)) (fun k=>fc ⟨ok34 k,fc ⟨ok96 k,fc ⟨ok97 k,fc ⟨ok98 k,fz⟩⟩⟩⟩) (N:=71) (an:=an45) (c:=cd45) (rms:=rm45) (ask:=ask45) (rsk:=rsk45) (enc:=enc45) (dec:=dec45) (tbl:=[]) (fun s=>rfl) Tryz.func45 (by kernel_rfl) (by kernel_rfl) (by kernel_rfl) (fun k=>les45)
  (fz) (fun k s0=> .nil)
  (F:=fun k s=>FX45 k s.1.1) (fun k s r h=>(e45 (FX34 k) (FX96 k) (FX97 k) (FX98 k) s).trans (b45 k s.1.1 r h)) k
theorem b48 (k:Nat) (x0:Int) (x1:Int):LeO (FX48 k x0 x1) (B48 (FX53 k) x0 x1):=LeO.refl _
theorem ok48 (k:Nat):FeOk Tryz.prog (fe48 (FX48 k)):=
 fe_ok EOK HM (es:=fun k=>fes48 (FX53 k)) (fun k=>fc ⟨ok53 k,fz⟩) (N:=12) (an:=an48) (c:=cd48) (rms:=rm48) (ask:=ask48) (rsk:=rsk48) (enc:=enc48) (dec:=dec48) (tbl:=[]) (fun s=>rfl) Tryz.func48 (by kernel_rfl) (by kernel_rfl) (by kernel_rfl) (fun k=>les48)
  (fz) (fun k s0=> .nil)
  (F:=fun k s=>FX48 k s.1.1 s.1.2.1) (fun k s r h=>(e48 (FX53 k) s).trans (b48 k s.1.1 s.1.2.1 r h)) k
theorem b10 (k:Nat):LeO (FX10 k) (B10 (FX12 k) (FX13 k) (FX14 k) (FX15 k) (FX25 k) (FX30 k) (FX45 k) (FX48 k) (FX49 k)):=LeO.refl _
theorem ok10 (k:Nat):FeOk Tryz.prog (fe10 (FX10 k)):=
 fe_ok EOK HM (es:=fun k=>fes10 (FX12 k) (FX13 k) (FX14 k) (FX15 k) (FX25 k) (FX30 k) (FX45 k) (FX48 k) (FX49 k)) (fun k=>fc ⟨ok12 k,fc ⟨ok13 k,fc ⟨ok14 k,fc ⟨ok15 k,fc ⟨ok25 k,fc ⟨ok30 k,fc ⟨ok45 k,fc ⟨ok48 k,fc ⟨ok49 k,fz⟩⟩⟩⟩⟩⟩⟩⟩⟩) (N:=119) (an:=an10) (c:=cd10) (rms:=rm10) (ask:=ask10) (rsk:=rsk10) (enc:=enc10) (dec:=dec10) (tbl:=[]) (fun s=>rfl) Tryz.func10 (by kernel_rfl) (by kernel_rfl) (by kernel_rfl) (fun k=>les10)
  (fz) (fun k s0=> .nil)
  (F:=fun k s=>FX10 k) (fun k s r h=>(e10 (FX12 k) (FX13 k) (FX14 k) (FX15 k) (FX25 k) (FX30 k) (FX45 k) (FX48 k) (FX49 k) s).trans (b10 k r h)) k
theorem b11 (k:Nat) (x0:TQ) (x1:TQ) (x2:Int):LeO (FX11 k x0 x1 x2) (B11 x0 x1 x2):=LeO.refl _
theorem ok11 (k:Nat):FeOk Tryz.prog (fe11 (FX11 k)):=
 fe_ok EOK HM (es:=fun k=>fes11) (fun k=>fz) (N:=35) (an:=an11) (c:=cd11) (rms:=rm11) (ask:=ask11) (rsk:=rsk11) (enc:=enc11) (dec:=dec11) (tbl:=[]) (fun s=>rfl) Tryz.func11 (by kernel_rfl) (by kernel_rfl) (by kernel_rfl) (fun k=>les11)
  (fz) (fun k s0=> .nil)
  (F:=fun k s=>FX11 k s.1.1 s.1.2.1 s.1.2.2.1) (fun k s r h=>(e11 s).trans (b11 k s.1.1 s.1.2.1 s.1.2.2.1 r h)) k
theorem b62 (k:Nat) (x0:ByteArray):LeO (FX62 k x0) (B62 x0):=by
 show LeO (All.galoisref01_Valid.f x0) _
 unfold All.galoisref01_Valid.f;unfold B62;(try simp only [All.integer_zero.f,All.exact_stepAt.f,All.S24.f0,All.S24.f1,All.rd_T24,All.z24]);exact BR
theorem ok62 (k:Nat):FeOk Tryz.prog (fe62 (FX62 k)):=
 fe_ok EOK HM (es:=fun k=>fes62) (fun k=>fz) (N:=10) (an:=an62) (c:=cd62) (rms:=rm62) (ask:=ask62) (rsk:=rsk62) (enc:=enc62) (dec:=dec62) (tbl:=[]) (fun s=>rfl) Tryz.func62 (by kernel_rfl) (by kernel_rfl) (by kernel_rfl) (fun k=>les62)
  (fz) (fun k s0=> .nil)
  (F:=fun k s=>FX62 k s.1.1) (fun k s r h=>(e62 s).trans (b62 k s.1.1 r h)) k
theorem b61 (k:Nat) (x0:TI):LeO (FX61 k x0) (B61 (FX62 k) x0):=by
 show LeO (All.galoisref02_Valid.f x0.1 x0.2) _
 unfold All.galoisref02_Valid.f;unfold B61;(try simp only [FX62,All.integer_zero.f,All.exact_stepAt.f,All.S24.f0,All.S24.f1,All.rd_T24,All.z24]);exact BR
theorem ok61 (k:Nat):FeOk Tryz.prog (fe61 (FX61 k)):=
 fe_ok EOK HM (es:=fun k=>fes61 (FX62 k)) (fun k=>fc ⟨ok62 k,fz⟩) (N:=16) (an:=an61) (c:=cd61) (rms:=rm61) (ask:=ask61) (rsk:=rsk61) (enc:=enc61) (dec:=dec61) (tbl:=[]) (fun s=>rfl) Tryz.func61 (by kernel_rfl) (by kernel_rfl) (by kernel_rfl) (fun k=>les61)
  (fz) (fun k s0=> .nil)
  (F:=fun k s=>FX61 k s.1.1) (fun k s r h=>(e61 (FX62 k) s).trans (b61 k s.1.1 r h)) k
theorem b117 (k:Nat) (x0:ByteArray):LeO (FX117 k x0) (B117 x0):=by
 show LeO (All.galoisref01_Fits.f x0) _
 unfold All.galoisref01_Fits.f;unfold B117;(try simp only [All.integer_zero.f,All.exact_stepAt.f,All.S24.f0,All.S24.f1,All.rd_T24,All.z24]);exact BR
theorem ok117 (k:Nat):FeOk Tryz.prog (fe117 (FX117 k)):=
 fe_ok EOK HM (es:=fun k=>fes117) (fun k=>fz) (N:=6) (an:=an117) (c:=cd117) (rms:=rm117) (ask:=ask117) (rsk:=rsk117) (enc:=enc117) (dec:=dec117) (tbl:=[]) (fun s=>rfl) Tryz.func117 (by kernel_rfl) (by kernel_rfl) (by kernel_rfl) (fun k=>les117)
  (fz) (fun k s0=> .nil)
  (F:=fun k s=>FX117 k s.1.1) (fun k s r h=>(e117 s).trans (b117 k s.1.1 r h)) k
theorem b65 (k:Nat) (x0:TI):LeO (FX65 k x0) (B65 (FX117 k) x0):=by
 show LeO (All.galoisref02_Fits.f x0.1 x0.2) _
 unfold All.galoisref02_Fits.f;unfold B65;(try simp only [FX117,All.integer_zero.f,All.exact_stepAt.f,All.S24.f0,All.S24.f1,All.rd_T24,All.z24]);exact BR
theorem ok65 (k:Nat):FeOk Tryz.prog (fe65 (FX65 k)):=
 fe_ok EOK HM (es:=fun k=>fes65 (FX117 k)) (fun k=>fc ⟨ok117 k,fz⟩) (N:=6) (an:=an65) (c:=cd65) (rms:=rm65) (ask:=ask65) (rsk:=rsk65) (enc:=enc65) (dec:=dec65) (tbl:=[]) (fun s=>rfl) Tryz.func65 (by kernel_rfl) (by kernel_rfl) (by kernel_rfl) (fun k=>les65)
  (fz) (fun k s0=> .nil)
  (F:=fun k s=>FX65 k s.1.1) (fun k s r h=>(e65 (FX117 k) s).trans (b65 k s.1.1 r h)) k
theorem b63 (k:Nat) (x0:TQ):LeO (FX63 k x0) (B63 (FX65 k) (FX117 k) x0):=LeO.refl _
theorem ok63 (k:Nat):FeOk Tryz.prog (fe63 (FX63 k)):=
 fe_ok EOK HM (es:=fun k=>fes63 (FX65 k) (FX117 k)) (fun k=>fc ⟨ok65 k,fc ⟨ok117 k,fz⟩⟩) (N:=10) (an:=an63) (c:=cd63) (rms:=rm63) (ask:=ask63) (rsk:=rsk63) (enc:=enc63) (dec:=dec63) (tbl:=[]) (fun s=>rfl) Tryz.func63 (by kernel_rfl) (by kernel_rfl) (by kernel_rfl) (fun k=>les63)
  (fz) (fun k s0=> .nil)
  (F:=fun k s=>FX63 k s.1.1) (fun k s r h=>(e63 (FX65 k) (FX117 k) s).trans (b63 k s.1.1 r h)) k
theorem b16 (k:Nat) (x0:TQ):LeO (FX16 k x0) (B16 (FX61 k) (FX62 k) (FX63 k) (FX64 k) x0):=LeO.refl _
theorem ok16 (k:Nat):FeOk Tryz.prog (fe16 (FX16 k)):=
 fe_ok EOK HM (es:=fun k=>fes16 (FX61 k) (FX62 k) (FX63 k) (FX64 k)) (fun k=>fc ⟨ok61 k,fc ⟨ok62 k,fc ⟨ok63 k,fc ⟨ok64 k,fz⟩⟩⟩⟩) (N:=28) (an:=an16) (c:=cd16) (rms:=rm16) (ask:=ask16) (rsk:=rsk16) (enc:=enc16) (dec:=dec16) (tbl:=[]) (fun s=>rfl) Tryz.func16 (by kernel_rfl) (by kernel_rfl) (by kernel_rfl) (fun k=>les16)
  (fz) (fun k s0=> .nil)
  (F:=fun k s=>FX16 k s.1.1) (fun k s r h=>(e16 (FX61 k) (FX62 k) (FX63 k) (FX64 k) s).trans (b16 k s.1.1 r h)) k
noncomputable abbrev GX133l0 (k:Nat) (x6:(List ByteArray)) (x7:Int) (x8:Int):Option R133:=All.natural_first.l0 k x6 x7 x8
theorem b133l0 (k:Nat) (x6:(List ByteArray)) (x7:Int) (x8:Int):LeO (All.natural_first.l0 (k+1) x6 x7 x8) (B133l0 (GX133l0 k) (FX84 k) x6 x7 x8):=by rw [All.natural_first.l0];unfold B133l0;(try simp only [GX133l0,FX84,All.integer_zero.f,All.exact_stepAt.f,All.S24.f0,All.S24.f1,All.rd_T24,All.z24]);exact BR
theorem b133 (k:Nat) (x0:(List ByteArray)):LeO (FX133 k x0) (B133 (GX133l0 k) x0):=by
 show LeO (All.natural_first.f k x0) _
 unfold All.natural_first.f;unfold B133;(try simp only [GX133l0,FX84,All.integer_zero.f,All.exact_stepAt.f,All.S24.f0,All.S24.f1,All.rd_T24,All.z24]);exact BR
theorem ok133 (k:Nat):FeOk Tryz.prog (fe133 (FX133 k)):=
 fe_ok EOK HM (es:=fun k=>fes133 (FX84 k)) (fun k=>fc ⟨ok84 k,fz⟩) (N:=18) (an:=an133) (c:=cd133) (rms:=rm133) (ask:=ask133) (rsk:=rsk133) (enc:=enc133) (dec:=dec133) (tbl:=[p133.getD 0 ⟨0,[], .skip⟩]) (fun s=>rfl) Tryz.func133 (by kernel_rfl) (by kernel_rfl) (by kernel_rfl) (fun k=>les133 (GX133l0 k))
  (fc ⟨fun s=>rfl,fz⟩) (fun k s0=> .cons (by kernel_rfl) (by kernel_rfl) (fun s r h=>(e133l0 (GX133l0 k) (FX84 k) s0 s).trans (b133l0 k s.1.1 s.1.2.1 s.1.2.2.1 r h)) (.nil))
  (F:=fun k s=>FX133 k s.1.1) (fun k s r h=>(e133 (GX133l0 k) (FX84 k) s).trans (b133 k s.1.1 r h)) k
theorem b136 (k:Nat) (x0:ByteArray):LeO (FX136 k x0) (B136 (FX129 k) x0):=by
 show LeO (All.exact_NatUint.f k x0) _
 unfold All.exact_NatUint.f;unfold B136;(try simp only [FX129,All.integer_zero.f,All.exact_stepAt.f,All.S24.f0,All.S24.f1,All.rd_T24,All.z24]);exact BR
theorem ok136 (k:Nat):FeOk Tryz.prog (fe136 (FX136 k)):=
 fe_ok EOK HM (es:=fun k=>fes136 (FX129 k)) (fun k=>fc ⟨ok129 k,fz⟩) (N:=16) (an:=an136) (c:=cd136) (rms:=rm136) (ask:=ask136) (rsk:=rsk136) (enc:=enc136) (dec:=dec136) (tbl:=[]) (fun s=>rfl) Tryz.func136 (by kernel_rfl) (by kernel_rfl) (by kernel_rfl) (fun k=>les136)
  (fz) (fun k s0=> .nil)
  (F:=fun k s=>FX136 k s.1.1) (fun k s r h=>(e136 (FX129 k) s).trans (b136 k s.1.1 r h)) k
noncomputable abbrev GX95l0 (k:Nat) (x0:ByteArray) (x5:(List Int)):Option R95:=All.natural_Format.l0 k x0 x5
noncomputable abbrev GX95l1 (k:Nat) (x43:Int) (x44:Int) (x5:(List Int)) (x10:(List Int)):Option R95:=All.natural_Format.l1 k x5 x10 x43 x44
noncomputable abbrev GX95l2 (k:Nat) (x11:Int) (x12:Int) (x13:Int) (x43:Int) (x44:Int) (x5:(List Int)) (x10:(List Int)):Option R95:=All.natural_Format.l2 k x5 x10 x11 x12 x13 x43 x44
noncomputable abbrev GX95l3 (k:Nat) (x14:Int) (x15:Int) (x10:(List Int)):Option R95:=All.natural_Format.l3 k x10 x14 x15
theorem b95l0 (k:Nat) (x0:ByteArray) (x5:(List Int)):LeO (All.natural_Format.l0 (k+1) x0 x5) (B95l0 (GX95l0 k) (GX95l1 k) (FX134 k) (FX135 k) (FX136 k) x0 x5):=by rw [All.natural_Format.l0];unfold B95l0;(try simp only [GX95l0,GX95l1,GX95l2,GX95l3,FX133,FX134,FX135,FX136,All.integer_zero.f,All.exact_stepAt.f,All.S24.f0,All.S24.f1,All.rd_T24,All.z24]);exact BR
theorem b95l1 (k:Nat) (x43:Int) (x44:Int) (x5:(List Int)) (x10:(List Int)):LeO (All.natural_Format.l1 (k+1) x5 x10 x43 x44) (B95l1 (GX95l2 k) (GX95l3 k) x43 x44 x5 x10):=by rw [All.natural_Format.l1];unfold B95l1;(try simp only [GX95l0,GX95l1,GX95l2,GX95l3,FX133,FX134,FX135,FX136,All.integer_zero.f,All.exact_stepAt.f,All.S24.f0,All.S24.f1,All.rd_T24,All.z24]);exact BR
theorem b95l2 (k:Nat) (x11:Int) (x12:Int) (x13:Int) (x43:Int) (x44:Int) (x5:(List Int)) (x10:(List Int)):LeO (All.natural_Format.l2 (k+1) x5 x10 x11 x12 x13 x43 x44) (B95l2 (GX95l1 k) (GX95l2 k) x11 x12 x13 x43 x44 x5 x10):=by rw [All.natural_Format.l2];unfold B95l2;(try simp only [GX95l0,GX95l1,GX95l2,GX95l3,FX133,FX134,FX135,FX136,All.integer_zero.f,All.exact_stepAt.f,All.S24.f0,All.S24.f1,All.rd_T24,All.z24]);exact BR
theorem b95l3 (k:Nat) (x14:Int) (x15:Int) (x10:(List Int)):LeO (All.natural_Format.l3 (k+1) x10 x14 x15) (B95l3 (GX95l3 k) x14 x15 x10):=by rw [All.natural_Format.l3];unfold B95l3;(try simp only [GX95l0,GX95l1,GX95l2,GX95l3,FX133,FX134,FX135,FX136,All.integer_zero.f,All.exact_stepAt.f,All.S24.f0,All.S24.f1,All.rd_T24,All.z24]);exact BR
theorem b95 (k:Nat) (x0:ByteArray):LeO (FX95 k x0) (B95 (GX95l0 k) (FX133 k) x0):=by
 show LeO (All.natural_Format.f k x0) _
 unfold All.natural_Format.f;unfold B95;(try simp only [GX95l0,GX95l1,GX95l2,GX95l3,FX133,FX134,FX135,FX136,All.integer_zero.f,All.exact_stepAt.f,All.S24.f0,All.S24.f1,All.rd_T24,All.z24]);exact BR
theorem ok95 (k:Nat):FeOk Tryz.prog (fe95 (FX95 k)):=
 fe_ok EOK HM (es:=fun k=>fes95 (FX133 k) (FX134 k) (FX135 k) (FX136 k)) (fun k=>fc ⟨ok133 k,fc ⟨ok134 k,fc ⟨ok135 k,fc ⟨ok136 k,fz⟩⟩⟩⟩) (N:=102) (an:=an95) (c:=cd95) (rms:=rm95) (ask:=ask95) (rsk:=rsk95) (enc:=enc95) (dec:=dec95) (tbl:=[p95.getD 0 ⟨0,[], .skip⟩,p95.getD 1 ⟨0,[], .skip⟩,p95.getD 2 ⟨0,[], .skip⟩,p95.getD 3 ⟨0,[], .skip⟩]) (fun s=>rfl) Tryz.func95 (by kernel_rfl) (by kernel_rfl) (by kernel_rfl) (fun k=>les95 (GX95l0 k) (GX95l1 k) (GX95l2 k) (GX95l3 k))
  (fc ⟨fun s=>rfl,fc ⟨fun s=>rfl,fc ⟨fun s=>rfl,fc ⟨fun s=>rfl,fz⟩⟩⟩⟩) (fun k s0=> .cons (by kernel_rfl) (by kernel_rfl) (fun s r h=>(e95l0 (GX95l0 k) (GX95l1 k) (GX95l2 k) (GX95l3 k) (FX133 k) (FX134 k) (FX135 k) (FX136 k) s0 s).trans (b95l0 k s.1.1 s.2.1 r h)) (.cons (by kernel_rfl) (by kernel_rfl) (fun s r h=>(e95l1 (GX95l0 k) (GX95l1 k) (GX95l2 k) (GX95l3 k) (FX133 k) (FX134 k) (FX135 k) (FX136 k) s0 s).trans (b95l1 k s.1.1 s.1.2.1 s.2.1 s.2.2.1 r h)) (.cons (by kernel_rfl) (by kernel_rfl) (fun s r h=>(e95l2 (GX95l0 k) (GX95l1 k) (GX95l2 k) (GX95l3 k) (FX133 k) (FX134 k) (FX135 k) (FX136 k) s0 s).trans (b95l2 k s.1.1 s.1.2.1 s.1.2.2.1 s.1.2.2.2.1 s.1.2.2.2.2.1 s.2.1 s.2.2.1 r h)) (.cons (by kernel_rfl) (by kernel_rfl) (fun s r h=>(e95l3 (GX95l0 k) (GX95l1 k) (GX95l2 k) (GX95l3 k) (FX133 k) (FX134 k) (FX135 k) (FX136 k) s0 s).trans (b95l3 k s.1.1 s.1.2.1 s.2.1 r h)) (.nil)))))
  (F:=fun k s=>FX95 k s.1.1) (fun k s r h=>(e95 (GX95l0 k) (GX95l1 k) (GX95l2 k) (GX95l3 k) (FX133 k) (FX134 k) (FX135 k) (FX136 k) s).trans (b95 k s.1.1 r h)) k
theorem b94 (k:Nat) (x0:TI):LeO (FX94 k x0) (B94 (FX83 k) (FX95 k) x0):=by
 show LeO (All.integer_Format.f k x0.1 x0.2) _
 unfold All.integer_Format.f;unfold B94;(try simp only [FX83,FX95,All.integer_zero.f,All.exact_stepAt.f,All.S24.f0,All.S24.f1,All.rd_T24,All.z24]);exact BR
theorem ok94 (k:Nat):FeOk Tryz.prog (fe94 (FX94 k)):=
 fe_ok EOK HM (es:=fun k=>fes94 (FX83 k) (FX95 k)) (fun k=>fc ⟨ok83 k,fc ⟨ok95 k,fz⟩⟩) (N:=28) (an:=an94) (c:=cd94) (rms:=rm94) (ask:=ask94) (rsk:=rsk94) (enc:=enc94) (dec:=dec94) (tbl:=[]) (fun s=>rfl) Tryz.func94 (by kernel_rfl) (by kernel_rfl) (by kernel_rfl) (fun k=>les94)
  (fz) (fun k s0=> .nil)
  (F:=fun k s=>FX94 k s.1.1) (fun k s r h=>(e94 (FX83 k) (FX95 k) s).trans (b94 k s.1.1 r h)) k
theorem b44 (k:Nat) (x0:TQ):LeO (FX44 k x0) (B44 (FX34 k) (FX94 k) (FX95 k) x0):=LeO.refl _
theorem ok44 (k:Nat):FeOk Tryz.prog (fe44 (FX44 k)):=
 fe_ok EOK HM (es:=fun k=>fes44 (FX34 k) (FX94 k) (FX95 k)) (fun k=>fc ⟨ok34 k,fc ⟨ok94 k,fc ⟨ok95 k,fz⟩⟩⟩) (N:=41) (an:=an44) (c:=cd44) (rms:=rm44) (ask:=ask44) (rsk:=rsk44) (enc:=enc44) (dec:=dec44) (tbl:=[]) (fun s=>rfl) Tryz.func44 (by kernel_rfl) (by kernel_rfl) (by kernel_rfl) (fun k=>les44)
  (fz) (fun k s0=> .nil)
  (F:=fun k s=>FX44 k s.1.1) (fun k s r h=>(e44 (FX34 k) (FX94 k) (FX95 k) s).trans (b44 k s.1.1 r h)) k
theorem b99l0 (k:Nat) (x0:ByteArray) (x5:Int):LeO (GX99l0 (k+1) x0 x5) (B99l0 (GX99l0 k) x0 x5):=by rw [GX99l0];exact LeO.refl _
theorem b99 (k:Nat) (x0:ByteArray):LeO (FX99 k x0) (B99 (GX99l0 k) x0):=LeO.refl _
theorem ok99 (k:Nat):FeOk Tryz.prog (fe99 (FX99 k)):=
 fe_ok EOK HM (es:=fun k=>fes99) (fun k=>fz) (N:=24) (an:=an99) (c:=cd99) (rms:=rm99) (ask:=ask99) (rsk:=rsk99) (enc:=enc99) (dec:=dec99) (tbl:=[p99.getD 0 ⟨0,[], .skip⟩]) (fun s=>rfl) Tryz.func99 (by kernel_rfl) (by kernel_rfl) (by kernel_rfl) (fun k=>les99 (GX99l0 k))
  (fc ⟨fun s=>rfl,fz⟩) (fun k s0=> .cons (by kernel_rfl) (by kernel_rfl) (fun s r h=>(e99l0 (GX99l0 k) s0 s).trans (b99l0 k s.1.1 s.1.2.1 r h)) (.nil))
  (F:=fun k s=>FX99 k s.1.1) (fun k s r h=>(e99 (GX99l0 k) s).trans (b99 k s.1.1 r h)) k
noncomputable abbrev GX101l0 (k:Nat) (x0:ByteArray) (x5:Int) (x4:(List Int)):Option R101:=All.galoisref01_Digits.l0 k x0 x4 x5
noncomputable abbrev GX101l1 (k:Nat) (x0:ByteArray) (x5:Int) (x6:Int) (x7:Int) (x31:ByteArray) (x32:Int) (x33:Int) (x34:Bool) (x4:(List Int)):Option R101:=All.galoisref01_Digits.l1 k x0 x4 x5 x6 x7
theorem b101l0 (k:Nat) (x0:ByteArray) (x5:Int) (x4:(List Int)):LeO (All.galoisref01_Digits.l0 (k+1) x0 x4 x5) (B101l0 (GX101l1 k) (FX140 k) x0 x5 x4):=by
 rw [All.galoisref01_Digits.l0]
 unfold B101l0
 (try simp only [GX101l0,GX101l1,FX140,All.integer_zero.f,All.exact_stepAt.f,All.S24.f0,All.S24.f1,All.rd_T24,All.z24])
 (try simp only [List.take_append_drop,List.drop_length,List.append_nil,Int.zero_sub,Int.toNat_natCast,Int.reduceToNat,Int.zero_add,List.take_zero,List.nil_append,List.append_assoc,List.length_set,ite_bind_,List.take_left,BAe,bne,decide_int_eq,decide_not,wrap_mod,if_true,if_false,Bool.false_eq_true,bind_assoc_,slice_def,List.drop_zero,List.take_length,wrap_u8,bind_some_,cnd_eq_if,rdOf,ite_not,Bool.and_eq_true,Bool.or_eq_true,Bool.not_eq_true',bfalse,Bool.not_eq_false',beq_iff_eq,decide_eq_true_eq,isEmpty_eq,ite_and_,ite_or_,ne_eq,toList_mk,List.toList_toArray])
 repeat' first
 | (with_reducible refine LeO.trans ((All.galoisref01_Digits.mono_l k).1 _ _) ?_;rw [All.galoisref01_Digits.j0];(try simp only [if_true,if_false,decide_eq_true_eq,Bool.false_eq_true,decide_not,ite_not,bne,decide_int_eq,beq_iff_eq,Bool.not_eq_true',bfalse,toList_mk,List.toList_toArray,ite_and_,ite_or_,Bool.and_eq_true,Bool.or_eq_true,isEmpty_eq,wrap_mod,wrap_u8,All.integer_zero.f,bind_some_,Int.toNat_natCast,Int.reduceToNat,Int.zero_sub,BAe]))
 | (with_reducible refine LeO.trans ((All.galoisref01_Digits.mono_l k).2.2.1 _ _ _ _) ?_;rw [All.galoisref01_Digits.j2];(try simp only [if_true,if_false,decide_eq_true_eq,Bool.false_eq_true,decide_not,ite_not,bne,decide_int_eq,beq_iff_eq,Bool.not_eq_true',bfalse,toList_mk,List.toList_toArray,ite_and_,ite_or_,Bool.and_eq_true,Bool.or_eq_true,isEmpty_eq,wrap_mod,wrap_u8,All.integer_zero.f,bind_some_,Int.toNat_natCast,Int.reduceToNat,Int.zero_sub,BAe]))
 | (with_reducible exact LeO.none _)
 | (with_reducible exact LeO.refl _)
 | (with_reducible refine LeO.posR (by with_reducible assumption) ?_)
 | (with_reducible refine LeO.negR (by with_reducible assumption) ?_)
 | (with_reducible refine LeO.bindR (by with_reducible assumption) ?_)
 | (with_reducible refine LeO.posL (by with_reducible assumption) ?_)
 | (with_reducible refine LeO.negL (by with_reducible assumption) ?_)
 | (with_reducible refine LeO.iteL (fun _=>?_) (fun _=>?_))
 | (with_reducible refine LeO.bindK (by with_reducible assumption) ?_)
 | (with_reducible refine LeO.bindL (fun _ _=>?_))
 | (refine LeO.posR (by first|decide|exact Int.le_refl _|omega|assumption) ?_)
 | (refine LeO.negR (by first|decide|omega) ?_)
theorem b101l1 (k:Nat) (x0:ByteArray) (x5:Int) (x6:Int) (x7:Int) (x31:ByteArray) (x32:Int) (x33:Int) (x34:Bool) (x4:(List Int)):LeO (All.galoisref01_Digits.l1 (k+1) x0 x4 x5 x6 x7) (B101l1 (GX101l0 k) (GX101l1 k) x0 x5 x6 x7 x31 x32 x33 x34 x4):=by
 rw [All.galoisref01_Digits.l1]
 unfold B101l1
 (try simp only [GX101l0,GX101l1,FX140,All.integer_zero.f,All.exact_stepAt.f,All.S24.f0,All.S24.f1,All.rd_T24,All.z24])
 (try simp only [List.take_append_drop,List.drop_length,List.append_nil,Int.zero_sub,Int.toNat_natCast,Int.reduceToNat,Int.zero_add,List.take_zero,List.nil_append,List.append_assoc,List.length_set,ite_bind_,List.take_left,BAe,bne,decide_int_eq,decide_not,wrap_mod,if_true,if_false,Bool.false_eq_true,bind_assoc_,slice_def,List.drop_zero,List.take_length,wrap_u8,bind_some_,cnd_eq_if,rdOf,ite_not,Bool.and_eq_true,Bool.or_eq_true,Bool.not_eq_true',bfalse,Bool.not_eq_false',beq_iff_eq,decide_eq_true_eq,isEmpty_eq,ite_and_,ite_or_,ne_eq,toList_mk,List.toList_toArray])
 repeat' first
 | (with_reducible refine LeO.trans ((All.galoisref01_Digits.mono_l k).1 _ _) ?_;rw [All.galoisref01_Digits.j0];(try simp only [if_true,if_false,decide_eq_true_eq,Bool.false_eq_true,decide_not,ite_not,bne,decide_int_eq,beq_iff_eq,Bool.not_eq_true',bfalse,toList_mk,List.toList_toArray,ite_and_,ite_or_,Bool.and_eq_true,Bool.or_eq_true,isEmpty_eq,wrap_mod,wrap_u8,All.integer_zero.f,bind_some_,Int.toNat_natCast,Int.reduceToNat,Int.zero_sub,BAe]))
 | (with_reducible refine LeO.trans ((All.galoisref01_Digits.mono_l k).2.2.1 _ _ _ _) ?_;rw [All.galoisref01_Digits.j2];(try simp only [if_true,if_false,decide_eq_true_eq,Bool.false_eq_true,decide_not,ite_not,bne,decide_int_eq,beq_iff_eq,Bool.not_eq_true',bfalse,toList_mk,List.toList_toArray,ite_and_,ite_or_,Bool.and_eq_true,Bool.or_eq_true,isEmpty_eq,wrap_mod,wrap_u8,All.integer_zero.f,bind_some_,Int.toNat_natCast,Int.reduceToNat,Int.zero_sub,BAe]))
 | (with_reducible exact LeO.none _)
 | (with_reducible exact LeO.refl _)
 | (with_reducible refine LeO.posR (by with_reducible assumption) ?_)
 | (with_reducible refine LeO.negR (by with_reducible assumption) ?_)
 | (with_reducible refine LeO.bindR (by with_reducible assumption) ?_)
 | (with_reducible refine LeO.posL (by with_reducible assumption) ?_)
 | (with_reducible refine LeO.negL (by with_reducible assumption) ?_)
 | (with_reducible refine LeO.iteL (fun _=>?_) (fun _=>?_))
 | (with_reducible refine LeO.bindK (by with_reducible assumption) ?_)
 | (with_reducible refine LeO.bindL (fun _ _=>?_))
 | (refine LeO.posR (by first|decide|exact Int.le_refl _|omega|assumption) ?_)
 | (refine LeO.negR (by first|decide|omega) ?_)
theorem b101 (k:Nat) (x0:ByteArray):LeO (FX101 k x0) (B101 (GX101l0 k) x0):=by
 show LeO (All.galoisref01_Digits.f k x0) _
 unfold All.galoisref01_Digits.f
 unfold B101
 (try simp only [GX101l0,GX101l1,FX140,All.integer_zero.f,All.exact_stepAt.f,All.S24.f0,All.S24.f1,All.rd_T24,All.z24])
 (try simp only [List.take_append_drop,List.drop_length,List.append_nil,Int.zero_sub,Int.toNat_natCast,Int.reduceToNat,Int.zero_add,List.take_zero,List.nil_append,List.append_assoc,List.length_set,ite_bind_,List.take_left,BAe,bne,decide_int_eq,decide_not,wrap_mod,if_true,if_false,Bool.false_eq_true,bind_assoc_,slice_def,List.drop_zero,List.take_length,wrap_u8,bind_some_,cnd_eq_if,rdOf,ite_not,Bool.and_eq_true,Bool.or_eq_true,Bool.not_eq_true',bfalse,Bool.not_eq_false',beq_iff_eq,decide_eq_true_eq,isEmpty_eq,ite_and_,ite_or_,ne_eq,toList_mk,List.toList_toArray])
 repeat' first
 | (with_reducible refine LeO.trans ((All.galoisref01_Digits.mono_l k).1 _ _) ?_;rw [All.galoisref01_Digits.j0];(try simp only [if_true,if_false,decide_eq_true_eq,Bool.false_eq_true,decide_not,ite_not,bne,decide_int_eq,beq_iff_eq,Bool.not_eq_true',bfalse,toList_mk,List.toList_toArray,ite_and_,ite_or_,Bool.and_eq_true,Bool.or_eq_true,isEmpty_eq,wrap_mod,wrap_u8,All.integer_zero.f,bind_some_,Int.toNat_natCast,Int.reduceToNat,Int.zero_sub,BAe]))
 | (with_reducible refine LeO.trans ((All.galoisref01_Digits.mono_l k).2.2.1 _ _ _ _) ?_;rw [All.galoisref01_Digits.j2];(try simp only [if_true,if_false,decide_eq_true_eq,Bool.false_eq_true,decide_not,ite_not,bne,decide_int_eq,beq_iff_eq,Bool.not_eq_true',bfalse,toList_mk,List.toList_toArray,ite_and_,ite_or_,Bool.and_eq_true,Bool.or_eq_true,isEmpty_eq,wrap_mod,wrap_u8,All.integer_zero.f,bind_some_,Int.toNat_natCast,Int.reduceToNat,Int.zero_sub,BAe]))
 | (with_reducible exact LeO.none _)
 | (with_reducible exact LeO.refl _)
 | (with_reducible refine LeO.posR (by with_reducible assumption) ?_)
 | (with_reducible refine LeO.negR (by with_reducible assumption) ?_)
 | (with_reducible refine LeO.bindR (by with_reducible assumption) ?_)
 | (with_reducible refine LeO.posL (by with_reducible assumption) ?_)
 | (with_reducible refine LeO.negL (by with_reducible assumption) ?_)
 | (with_reducible refine LeO.iteL (fun _=>?_) (fun _=>?_))
 | (with_reducible refine LeO.bindK (by with_reducible assumption) ?_)
 | (with_reducible refine LeO.bindL (fun _ _=>?_))
 | (refine LeO.posR (by first|decide|exact Int.le_refl _|omega|assumption) ?_)
 | (refine LeO.negR (by first|decide|omega) ?_)
theorem ok101 (k:Nat):FeOk Tryz.prog (fe101 (FX101 k)):=
 fe_ok EOK HM (es:=fun k=>fes101 (FX140 k)) (fun k=>fc ⟨ok140 k,fz⟩) (N:=69) (an:=an101) (c:=cd101) (rms:=rm101) (ask:=ask101) (rsk:=rsk101) (enc:=enc101) (dec:=dec101) (tbl:=[p101.getD 0 ⟨0,[], .skip⟩,p101.getD 1 ⟨0,[], .skip⟩]) (fun s=>rfl) Tryz.func101 (by kernel_rfl) (by kernel_rfl) (by kernel_rfl) (fun k=>les101 (GX101l0 k) (GX101l1 k))
  (fc ⟨fun s=>rfl,fc ⟨fun s=>rfl,fz⟩⟩) (fun k s0=> .cons (by kernel_rfl) (by kernel_rfl) (fun s r h=>(e101l0 (GX101l0 k) (GX101l1 k) (FX140 k) s0 s).trans (b101l0 k s.1.1 s.1.2.1 s.2.1 r h)) (.cons (by kernel_rfl) (by kernel_rfl) (fun s r h=>(e101l1 (GX101l0 k) (GX101l1 k) (FX140 k) s0 s).trans (b101l1 k s.1.1 s.1.2.1 s.1.2.2.1 s.1.2.2.2.1 s.1.2.2.2.2.1 s.1.2.2.2.2.2.1 s.1.2.2.2.2.2.2.1 s.1.2.2.2.2.2.2.2.1 s.2.1 r h)) (.nil)))
  (F:=fun k s=>FX101 k s.1.1) (fun k s r h=>(e101 (GX101l0 k) (GX101l1 k) (FX140 k) s).trans (b101 k s.1.1 r h)) k
theorem b100 (k:Nat) (x0:ByteArray):LeO (FX100 k x0) (B100 (FX101 k) (FX123 k) x0):=by
 show LeO (All.galoisref02_Digits.f k x0) _
 unfold All.galoisref02_Digits.f
 unfold B100
 (try simp only [FX101,FX123,All.integer_zero.f,All.exact_stepAt.f,All.S24.f0,All.S24.f1,All.rd_T24,All.z24])
 (try simp only [List.take_append_drop,List.drop_length,List.append_nil,Int.zero_sub,Int.toNat_natCast,Int.reduceToNat,Int.zero_add,List.take_zero,List.nil_append,List.append_assoc,List.length_set,ite_bind_,List.take_left,BAe,bne,decide_int_eq,decide_not,wrap_mod,if_true,if_false,Bool.false_eq_true,bind_assoc_,slice_def,List.drop_zero,List.take_length,wrap_u8,bind_some_,cnd_eq_if,rdOf,ite_not,Bool.and_eq_true,Bool.or_eq_true,Bool.not_eq_true',bfalse,Bool.not_eq_false',beq_iff_eq,decide_eq_true_eq,isEmpty_eq,ite_and_,ite_or_,ne_eq,toList_mk,List.toList_toArray])
 repeat' first
 | (with_reducible refine LeO.trans ((All.galoisref02_Digits.mono_l k) _ _) ?_;rw [All.galoisref02_Digits.j0];(try simp only [if_true,if_false,decide_eq_true_eq,Bool.false_eq_true,decide_not,ite_not,bne,decide_int_eq,beq_iff_eq,Bool.not_eq_true',bfalse,toList_mk,List.toList_toArray,ite_and_,ite_or_,Bool.and_eq_true,Bool.or_eq_true,isEmpty_eq,wrap_mod,wrap_u8,All.integer_zero.f,bind_some_,Int.toNat_natCast,Int.reduceToNat,Int.zero_sub,BAe]))
 | (with_reducible exact LeO.none _)
 | (with_reducible exact LeO.refl _)
 | (with_reducible refine LeO.posR (by with_reducible assumption) ?_)
 | (with_reducible refine LeO.negR (by with_reducible assumption) ?_)
 | (with_reducible refine LeO.bindR (by with_reducible assumption) ?_)
 | (with_reducible refine LeO.posL (by with_reducible assumption) ?_)
 | (with_reducible refine LeO.negL (by with_reducible assumption) ?_)
 | (with_reducible refine LeO.iteL (fun _=>?_) (fun _=>?_))
 | (with_reducible refine LeO.bindK (by with_reducible assumption) ?_)
 | (with_reducible refine LeO.bindL (fun _ _=>?_))
 | (refine LeO.posR (by first|decide|exact Int.le_refl _|omega|assumption) ?_)
 | (refine LeO.negR (by first|decide|omega) ?_)
theorem ok100 (k:Nat):FeOk Tryz.prog (fe100 (FX100 k)):=
 fe_ok EOK HM (es:=fun k=>fes100 (FX101 k) (FX123 k)) (fun k=>fc ⟨ok101 k,fc ⟨ok123 k,fz⟩⟩) (N:=37) (an:=an100) (c:=cd100) (rms:=rm100) (ask:=ask100) (rsk:=rsk100) (enc:=enc100) (dec:=dec100) (tbl:=[]) (fun s=>rfl) Tryz.func100 (by kernel_rfl) (by kernel_rfl) (by kernel_rfl) (fun k=>les100)
  (fz) (fun k s0=> .nil)
  (F:=fun k s=>FX100 k s.1.1) (fun k s r h=>(e100 (FX101 k) (FX123 k) s).trans (b100 k s.1.1 r h)) k
theorem b46 (k:Nat) (x0:ByteArray):LeO (FX46 k x0) (B46 (FX63 k) (FX64 k) (FX99 k) (FX100 k) (FX101 k) x0):=LeO.refl _
theorem ok46 (k:Nat):FeOk Tryz.prog (fe46 (FX46 k)):=
 fe_ok EOK HM (es:=fun k=>fes46 (FX63 k) (FX64 k) (FX99 k) (FX100 k) (FX101 k)) (fun k=>fc ⟨ok63 k,fc ⟨ok64 k,fc ⟨ok99 k,fc ⟨ok100 k,fc ⟨ok101 k,fz⟩⟩⟩⟩⟩) (N:=67) (an:=an46) (c:=cd46) (rms:=rm46) (ask:=ask46) (rsk:=rsk46) (enc:=enc46) (dec:=dec46) (tbl:=[]) (fun s=>rfl) Tryz.func46 (by kernel_rfl) (by kernel_rfl) (by kernel_rfl) (fun k=>les46)
  (fz) (fun k s0=> .nil)
  (F:=fun k s=>FX46 k s.1.1) (fun k s r h=>(e46 (FX63 k) (FX64 k) (FX99 k) (FX100 k) (FX101 k) s).trans (b46 k s.1.1 r h)) k
noncomputable abbrev GX103l0 (k:Nat) (x3:(List Int)) (x4:(List Int)):Option R103:=All.galoisref01_Format.l0 k x3 x4
noncomputable abbrev GX103l1 (k:Nat) (x5:Int) (x6:Int) (x3:(List Int)) (x4:(List Int)):Option R103:=All.galoisref01_Format.l1 k x3 x4 x5 x6
noncomputable abbrev GX103l2 (k:Nat) (x8:Int) (x3:(List Int)) (x7:(List Int)):Option R103:=All.galoisref01_Format.l2 k x3 x7 x8
theorem b103l0 (k:Nat) (x3:(List Int)) (x4:(List Int)):LeO (All.galoisref01_Format.l0 (k+1) x3 x4) (B103l0 (GX103l1 k) (GX103l2 k) x3 x4):=by rw [All.galoisref01_Format.l0];unfold B103l0;(try simp only [GX103l0,GX103l1,GX103l2,FX141,FX142,All.integer_zero.f,All.exact_stepAt.f,All.S24.f0,All.S24.f1,All.rd_T24,All.z24]);exact BR
theorem b103l1 (k:Nat) (x5:Int) (x6:Int) (x3:(List Int)) (x4:(List Int)):LeO (All.galoisref01_Format.l1 (k+1) x3 x4 x5 x6) (B103l1 (GX103l0 k) (GX103l1 k) (FX142 k) x5 x6 x3 x4):=by rw [All.galoisref01_Format.l1];unfold B103l1;(try simp only [GX103l0,GX103l1,GX103l2,FX141,FX142,All.integer_zero.f,All.exact_stepAt.f,All.S24.f0,All.S24.f1,All.rd_T24,All.z24]);exact BR
theorem b103l2 (k:Nat) (x8:Int) (x3:(List Int)) (x7:(List Int)):LeO (All.galoisref01_Format.l2 (k+1) x3 x7 x8) (B103l2 (GX103l2 k) x8 x3 x7):=by rw [All.galoisref01_Format.l2];unfold B103l2;(try simp only [GX103l0,GX103l1,GX103l2,FX141,FX142,All.integer_zero.f,All.exact_stepAt.f,All.S24.f0,All.S24.f1,All.rd_T24,All.z24]);exact BR
theorem b103 (k:Nat) (x0:ByteArray):LeO (FX103 k x0) (B103 (GX103l0 k) (FX141 k) x0):=by
 show LeO (All.galoisref01_Format.f k x0) _
 unfold All.galoisref01_Format.f;unfold B103;(try simp only [GX103l0,GX103l1,GX103l2,FX141,FX142,All.integer_zero.f,All.exact_stepAt.f,All.S24.f0,All.S24.f1,All.rd_T24,All.z24]);exact BR
theorem ok103 (k:Nat):FeOk Tryz.prog (fe103 (FX103 k)):=
 fe_ok EOK HM (es:=fun k=>fes103 (FX141 k) (FX142 k)) (fun k=>fc ⟨ok141 k,fc ⟨ok142 k,fz⟩⟩) (N:=67) (an:=an103) (c:=cd103) (rms:=rm103) (ask:=ask103) (rsk:=rsk103) (enc:=enc103) (dec:=dec103) (tbl:=[p103.getD 0 ⟨0,[], .skip⟩,p103.getD 1 ⟨0,[], .skip⟩,p103.getD 2 ⟨0,[], .skip⟩]) (fun s=>rfl) Tryz.func103 (by kernel_rfl) (by kernel_rfl) (by kernel_rfl) (fun k=>les103 (GX103l0 k) (GX103l1 k) (GX103l2 k))
  (fc ⟨fun s=>rfl,fc ⟨fun s=>rfl,fc ⟨fun s=>rfl,fz⟩⟩⟩) (fun k s0=> .cons (by kernel_rfl) (by kernel_rfl) (fun s r h=>(e103l0 (GX103l0 k) (GX103l1 k) (GX103l2 k) (FX141 k) (FX142 k) s0 s).trans (b103l0 k s.2.1 s.2.2.1 r h)) (.cons (by kernel_rfl) (by kernel_rfl) (fun s r h=>(e103l1 (GX103l0 k) (GX103l1 k) (GX103l2 k) (FX141 k) (FX142 k) s0 s).trans (b103l1 k s.1.1 s.1.2.1 s.2.1 s.2.2.1 r h)) (.cons (by kernel_rfl) (by kernel_rfl) (fun s r h=>(e103l2 (GX103l0 k) (GX103l1 k) (GX103l2 k) (FX141 k) (FX142 k) s0 s).trans (b103l2 k s.1.1 s.2.1 s.2.2.1 r h)) (.nil))))
  (F:=fun k s=>FX103 k s.1.1) (fun k s r h=>(e103 (GX103l0 k) (GX103l1 k) (GX103l2 k) (FX141 k) (FX142 k) s).trans (b103 k s.1.1 r h)) k
theorem b102 (k:Nat) (x0:TI):LeO (FX102 k x0) (B102 (FX103 k) x0):=by
 show LeO (All.galoisref02_Format.f k x0.1 x0.2) _
 unfold All.galoisref02_Format.f;unfold B102;(try simp only [FX103,All.integer_zero.f,All.exact_stepAt.f,All.S24.f0,All.S24.f1,All.rd_T24,All.z24]);exact BR
theorem ok102 (k:Nat):FeOk Tryz.prog (fe102 (FX102 k)):=
 fe_ok EOK HM (es:=fun k=>fes102 (FX103 k)) (fun k=>fc ⟨ok103 k,fz⟩) (N:=12) (an:=an102) (c:=cd102) (rms:=rm102) (ask:=ask102) (rsk:=rsk102) (enc:=enc102) (dec:=dec102) (tbl:=[]) (fun s=>rfl) Tryz.func102 (by kernel_rfl) (by kernel_rfl) (by kernel_rfl) (fun k=>les102)
  (fz) (fun k s0=> .nil)
  (F:=fun k s=>FX102 k s.1.1) (fun k s r h=>(e102 (FX103 k) s).trans (b102 k s.1.1 r h)) k
theorem b47 (k:Nat) (x0:TQ):LeO (FX47 k x0) (B47 (FX102 k) (FX103 k) x0):=LeO.refl _
theorem ok47 (k:Nat):FeOk Tryz.prog (fe47 (FX47 k)):=
 fe_ok EOK HM (es:=fun k=>fes47 (FX102 k) (FX103 k)) (fun k=>fc ⟨ok102 k,fc ⟨ok103 k,fz⟩⟩) (N:=17) (an:=an47) (c:=cd47) (rms:=rm47) (ask:=ask47) (rsk:=rsk47) (enc:=enc47) (dec:=dec47) (tbl:=[]) (fun s=>rfl) Tryz.func47 (by kernel_rfl) (by kernel_rfl) (by kernel_rfl) (fun k=>les47)
  (fz) (fun k s0=> .nil)
  (F:=fun k s=>FX47 k s.1.1) (fun k s r h=>(e47 (FX102 k) (FX103 k) s).trans (b47 k s.1.1 r h)) k
theorem LeO.cnd_ {α:Type} {b:Bool} {x y x' y':Option α} (h:LeO x x') (k:LeO y y'):LeO (cnd b x y) (cnd b x' y'):=by cases b<;>assumption
theorem m84 (k:Nat) (x0:ByteArray):LeO (FX84 k x0) (FX84 (k+1) x0):=by
 first|exact LeO.refl _|apply All.natural_Check.mono| (refine LeO.bind ?_ (fun _=>LeO.refl _);apply All.natural_Check.mono)
theorem m83 (k:Nat) (x0:TI):LeO (FX83 k x0) (FX83 (k+1) x0):=by
 first|exact LeO.refl _|apply All.integer_Check.mono| (refine LeO.bind ?_ (fun _=>LeO.refl _);apply All.integer_Check.mono)
theorem m85 (k:Nat) (x0:ByteArray) (x1:ByteArray):LeO (FX85 k x0 x1) (FX85 (k+1) x0 x1):=by
 first|exact LeO.refl _|apply All.exact_NatGcd.mono| (refine LeO.bind ?_ (fun _=>LeO.refl _);apply All.exact_NatGcd.mono)
theorem m34 (k:Nat) (x0:TQ):LeO (FX34 k x0) (FX34 (k+1) x0):=by
 show LeO (B34 (FX83 k) (FX84 k) (FX85 k) x0) (B34 (FX83 (k+1)) (FX84 (k+1)) (FX85 (k+1)) x0)
 unfold B34
 with_reducible repeat' first|exact LeO.refl _|exact LeO.none _|apply m83|apply m84|apply m85|refine LeO.ite ?_ ?_|refine LeO.cnd_ ?_ ?_|refine LeO.bind ?_ (fun _=>?_)
theorem m50 (k:Nat) (x0:TI):LeO (FX50 k x0) (FX50 (k+1) x0):=by
 show LeO (B50 x0) (B50 x0)
 unfold B50
 with_reducible repeat' first|exact LeO.refl _|exact LeO.none _|refine LeO.ite ?_ ?_|refine LeO.cnd_ ?_ ?_|refine LeO.bind ?_ (fun _=>?_)
theorem m108 (k:Nat) (x0:Bool) (x1:ByteArray):LeO (FX108 k x0 x1) (FX108 (k+1) x0 x1):=LeO.refl _
theorem m134 (k:Nat) (x0:ByteArray) (x1:ByteArray):LeO (FX134 k x0 x1) (FX134 (k+1) x0 x1):=by
 first|exact LeO.refl _|apply All.exact_NatDivMod.mono| (refine LeO.bind ?_ (fun _=>LeO.refl _);apply All.exact_NatDivMod.mono)
theorem m105 (k:Nat) (x0:TI) (x1:TI):LeO (FX105 k x0 x1) (FX105 (k+1) x0 x1):=by
 first|exact LeO.refl _|apply All.exact_IntDivMod.mono| (refine LeO.bind ?_ (fun _=>LeO.refl _);apply All.exact_IntDivMod.mono)
theorem m51 (k:Nat) (x0:TQ):LeO (FX51 k x0) (FX51 (k+1) x0):=by
 show LeO (B51 (FX105 k) x0) (B51 (FX105 (k+1)) x0)
 unfold B51
 with_reducible repeat' first|exact LeO.refl _|exact LeO.none _|apply m105|refine LeO.ite ?_ ?_|refine LeO.cnd_ ?_ ?_|refine LeO.bind ?_ (fun _=>?_)
theorem m12 (k:Nat) (x0:TQ):LeO (FX12 k x0) (FX12 (k+1) x0):=by
 show LeO (B12 (FX34 k) (FX50 k) (FX51 k) x0) (B12 (FX34 (k+1)) (FX50 (k+1)) (FX51 (k+1)) x0)
 unfold B12
 with_reducible repeat' first|exact LeO.refl _|exact LeO.none _|apply m34|apply m50|apply m51|refine LeO.ite ?_ ?_|refine LeO.cnd_ ?_ ?_|refine LeO.bind ?_ (fun _=>?_)
theorem m93 (k:Nat) (x0:TI):LeO (FX93 k x0) (FX93 (k+1) x0):=by
 show LeO (B93 x0) (B93 x0)
 unfold B93
 with_reducible repeat' first|exact LeO.refl _|exact LeO.none _|refine LeO.ite ?_ ?_|refine LeO.cnd_ ?_ ?_|refine LeO.bind ?_ (fun _=>?_)
theorem m106 (k:Nat) (x0:TI) (x1:TI):LeO (FX106 k x0 x1) (FX106 (k+1) x0 x1):=by
 first|exact LeO.refl _|apply All.exact_IntAdd.mono| (refine LeO.bind ?_ (fun _=>LeO.refl _);apply All.exact_IntAdd.mono)
theorem m107 (k:Nat) (x0:TI) (x1:TI):LeO (FX107 k x0 x1) (FX107 (k+1) x0 x1):=by
 show LeO (B107 (FX85 k) (FX108 k) (FX134 k) x0 x1) (B107 (FX85 (k+1)) (FX108 (k+1)) (FX134 (k+1)) x0 x1)
 unfold B107
 with_reducible repeat' first|exact LeO.refl _|exact LeO.none _|apply m85|apply m108|apply m134|refine LeO.ite ?_ ?_|refine LeO.cnd_ ?_ ?_|refine LeO.bind ?_ (fun _=>?_)
theorem m109 (k:Nat) (x0:ByteArray) (x1:ByteArray):LeO (FX109 k x0 x1) (FX109 (k+1) x0 x1):=by
 first|exact LeO.refl _|apply All.exact_NatMul.mono| (refine LeO.bind ?_ (fun _=>LeO.refl _);apply All.exact_NatMul.mono)
theorem m52 (k:Nat) (x0:TQ) (x1:TQ):LeO (FX52 k x0 x1) (FX52 (k+1) x0 x1):=by
 show LeO (B52 (FX93 k) (FX106 k) (FX107 k) (FX108 k) (FX109 k) x0 x1) (B52 (FX93 (k+1)) (FX106 (k+1)) (FX107 (k+1)) (FX108 (k+1)) (FX109 (k+1)) x0 x1)
 unfold B52
 with_reducible repeat' first|exact LeO.refl _|exact LeO.none _|apply m93|apply m106|apply m107|apply m108|apply m109|refine LeO.ite ?_ ?_|refine LeO.cnd_ ?_ ?_|refine LeO.bind ?_ (fun _=>?_)
theorem m110 (k:Nat) (x0:Int):LeO (FX110 k x0) (FX110 (k+1) x0):=by
 first|exact LeO.refl _|apply All.exact_IntOf.mono| (refine LeO.bind ?_ (fun _=>LeO.refl _);apply All.exact_IntOf.mono)
theorem m53 (k:Nat) (x0:Int) (x1:Int):LeO (FX53 k x0 x1) (FX53 (k+1) x0 x1):=by
 show LeO (B53 (FX107 k) (FX110 k) x0 x1) (B53 (FX107 (k+1)) (FX110 (k+1)) x0 x1)
 unfold B53
 with_reducible repeat' first|exact LeO.refl _|exact LeO.none _|apply m107|apply m110|refine LeO.ite ?_ ?_|refine LeO.cnd_ ?_ ?_|refine LeO.bind ?_ (fun _=>?_)
theorem m13 (k:Nat) (x0:TQ):LeO (FX13 k x0) (FX13 (k+1) x0):=by
 show LeO (B13 (FX34 k) (FX50 k) (FX51 k) (FX52 k) (FX53 k) x0) (B13 (FX34 (k+1)) (FX50 (k+1)) (FX51 (k+1)) (FX52 (k+1)) (FX53 (k+1)) x0)
 unfold B13
 with_reducible repeat' first|exact LeO.refl _|exact LeO.none _|apply m34|apply m50|apply m51|apply m52|apply m53|refine LeO.ite ?_ ?_|refine LeO.cnd_ ?_ ?_|refine LeO.bind ?_ (fun _=>?_)
theorem m114 (k:Nat) (x0:ByteArray):LeO (FX114 k x0) (FX114 (k+1) x0):=LeO.refl _
theorem m116 (k:Nat) (x0:ByteArray) (x1:Int):LeO (FX116 k x0 x1) (FX116 (k+1) x0 x1):=by
 first|exact LeO.refl _|apply All.exact_NatPow.mono| (refine LeO.bind ?_ (fun _=>LeO.refl _);apply All.exact_NatPow.mono)
theorem m111 (k:Nat) (x0:TI):LeO (FX111 k x0) (FX111 (k+1) x0):=by
 first|exact LeO.refl _|apply All.exact_IntSqrt.mono| (refine LeO.bind ?_ (fun _=>LeO.refl _);apply All.exact_IntSqrt.mono)
theorem m112 (k:Nat) (x0:Int):LeO (FX112 k x0) (FX112 (k+1) x0):=by
 show LeO (B112 (FX93 k) (FX110 k) x0) (B112 (FX93 (k+1)) (FX110 (k+1)) x0)
 unfold B112
 with_reducible repeat' first|exact LeO.refl _|exact LeO.none _|apply m93|apply m110|refine LeO.ite ?_ ?_|refine LeO.cnd_ ?_ ?_|refine LeO.bind ?_ (fun _=>?_)
theorem m54 (k:Nat) (x0:TQ):LeO (FX54 k x0) (FX54 (k+1) x0):=by
 show LeO (B54 (FX111 k) (FX112 k) x0) (B54 (FX111 (k+1)) (FX112 (k+1)) x0)
 unfold B54
 with_reducible repeat' first|exact LeO.refl _|exact LeO.none _|apply m111|apply m112|refine LeO.ite ?_ ?_|refine LeO.cnd_ ?_ ?_|refine LeO.bind ?_ (fun _=>?_)
theorem m14 (k:Nat) (x0:TQ):LeO (FX14 k x0) (FX14 (k+1) x0):=by
 show LeO (B14 (FX34 k) (FX54 k) x0) (B14 (FX34 (k+1)) (FX54 (k+1)) x0)
 unfold B14
 with_reducible repeat' first|exact LeO.refl _|exact LeO.none _|apply m34|apply m54|refine LeO.ite ?_ ?_|refine LeO.cnd_ ?_ ?_|refine LeO.bind ?_ (fun _=>?_)
theorem m57 (k:Nat) (x0:TQ):LeO (FX57 k x0) (FX57 (k+1) x0):=by
 show LeO (B57 x0) (B57 x0)
 unfold B57
 with_reducible repeat' first|exact LeO.refl _|exact LeO.none _|refine LeO.ite ?_ ?_|refine LeO.cnd_ ?_ ?_|refine LeO.bind ?_ (fun _=>?_)
theorem m58 (k:Nat) (x0:TQ):LeO (FX58 k x0) (FX58 (k+1) x0):=by
 show LeO (B58 x0) (B58 x0)
 unfold B58
 with_reducible repeat' first|exact LeO.refl _|exact LeO.none _|refine LeO.ite ?_ ?_|refine LeO.cnd_ ?_ ?_|refine LeO.bind ?_ (fun _=>?_)
theorem m59 (k:Nat) (x0:ByteArray) (x1:Int):LeO (FX59 k x0 x1) (FX59 (k+1) x0 x1):=by
 show LeO (B59 (FX114 k) x0 x1) (B59 (FX114 (k+1)) x0 x1)
 unfold B59
 with_reducible repeat' first|exact LeO.refl _|exact LeO.none _|apply m114|refine LeO.ite ?_ ?_|refine LeO.cnd_ ?_ ?_|refine LeO.bind ?_ (fun _=>?_)
theorem m115 (k:Nat) (x0:TI) (x1:Int):LeO (FX115 k x0 x1) (FX115 (k+1) x0 x1):=by
 show LeO (B115 (FX108 k) (FX116 k) x0 x1) (B115 (FX108 (k+1)) (FX116 (k+1)) x0 x1)
 unfold B115
 with_reducible repeat' first|exact LeO.refl _|exact LeO.none _|apply m108|apply m116|refine LeO.ite ?_ ?_|refine LeO.cnd_ ?_ ?_|refine LeO.bind ?_ (fun _=>?_)
theorem m60 (k:Nat) (x0:TQ) (x1:Int):LeO (FX60 k x0 x1) (FX60 (k+1) x0 x1):=by
 show LeO (B60 (FX115 k) (FX116 k) x0 x1) (B60 (FX115 (k+1)) (FX116 (k+1)) x0 x1)
 unfold B60
 with_reducible repeat' first|exact LeO.refl _|exact LeO.none _|apply m115|apply m116|refine LeO.ite ?_ ?_|refine LeO.cnd_ ?_ ?_|refine LeO.bind ?_ (fun _=>?_)
theorem m56 (k:Nat) (x0:(List TQ)) (y500:Int):LeO (FX56 k x0 y500) (FX56 (k+1) x0 y500):=by
 show LeO (B56 (FX57 k) (FX58 k) (FX59 k) (FX60 k) x0 y500) (B56 (FX57 (k+1)) (FX58 (k+1)) (FX59 (k+1)) (FX60 (k+1)) x0 y500)
 unfold B56
 with_reducible repeat' first|exact LeO.refl _|exact LeO.none _|apply m57|apply m58|apply m59|apply m60|refine LeO.ite ?_ ?_|refine LeO.cnd_ ?_ ?_|refine LeO.bind ?_ (fun _=>?_)
theorem m148 (k:Nat) (x0:TQ):LeO (FX148 k x0) (FX148 (k+1) x0):=by
 show LeO (B148 x0) (B148 x0)
 unfold B148
 with_reducible repeat' first|exact LeO.refl _|exact LeO.none _|refine LeO.ite ?_ ?_|refine LeO.cnd_ ?_ ?_|refine LeO.bind ?_ (fun _=>?_)
theorem m113 (k:Nat) (x0:TQ):LeO (FX113 k x0) (FX113 (k+1) x0):=by
 show LeO (B113 (FX148 k) x0) (B113 (FX148 (k+1)) x0)
 unfold B113
 with_reducible repeat' first|exact LeO.refl _|exact LeO.none _|apply m148|refine LeO.ite ?_ ?_|refine LeO.cnd_ ?_ ?_|refine LeO.bind ?_ (fun _=>?_)
theorem m55Powl:∀k,(∀(x1:(List TQ)) (x11:(List TQ)) (x12:Int) (x13:Int) (y100:Int) (x4:TQ),LeO (GX55Powl0 k x1 x11 x12 x13 y100 x4) (GX55Powl0 (k+1) x1 x11 x12 x13 y100 x4))
 |0=>fun _ _ _ _ _ _ r h=>by simp [GX55Powl0]at h
 |k+1=>by
  have ih0:=m55Powl k
  refine ?_
  ·intro x1 x11 x12 x13 y100 x4
   show LeO (B55Powl0 (GX55Powl0 k) (FX34 k) (FX56 k) (FX113 k) x1 x11 x12 x13 y100 x4) (B55Powl0 (GX55Powl0 (k+1)) (FX34 (k+1)) (FX56 (k+1)) (FX113 (k+1)) x1 x11 x12 x13 y100 x4)
   unfold B55Powl0
   with_reducible repeat' first|apply ih0|exact LeO.refl _|exact LeO.none _|apply m34|apply m56|apply m113|refine LeO.ite ?_ ?_|refine LeO.cnd_ ?_ ?_|refine LeO.bind ?_ (fun _=>?_)
theorem m55Pow (k:Nat) (x1:(List TQ)) (y100:Int):LeO (FX55Pow k x1 y100) (FX55Pow (k+1) x1 y100):=by
 have ih0:=(m55Powl k)
 show LeO (B55Pow (GX55Powl0 k) x1 y100) (B55Pow (GX55Powl0 (k+1)) x1 y100)
 unfold B55Pow
 with_reducible repeat' first|apply ih0|exact LeO.refl _|exact LeO.none _|apply m34|apply m56|apply m113|refine LeO.ite ?_ ?_|refine LeO.cnd_ ?_ ?_|refine LeO.bind ?_ (fun _=>?_)
theorem m15 (k:Nat) (x0:TQ) (x1:Int):LeO (FX15 k x0 x1) (FX15 (k+1) x0 x1):=by
 show LeO (B15 (FX55Pow k) x0 x1) (B15 (FX55Pow (k+1)) x0 x1)
 unfold B15
 with_reducible repeat' first|exact LeO.refl _|exact LeO.none _|apply m55Pow|refine LeO.ite ?_ ?_|refine LeO.cnd_ ?_ ?_|refine LeO.bind ?_ (fun _=>?_)
theorem m72 (k:Nat) (x0:(List TQ)):LeO (FX72 k x0) (FX72 (k+1) x0):=by
 show LeO (B72 (FX52 k) x0) (B72 (FX52 (k+1)) x0)
 unfold B72
 with_reducible repeat' first|exact LeO.refl _|exact LeO.none _|apply m52|refine LeO.ite ?_ ?_|refine LeO.cnd_ ?_ ?_|refine LeO.bind ?_ (fun _=>?_)
theorem m55Addl:∀k,(∀(x1:(List TQ)) (x11:(List TQ)) (x12:Int) (x13:Int) (x4:TQ),LeO (GX55Addl0 k x1 x11 x12 x13 x4) (GX55Addl0 (k+1) x1 x11 x12 x13 x4))
 |0=>fun _ _ _ _ _ r h=>by simp [GX55Addl0]at h
 |k+1=>by
  have ih0:=m55Addl k
  refine ?_
  ·intro x1 x11 x12 x13 x4
   show LeO (B55Addl0 (GX55Addl0 k) (FX34 k) (FX72 k) (FX113 k) x1 x11 x12 x13 x4) (B55Addl0 (GX55Addl0 (k+1)) (FX34 (k+1)) (FX72 (k+1)) (FX113 (k+1)) x1 x11 x12 x13 x4)
   unfold B55Addl0
   with_reducible repeat' first|apply ih0|exact LeO.refl _|exact LeO.none _|apply m34|apply m72|apply m113|refine LeO.ite ?_ ?_|refine LeO.cnd_ ?_ ?_|refine LeO.bind ?_ (fun _=>?_)
theorem m55Add (k:Nat) (x1:(List TQ)):LeO (FX55Add k x1) (FX55Add (k+1) x1):=by
 have ih0:=(m55Addl k)
 show LeO (B55Add (GX55Addl0 k) x1) (B55Add (GX55Addl0 (k+1)) x1)
 unfold B55Add
 with_reducible repeat' first|apply ih0|exact LeO.refl _|exact LeO.none _|apply m34|apply m72|apply m113|refine LeO.ite ?_ ?_|refine LeO.cnd_ ?_ ?_|refine LeO.bind ?_ (fun _=>?_)
theorem m25 (k:Nat) (x0:TQ) (x1:TQ):LeO (FX25 k x0 x1) (FX25 (k+1) x0 x1):=by
 show LeO (B25 (FX55Add k) x0 x1) (B25 (FX55Add (k+1)) x0 x1)
 unfold B25
 with_reducible repeat' first|exact LeO.refl _|exact LeO.none _|apply m55Add|refine LeO.ite ?_ ?_|refine LeO.cnd_ ?_ ?_|refine LeO.bind ?_ (fun _=>?_)
theorem m49 (k:Nat) (x0:Int):LeO (FX49 k x0) (FX49 (k+1) x0):=by
 first|exact LeO.refl _|apply All.galoisref02_FromInt.mono| (refine LeO.bind ?_ (fun _=>LeO.refl _);apply All.galoisref02_FromInt.mono)
theorem m118 (k:Nat) (x0:ByteArray) (x1:ByteArray):LeO (FX118 k x0 x1) (FX118 (k+1) x0 x1):=by
 first|exact LeO.refl _|apply All.galoisref01_DivMod.mono| (refine LeO.bind ?_ (fun _=>LeO.refl _);apply All.galoisref01_DivMod.mono)
theorem m64 (k:Nat) (x0:ByteArray) (x1:ByteArray):LeO (FX64 k x0 x1) (FX64 (k+1) x0 x1):=by
 first|exact LeO.refl _|apply All.galoisref01_Gcd.mono| (refine LeO.bind ?_ (fun _=>LeO.refl _);apply All.galoisref01_Gcd.mono)
theorem m123 (k:Nat) (x0:Bool) (x1:ByteArray):LeO (FX123 k x0 x1) (FX123 (k+1) x0 x1):=LeO.refl _
theorem m90 (k:Nat) (x0:TI) (x1:TI):LeO (FX90 k x0 x1) (FX90 (k+1) x0 x1):=by
 show LeO (B90 (FX64 k) (FX118 k) (FX123 k) x0 x1) (B90 (FX64 (k+1)) (FX118 (k+1)) (FX123 (k+1)) x0 x1)
 unfold B90
 with_reducible repeat' first|exact LeO.refl _|exact LeO.none _|apply m64|apply m118|apply m123|refine LeO.ite ?_ ?_|refine LeO.cnd_ ?_ ?_|refine LeO.bind ?_ (fun _=>?_)
theorem m69 (k:Nat) (x0:Int) (x1:Int):LeO (FX69 k x0 x1) (FX69 (k+1) x0 x1):=by
 show LeO (B69 (FX49 k) (FX90 k) x0 x1) (B69 (FX49 (k+1)) (FX90 (k+1)) x0 x1)
 unfold B69
 with_reducible repeat' first|exact LeO.refl _|exact LeO.none _|apply m49|apply m90|refine LeO.ite ?_ ?_|refine LeO.cnd_ ?_ ?_|refine LeO.bind ?_ (fun _=>?_)
theorem m30 (k:Nat) (x0:Int) (x1:Int):LeO (FX30 k x0 x1) (FX30 (k+1) x0 x1):=by
 show LeO (B30 (FX69 k) x0 x1) (B30 (FX69 (k+1)) x0 x1)
 unfold B30
 with_reducible repeat' first|exact LeO.refl _|exact LeO.none _|apply m69|refine LeO.ite ?_ ?_|refine LeO.cnd_ ?_ ?_|refine LeO.bind ?_ (fun _=>?_)
theorem m172 (k:Nat) (x0:ByteArray) (x1:Int):LeO (FX172 k x0 x1) (FX172 (k+1) x0 x1):=LeO.refl _
theorem m168 (k:Nat) (x0:ByteArray) (x1:Int):LeO (FX168 k x0 x1) (FX168 (k+1) x0 x1):=by
 show LeO (B168 (FX172 k) x0 x1) (B168 (FX172 (k+1)) x0 x1)
 unfold B168
 with_reducible repeat' first|exact LeO.refl _|exact LeO.none _|apply m172|refine LeO.ite ?_ ?_|refine LeO.cnd_ ?_ ?_|refine LeO.bind ?_ (fun _=>?_)
theorem m158 (k:Nat) (x0:ByteArray) (x1:ByteArray):LeO (FX158 k x0 x1) (FX158 (k+1) x0 x1):=by
 show LeO (B158 (FX168 k) x0 x1) (B158 (FX168 (k+1)) x0 x1)
 unfold B158
 with_reducible repeat' first|exact LeO.refl _|exact LeO.none _|apply m168|refine LeO.ite ?_ ?_|refine LeO.cnd_ ?_ ?_|refine LeO.bind ?_ (fun _=>?_)
theorem m137 (k:Nat) (x0:ByteArray) (x1:ByteArray):LeO (FX137 k x0 x1) (FX137 (k+1) x0 x1):=by
 show LeO (B137 (FX158 k) x0 x1) (B137 (FX158 (k+1)) x0 x1)
 unfold B137
 with_reducible repeat' first|exact LeO.refl _|exact LeO.none _|apply m158|refine LeO.ite ?_ ?_|refine LeO.cnd_ ?_ ?_|refine LeO.bind ?_ (fun _=>?_)
theorem m96 (k:Nat) (x0:ByteArray) (x1:ByteArray):LeO (FX96 k x0 x1) (FX96 (k+1) x0 x1):=by
 show LeO (B96 (FX137 k) x0 x1) (B96 (FX137 (k+1)) x0 x1)
 unfold B96
 with_reducible repeat' first|exact LeO.refl _|exact LeO.none _|apply m137|refine LeO.ite ?_ ?_|refine LeO.cnd_ ?_ ?_|refine LeO.bind ?_ (fun _=>?_)
theorem m98 (k:Nat) (x0:ByteArray):LeO (FX98 k x0) (FX98 (k+1) x0):=by
 first|exact LeO.refl _|apply All.natural_Parse.mono| (refine LeO.bind ?_ (fun _=>LeO.refl _);apply All.natural_Parse.mono)
theorem m97 (k:Nat) (x0:ByteArray):LeO (FX97 k x0) (FX97 (k+1) x0):=by
 first|exact LeO.refl _|apply All.integer_Parse.mono| (refine LeO.bind ?_ (fun _=>LeO.refl _);apply All.integer_Parse.mono)
theorem m45 (k:Nat) (x0:ByteArray):LeO (FX45 k x0) (FX45 (k+1) x0):=by
 show LeO (B45 (FX34 k) (FX96 k) (FX97 k) (FX98 k) x0) (B45 (FX34 (k+1)) (FX96 (k+1)) (FX97 (k+1)) (FX98 (k+1)) x0)
 unfold B45
 with_reducible repeat' first|exact LeO.refl _|exact LeO.none _|apply m34|apply m96|apply m97|apply m98|refine LeO.ite ?_ ?_|refine LeO.cnd_ ?_ ?_|refine LeO.bind ?_ (fun _=>?_)
theorem m48 (k:Nat) (x0:Int) (x1:Int):LeO (FX48 k x0 x1) (FX48 (k+1) x0 x1):=by
 show LeO (B48 (FX53 k) x0 x1) (B48 (FX53 (k+1)) x0 x1)
 unfold B48
 with_reducible repeat' first|exact LeO.refl _|exact LeO.none _|apply m53|refine LeO.ite ?_ ?_|refine LeO.cnd_ ?_ ?_|refine LeO.bind ?_ (fun _=>?_)
theorem m10 (k:Nat):LeO (FX10 k) (FX10 (k+1)):=by
 show LeO (B10 (FX12 k) (FX13 k) (FX14 k) (FX15 k) (FX25 k) (FX30 k) (FX45 k) (FX48 k) (FX49 k)) (B10 (FX12 (k+1)) (FX13 (k+1)) (FX14 (k+1)) (FX15 (k+1)) (FX25 (k+1)) (FX30 (k+1)) (FX45 (k+1)) (FX48 (k+1)) (FX49 (k+1)))
 unfold B10
 with_reducible repeat' first|exact LeO.refl _|exact LeO.none _|apply m12|apply m13|apply m14|apply m15|apply m25|apply m30|apply m45|apply m48|apply m49|refine LeO.ite ?_ ?_|refine LeO.cnd_ ?_ ?_|refine LeO.bind ?_ (fun _=>?_)
end Go.Proofs.YtjllholdppjllaaGreatV
namespace Go.Proofs.YtjllholdppjllaaGreatV
open Go Go.RowKit YtjllholdppjllaaGreat YtjllholdppjllaaGreatE YtjllholdppjllaaGreatW.PrintWords YtjllholdppjllaaGreatW.PrintLast YtjllholdppjllaaGreatW.PrintMore
theorem awake_at:FX10 80=some true:=by kernel_rfl
theorem awake_ev:Ev (fun k=>FX10 k) true:=Ev.of (fun k=>m10 k) awake_at
end Go.Proofs.YtjllholdppjllaaGreatV
set_option maxRecDepth 100000
namespace Go.Proofs.YtjllholdppjllaaGreatV
open Go Go.RowKit YtjllholdppjllaaGreat YtjllholdppjllaaGreatE YtjllholdppjllaaGreatW.PrintWords YtjllholdppjllaaGreatW.PrintLast YtjllholdppjllaaGreatW.PrintMore
noncomputable abbrev FX9 (k:Nat) (x0:TQ) (x1:ByteArray):Option R9:=B9 (FX10 k) (FX11 k) (FX16 k) (FX44 k) (FX45 k) (FX46 k) (FX47 k) x0 x1
theorem b9 (k:Nat) (x0:TQ) (x1:ByteArray):LeO (FX9 k x0 x1) (B9 (FX10 k) (FX11 k) (FX16 k) (FX44 k) (FX45 k) (FX46 k) (FX47 k) x0 x1):=LeO.refl _
theorem ok9 (k:Nat):FeOk Tryz.prog (fe9 (FX9 k)):=
 fe_ok EOK HM (es:=fun k=>fes9 (FX10 k) (FX11 k) (FX16 k) (FX44 k) (FX45 k) (FX46 k) (FX47 k)) (fun k=>fc ⟨ok10 k,fc ⟨ok11 k,fc ⟨ok16 k,fc ⟨ok44 k,fc ⟨ok45 k,fc ⟨ok46 k,fc ⟨ok47 k,List.forall_mem_nil _⟩⟩⟩⟩⟩⟩⟩) (N:=83) (an:=an9) (c:=cd9) (f:=9) (fn:=Tryz.f9) (rms:=rm9) (ask:=ask9) (rsk:=rsk9) (enc:=enc9) (dec:=dec9) (tbl:=[]) (fun s=>rfl) Tryz.func9 (by kernel_rfl) (by kernel_rfl) (by kernel_rfl) (fun k=>les9)
  (List.forall_mem_nil _) (fun k s0=> .nil)
  (F:=fun k s=>FX9 k s.1.1 s.1.2.1) (fun k s r h=>(e9 (FX10 k) (FX11 k) (FX16 k) (FX44 k) (FX45 k) (FX46 k) (FX47 k) s).trans (b9 k s.1.1 s.1.2.1 r h)) k
theorem rep_bss {w:World} {bl:Nat→Blk} {φ:Nat→Addr} {x:Bool} {y z:ByteArray}:RepV w bl φ (.a (.v (.ag (.pr (.ag (.pr .bo .st)) .st)) ((x,y),z))) (.agg #[.bool x, .string y, .string z]):=⟨[.bool x, .string y, .string z],⟨[.bool x, .string y],[.string z],rfl,⟨[.bool x],[.string y],rfl,rfl,rfl⟩,rfl⟩,rfl⟩
theorem calls9 (a0:Bool) (a1 a2:ByteArray) (b:ByteArray) (h:∃k,FX9 k ((a0,a1),a2) b=some true) (w:World):
  Calls Tryz.prog 9 #[.agg #[.bool a0, .string a1, .string a2], .string b] w fun e w'=>e= .returned (.bool true)∧Below w.heap.size w w':=by
 obtain⟨k,hk⟩:=h
 have hc:=ok9 k ((((a0,a1),a2),(b,())),()) true hk (.a (.v .bo true)) rfl
 exact calls_of_ct (vs:=[.agg #[.bool a0, .string a1, .string a2], .string b]) Tryz.func9 (by kernel_rfl) (c:=cd9) (by kernel_rfl) hc (fun w bl φ=> .cons rep_bss (.cons rep_str (.nil))) (fun w bl φ v h=>rep_true h) w
end Go.Proofs.YtjllholdppjllaaGreatV
namespace Go.Proofs.YtjllholdppjllaaGreatN
open Go.Proofs.YtjllholdppjllaaGreatW.PrintWords
def vB (B:Int):List Int→Int
 | []=>0
 |x::xs=>x+B*vB B xs
def Dig (B:Int) (l:List Int):Prop:=∀x,x∈l→0≤x∧x<B
def Trim (l:List Int):Prop:=0<l.length→rd l (l.length-1:Nat)≠0
theorem vB_cons (B x:Int) (xs:List Int):vB B (x::xs)=x+B*vB B xs:=rfl
theorem Dig_nil (B:Int):Dig B []:=fun _ h=>absurd h (List.not_mem_nil)
theorem Dig_cons {B x:Int} {xs:List Int}:Dig B (x::xs)↔(0≤x∧x<B)∧Dig B xs:=by
 constructor
 ·intro h
  exact⟨h x (List.mem_cons_self),fun y hy=>h y (List.mem_cons_of_mem _ hy)⟩
 ·rintro⟨h1,h2⟩ y hy
  rcases List.mem_cons.1 hy with rfl|hy
  ·exact h1
  ·exact h2 y hy
theorem Dig_append {B:Int} {xs ys:List Int} (hx:Dig B xs) (hy:Dig B ys):Dig B (xs++ys):=by
 intro z hz
 rcases List.mem_append.1 hz with h|h
 ·exact hx z h
 ·exact hy z h
theorem Dig_take {B:Int} {xs:List Int} (h:Dig B xs) (n:Nat):Dig B (xs.take n):=fun z hz=>h z (List.mem_of_mem_take hz)
theorem Dig_drop {B:Int} {xs:List Int} (h:Dig B xs) (n:Nat):Dig B (xs.drop n):=fun z hz=>h z (List.mem_of_mem_drop hz)
theorem Dig_set {B:Int} {xs:List Int} (h:Dig B xs) (n:Nat) {v:Int} (h0:0≤v) (h1:v<B):Dig B (xs.set n v):=by
 intro z hz
 rcases List.mem_or_eq_of_mem_set hz with hz|rfl
 ·exact h z hz
 ·exact⟨h0,h1⟩
theorem Dig_replicate {B:Int} (hB:0<B) (n:Nat):Dig B (List.replicate n 0):=by
 intro z hz
 rw [List.eq_of_mem_replicate hz]
 exact⟨Int.le_refl _,hB⟩
theorem Dig_reverse {B:Int} {xs:List Int} (h:Dig B xs):Dig B xs.reverse:=fun z hz=>h z (List.mem_reverse.1 hz)
theorem rd_nat (xs:List Int) (n:Nat):rd xs (n:Int)=xs.getD n 0:=by simp [rd]
theorem rd_get (xs:List Int) (n:Nat) (h:n<xs.length):rd xs (n:Int)=xs[n]:=by
 rw [rd_nat,List.getD_eq_getElem?_getD,List.getElem?_eq_getElem h]
 rfl
theorem Dig_rd {B:Int} {xs:List Int} (h:Dig B xs) (n:Nat) (hn:n<xs.length):0≤rd xs (n:Int)∧rd xs (n:Int)<B:=by
 rw [rd_get xs n hn]
 exact h _ (List.getElem_mem hn)
theorem Dig_rd0 {B:Int} (hB:0<B) {xs:List Int} (h:Dig B xs) (n:Nat):0≤rd xs (n:Int)∧rd xs (n:Int)<B:=by
 rcases Nat.lt_or_ge n xs.length with hn|hn
 ·exact Dig_rd h n hn
 ·rw [rd_nat,List.getD_eq_getElem?_getD,List.getElem?_eq_none hn]
  exact⟨Int.le_refl _,hB⟩
theorem vB_append (B:Int) (xs ys:List Int):vB B (xs++ys)=vB B xs+B^xs.length*vB B ys:=by
 induction xs with
 |nil=>simp [vB]
 |cons x xs ih=>
  rw [List.cons_append,vB_cons,ih,vB_cons,List.length_cons,Int.pow_succ,Int.mul_add,←Int.add_assoc,←Int.mul_assoc,Int.mul_comm B (B^xs.length)]
theorem vB_replicate (B:Int) (n:Nat):vB B (List.replicate n 0)=0:=by
 induction n with
 |zero=>rfl
 |succ n ih=>rw [List.replicate_succ,vB_cons,ih];simp
theorem vB_nonneg {B:Int} (hB:0≤B) {l:List Int} (h:Dig B l):0≤vB B l:=by
 induction l with
 |nil=>exact Int.le_refl _
 |cons x xs ih=>
  have:=Dig_cons.1 h
  rw [vB_cons]
  exact Int.add_nonneg this.1.1 (Int.mul_nonneg hB (ih this.2))
theorem vB_lt {B:Int} (hB:0<B) {l:List Int} (h:Dig B l):vB B l<B^l.length:=by
 induction l with
 |nil=>simp [vB]
 |cons x xs ih=>
  have hd:=Dig_cons.1 h
  have h1:=ih hd.2
  rw [vB_cons,List.length_cons,Int.pow_succ,Int.mul_comm (B^xs.length) B]
  have h2:B*(vB B xs+1)≤B*B^xs.length:=Int.mul_le_mul_of_nonneg_left (by omega) (by omega)
  rw [Int.mul_add,Int.mul_one]at h2
  omega
theorem vB_split (B:Int) (l:List Int) (n:Nat) (h:n≤l.length):vB B l=vB B (l.take n)+B^n*vB B (l.drop n):=by
 conv=>lhs;rw [←List.take_append_drop n l]
 rw [vB_append,List.length_take,Nat.min_eq_left h]
theorem vB_take_succ (B:Int) (l:List Int) (n:Nat) (h:n<l.length):vB B (l.take (n+1))=vB B (l.take n)+B^n*rd l (n:Int):=by
 rw [List.take_succ_eq_append_getElem h,vB_append,List.length_take,Nat.min_eq_left (by omega),rd_get l n h]
 simp [vB]
theorem vB_set (B:Int) (l:List Int) (n:Nat) (v:Int) (h:n<l.length):vB B (l.set n v)=vB B l+B^n*(v-rd l (n:Int)):=by
 induction l generalizing n with
 |nil=>simp at h
 |cons x xs ih=>
  cases n with
  |zero=>simp [vB,rd];omega
  |succ n=>
   have h':n<xs.length:=by simpa using h
   rw [List.set_cons_succ,vB_cons,ih n h',vB_cons]
   have:rd (x::xs) ((n+1:Nat):Int)=rd xs (n:Int):=by rw [rd_nat,rd_nat];simp
   rw [this,Int.pow_succ,Int.mul_add,←Int.add_assoc,←Int.mul_assoc,Int.mul_comm B (B^n)]
theorem set_eq (l:List Int) (n:Nat) (h:n<l.length):l.set n (rd l (n:Int))=l:=by
 rw [rd_get l n h,List.set_getElem_self]
theorem rd_set_self (l:List Int) (n:Nat) (v:Int) (h:n<l.length):rd (l.set n v) (n:Int)=v:=by
 rw [rd_get _ n (by simpa using h),List.getElem_set_self]
theorem rd_set_ne (l:List Int) (n m:Nat) (v:Int) (h:n≠m):rd (l.set n v) (m:Int)=rd l (m:Int):=by
 rw [rd_nat,rd_nat,List.getD_eq_getElem?_getD,List.getD_eq_getElem?_getD,List.getElem?_set_ne h]
theorem rd_append_right (xs ys:List Int) (n:Nat):rd (xs++ys) ((xs.length+n:Nat):Int)=rd ys (n:Int):=by
 rw [rd_nat,rd_nat,List.getD_eq_getElem?_getD,List.getD_eq_getElem?_getD,List.getElem?_append_right (by omega)]
 congr 2
 omega
theorem rd_take (xs:List Int) (n m:Nat) (h:m<n):rd (xs.take n) (m:Int)=rd xs (m:Int):=by
 rw [rd_nat,rd_nat,List.getD_eq_getElem?_getD,List.getD_eq_getElem?_getD,List.getElem?_take_of_lt h]
theorem rd_drop (xs:List Int) (n m:Nat):rd (xs.drop n) (m:Int)=rd xs ((n+m:Nat):Int):=by
 rw [rd_nat,rd_nat,List.getD_eq_getElem?_getD,List.getD_eq_getElem?_getD,List.getElem?_drop]
theorem rd_replicate (n m:Nat):rd (List.replicate n 0) (m:Int)=0:=by
 rw [rd_nat,List.getD_eq_getElem?_getD,List.getElem?_replicate]
 split<;>rfl
theorem dig_inj {B:Int} (hB:0<B):∀{l m:List Int},Dig B l→Dig B m→l.length=m.length→vB B l=vB B m→l=m
 | [],[],_,_,_,_=>rfl
 | [],y::ys,_,_,h,_=>by simp at h
 |x::xs,[],_,_,h,_=>by simp at h
 |x::xs,y::ys,hl,hm,h,hv=>by
  have h1:=Dig_cons.1 hl
  have h2:=Dig_cons.1 hm
  rw [vB_cons,vB_cons]at hv
  have hx:x=y:=by
   have e1:(x+B*vB B xs)%B=x:=by rw [Int.add_mul_emod_self_left,Int.emod_eq_of_lt h1.1.1 h1.1.2]
   have e2:(y+B*vB B ys)%B=y:=by rw [Int.add_mul_emod_self_left,Int.emod_eq_of_lt h2.1.1 h2.1.2]
   rw [←e1,←e2,hv]
  subst hx
  have hv':B*vB B xs=B*vB B ys:=by omega
  have:=Int.eq_of_mul_eq_mul_left (by omega) hv'
  rw [dig_inj hB h1.2 h2.2 (by simpa using h) this]
theorem trim_le {B:Int} (hB:0<B) {l:List Int} (h:Dig B l) (ht:Trim l) (hp:0<l.length):B^(l.length-1)≤vB B l:=by
 have e:l.take (l.length-1+1)=l:=List.take_of_length_le (by omega)
 have h1:=vB_take_succ B l (l.length-1) (by omega)
 rw [e]at h1
 rw [h1]
 have h2:=vB_nonneg (Int.le_of_lt hB) (Dig_take h (l.length-1))
 have h3:=(Dig_rd h (l.length-1) (by omega)).1
 have h4:1≤rd l ((l.length-1:Nat):Int):=by have:=ht hp;omega
 have h5:B^(l.length-1)*1≤B^(l.length-1)*rd l ((l.length-1:Nat):Int):=Int.mul_le_mul_of_nonneg_left h4 (Int.le_of_lt (Int.pow_pos hB))
 rw [Int.mul_one]at h5
 omega
theorem pow_le_pow {B:Int} (hB:0<B) {m n:Nat} (h:m≤n):B^m≤B^n:=by
 obtain⟨j,rfl⟩:∃j,n=m+j:=⟨n-m,by omega⟩
 rw [Int.pow_add]
 have h1:1≤B^j:=by have:0<B^j:=Int.pow_pos hB;omega
 have h2:B^m*1≤B^m*B^j:=Int.mul_le_mul_of_nonneg_left h1 (Int.le_of_lt (Int.pow_pos hB))
 rwa [Int.mul_one]at h2
theorem trim_len {B:Int} (hB:0<B) {l m:List Int} (hl:Dig B l) (hm:Dig B m) (ht:Trim m) (h:l.length<m.length):vB B l<vB B m:=by
 have h1:=vB_lt hB hl
 have h2:=trim_le hB hm ht (by omega)
 have h3:=pow_le_pow hB (show l.length≤m.length-1 by omega)
 omega
theorem trim_inj {B:Int} (hB:0<B) {l m:List Int} (hl:Dig B l) (hm:Dig B m) (tl:Trim l) (tm:Trim m) (hv:vB B l=vB B m):l=m:=by
 rcases Nat.lt_trichotomy l.length m.length with h|h|h
 ·have:=trim_len hB hl hm tm h;omega
 ·exact dig_inj hB hl hm h hv
 ·have:=trim_len hB hm hl tl h;omega
def dgs (b:Nat) (n:Nat):List Int:=
 if h:n=0 then []else((n%(b+2):Nat):Int)::dgs b (n/(b+2))
termination_by n
decreasing_by exact Nat.div_lt_self (by omega) (by omega)
theorem dgs_zero (b:Nat):dgs b 0=[]:=by rw [dgs];simp
theorem dgs_pos (b n:Nat) (h:n≠0):dgs b n=((n%(b+2):Nat):Int)::dgs b (n/(b+2)):=by rw [dgs];simp [h]
theorem dgs_spec (b:Nat):∀n,Dig (b+2:Nat) (dgs b n)∧Trim (dgs b n)∧vB (b+2:Nat) (dgs b n)=n:=by
 intro n
 induction n using Nat.strongRecOn with
 |_ n ih=>
  by_cases h:n=0
  ·subst h
   rw [dgs_zero]
   exact⟨Dig_nil _,fun h=>absurd h (by simp),rfl⟩
  ·obtain⟨h1,h2,h3⟩:=ih (n/(b+2)) (Nat.div_lt_self (by omega) (by omega))
   rw [dgs_pos b n h]
   have hm:=Nat.mod_lt n (show 0<b+2 by omega)
   have hd:=Nat.div_add_mod n (b+2)
   refine⟨Dig_cons.2 ⟨⟨by omega,by omega⟩,h1⟩,?_,?_⟩
   ·intro _
    by_cases hz:n/(b+2)=0
    ·rw [hz,dgs_zero]
     show rd [((n%(b+2):Nat):Int)] ((0:Nat):Int)≠0
     rw [hz]at hd
     have:((n%(b+2):Nat):Int)≠0:=by omega
     simpa [rd]using this
    ·have hl:0<(dgs b (n/(b+2))).length:=by rw [dgs_pos _ _ hz];simp
     have:=h2 hl
     rw [List.length_cons,Nat.add_sub_cancel]
     obtain⟨q,hq⟩:∃q,(dgs b (n/(b+2))).length=q+1:=⟨(dgs b (n/(b+2))).length-1,by omega⟩
     rw [hq]at this⊢
     rw [rd_nat]at this⊢
     simpa using this
   ·rw [vB_cons,h3]
    have:((b+2:Nat):Int)*((n/(b+2):Nat):Int)+((n%(b+2):Nat):Int)=n:=by exact_mod_cast hd
    omega
theorem dgs_unique {b:Nat} {l:List Int} {n:Nat} (hl:Dig (b+2:Nat) l) (ht:Trim l) (hv:vB (b+2:Nat) l=n):l=dgs b n:=by
 obtain⟨h1,h2,h3⟩:=dgs_spec b n
 exact trim_inj (by omega) hl h1 ht h2 (by rw [hv,h3])
theorem dgs_len {b n k:Nat} (h:n<(b+2)^k):(dgs b n).length≤k:=by
 obtain⟨h1,h2,h3⟩:=dgs_spec b n
 rcases Nat.lt_or_ge k (dgs b n).length with hk|hk
 ·have h4:=trim_le (by omega) h1 h2 (by omega)
  rw [h3]at h4
  have h5:=pow_le_pow (B:=((b+2:Nat):Int)) (by omega) (show k≤(dgs b n).length-1 by omega)
  have h6:((n:Nat):Int)<((b+2:Nat):Int)^k:=by exact_mod_cast h
  omega
 ·exact hk
theorem dgs_lt (b n:Nat):n<(b+2)^(dgs b n).length:=by
 obtain⟨h1,h2,h3⟩:=dgs_spec b n
 have:=vB_lt (by omega) h1
 rw [h3]at this
 exact_mod_cast this
end Go.Proofs.YtjllholdppjllaaGreatN
namespace Go.Proofs.YtjllholdppjllaaGreatN
open Go.RowKit Go.Proofs.YtjllholdppjllaaGreat.All Go.Proofs.YtjllholdppjllaaGreatW.PrintWords Go.Proofs.YtjllholdppjllaaGreatW.PrintLast Go.Proofs.YtjllholdppjllaaGreatW.PrintMore
theorem w64 {x:Int} (h0: -9223372036854775808≤x) (h1:x<9223372036854775808):wrap64 x=x:=by unfold wrap64;omega
theorem u64 {x:Int} (h0:0≤x) (h1:x<18446744073709551616):IntKind.u64.wrap x=x:=by
 simp [IntKind.wrap,IntKind.bits,IntKind.signed]
 omega
theorem u64_mod (x:Int):IntKind.u64.wrap x=x%18446744073709551616:=by simp [IntKind.wrap,IntKind.bits,IntKind.signed]
abbrev B64:Int:=18446744073709551616
def d64 (n:Nat):List Int:=dgs 18446744073709551614 n
theorem d64_dig (n:Nat):Dig B64 (d64 n):=(dgs_spec 18446744073709551614 n).1
theorem d64_trim (n:Nat):Trim (d64 n):=(dgs_spec 18446744073709551614 n).2.1
theorem d64_val (n:Nat):vB B64 (d64 n)=n:=(dgs_spec 18446744073709551614 n).2.2
theorem d64_unique {l:List Int} {n:Nat} (hl:Dig B64 l) (ht:Trim l) (hv:vB B64 l=n):l=d64 n:=dgs_unique hl ht hv
theorem d64_zero:d64 0=[]:=dgs_zero _
def d8 (n:Nat):List Int:=dgs 254 n
theorem d8_dig (n:Nat):Dig 256 (d8 n):=(dgs_spec 254 n).1
theorem d8_trim (n:Nat):Trim (d8 n):=(dgs_spec 254 n).2.1
theorem d8_val (n:Nat):vB 256 (d8 n)=n:=(dgs_spec 254 n).2.2
theorem d8_unique {l:List Int} {n:Nat} (hl:Dig 256 l) (ht:Trim l) (hv:vB 256 l=n):l=d8 n:=dgs_unique hl ht hv
def nat (n:Nat):ByteArray:=strOfNums (d8 n).reverse
theorem bytesOf_str {l:List Int} (h:Dig 256 l):bytesOf (strOfNums l)=l:=by
 unfold bytesOf
 rw [strOfNums_data,List.map_map]
 conv=>rhs;rw [←List.map_id l]
 refine List.map_congr_left fun x hx=>?_
 have:=h x hx
 simp [UInt8.toNat_ofNat']
 omega
theorem str_bytesOf (s:ByteArray):strOfNums (bytesOf s)=s:=by
 unfold strOfNums bytesOf
 rw [List.map_map]
 have:List.map ((fun n:Int=>UInt8.ofNat n.toNat)∘fun b:UInt8=>(b.toNat:Int)) s.data.toList=s.data.toList:=by
  conv=>rhs;rw [←List.map_id s.data.toList]
  refine List.map_congr_left fun x _=>?_
  simp
 rw [this]
theorem bytesOf_dig (s:ByteArray):Dig 256 (bytesOf s):=by
 intro x hx
 unfold bytesOf at hx
 obtain⟨b,_,rfl⟩:=List.mem_map.1 hx
 have:=b.toNat_lt
 omega
theorem str_ext {s t:ByteArray} (h:bytesOf s=bytesOf t):s=t:=by rw [←str_bytesOf s,h,str_bytesOf]
theorem toList_nil {s:ByteArray}:s.toList=[]↔s.size=0:=by
 rw [ByteArray.toList_eq,←List.length_eq_zero_iff,data_length]
theorem nat_bytes (n:Nat):bytesOf (nat n)=(d8 n).reverse:=bytesOf_str (Dig_reverse (d8_dig n))
theorem nat_size (n:Nat):(nat n).size=(d8 n).length:=by rw [←bytesOf_length,nat_bytes,List.length_reverse]
def bval (s:ByteArray):Int:=vB 256 (bytesOf s).reverse
theorem bval_nat (n:Nat):bval (nat n)=n:=by unfold bval;rw [nat_bytes,List.reverse_reverse,d8_val]
theorem bval_nonneg (s:ByteArray):0≤bval s:=vB_nonneg (by decide) (Dig_reverse (bytesOf_dig s))
theorem nat_inj {m n:Nat}:nat m=nat n↔m=n:=by
 constructor
 ·intro h
  have:=bval_nat m
  rw [h,bval_nat]at this
  omega
 ·rintro rfl;rfl
theorem rd_reverse (l:List Int) (n:Nat) (h:n<l.length):rd l.reverse (n:Int)=rd l ((l.length-1-n:Nat):Int):=by
 rw [rd_get _ n (by simpa using h),rd_get _ _ (by omega),List.getElem_reverse]
theorem bt_rd (s:ByteArray) (i:Int):bt s i=rd (bytesOf s) i:=(rd_bytesOf s i).symm
theorem wf_nat {s:ByteArray} (h:s.size=0∨bt s 0≠0):s=nat (bval s).toNat:=by
 apply str_ext
 rw [nat_bytes]
 have ht:Trim (bytesOf s).reverse:=by
  intro hp
  rw [List.length_reverse]at hp⊢
  rw [rd_reverse _ _ (by omega),bt_rd]at*
  rw [bytesOf_length]at hp
  have e:(bytesOf s).length-1-((bytesOf s).length-1)=0:=by omega
  rw [e]
  rcases h with h|h
  ·omega
  ·exact h
 have:=d8_unique (n:=(bval s).toNat) (Dig_reverse (bytesOf_dig s)) ht (by have:=bval_nonneg s;unfold bval at this⊢;omega)
 rw [←this,List.reverse_reverse]
theorem nat_wf (n:Nat):(nat n).size=0∨bt (nat n) 0≠0:=by
 rcases Nat.eq_zero_or_pos (d8 n).length with h|h
 ·left;rw [nat_size,h]
 ·right
  rw [bt_rd,nat_bytes]
  have:=d8_trim n h
  have e:=rd_reverse (d8 n) 0 (by omega)
  rw [show(d8 n).length-1-0=(d8 n).length-1 by omega]at e
  rw [←e]at this
  exact this
theorem nat_zero:nat 0=⟨#[]⟩:=by unfold nat d8;rw [dgs_zero];rfl
theorem nat_size_zero {n:Nat}:(nat n).size=0↔n=0:=by
 constructor
 ·intro h
  rw [nat_size]at h
  have:=d8_val n
  rw [List.eq_nil_of_length_eq_zero h]at this
  simp [vB]at this
  omega
 ·rintro rfl;rw [nat_zero];rfl
theorem nat_size_le {n k:Nat}:(nat n).size≤k↔n<256^k:=by
 rw [nat_size]
 constructor
 ·intro h
  exact Nat.lt_of_lt_of_le (dgs_lt 254 n) (Nat.pow_le_pow_right (by decide) h)
 ·intro h
  exact dgs_len h
theorem nat_lt_size (n:Nat):n<256^(nat n).size:=nat_size_le.1 (Nat.le_refl _)
theorem vB_zero (B:Int):∀{l:List Int},(∀j:Nat,j<l.length→rd l (j:Int)=0)→vB B l=0
 | [],_=>rfl
 |x::xs,h=>by
  have h0:x=0:=h 0 (by simp)
  have:=vB_zero B (l:=xs) (fun j hj=>by
   have:=h (j+1) (by simpa using hj)
   rw [rd_nat]at this⊢
   simpa using this)
  rw [vB_cons,h0,this]
  simp
theorem vB_low (B:Int) {l:List Int} {n:Nat} (hn:n≤l.length) (h:∀j:Nat,n≤j→j<l.length→rd l (j:Int)=0):vB B l=vB B (l.take n):=by
 rw [vB_split B l n hn,vB_zero B (l:=l.drop n) (fun j hj=>by rw [rd_drop];exact h _ (by omega) (by simp at hj;omega))]
 simp
theorem trim_l0 (l:List Int) (hd:Dig B64 l) (hl:l.length<9223372036854775808):∀n:Nat,n≤l.length→(∀j:Nat,n≤j→j<l.length→rd l (j:Int)=0)→Ev (fun k=>exact_trim.l0 k l (n:Int)) (d64 (vB B64 l).toNat):=by
 have hv:=vB_nonneg (by decide) hd
 intro n
 induction n with
 |zero=>
  intro hn h
  refine Ev.step (f:=fun _=>some (d64 (vB B64 l).toNat)) (fun k=>?_) (Ev.now _)
  simp only [exact_trim.l0]
  rw [if_neg (by omega),if_pos (by omega),if_pos (by omega)]
  have:=vB_low B64 hn h
  rw [this]
  simp [vB,d64_zero]
 |succ n ih=>
  intro hn h
  have e1:wrap64 (((n+1:Nat):Int)-1)=(n:Int):=by rw [w64 (by omega) (by omega)];omega
  by_cases hz:rd l (n:Int)=0
  ·refine Ev.step (f:=fun k=>exact_trim.l0 k l (n:Int)) (fun k=>?_) (ih (by omega) (fun j hj hjl=>?_))
   ·simp only [exact_trim.l0,e1]
    rw [if_pos (by omega),if_pos (by omega),if_pos (by omega),if_pos hz]
   ·rcases Nat.lt_or_ge n j with hlt|hge
    ·exact h j hlt hjl
    ·have:j=n:=by omega
     subst this
     exact hz
  ·refine Ev.step (f:=fun _=>some (d64 (vB B64 l).toNat)) (fun k=>?_) (Ev.now _)
   simp only [exact_trim.l0,e1]
   rw [if_pos (by omega),if_pos (by omega),if_pos (by omega),if_neg hz,if_pos (by omega),if_pos (by omega)]
   congr 1
   have hlen:(l.take (n+1)).length=n+1:=by rw [List.length_take];omega
   refine d64_unique (Dig_take hd _) (fun _=>?_) ?_
   ·rw [Int.toNat_natCast,hlen,Nat.add_sub_cancel,rd_take l _ _ (by omega)]
    exact hz
   ·rw [Int.toNat_natCast,←vB_low B64 hn h]
    omega
theorem trim_ev {l:List Int} (hd:Dig B64 l) (hl:l.length<9223372036854775808):Ev (fun k=>exact_trim.f k l) (d64 (vB B64 l).toNat):=
 trim_l0 l hd hl l.length (Nat.le_refl _) (fun j h1 h2=>absurd h1 (by omega))
theorem wraps_u64 (n:Int) (h0:0≤n) (h1:n<2^64):IntKind.u64.wrap n=n:=u64 h0 (by simpa using h1)
theorem pow8 (q r:Nat):(B64:Int)^q*256^r=256^(8*q+r):=by
 have e:(256:Int)^8=B64:=rfl
 rw [Int.pow_add,Int.pow_mul,e]
theorem high_succ (s:ByteArray) (i:Nat) (h:i<s.size):vB 256 ((bytesOf s).take (i+1)).reverse=bt s i+256*vB 256 ((bytesOf s).take i).reverse:=by
 rw [List.take_succ_eq_append_getElem (by rw [bytesOf_length];exact h),List.reverse_append,bt_rd,rd_get _ i (by rw [bytesOf_length];exact h)]
 rfl
theorem high_all (s:ByteArray):vB 256 ((bytesOf s).take s.size).reverse=bval s:=by
 rw [List.take_of_length_le (by rw [bytesOf_length];exact Nat.le_refl _)]
 rfl
theorem word_or (x c:Int) (r:Nat) (hr:r<8) (hx0:0≤x) (hx1:x<B64) (hm:x%256^(r+1)=0) (hc0:0≤c) (hc1:c≤255):
  Go.bits .or .u64 x (shl .u64 (IntKind.u64.wrap c) (8*r:Nat))=x+c*256^r∧0≤x+c*256^r∧x+c*256^r<B64∧(x+c*256^r)%256^r=0:=by
 have h64:(B64:Int)=18446744073709551616:=rfl
 have hs:shl .u64 (IntKind.u64.wrap c) (8*r:Nat)=c*256^r:=by
  unfold shl
  rw [u64 hc0 (by omega),Int.toNat_natCast]
  have:min (8*r) IntKind.u64.bits=8*r:=Nat.min_eq_left (by show 8*r≤64;omega)
  rw [this,Int.pow_mul]
  have e:(2:Int)^8=256:=rfl
  rw [e]
  apply u64
  ·exact Int.mul_nonneg hc0 (Int.le_of_lt (Int.pow_pos (by decide)))
  ·have:r=0∨r=1∨r=2∨r=3∨r=4∨r=5∨r=6∨r=7:=by omega
   rcases this with rfl|rfl|rfl|rfl|rfl|rfl|rfl|rfl<;>omega
 rw [hs]
 have hb:0≤c*256^r∧c*256^r<256^(r+1)∧0≤x+c*256^r∧x+c*256^r<B64∧(x+c*256^r)%256^r=0∧c*256^r<2^64:=by
  have:r=0∨r=1∨r=2∨r=3∨r=4∨r=5∨r=6∨r=7:=by omega
  rcases this with rfl|rfl|rfl|rfl|rfl|rfl|rfl|rfl<;>(clear hs;simp only [B64]at hx1⊢;omega)
 refine⟨?_,hb.2.2.1,hb.2.2.2.1,hb.2.2.2.2.1⟩
 have hp:(2:Int)^(8*(r+1))=256^(r+1):=by rw [Int.pow_mul];rfl
 exact bits_join .u64 64 (by decide) wraps_u64 (8*(r+1)) x (c*256^r) hx0 (by rw [hp];exact hm) (by rw [h64]at hx1;simpa using hx1) hb.1 (by rw [hp];exact hb.2.1) hb.2.2.2.2.2
theorem words_l0 (s:ByteArray) (hs:s.size≤1099511627776):∀(d i:Nat) (w:List Int),i+d=s.size→w.length=(s.size+7)/8→Dig B64 w→vB B64 w=vB 256 ((bytesOf s).take i).reverse*256^d→
  (0<d→rd w ((d-1)/8:Nat)%256^((d-1)%8+1)=0∧∀q:Nat,q<(d-1)/8→rd w (q:Int)=0)→Ev (fun k=>exact_words.l0 k s w (s.size:Int) (i:Int)) (d64 (bval s).toNat):=by
 intro d
 induction d with
 |zero=>
  intro i w hi hl hd hv _
  have hi:i=s.size:=by omega
  subst hi
  have hv':vB B64 w=bval s:=by rw [hv,high_all];simp
  refine Ev.step (f:=fun k=>(exact_trim.f k w).bind fun t=>some t) (fun k=>?_) (Ev.bind (trim_ev hd (by omega)) ?_)
  ·simp only [exact_words.l0]
   rw [if_neg (by omega)]
  ·rw [hv']
   exact Ev.now _
 |succ d ih=>
  intro i w hi hl hd hv hz
  obtain⟨hz1,hz2⟩:=hz (by omega)
  rw [Nat.add_sub_cancel]at hz1 hz2
  have hq:d/8<w.length:=by omega
  have hr:d%8<8:=Nat.mod_lt _ (by decide)
  have e1:wrap64 (Int.tdiv (wrap64 (wrap64 ((s.size:Int)-1)-(i:Int))) 8)=((d/8:Nat):Int):=by
   rw [w64 (x:=(s.size:Int)-1) (by omega) (by omega),w64 (x:=(s.size:Int)-1-(i:Int)) (by omega) (by omega)]
   have:(s.size:Int)-1-(i:Int)=(d:Int):=by omega
   rw [this,Int.tdiv_eq_ediv_of_nonneg (by omega),w64 (by omega) (by omega)]
   omega
  have e2:wrap64 (8*Int.tmod (wrap64 (wrap64 ((s.size:Int)-1)-(i:Int))) 8)=((8*(d%8):Nat):Int):=by
   rw [w64 (x:=(s.size:Int)-1) (by omega) (by omega),w64 (x:=(s.size:Int)-1-(i:Int)) (by omega) (by omega)]
   have:(s.size:Int)-1-(i:Int)=(d:Int):=by omega
   rw [this,Int.tmod_eq_emod_of_nonneg (by omega),w64 (by omega) (by omega)]
   omega
  have e3:wrap64 ((i:Int)+1)=((i+1:Nat):Int):=by rw [w64 (by omega) (by omega)];omega
  have c1:(i:Int)<(s.size:Int):=by omega
  have c3:((d/8:Nat):Int)<(w.length:Int):=Int.ofNat_lt.2 hq
  have c4:0<(d/8:Nat)→d%8=0→(d-1)/8=d/8-1:=by omega
  have hi':i+1+d=s.size:=by omega
  obtain⟨hx0,hx1⟩:=Dig_rd hd (d/8) hq
  obtain⟨hc0,hc1⟩:=bt_range s (i:Int)
  obtain⟨ho,ho0,ho1,ho2⟩:=word_or (rd w ((d/8:Nat):Int)) (bt s (i:Int)) (d%8) hr hx0 hx1 hz1 hc0 hc1
  have hk:8*(d/8)+d%8=d:=Nat.div_add_mod d 8
  refine Ev.step (f:=fun k=>exact_words.l0 k s (w.set (d/8) (rd w ((d/8:Nat):Int)+bt s (i:Int)*256^(d%8))) (s.size:Int) ((i+1:Nat):Int)) (fun k=>?_) (ih (i+1) _ hi' (by rw [List.length_set];exact hl) (Dig_set hd _ ho0 ho1) ?_ ?_)
  ·simp only [exact_words.l0,e1,e2,e3]
   rw [if_pos c1,if_pos (Int.natCast_nonneg _),if_pos c3,if_pos (Int.natCast_nonneg _),if_pos c1,if_pos (Int.natCast_nonneg _),ho,Int.toNat_natCast]
  ·rw [vB_set _ _ _ _ hq,hv,high_succ s i (by omega)]
   have e:rd w ((d/8:Nat):Int)+bt s (i:Int)*256^(d%8)-rd w ((d/8:Nat):Int)=256^(d%8)*bt s (i:Int):=by
    rw [Int.mul_comm (256^(d%8))];omega
   rw [e,←Int.mul_assoc,pow8,hk,Int.pow_succ,Int.add_mul]
   generalize vB 256 ((bytesOf s).take i).reverse=H
   generalize(256:Int)^d=P
   generalize bt s (i:Int)=c
   rw [Int.mul_comm P c,Int.add_comm,Int.mul_assoc 256 H P,Int.mul_comm P 256,←Int.mul_assoc H 256 P,Int.mul_comm H 256,Int.mul_assoc 256 H P]
  ·intro hd0
   by_cases h0:d%8=0
   ·have h1:(d-1)/8=d/8-1:=by omega
    have h2:0<d/8:=by omega
    rw [h1]
    refine⟨?_,fun q hq'=>?_⟩
    ·rw [rd_set_ne _ _ _ _ (by omega),hz2 _ (by omega)]
     simp
    ·rw [rd_set_ne _ _ _ _ (by omega),hz2 _ (by omega)]
   ·have h1:(d-1)/8=d/8:=by omega
    have h2:(d-1)%8+1=d%8:=by omega
    rw [h1,h2]
    refine⟨?_,fun q hq'=>?_⟩
    ·rw [rd_set_self _ _ _ hq]
     exact ho2
    ·rw [rd_set_ne _ _ _ _ (by omega),hz2 _ (by omega)]
theorem words_ev (s:ByteArray) (hs:s.size≤1099511627776):Ev (fun k=>exact_words.f k s) (d64 (bval s).toNat):=by
 have e1:wrap64 (Int.tdiv (wrap64 ((s.size:Int)+7)) 8)=(((s.size+7)/8:Nat):Int):=by
  rw [w64 (x:=(s.size:Int)+7) (by omega) (by omega),Int.tdiv_eq_ediv_of_nonneg (by omega),w64 (by omega) (by omega)]
  omega
 refine Ev.congr (f:=fun k=>exact_words.l0 k s (List.replicate ((s.size+7)/8) 0) (s.size:Int) ((0:Nat):Int)) (fun k=>?_) (words_l0 s hs s.size 0 _ (by omega) (by simp) (Dig_replicate (by decide) _) ?_ ?_)
 ·unfold exact_words.f
  rw [e1,if_pos (by omega),Int.toNat_natCast,if_pos (by omega)]
  rfl
 ·rw [vB_replicate]
  simp [vB]
 ·intro _
  exact⟨by rw [rd_replicate];simp,fun q _=>rd_replicate _ _⟩
theorem words_nat {n:Nat} (hs:(nat n).size≤1099511627776):Ev (fun k=>exact_words.f k (nat n)) (d64 n):=by
 have:=words_ev (nat n) hs
 rwa [bval_nat,Int.toNat_natCast]at this
theorem set_reverse (l:List Int) (p:Nat) (v:Int) (h:p<l.length):(l.set p v).reverse=l.reverse.set (l.length-1-p) v:=by
 apply List.ext_getElem?
 intro j
 rcases Nat.lt_or_ge j l.length with hj|hj
 ·rw [List.getElem?_reverse (by rw [List.length_set];exact hj),List.length_set,List.getElem?_set,List.getElem?_set,List.length_reverse]
  by_cases e:p=l.length-1-j
  ·have e':l.length-1-p=j:=by omega
   rw [if_pos e,if_pos h,if_pos e',if_pos (by omega)]
  ·have e':¬l.length-1-p=j:=by omega
   rw [if_neg e,if_neg e',List.getElem?_reverse hj]
 ·rw [List.getElem?_eq_none (by simp;omega),List.getElem?_eq_none (by simp;omega)]
theorem pack_l2 (b:List Int) (hd:Dig 256 b) (hb:b.length<9223372036854775807) (n:Nat) (hv:vB 256 b.reverse=n) (hn:n≠0):∀(d i:Nat),i+d=b.length→(∀j:Nat,j<i→rd b (j:Int)=0)→Ev (fun k=>exact_pack.l2 k b (i:Int)) (nat n):=by
 intro d
 induction d with
 |zero=>
  intro i hi hz
  have:=vB_zero 256 (l:=b.reverse) (fun j hj=>by
   rw [List.length_reverse]at hj
   rw [rd_reverse _ _ hj]
   exact hz _ (by omega))
  omega
 |succ d ih=>
  intro i hi hz
  by_cases h0:rd b (i:Int)=0
  ·have e1:wrap64 ((i:Int)+1)=((i+1:Nat):Int):=by rw [w64 (by omega) (by omega)];omega
   refine Ev.step (f:=fun k=>exact_pack.l2 k b ((i+1:Nat):Int)) (fun k=>?_) (ih (i+1) (by omega) (fun j hj=>?_))
   ·simp only [exact_pack.l2,e1]
    rw [if_pos (by omega),if_pos (by omega),if_pos h0]
   ·rcases Nat.lt_or_ge j i with h|h
    ·exact hz j h
    ·have:j=i:=by omega
     subst this
     exact h0
  ·refine Ev.step (f:=fun _=>some (nat n)) (fun k=>?_) (Ev.now _)
   simp only [exact_pack.l2]
   rw [if_pos (by omega),if_pos (by omega),if_neg h0,if_pos (by omega),Int.toNat_natCast]
   congr 1
   unfold nat
   congr 1
   have hu:(b.drop i).reverse=d8 n:=by
    refine d8_unique (Dig_reverse (Dig_drop hd _)) (fun hp=>?_) ?_
    ·rw [List.length_reverse]at hp⊢
     rw [rd_reverse _ _ (by omega),rd_drop]
     have:i+((b.drop i).length-1-((b.drop i).length-1))=i:=by omega
     rw [this]
     exact h0
    ·rw [←hv]
     conv=>rhs;rw [←List.take_append_drop i b]
     rw [List.reverse_append,vB_append,vB_zero 256 (l:=(b.take i).reverse) (fun j hj=>?_)]
     ·simp
     ·rw [List.length_reverse]at hj
      have hl:(b.take i).length=i:=by rw [List.length_take];omega
      rw [rd_reverse _ _ hj,rd_take _ _ _ (by omega)]
      exact hz _ (by omega)
   rw [←hu,List.reverse_reverse]
theorem byte_of (x:Int) (s:Nat) (hs:s<8) (h0:0≤x) (h1:x<B64):shr .u64 x ((8*s:Nat):Int)%256=x/256^s%256:=by
 unfold shr
 rw [Int.toNat_natCast]
 have:min (8*s) IntKind.u64.bits=8*s:=Nat.min_eq_left (by show 8*s≤64;omega)
 rw [this,Int.pow_mul]
 rfl
theorem byte_step (x:Int) (s:Nat) (hs:s<8) (h0:0≤x) (h1:x<B64):x%256^(s+1)=x%256^s+256^s*(x/256^s%256):=by
 have:s=0∨s=1∨s=2∨s=3∨s=4∨s=5∨s=6∨s=7:=by omega
 rcases this with rfl|rfl|rfl|rfl|rfl|rfl|rfl|rfl<;>simp<;>omega
def Packed (w b:List Int) (i s:Nat):Prop:=
 b.length=8*w.length∧Dig 256 b∧vB 256 b.reverse=vB B64 (w.take i)+B64^i*(rd w (i:Int)%256^s)∧∀j:Nat,8*i+s≤j→rd b.reverse (j:Int)=0
theorem packed_step {w b:List Int} {i s:Nat} (hw:Dig B64 w) (hi:i<w.length) (hs:s<8) (h:Packed w b i s):
  8*i+s<b.length∧Packed w (b.set (b.length-1-(8*i+s)) (rd w (i:Int)/256^s%256)) i (s+1):=by
 obtain⟨hl,hd,hv,hz⟩:=h
 obtain⟨hx0,hx1⟩:=Dig_rd hw i hi
 have hlt:8*i+s<b.length:=by omega
 refine⟨hlt,by rw [List.length_set];exact hl,Dig_set hd _ (Int.emod_nonneg _ (by decide)) (Int.emod_lt_of_pos _ (by decide)),?_,fun j hj=>?_⟩
 ·rw [set_reverse _ _ _ (by omega)]
  have e:b.length-1-(b.length-1-(8*i+s))=8*i+s:=by omega
  rw [e,vB_set _ _ _ _ (by rw [List.length_reverse];exact hlt),hz _ (Nat.le_refl _),hv,byte_step _ s hs hx0 hx1,Int.sub_zero,Int.mul_add,←pow8,Int.mul_assoc,Int.add_assoc]
 ·rw [set_reverse _ _ _ (by omega)]
  have e:b.length-1-(b.length-1-(8*i+s))=8*i+s:=by omega
  rw [e,rd_set_ne _ _ _ _ (by omega)]
  exact hz j (by omega)
theorem packed_word {w b:List Int} {i:Nat} (hw:Dig B64 w) (hi:i<w.length) (h:Packed w b i 8):Packed w b (i+1) 0:=by
 obtain⟨hl,hd,hv,hz⟩:=h
 obtain⟨hx0,hx1⟩:=Dig_rd hw i hi
 refine⟨hl,hd,?_,fun j hj=>hz j (by omega)⟩
 rw [hv,vB_take_succ _ _ _ hi]
 have:rd w (i:Int)%256^8=rd w (i:Int):=Int.emod_eq_of_lt hx0 hx1
 rw [this]
 simp
theorem pack_l1 (w:List Int) (hw:Dig B64 w) (hl:w.length≤1099511627776) (i:Nat) (hi:i<w.length) (r:ByteArray)
  (next:∀b,Packed w b (i+1) 0→Ev (fun k=>exact_pack.l0 k b w (w.length:Int) ((i+1:Nat):Int)) r):∀(d s:Nat) (b:List Int),s+d=8→Packed w b i s→
  Ev (fun k=>exact_pack.l1 k b (i:Int) (rd w (i:Int)) w (w.length:Int) (i:Int) (s:Int)) r:=by
 obtain⟨hx0,hx1⟩:=Dig_rd hw i hi
 intro d
 induction d with
 |zero=>
  intro s b hs hp
  have hs:s=8:=by omega
  subst hs
  refine Ev.step (f:=fun k=>exact_pack.l0 k b w (w.length:Int) ((i+1:Nat):Int)) (fun k=>?_) (next b (packed_word hw hi hp))
  have c1:¬((8:Nat):Int)<8:=by omega
  have e1:wrap64 ((i:Int)+1)=((i+1:Nat):Int):=by rw [w64 (by omega) (by omega)];omega
  simp only [exact_pack.l1,e1]
  rw [if_neg c1]
 |succ d ih=>
  intro s b hs hp
  have hlb:=hp.1
  obtain⟨hlt,hp'⟩:=packed_step hw hi (by omega) hp
  refine Ev.step (f:=fun k=>exact_pack.l1 k (b.set (b.length-1-(8*i+s)) (rd w (i:Int)/256^s%256)) (i:Int) (rd w (i:Int)) w (w.length:Int) (i:Int) ((s+1:Nat):Int)) (fun k=>?_) (ih (s+1) _ (by omega) hp')
  have c1:((s:Nat):Int)<8:=by omega
  have c2:((b.length-1-(8*i+s):Nat):Int)<(b.length:Int):=by omega
  have e0:=byte_of _ s (by omega) hx0 hx1
  have e1:wrap64 (8*(s:Int))=((8*s:Nat):Int):=by rw [w64 (by omega) (by omega)];omega
  have e2:wrap64 (wrap64 (wrap64 ((b.length:Int)-1)-((8*i:Nat):Int))-(s:Int))=((b.length-1-(8*i+s):Nat):Int):=by
   clear e1 e0
   rw [w64 (x:=(b.length:Int)-1) (by omega) (by omega),w64 (x:=(b.length:Int)-1-((8*i:Nat):Int)) (by omega) (by omega),w64 (by omega) (by omega)]
   omega
  have e4:wrap64 (8*(i:Int))=((8*i:Nat):Int):=by clear e0 e1 e2;rw [w64 (by omega) (by omega)];omega
  have e3:wrap64 ((s:Int)+1)=((s+1:Nat):Int):=by clear e0 e1 e2 e4;rw [w64 (by omega) (by omega)];omega
  simp only [exact_pack.l1,e1,e4,e2,e3]
  rw [if_pos c1,if_pos (Int.natCast_nonneg _),if_pos (Int.natCast_nonneg _),if_pos c2,Int.toNat_natCast,e0]
theorem pack_l0 (w:List Int) (hw:Dig B64 w) (hl:w.length≤1099511627776) (n:Nat) (hv:vB B64 w=n) (hn:n≠0):∀(d i:Nat) (b:List Int),i+d=w.length→Packed w b i 0→Ev (fun k=>exact_pack.l0 k b w (w.length:Int) (i:Int)) (nat n):=by
 intro d
 induction d with
 |zero=>
  intro i b hi hp
  obtain⟨h1,h2,h3,h4⟩:=hp
  have hi:i=w.length:=by omega
  subst hi
  have e:vB 256 b.reverse=n:=by
   rw [h3,List.take_of_length_le (Nat.le_refl _),hv]
   simp
  refine Ev.step (f:=fun k=>exact_pack.l2 k b ((0:Nat):Int)) (fun k=>?_) (pack_l2 b h2 (by omega) n e hn b.length 0 (by omega) (fun j hj=>absurd hj (by omega)))
  simp only [exact_pack.l0]
  rw [if_neg (by omega)]
  rfl
 |succ d ih=>
  intro i b hi hp
  refine Ev.step (f:=fun k=>exact_pack.l1 k b (i:Int) (rd w (i:Int)) w (w.length:Int) (i:Int) ((0:Nat):Int)) (fun k=>?_) (pack_l1 w hw hl i (by omega) (nat n) (fun b' hp'=>ih (i+1) b' (by omega) hp') 8 0 b (by omega) hp)
  simp only [exact_pack.l0]
  rw [if_pos (by omega),if_pos (by omega),if_pos (by omega)]
  rfl
theorem pack_ev {l:List Int} (hd:Dig B64 l) (hl:l.length≤1099511627776):Ev (fun k=>exact_pack.f k l) (nat (vB B64 l).toNat):=by
 have hv:=vB_nonneg (by decide) hd
 have ht:(d64 (vB B64 l).toNat).length≤l.length:=dgs_len (by
  have:=vB_lt (by decide) hd
  have h1:(((vB B64 l).toNat:Nat):Int)<((18446744073709551614+2:Nat):Int)^l.length:=by
   rw [Int.toNat_of_nonneg hv]
   exact this
  exact_mod_cast h1)
 refine Ev.congr (f:=fun k=>(exact_trim.f k l).bind fun t=>if(t.length:Int)=0 then some (⟨#[]⟩:ByteArray)else if 0≤wrap64 (8*(t.length:Int))then(if(wrap64 (8*(t.length:Int)):Int).toNat≤281474976710656 then exact_pack.l0 k (List.replicate (wrap64 (8*(t.length:Int)):Int).toNat 0) t (t.length:Int) 0 else none)else none) (fun k=>rfl) (Ev.bind (trim_ev hd (by omega)) ?_)
 generalize hn:(vB B64 l).toNat=n at*
 by_cases h0:n=0
 ·subst h0
  rw [d64_zero,nat_zero]
  exact Ev.now _
 ·have hne:(d64 n).length≠0:=by
   intro h
   have:=d64_val n
   rw [List.eq_nil_of_length_eq_zero h]at this
   simp [vB]at this
   omega
  have e1:wrap64 (8*((d64 n).length:Int))=((8*(d64 n).length:Nat):Int):=by rw [w64 (by omega) (by omega)];omega
  refine Ev.congr (f:=fun k=>exact_pack.l0 k (List.replicate (8*(d64 n).length) 0) (d64 n) ((d64 n).length:Int) ((0:Nat):Int)) (fun k=>?_) (pack_l0 (d64 n) (d64_dig n) (by omega) n (d64_val n) h0 (d64 n).length 0 _ (by omega) ⟨by simp,Dig_replicate (by decide) _,?_,fun j _=>?_⟩)
  ·rw [e1,if_neg (by omega),if_pos (by omega),Int.toNat_natCast,if_pos (by omega)]
   rfl
  ·rw [List.reverse_replicate,vB_replicate]
   simp [vB]
  ·rw [List.reverse_replicate,rd_replicate]
theorem mul_range {a b A B:Int} (a0:0≤a) (a1:a≤A) (b0:0≤b) (b1:b≤B):0≤a*b∧a*b≤A*B:=
 ⟨Int.mul_nonneg a0 b0,Int.le_trans (Int.mul_le_mul_of_nonneg_left b1 a0) (Int.mul_le_mul_of_nonneg_right a1 (by omega))⟩
theorem and_low {x:Int} (h0:0≤x) (h1:x<B64):Go.bits .and .u64 x 4294967295=x%4294967296:=
 bits_mask .u64 64 (by decide) wraps_u64 32 (by decide) x h0 (by simpa using h1)
theorem mul64_eq {x y:Int} (x0:0≤x) (x1:x<B64) (y0:0≤y) (y1:y<B64):bits_Mul64.f x y=some (x*y/B64,x*y%B64):=by
 have x1':x<18446744073709551616:=x1
 have y1':y<18446744073709551616:=y1
 show bits_Mul64.f x y=some (x*y/18446744073709551616,x*y%18446744073709551616)
 obtain⟨a,ha⟩:∃a,a=x/4294967296:=⟨_,rfl⟩
 obtain⟨b,hb⟩:∃b,b=x%4294967296:=⟨_,rfl⟩
 obtain⟨c,hc⟩:∃c,c=y/4294967296:=⟨_,rfl⟩
 obtain⟨d,hd⟩:∃d,d=y%4294967296:=⟨_,rfl⟩
 have hx:x=a*4294967296+b:=by omega
 have hy:y=c*4294967296+d:=by omega
 have a0:0≤a∧a≤4294967295:=by omega
 have b0:0≤b∧b≤4294967295:=by omega
 have c0:0≤c∧c≤4294967295:=by omega
 have d0:0≤d∧d≤4294967295:=by omega
 have hac:=mul_range a0.1 a0.2 c0.1 c0.2
 have had:=mul_range a0.1 a0.2 d0.1 d0.2
 have hbc:=mul_range b0.1 b0.2 c0.1 c0.2
 have hbd:=mul_range b0.1 b0.2 d0.1 d0.2
 have hp:x*y=a*c*18446744073709551616+(a*d+b*c)*4294967296+b*d:=by
  rw [hx,hy,Int.add_mul,Int.mul_add,Int.mul_add,Int.add_mul]
  have e1:a*4294967296*(c*4294967296)=a*c*18446744073709551616:=by
   rw [Int.mul_assoc,Int.mul_left_comm 4294967296 c,Int.mul_assoc a c]
   congr 1
  have e2:a*4294967296*d=a*d*4294967296:=by rw [Int.mul_assoc,Int.mul_comm 4294967296 d,←Int.mul_assoc]
  have e3:b*(c*4294967296)=b*c*4294967296:=by rw [Int.mul_assoc]
  rw [e1,e2,e3]
  omega
 unfold bits_Mul64.f
 rw [and_low x0 x1,and_low y0 y1,←ha,←hb,←hc,←hd,hp]
 generalize hA:a*c=p at*
 generalize hD:a*d=q at*
 generalize hC:b*c=r at*
 generalize hE:b*d=s at*
 clear hA hD hC hE hp hx hy ha hb hc hd x0 x1 y0 y1 x1' y1'
 have h1:(4294967295:Int)*4294967295=18446744065119617025:=rfl
 rw [h1]at*
 rw [u64 (x:=s) (by omega) (by omega),u64 (x:=q) (by omega) (by omega),u64 (x:=q+s/4294967296) (by omega) (by omega),and_low (x:=q+s/4294967296) (by omega) (by show _<(18446744073709551616:Int);omega),
  u64 (x:=r) (by omega) (by omega),u64 (x:=(q+s/4294967296)%4294967296+r) (by omega) (by omega),u64 (x:=p) (by omega) (by omega),
  u64 (x:=p+(q+s/4294967296)/4294967296) (by omega) (by omega)]
 have e:p+(q+s/4294967296)/4294967296+((q+s/4294967296)%4294967296+r)/4294967296=(p*18446744073709551616+(q+r)*4294967296+s)/18446744073709551616:=by omega
 rw [e,u64 (x:=(p*18446744073709551616+(q+r)*4294967296+s)/18446744073709551616) (by clear e;omega) (by clear e;omega),u64_mod]
theorem add64_eq {x y c:Int} (x0:0≤x) (y0:0≤y) (c0:0≤c) (c1:c≤1):bits_Add64.f x y c=some ((x+y+c)%B64,(x+y+c)/B64):=by
 unfold bits_Add64.f
 rw [if_pos ⟨x0,y0,c0,c1⟩]
theorem sub64_eq {x y c:Int} (x0:0≤x) (x1:x<B64) (y0:0≤y) (y1:y<B64) (c0:0≤c) (c1:c≤1):∃d e,bits_Sub64.f x y c=some (d,e)∧0≤d∧d<B64∧0≤e∧e≤1∧d=x-y-c+B64*e:=by
 have x1':x<18446744073709551616:=x1
 have y1':y<18446744073709551616:=y1
 unfold bits_Sub64.f
 rw [if_pos ⟨x0,y0,by omega,c0,c1⟩]
 refine⟨_,_,rfl,Int.emod_nonneg _ (by decide),Int.emod_lt_of_pos _ (by decide),?_,?_,?_⟩
 ·split<;>decide
 ·split<;>decide
 ·show(x-y-c)%18446744073709551616=x-y-c+18446744073709551616*_
  split<;>omega
theorem mul_add {x y o c:Int} (x0:0≤x) (x1:x<B64) (y0:0≤y) (y1:y<B64) (o0:0≤o) (o1:o<B64) (c0:0≤c) (c1:c<B64):
  IntKind.u64.wrap (IntKind.u64.wrap (x*y/B64+(x*y%B64+o+0)/B64)+((x*y%B64+o+0)%B64+c+0)/B64)=(x*y+o+c)/B64∧((x*y%B64+o+0)%B64+c+0)%B64=(x*y+o+c)%B64∧0≤(x*y+o+c)/B64∧(x*y+o+c)/B64<B64:=by
 have x1':x<18446744073709551616:=x1
 have y1':y<18446744073709551616:=y1
 have o1':o<18446744073709551616:=o1
 have c1':c<18446744073709551616:=c1
 have hp:=mul_range x0 (show x≤18446744073709551615 by omega) y0 (show y≤18446744073709551615 by omega)
 have h1:(18446744073709551615:Int)*18446744073709551615=340282366920938463426481119284349108225:=rfl
 rw [h1]at hp
 show IntKind.u64.wrap (IntKind.u64.wrap (x*y/18446744073709551616+(x*y%18446744073709551616+o+0)/18446744073709551616)+((x*y%18446744073709551616+o+0)%18446744073709551616+c+0)/18446744073709551616)=(x*y+o+c)/18446744073709551616∧((x*y%18446744073709551616+o+0)%18446744073709551616+c+0)%18446744073709551616=(x*y+o+c)%18446744073709551616∧0≤(x*y+o+c)/18446744073709551616∧(x*y+o+c)/18446744073709551616<18446744073709551616
 generalize x*y=p at*
 clear x0 x1 x1' y0 y1 y1' o1 c1 h1
 have a1:0≤p/18446744073709551616+(p%18446744073709551616+o+0)/18446744073709551616∧p/18446744073709551616+(p%18446744073709551616+o+0)/18446744073709551616<18446744073709551616:=by omega
 rw [u64 a1.1 a1.2]
 have a2:p/18446744073709551616+(p%18446744073709551616+o+0)/18446744073709551616+((p%18446744073709551616+o+0)%18446744073709551616+c+0)/18446744073709551616=(p+o+c)/18446744073709551616:=by omega
 have a3:0≤(p+o+c)/18446744073709551616∧(p+o+c)/18446744073709551616<18446744073709551616:=by omega
 rw [a2,u64 a3.1 a3.2]
 refine⟨rfl,by omega,a3.1,a3.2⟩
theorem take_succ (B:Int) (l:List Int) (i:Nat):vB B (l.take (i+1))=vB B (l.take i)+B^i*rd l (i:Int):=by
 rcases Nat.lt_or_ge i l.length with h|h
 ·exact vB_take_succ B l i h
 ·rw [List.take_of_length_le (by omega),List.take_of_length_le h,rd_nat,List.getD_eq_getElem?_getD,List.getElem?_eq_none h]
  simp
theorem rd_far (l:List Int) (i:Nat) (h:l.length≤i):rd l (i:Int)=0:=by
 rw [rd_nat,List.getD_eq_getElem?_getD,List.getElem?_eq_none h]
 rfl
theorem vB_all (B:Int) (l:List Int) (i:Nat) (h:l.length≤i):vB B (l.take i)=vB B l:=by rw [List.take_of_length_le h]
def MulOut (a b out:List Int) (i:Nat):Prop:=
 out.length=a.length+b.length∧Dig B64 out∧vB B64 out=vB B64 (a.take i)*vB B64 b∧∀j:Nat,i+b.length≤j→rd out (j:Int)=0
def MulIn (a b out:List Int) (i j:Nat) (c:Int):Prop:=
 out.length=a.length+b.length∧Dig B64 out∧(0≤c∧c<B64)∧vB B64 out+B64^(i+j)*c=vB B64 (a.take i)*vB B64 b+B64^i*(rd a (i:Int)*vB B64 (b.take j))∧∀n:Nat,i+b.length≤n→rd out (n:Int)=0
theorem mul_in {a b out:List Int} {i j:Nat} {c:Int} (ha:Dig B64 a) (hb:Dig B64 b) (hi:i<a.length) (hj:j<b.length) (h:MulIn a b out i j c):
  MulIn a b (out.set (i+j) ((rd a (i:Int)*rd b (j:Int)+rd out ((i+j:Nat):Int)+c)%B64)) i (j+1) ((rd a (i:Int)*rd b (j:Int)+rd out ((i+j:Nat):Int)+c)/B64):=by
 obtain⟨hl,hd,hc,hv,hz⟩:=h
 obtain⟨x0,x1⟩:=Dig_rd ha i hi
 obtain⟨y0,y1⟩:=Dig_rd hb j hj
 obtain⟨o0,o1⟩:=Dig_rd hd (i+j) (by omega)
 obtain⟨-, -,n0,n1⟩:=mul_add x0 x1 y0 y1 o0 o1 hc.1 hc.2
 refine⟨by rw [List.length_set];exact hl,Dig_set hd _ (Int.emod_nonneg _ (by decide)) (Int.emod_lt_of_pos _ (by decide)),⟨n0,n1⟩,?_,fun n hn=>?_⟩
 ·rw [vB_set _ _ _ _ (by omega),take_succ,←Nat.add_assoc,Int.pow_succ]
  have e:=Int.emod_add_mul_ediv (rd a (i:Int)*rd b (j:Int)+rd out ((i+j:Nat):Int)+c) B64
  generalize(rd a (i:Int)*rd b (j:Int)+rd out ((i+j:Nat):Int)+c)/B64=q at*
  generalize(rd a (i:Int)*rd b (j:Int)+rd out ((i+j:Nat):Int)+c)%B64=r at*
  have er:r=rd a (i:Int)*rd b (j:Int)+rd out ((i+j:Nat):Int)+c-B64*q:=by omega
  rw [er]
  have ep:(B64:Int)^(i+j)=B64^i*B64^j:=Int.pow_add _ _ _
  rw [ep]at hv⊢
  clear ep
  generalize vB B64 out=V at*
  generalize vB B64 (List.take i a)*vB B64 b=W at*
  generalize vB B64 (List.take j b)=U at*
  generalize(B64:Int)^i=P at*
  generalize(B64:Int)^j=Q at*
  generalize rd a (i:Int)=x at*
  generalize rd b (j:Int)=y at*
  generalize rd out ((i+j:Nat):Int)=o at*
  have e1:P*Q*(x*y+o+c-B64*q-o)=P*Q*(x*y)+P*Q*c-P*Q*B64*q:=by
   rw [show x*y+o+c-B64*q-o=x*y+c-B64*q by omega,Int.mul_sub,Int.mul_add,Int.mul_assoc (P*Q) B64 q]
  have e2:P*(x*(U+Q*y))=P*(x*U)+P*Q*(x*y):=by
   rw [Int.mul_add x,Int.mul_add P,Int.mul_left_comm x Q y,Int.mul_assoc P Q]
  rw [e1,e2]
  omega
 ·rw [rd_set_ne _ _ _ _ (by omega)]
  exact hz n hn
theorem mulWords_l1 (a b:List Int) (ha:Dig B64 a) (hb:Dig B64 b) (la:a.length≤1099511627776) (lb:b.length≤1099511627776) (i:Nat) (hi:i<a.length) (r:List Int)
  (next:∀out,MulOut a b out (i+1)→Ev (fun k=>exact_mulWords.l0 k b out a (a.length:Int) ((i+1:Nat):Int)) r):∀(d j:Nat) (out:List Int) (c:Int),j+d=b.length→MulIn a b out i j c→
  Ev (fun k=>exact_mulWords.l1 k b out (i:Int) (rd a (i:Int)) c a (a.length:Int) (i:Int) b (b.length:Int) (j:Int)) r:=by
 intro d
 induction d with
 |zero=>
  intro j out c hj h
  have hj:j=b.length:=by omega
  subst hj
  have hl:=h.1
  have c1:i+b.length<out.length:=by omega
  have c2:((i+b.length:Nat):Int)<(out.length:Int):=Int.ofNat_lt.2 c1
  have e1:wrap64 ((i:Int)+(b.length:Int))=((i+b.length:Nat):Int):=by rw [w64 (by omega) (by omega)];omega
  have e2:wrap64 ((i:Int)+1)=((i+1:Nat):Int):=by clear e1;rw [w64 (by omega) (by omega)];omega
  obtain⟨-,hd,hc,hv,hz⟩:=h
  refine Ev.step (f:=fun k=>exact_mulWords.l0 k b (out.set (i+b.length) c) a (a.length:Int) ((i+1:Nat):Int)) (fun k=>?_) (next _ ⟨by rw [List.length_set];exact hl,Dig_set hd _ hc.1 hc.2,?_,fun j hj=>?_⟩)
  ·simp only [exact_mulWords.l1,e1,e2]
   rw [if_neg (Int.lt_irrefl _),if_pos (Int.natCast_nonneg _),if_pos c2,Int.toNat_natCast]
  ·rw [vB_set _ _ _ _ c1,hz _ (Nat.le_refl _),Int.sub_zero,hv,take_succ,vB_all _ _ _ (Nat.le_refl _),Int.add_mul,Int.mul_assoc]
  ·rw [rd_set_ne _ _ _ _ (by clear hv e1 e2;omega)]
   exact hz j (by clear hv e1 e2;omega)
 |succ d ih=>
  intro j out c hj h
  have hj':j<b.length:=by omega
  have hn:=mul_in ha hb hi hj' h
  have hl:=h.1
  have c1:i+j<out.length:=by omega
  have c2:((i+j:Nat):Int)<(out.length:Int):=Int.ofNat_lt.2 c1
  have c3:(j:Int)<(b.length:Int):=Int.ofNat_lt.2 hj'
  have c4:j+1+d=b.length:=by omega
  have e1:wrap64 ((i:Int)+(j:Int))=((i+j:Nat):Int):=by rw [w64 (by omega) (by omega)];omega
  have e2:wrap64 ((j:Int)+1)=((j+1:Nat):Int):=by clear e1;rw [w64 (by omega) (by omega)];omega
  obtain⟨-,hd,hc, -, -⟩:=h
  obtain⟨x0,x1⟩:=Dig_rd ha i hi
  obtain⟨y0,y1⟩:=Dig_rd hb j hj'
  obtain⟨o0,o1⟩:=Dig_rd hd (i+j) c1
  obtain⟨m0,m1, -, -⟩:=mul_add x0 x1 y0 y1 o0 o1 hc.1 hc.2
  have a1:=mul64_eq x0 x1 y0 y1
  have a2:=add64_eq (Int.emod_nonneg (rd a (i:Int)*rd b (j:Int)) (show(B64:Int)≠0 by decide)) o0 (Int.le_refl 0) (by decide)
  have a3:=add64_eq (Int.emod_nonneg (rd a (i:Int)*rd b (j:Int)%B64+rd out ((i+j:Nat):Int)+0) (show(B64:Int)≠0 by decide)) hc.1 (Int.le_refl 0) (by decide)
  refine Ev.step (f:=fun k=>exact_mulWords.l1 k b (out.set (i+j) ((rd a (i:Int)*rd b (j:Int)+rd out ((i+j:Nat):Int)+c)%B64)) (i:Int) (rd a (i:Int)) ((rd a (i:Int)*rd b (j:Int)+rd out ((i+j:Nat):Int)+c)/B64) a (a.length:Int) (i:Int) b (b.length:Int) ((j+1:Nat):Int)) (fun k=>?_) (ih (j+1) _ _ c4 hn)
  simp only [exact_mulWords.l1,e1,e2]
  rw [if_pos c3,if_pos (Int.natCast_nonneg _),if_pos c3,a1,Option.bind_some,if_pos (Int.natCast_nonneg _),if_pos c2,a2,Option.bind_some,a3,Option.bind_some,m0,m1,Int.toNat_natCast]
theorem mulWords_l0 (a b:List Int) (ha:Dig B64 a) (hb:Dig B64 b) (la:a.length≤1099511627776) (lb:b.length≤1099511627776):∀(d i:Nat) (out:List Int),i+d=a.length→MulOut a b out i→
  Ev (fun k=>exact_mulWords.l0 k b out a (a.length:Int) (i:Int)) (d64 (vB B64 a*vB B64 b).toNat):=by
 intro d
 induction d with
 |zero=>
  intro i out hi h
  have hi:i=a.length:=by omega
  subst hi
  obtain⟨hl,hd,hv,hz⟩:=h
  rw [vB_all _ _ _ (Nat.le_refl _)]at hv
  refine Ev.step (f:=fun k=>(exact_trim.f k out).bind fun t=>some t) (fun k=>?_) (Ev.bind (trim_ev hd (by omega)) ?_)
  ·simp only [exact_mulWords.l0]
   rw [if_neg (Int.lt_irrefl _)]
  ·rw [hv]
   exact Ev.now _
 |succ d ih=>
  intro i out hi h
  have hi':i<a.length:=by omega
  have c1:(i:Int)<(a.length:Int):=Int.ofNat_lt.2 hi'
  obtain⟨hl,hd,hv,hz⟩:=h
  refine Ev.step (f:=fun k=>exact_mulWords.l1 k b out (i:Int) (rd a (i:Int)) 0 a (a.length:Int) (i:Int) b (b.length:Int) ((0:Nat):Int)) (fun k=>?_) (mulWords_l1 a b ha hb la lb i hi' _ (fun out' h'=>ih (i+1) out' (by omega) h') b.length 0 out 0 (by omega) ⟨hl,hd,⟨by decide,by decide⟩,?_,hz⟩)
  ·simp only [exact_mulWords.l0]
   rw [if_pos c1,if_pos (Int.natCast_nonneg _),if_pos c1]
   rfl
  ·rw [hv]
   simp [vB]
theorem mulWords_ev {a b:List Int} (ha:Dig B64 a) (hb:Dig B64 b) (la:a.length≤1099511627776) (lb:b.length≤1099511627776):Ev (fun k=>exact_mulWords.f k a b) (d64 (vB B64 a*vB B64 b).toNat):=by
 have e1:wrap64 ((a.length:Int)+(b.length:Int))=((a.length+b.length:Nat):Int):=by rw [w64 (by omega) (by omega)];omega
 refine Ev.congr (f:=fun k=>exact_mulWords.l0 k b (List.replicate (a.length+b.length) 0) a (a.length:Int) ((0:Nat):Int)) (fun k=>?_) (mulWords_l0 a b ha hb la lb a.length 0 _ (by omega) ⟨by simp,Dig_replicate (by decide) _,?_,fun j _=>rd_replicate _ _⟩)
 ·unfold exact_mulWords.f
  rw [e1,if_pos (Int.natCast_nonneg _),Int.toNat_natCast,if_pos (by omega)]
  rfl
 ·rw [vB_replicate]
  simp [vB]
theorem mulWords_d64 {m n:Nat} (lm:(d64 m).length≤1099511627776) (ln:(d64 n).length≤1099511627776):Ev (fun k=>exact_mulWords.f k (d64 m) (d64 n)) (d64 (m*n)):=by
 have:=mulWords_ev (d64_dig m) (d64_dig n) lm ln
 rw [d64_val,d64_val]at this
 rwa [show((m:Int)*(n:Int)).toNat=m*n by rw [←Int.natCast_mul,Int.toNat_natCast]]at this
theorem size_mono {m n:Nat} (h:m≤n):(nat m).size≤(nat n).size:=nat_size_le.2 (Nat.lt_of_le_of_lt h (nat_lt_size n))
theorem size_mul {m n:Nat}:(nat (m*n)).size≤(nat m).size+(nat n).size:=by
 apply nat_size_le.2
 rw [Nat.pow_add]
 have h1:=nat_lt_size m
 have h2:=nat_lt_size n
 exact Nat.lt_of_le_of_lt (Nat.mul_le_mul_right _ (Nat.le_of_lt h1)) (Nat.mul_lt_mul_of_pos_left h2 (Nat.lt_of_le_of_lt (Nat.zero_le _) h1))
theorem words_len (n:Nat):(d64 n).length≤((nat n).size+7)/8:=by
 apply dgs_len
 have h1:=nat_lt_size n
 have h2:256^(nat n).size≤256^(8*(((nat n).size+7)/8)):=Nat.pow_le_pow_right (by decide) (by omega)
 rw [Nat.pow_mul]at h2
 exact Nat.lt_of_lt_of_le h1 h2
def AddOut (x y out:List Int) (i:Nat) (c:Int):Prop:=
 out.length=x.length+1∧Dig B64 out∧(0≤c∧c≤1)∧vB B64 out+B64^i*c=vB B64 (x.take i)+vB B64 (y.take i)∧∀n:Nat,i≤n→rd out (n:Int)=0
theorem add_range {x y c:Int} (x0:0≤x) (x1:x<B64) (y0:0≤y) (y1:y<B64) (c0:0≤c) (c1:c≤1):0≤(x+y+c)/B64∧(x+y+c)/B64≤1:=by
 have x1':x<18446744073709551616:=x1
 have y1':y<18446744073709551616:=y1
 show 0≤(x+y+c)/18446744073709551616∧(x+y+c)/18446744073709551616≤1
 omega
theorem add_out {x y out:List Int} {i:Nat} {c:Int} (hx:Dig B64 x) (hy:Dig B64 y) (hi:i<x.length) (h:AddOut x y out i c):
  AddOut x y (out.set i ((rd x (i:Int)+rd y (i:Int)+c)%B64)) (i+1) ((rd x (i:Int)+rd y (i:Int)+c)/B64):=by
 obtain⟨hl,hd,hc,hv,hz⟩:=h
 obtain⟨x0,x1⟩:=Dig_rd hx i hi
 obtain⟨y0,y1⟩:=Dig_rd0 (by decide) hy i
 refine⟨by rw [List.length_set];exact hl,Dig_set hd _ (Int.emod_nonneg _ (by decide)) (Int.emod_lt_of_pos _ (by decide)),add_range x0 x1 y0 y1 hc.1 hc.2,?_,fun n hn=>?_⟩
 ·rw [vB_set _ _ _ _ (by clear hv;omega),hz _ (Nat.le_refl _),Int.sub_zero,take_succ,take_succ,Int.pow_succ]
  have e:=Int.emod_add_mul_ediv (rd x (i:Int)+rd y (i:Int)+c) B64
  generalize(rd x (i:Int)+rd y (i:Int)+c)/B64=q at*
  generalize(rd x (i:Int)+rd y (i:Int)+c)%B64=r at*
  have er:r=rd x (i:Int)+rd y (i:Int)+c-B64*q:=by clear hv;omega
  rw [er,Int.mul_sub,Int.mul_add,Int.mul_add,Int.mul_assoc (B64^i) B64 q]
  generalize(B64:Int)^i=P at*
  omega
 ·rw [rd_set_ne _ _ _ _ (by clear hv;omega)]
  exact hz n (by clear hv;omega)
theorem NatAdd_l0 (x y:List Int) (hx:Dig B64 x) (hy:Dig B64 y) (lx:x.length≤1099511627775) (hyx:y.length≤x.length) (n:Nat) (hn:vB B64 x+vB B64 y=n):∀(d i:Nat) (out:List Int) (c:Int),i+d=x.length→AddOut x y out i c→
  Ev (fun k=>exact_NatAdd.l0 k x y out c (x.length:Int) (i:Int)) (nat n):=by
 intro d
 induction d with
 |zero=>
  intro i out c hi h
  have hi:i=x.length:=by omega
  subst hi
  have hl:=h.1
  have c1:(x.length:Int)<(out.length:Int):=by omega
  have c2:x.length<out.length:=by omega
  have c3:out.length≤1099511627776:=by omega
  obtain⟨-,hd,hc,hv,hz⟩:=h
  have hd':Dig B64 (out.set x.length c):=Dig_set hd _ hc.1 (by have:=hc.2;exact Int.lt_of_le_of_lt this (by decide))
  have hv':vB B64 (out.set x.length c)=n:=by
   rw [vB_set _ _ _ _ c2,hz _ (Nat.le_refl _),Int.sub_zero,hv,vB_all _ _ _ (Nat.le_refl _),vB_all _ _ _ hyx,hn]
  have:=pack_ev hd' (by rw [List.length_set];exact c3)
  rw [hv',Int.toNat_natCast]at this
  refine Ev.step (f:=fun k=>(exact_pack.f k (out.set x.length c)).bind fun t=>some t) (fun k=>?_) (Ev.bind this (Ev.now _))
  simp only [exact_NatAdd.l0]
  rw [if_neg (Int.lt_irrefl _),if_pos (Int.natCast_nonneg _),if_pos c1,Int.toNat_natCast]
 |succ d ih=>
  intro i out c hi h
  have hi':i<x.length:=by omega
  have c0:i+1+d=x.length:=by omega
  have c1:(i:Int)<(x.length:Int):=Int.ofNat_lt.2 hi'
  have hl:=h.1
  have c2:(i:Int)<(out.length:Int):=by omega
  have c3:¬(i:Int)<(y.length:Int)→rd y (i:Int)=0:=fun h=>rd_far y i (by omega)
  have e1:wrap64 ((i:Int)+1)=((i+1:Nat):Int):=by clear c3;rw [w64 (by omega) (by omega)];omega
  have hn':=add_out hx hy hi' h
  obtain⟨-,hd,hc, -, -⟩:=h
  obtain⟨x0,x1⟩:=Dig_rd hx i hi'
  obtain⟨y0,y1⟩:=Dig_rd0 (by decide) hy i
  have ea:=add64_eq x0 y0 hc.1 hc.2
  refine Ev.step (f:=fun k=>exact_NatAdd.l0 k x y (out.set i ((rd x (i:Int)+rd y (i:Int)+c)%B64)) ((rd x (i:Int)+rd y (i:Int)+c)/B64) (x.length:Int) ((i+1:Nat):Int)) (fun k=>?_) (ih (i+1) _ _ c0 hn')
  simp only [exact_NatAdd.l0,e1]
  rw [if_pos c1]
  by_cases hy':(i:Int)<(y.length:Int)
  ·rw [if_pos hy',if_pos (Int.natCast_nonneg _),if_pos c1,ea,Option.bind_some,if_pos c2,Int.toNat_natCast]
  ·rw [c3 hy']at ea
   rw [if_neg hy',if_pos (Int.natCast_nonneg _),if_pos c1,ea,Option.bind_some,if_pos c2,Int.toNat_natCast,c3 hy']
theorem NatAdd_j0 {m n:Nat} (hm:(d64 m).length≤1099511627775) (h:(d64 n).length≤(d64 m).length):Ev (fun k=>exact_NatAdd.j0 k (d64 m) (d64 n)) (nat (m+n)):=by
 have e1:wrap64 (((d64 m).length:Int)+1)=(((d64 m).length+1:Nat):Int):=by rw [w64 (by omega) (by omega)];omega
 refine Ev.step (f:=fun k=>exact_NatAdd.l0 k (d64 m) (d64 n) (List.replicate ((d64 m).length+1) 0) 0 ((d64 m).length:Int) ((0:Nat):Int)) (fun k=>?_) (NatAdd_l0 (d64 m) (d64 n) (d64_dig m) (d64_dig n) hm h (m+n) (by rw [d64_val,d64_val,Int.natCast_add]) (d64 m).length 0 _ _ (Nat.zero_add _) ⟨by simp,Dig_replicate (by decide) _,⟨by decide,by decide⟩,?_,fun j _=>rd_replicate _ _⟩)
 ·simp only [exact_NatAdd.j0,e1]
  rw [if_pos (Int.natCast_nonneg _),Int.toNat_natCast,if_pos (by omega)]
  rfl
 ·rw [vB_replicate]
  simp [vB]
theorem NatAdd_ev {m n:Nat} (hm:(nat m).size≤1099511627776) (hn:(nat n).size≤1099511627776):Ev (fun k=>exact_NatAdd.f k (nat m) (nat n)) (nat (m+n)):=by
 have lm:=words_len m
 have ln:=words_len n
 refine Ev.bind (f:=fun k t318=>(exact_words.f k (nat n)).bind fun t321=>(if(t318.length:Int)<(t321.length:Int)then(exact_NatAdd.j0 k t321 t318)else(exact_NatAdd.j0 k t318 t321))) (words_nat hm) (Ev.bind (words_nat hn) ?_)
 by_cases h:((d64 m).length:Int)<((d64 n).length:Int)
 ·refine Ev.congr (f:=fun k=>exact_NatAdd.j0 k (d64 n) (d64 m)) (fun k=>if_pos h) ?_
  rw [Nat.add_comm m n]
  exact NatAdd_j0 (by omega) (by omega)
 ·refine Ev.congr (f:=fun k=>exact_NatAdd.j0 k (d64 m) (d64 n)) (fun k=>if_neg h) ?_
  exact NatAdd_j0 (by omega) (by omega)
theorem d64_len_mono {m n:Nat} (h:m≤n):(d64 m).length≤(d64 n).length:=dgs_len (Nat.lt_of_le_of_lt h (dgs_lt 18446744073709551614 n))
theorem NatMul_ev {m n:Nat} (hm:(nat m).size≤1099511627776) (hn:(nat n).size≤1099511627776):Ev (fun k=>exact_NatMul.f k (nat m) (nat n)) (nat (m*n)):=by
 have lm:=words_len m
 have ln:=words_len n
 have hl:(d64 (m*n)).length≤1099511627776:=by
  have h1:=words_len (m*n)
  have h2:=size_mul (m:=m) (n:=n)
  omega
 refine Ev.bind (f:=fun k t422=>(exact_words.f k (nat n)).bind fun t425=>((exact_mulWords.f k t422 t425).bind fun t428=>((exact_pack.f k t428).bind fun t431=>(some t431)))) (words_nat hm) (Ev.bind (f:=fun k t425=>((exact_mulWords.f k (d64 m) t425).bind fun t428=>((exact_pack.f k t428).bind fun t431=>(some t431)))) (words_nat hn) (Ev.bind (f:=fun k t428=>((exact_pack.f k t428).bind fun t431=>(some t431))) (mulWords_d64 (by omega) (by omega)) ?_))
 have:=pack_ev (d64_dig (m*n)) hl
 rw [d64_val,Int.toNat_natCast]at this
 exact Ev.bind this (Ev.now _)
def cmpN (m n:Nat):Int:=if m<n then -1 else if m=n then 0 else 1
def chk (s:ByteArray):Int:=if 0<s.size∧bt s 0=0 then 1 else if 1024<s.size then 4 else 0
theorem Check_ev (s:ByteArray):Ev (fun k=>natural_Check.f k s) (chk s):=by
 have hj:∀b:Bool,(b=true↔0<s.size∧bt s 0=0)→Ev (fun k=>natural_Check.j0 k s b) (chk s):=by
  intro b hb
  refine Ev.step (f:=fun _=>some (chk s)) (fun k=>?_) (Ev.now _)
  unfold chk
  simp only [natural_Check.j0]
  by_cases h:b=true
  ·rw [if_pos h,if_pos (hb.1 h)]
  ·rw [if_neg h,if_neg (fun h'=>h (hb.2 h'))]
   by_cases h3:1024<s.size
   ·rw [if_pos (by omega),if_pos h3]
   ·rw [if_neg (by omega),if_neg h3]
 by_cases h:0<s.size
 ·refine Ev.congr (f:=fun k=>natural_Check.j0 k s (bt s 0==0)) (fun k=>?_) (hj _ (by simp [h]))
  unfold natural_Check.f
  rw [if_pos (by omega),if_pos (by omega)]
 ·refine Ev.congr (f:=fun k=>natural_Check.j0 k s false) (fun k=>?_) (hj _ (by simp [h]))
  unfold natural_Check.f
  rw [if_neg (by omega)]
theorem chk_nat {n:Nat} (h:(nat n).size≤1024):chk (nat n)=0:=by
 unfold chk
 rw [if_neg,if_neg (by omega)]
 rintro⟨h1,h2⟩
 rcases nat_wf n with h3|h3
 ·omega
 ·exact h3 h2
theorem chk_zero {s:ByteArray} (h:chk s=0):s=nat (bval s).toNat∧s.size≤1024:=by
 unfold chk at h
 by_cases h1:0<s.size∧bt s 0=0
 ·rw [if_pos h1]at h;omega
 ·rw [if_neg h1]at h
  refine⟨wf_nat ?_,?_⟩
  ·rcases Nat.eq_zero_or_pos s.size with h2|h2
   ·exact Or.inl h2
   ·exact Or.inr (fun h3=>h1 ⟨h2,h3⟩)
  ·rcases Nat.lt_or_ge 1024 s.size with h2|h2
   ·rw [if_pos h2]at h;omega
   ·exact h2
def firstErr:List ByteArray→Int
 | []=>0
 |s::l=>if chk s=0 then firstErr l else chk s
theorem first_l0 (l:List ByteArray) (hl:l.length<9223372036854775808):∀(d i:Nat),i+d=l.length→Ev (fun k=>natural_first.l0 k l (l.length:Int) (i:Int)) (firstErr (l.drop i)):=by
 intro d
 induction d with
 |zero=>
  intro i hi
  rw [List.drop_of_length_le (by omega)]
  refine Ev.step (f:=fun _=>some 0) (fun k=>?_) (Ev.now _)
  simp only [natural_first.l0]
  rw [if_neg (by omega)]
 |succ d ih=>
  intro i hi
  have hi':i<l.length:=by omega
  have e1:wrap64 ((i:Int)+1)=((i+1:Nat):Int):=by rw [w64 (by omega) (by omega)];omega
  have e2:rdOf ByteArray.empty l (i:Int)=l[i]:=by
   unfold rdOf
   rw [Int.toNat_natCast,List.getD_eq_getElem?_getD,List.getElem?_eq_getElem hi']
   rfl
  rw [List.drop_eq_getElem_cons hi',firstErr]
  refine Ev.step (f:=fun k=>(natural_Check.f k l[i]).bind fun t=>if t=0 then natural_first.l0 k l (l.length:Int) ((i+1:Nat):Int)else some t) (fun k=>?_) (Ev.bind (Check_ev _) ?_)
  ·simp only [natural_first.l0,e1,e2]
   rw [if_pos (by omega),if_pos (by omega),if_pos (by omega)]
  ·by_cases h:chk l[i]=0
   ·rw [if_pos h]
    exact Ev.congr (fun k=>if_pos h) (ih (i+1) (by omega))
   ·rw [if_neg h]
    exact Ev.congr (f:=fun _=>some (chk l[i])) (fun k=>if_neg h) (Ev.now _)
theorem first_ev (l:List ByteArray) (hl:l.length<9223372036854775808):Ev (fun k=>natural_first.f k l) (firstErr l):=first_l0 l hl l.length 0 (by omega)
theorem first1 (a:ByteArray):Ev (fun k=>natural_first.f k [a]) (chk a):=by
 have:=first_ev [a] (by simp)
 rwa [show firstErr [a]=chk a by unfold firstErr firstErr;split<;>simp_all]at this
def bnd (n:Nat):ByteArray×Int:=if 1024<(nat n).size then(⟨#[]⟩,4)else(nat n,0)
theorem bounded_eq (n:Nat):natural_bounded.f (nat n)=some (bnd n):=by
 unfold natural_bounded.f bnd
 by_cases h:1024<(nat n).size
 ·rw [if_pos (by omega),if_pos h]
 ·rw [if_neg (by omega),if_neg h]
theorem bnd_ok {n:Nat} (h:(nat n).size≤1024):bnd n=(nat n,0):=by
 unfold bnd
 rw [if_neg (by omega)]
theorem ev_some {α β:Type} {o:Option α} {f:Nat→α→Option β} {a:α} {r:β} (h:o=some a) (k:Ev (fun n=>f n a) r):Ev (fun n=>o.bind (f n)) r:=by subst h;exact k
theorem number {s:ByteArray} (h:chk s=0):∃n,s=nat n∧(nat n).size≤1024:=by
 obtain⟨h1,h2⟩:=chk_zero h
 exact⟨_,h1,by rw [←h1];exact h2⟩
theorem shl_eq (x:Int) (s:Nat) (hs:s≤64):shl .u64 x (s:Int)=(x*2^s)%18446744073709551616:=by
 unfold shl
 rw [Int.toNat_natCast,u64_mod,show min s IntKind.u64.bits=s from Nat.min_eq_left hs]
theorem shr_eq (x:Int) (s:Nat) (hs:s≤64):shr .u64 x (s:Int)=x/2^s:=by
 unfold shr
 rw [Int.toNat_natCast,show min s IntKind.u64.bits=s from Nat.min_eq_left hs]
theorem norm_word {y:Int} (y0:0<y) (y1:y<B64):∃s:Nat,s≤63∧bits_LeadingZeros64.f y=some (s:Int)∧9223372036854775808≤y*2^s∧y*2^s<18446744073709551616:=by
 have y1':y<18446744073709551616:=y1
 obtain⟨n,rfl⟩:=Int.eq_ofNat_of_zero_le (Int.le_of_lt y0)
 have hn:n<2^64:=by omega
 obtain⟨h1,h2,h3⟩:=Lib.bitLenAux_bounds 64 n hn (by omega)
 have h4:Lib.bitLen n≤64:=Lib.bitLen_le n 64 (by decide) hn
 have e:Lib.bitLenAux 64 n=Lib.bitLen n:=rfl
 rw [e]at h1 h2 h3
 generalize hL:Lib.bitLen n=L at*
 refine⟨64-L,by omega,?_,?_,?_⟩
 ·unfold bits_LeadingZeros64.f bits_Len64.f
  rw [if_pos (by omega),Option.bind_some,Int.toNat_natCast,hL,w64 (by omega) (by omega)]
  congr 1
  omega
 ·have h5:2^(L-1)*2^(64-L)=2^63:=by rw [←Nat.pow_add];congr 1;omega
  have h6:=Nat.mul_le_mul_right (2^(64-L)) h2
  rw [h5]at h6
  have e1:(n:Int)*2^(64-L)=((n*2^(64-L):Nat):Int):=by rw [Int.natCast_mul,Int.natCast_pow];rfl
  rw [e1]
  generalize n*2^(64-L)=M at*
  omega
 ·have h5:2^L*2^(64-L)=2^64:=by rw [←Nat.pow_add];congr 1;omega
  have h6:=Nat.mul_lt_mul_of_pos_right h3 (Nat.two_pow_pos (64-L))
  rw [h5]at h6
  have e1:(n:Int)*2^(64-L)=((n*2^(64-L):Nat):Int):=by rw [Int.natCast_mul,Int.natCast_pow];rfl
  rw [e1]
  generalize n*2^(64-L)=M at*
  omega
def Half (y1 U Q q r:Int):Prop:=Q≤q∧q*y1+r=U∧0≤r∧r<4294967296∧q≤4294967297
theorem half_le {y1 y0 U u q r:Int} (hy:0<y1*4294967296+y0) (he:q*y1+r=U) (h:q*y0≤4294967296*r+u):q≤(U*4294967296+u)/(y1*4294967296+y0):=by
 apply Int.le_ediv_of_mul_le hy
 have:q*(y1*4294967296+y0)=q*y1*4294967296+q*y0:=by rw [Int.mul_add,Int.mul_assoc]
 omega
theorem half_gt {y1 y0 U u q r:Int} (hy:0<y1*4294967296+y0) (he:q*y1+r=U) (h:4294967296*r+u<q*y0):(U*4294967296+u)/(y1*4294967296+y0)≤q-1:=by
 have:(U*4294967296+u)/(y1*4294967296+y0)<q:=by
  apply Int.ediv_lt_of_lt_mul hy
  have:q*(y1*4294967296+y0)=q*y1*4294967296+q*y0:=by rw [Int.mul_add,Int.mul_assoc]
  omega
 omega
theorem half_lt {y1 y0 U u:Int} (hy:0<y1*4294967296+y0) (hU:U<y1*4294967296+y0) (u1:u<4294967296):(U*4294967296+u)/(y1*4294967296+y0)<4294967296:=by
 apply Int.ediv_lt_of_lt_mul hy
 omega
theorem half_start {y1 y0 U u:Int} (h1:2147483648≤y1) (h2:y1<4294967296) (h3:0≤y0) (h4:y0<4294967296) (U0:0≤U) (hU:U<y1*4294967296+y0) (u0:0≤u) (u1:u<4294967296):
  Half y1 U ((U*4294967296+u)/(y1*4294967296+y0)) (U/y1) (U%y1)∧0≤U/y1:=by
 have hy:0<y1*4294967296+y0:=by omega
 have hQ0:0≤(U*4294967296+u)/(y1*4294967296+y0):=Int.ediv_nonneg (by omega) (by omega)
 have hq0:0≤U/y1:=Int.ediv_nonneg U0 (by omega)
 have e:=Int.emod_add_mul_ediv U y1
 have hr:=Int.emod_lt_of_pos U (show 0<y1 by omega)
 have hr0:=Int.emod_nonneg U (show y1≠0 by omega)
 refine⟨⟨?_,by rw [Int.mul_comm];omega,hr0,by omega,?_⟩,hq0⟩
 ·apply Int.le_ediv_of_mul_le (by omega)
  have h5:=Int.ediv_mul_le (U*4294967296+u) (show y1*4294967296+y0≠0 by omega)
  generalize(U*4294967296+u)/(y1*4294967296+y0)=Q at*
  rw [Int.mul_add,←Int.mul_assoc]at h5
  have h6:=Int.mul_nonneg hQ0 h3
  omega
 ·have:U/y1<4294967298:=by
   apply Int.ediv_lt_of_lt_mul (by omega)
   omega
  omega
theorem half_step {y1 y0 U u q r:Int} (h1:2147483648≤y1) (h2:y1<4294967296) (h3:0≤y0) (h4:y0<4294967296) (hU:U<y1*4294967296+y0) (u0:0≤u) (u1:u<4294967296)
  (h:Half y1 U ((U*4294967296+u)/(y1*4294967296+y0)) q r) (ht:4294967296≤q∨4294967296*r+u<q*y0):
  (4294967296≤r+y1→q-1=(U*4294967296+u)/(y1*4294967296+y0))∧(r+y1<4294967296→Half y1 U ((U*4294967296+u)/(y1*4294967296+y0)) (q-1) (r+y1)):=by
 obtain⟨a1,a2,a3,a4,a5⟩:=h
 have hy:0<y1*4294967296+y0:=by omega
 have b1:(U*4294967296+u)/(y1*4294967296+y0)≤q-1:=by
  rcases ht with ht|ht
  ·have:=half_lt hy hU u1
   omega
  ·exact half_gt hy a2 ht
 have b2:(q-1)*y1+(r+y1)=U:=by rw [Int.sub_mul,Int.one_mul];omega
 refine⟨fun h5=>?_,fun h5=>⟨b1,b2,by omega,h5,by omega⟩⟩
 have h6:(q-1)*y0≤4294967296*4294967295:=by
  refine Int.le_trans (Int.mul_le_mul_of_nonneg_right (show q-1≤4294967296 by omega) h3) ?_
  omega
 have b3:=half_le (u:=u) hy b2 (by omega)
 omega
theorem half_done {y1 y0 U u q r:Int} (hy:0<y1*4294967296+y0) (h:Half y1 U ((U*4294967296+u)/(y1*4294967296+y0)) q r) (ht:¬4294967296*r+u<q*y0):q=(U*4294967296+u)/(y1*4294967296+y0):=by
 obtain⟨a1,a2,a3,a4,a5⟩:=h
 have:=half_le (u:=u) hy a2 (by omega)
 omega
theorem half_test {q y0 r u:Int} (q0:0≤q) (q1:q<4294967296) (h3:0≤y0) (h4:y0<4294967296) (r0:0≤r) (r1:r<4294967296) (u0:0≤u) (u1:u<4294967296):
  IntKind.u64.wrap (q*y0)=q*y0∧IntKind.u64.wrap (IntKind.u64.wrap (4294967296*r)+u)=4294967296*r+u:=by
 have h:=mul_range q0 (show q≤4294967295 by omega) h3 (show y0≤4294967295 by omega)
 rw [u64 (x:=4294967296*r) (by omega) (by omega)]
 exact⟨u64 h.1 (by omega),u64 (by omega) (by omega)⟩
theorem div_l1 {y s y1 y0:Int} (h1:2147483648≤y1) (h2:y1<4294967296) (h3:0≤y0) (h4:y0<4294967296) (s0:0≤s) {U u Q1:Int} (U0:0≤U) (hU:U<y1*4294967296+y0) (u0:0≤u) (u1:u<4294967296):∀(d:Nat) (q r:Int),q=(U*4294967296+u)/(y1*4294967296+y0)+d→Half y1 U ((U*4294967296+u)/(y1*4294967296+y0)) q r→
  Ev (fun k=>bits_Div64.l1 k y s y1 y0 u Q1 r U q) (IntKind.u64.wrap ((IntKind.u64.wrap (Q1*4294967296))+((U*4294967296+u)/(y1*4294967296+y0))),shr .u64 (IntKind.u64.wrap ((IntKind.u64.wrap ((IntKind.u64.wrap (U*4294967296))+u))-(IntKind.u64.wrap (((U*4294967296+u)/(y1*4294967296+y0))*y)))) s):=by
 have hy:0<y1*4294967296+y0:=by omega
 have hQ0:0≤(U*4294967296+u)/(y1*4294967296+y0):=Int.ediv_nonneg (by omega) (by omega)
 intro d
 induction d with
 |zero=>
  intro q r hq h
  have hq:q=(U*4294967296+u)/(y1*4294967296+y0):=by omega
  have hq1:=half_lt hy hU u1
  rw [←hq]at hq1
  have ht:¬4294967296*r+u<q*y0:=by
   intro ht
   have:=half_gt (u:=u) hy h.2.1 ht
   omega
  obtain⟨e1,e2⟩:=half_test (show 0≤q by omega) hq1 h3 h4 h.2.2.1 h.2.2.2.1 u0 u1
  have c1:¬q≥4294967296:=by omega
  rw [←hq]
  refine Ev.step (f:=fun k=>bits_Div64.j4 k y s y1 y0 u Q1 r U q false) (fun k=>?_) (Ev.step (f:=fun _=>some _) (fun k=>?_) (Ev.now _))
  ·simp only [bits_Div64.l1]
   rw [if_neg c1,e1,e2,decide_eq_false ht]
  ·simp only [bits_Div64.j4]
   rw [if_neg Bool.false_ne_true,if_pos s0]
 |succ d ih=>
  intro q r hq h
  have ht:4294967296≤q∨4294967296*r+u<q*y0:=by
   by_cases ht:4294967296*r+u<q*y0
   ·exact Or.inr ht
   ·have:=half_done hy h ht
    omega
  obtain⟨g1,g2⟩:=half_step h1 h2 h3 h4 hU u0 u1 h ht
  have r0:=h.2.2.1
  have r1:=h.2.2.2.1
  have q1:=h.2.2.2.2
  have w1:IntKind.u64.wrap (q-1)=q-1:=u64 (by omega) (by omega)
  have w2:IntKind.u64.wrap (r+y1)=r+y1:=u64 (by omega) (by omega)
  refine Ev.step (f:=fun k=>bits_Div64.j4 k y s y1 y0 u Q1 r U q true) (fun k=>?_) ?_
  ·simp only [bits_Div64.l1]
   by_cases c1:q≥4294967296
   ·rw [if_pos c1]
   ·rw [if_neg c1]
    have ht':4294967296*r+u<q*y0:=by
     rcases ht with ht|ht
     ·exact absurd ht c1
     ·exact ht
    obtain⟨e1,e2⟩:=half_test (show 0≤q by omega) (by omega) h3 h4 r0 r1 u0 u1
    rw [e1,e2,decide_eq_true ht']
  ·by_cases c2:r+y1≥4294967296
   ·refine Ev.step (f:=fun _=>some _) (fun k=>?_) (Ev.now _)
    simp only [bits_Div64.j4]
    rw [if_pos trivial,w1,w2,if_pos c2,if_pos s0,g1 c2]
   ·refine Ev.step (f:=fun k=>bits_Div64.l1 k y s y1 y0 u Q1 (r+y1) U (q-1)) (fun k=>?_) (ih (q-1) (r+y1) (by omega) (g2 (by omega)))
    simp only [bits_Div64.j4]
    rw [if_pos trivial,w1,w2,if_neg c2]
theorem div_l0 {y s y1 y0:Int} (h1:2147483648≤y1) (h2:y1<4294967296) (h3:0≤y0) (h4:y0<4294967296) {U u v:Int} (U0:0≤U) (hU:U<y1*4294967296+y0) (u0:0≤u) (u1:u<4294967296) {R:Int×Int}
  (next:Ev (fun k=>bits_Div64.j2 k y s y1 y0 U u v ((U*4294967296+u)/(y1*4294967296+y0))) R):∀(d:Nat) (q r:Int),q=(U*4294967296+u)/(y1*4294967296+y0)+d→Half y1 U ((U*4294967296+u)/(y1*4294967296+y0)) q r→
  Ev (fun k=>bits_Div64.l0 k y s y1 y0 U u v q r) R:=by
 have hy:0<y1*4294967296+y0:=by omega
 have hQ0:0≤(U*4294967296+u)/(y1*4294967296+y0):=Int.ediv_nonneg (by omega) (by omega)
 intro d
 induction d with
 |zero=>
  intro q r hq h
  have hq:q=(U*4294967296+u)/(y1*4294967296+y0):=by omega
  have hq1:=half_lt hy hU u1
  rw [←hq]at hq1
  have ht:¬4294967296*r+u<q*y0:=by
   intro ht
   have:=half_gt (u:=u) hy h.2.1 ht
   omega
  obtain⟨e1,e2⟩:=half_test (show 0≤q by omega) hq1 h3 h4 h.2.2.1 h.2.2.2.1 u0 u1
  have c1:¬q≥4294967296:=by omega
  rw [←hq]at next
  refine Ev.step (f:=fun k=>bits_Div64.j1 k y s y1 y0 U u v q r false) (fun k=>?_) (Ev.step (f:=fun k=>bits_Div64.j2 k y s y1 y0 U u v q) (fun k=>?_) next)
  ·simp only [bits_Div64.l0]
   rw [if_neg c1,e1,e2,decide_eq_false ht]
  ·simp only [bits_Div64.j1]
   rw [if_neg Bool.false_ne_true]
 |succ d ih=>
  intro q r hq h
  have ht:4294967296≤q∨4294967296*r+u<q*y0:=by
   by_cases ht:4294967296*r+u<q*y0
   ·exact Or.inr ht
   ·have:=half_done hy h ht
    omega
  obtain⟨g1,g2⟩:=half_step h1 h2 h3 h4 hU u0 u1 h ht
  have r0:=h.2.2.1
  have r1:=h.2.2.2.1
  have q1:=h.2.2.2.2
  have w1:IntKind.u64.wrap (q-1)=q-1:=u64 (by omega) (by omega)
  have w2:IntKind.u64.wrap (r+y1)=r+y1:=u64 (by omega) (by omega)
  refine Ev.step (f:=fun k=>bits_Div64.j1 k y s y1 y0 U u v q r true) (fun k=>?_) ?_
  ·simp only [bits_Div64.l0]
   by_cases c1:q≥4294967296
   ·rw [if_pos c1]
   ·rw [if_neg c1]
    have ht':4294967296*r+u<q*y0:=by
     rcases ht with ht|ht
     ·exact absurd ht c1
     ·exact ht
    obtain⟨e1,e2⟩:=half_test (show 0≤q by omega) (by omega) h3 h4 r0 r1 u0 u1
    rw [e1,e2,decide_eq_true ht']
  ·by_cases c2:r+y1≥4294967296
   ·rw [←g1 c2]at next
    refine Ev.step (f:=fun k=>bits_Div64.j2 k y s y1 y0 U u v (q-1)) (fun k=>?_) next
    simp only [bits_Div64.j1]
    rw [if_pos trivial,w1,w2,if_pos c2]
   ·refine Ev.step (f:=fun k=>bits_Div64.l0 k y s y1 y0 U u v (q-1) (r+y1)) (fun k=>?_) (ih (q-1) (r+y1) (by omega) (g2 (by omega)))
    simp only [bits_Div64.j1]
    rw [if_pos trivial,w1,w2,if_neg c2]
theorem div64_ev {h l y:Int} (h0:0≤h) (hy:h<y) (y1:y<B64) (l0:0≤l) (l1:l<B64):Ev (fun k=>bits_Div64.f k h l y) ((h*B64+l)/y,(h*B64+l)%y):=by
 have y1':y<18446744073709551616:=y1
 have l1':l<18446744073709551616:=l1
 show Ev (fun k=>bits_Div64.f k h l y) ((h*18446744073709551616+l)/y,(h*18446744073709551616+l)%y)
 have yp:0<y:=by omega
 by_cases hz:h=0
 ·subst hz
  have hq:l/y<18446744073709551616:=Int.ediv_lt_of_lt_mul yp (by
   have:=Int.mul_le_mul_of_nonneg_left (show 1≤y by omega) (show(0:Int)≤18446744073709551616 by decide)
   omega)
  refine Ev.congr (f:=fun _=>some (l/y,l%y)) (fun k=>?_) (by rw [Int.zero_mul,Int.zero_add];exact Ev.now _)
  unfold bits_Div64.f
  rw [if_neg (by omega),if_neg (by omega),if_pos rfl,Int.tdiv_eq_ediv_of_nonneg l0,Int.tmod_eq_emod_of_nonneg l0,u64 (Int.ediv_nonneg l0 (by omega)) hq]
 ·obtain⟨s,s1,hs,n0,n1⟩:=norm_word yp y1
  have hPR:(2:Int)^s*2^(64-s)=18446744073709551616:=by
   rw [←Int.pow_add]
   have:s+(64-s)=64:=by omega
   rw [this]
   rfl
  have hP:(0:Int)<2^s:=Int.pow_pos (by decide)
  have hR:(0:Int)<2^(64-s):=Int.pow_pos (by decide)
  have e1:IntKind.u64.wrap (s:Int)=(s:Int):=u64 (by omega) (by omega)
  have e2:IntKind.u64.wrap (64-(s:Int))=((64-s:Nat):Int):=by rw [u64 (by omega) (by omega)];omega
  have d1:shl .u64 y (s:Int)=y*2^s:=by rw [shl_eq _ _ (by omega),Int.emod_eq_of_lt (by omega) n1]
  have h2:0≤h*2^s:=Int.mul_nonneg h0 (Int.le_of_lt hP)
  have h3:h*2^s+2^s≤y*2^s:=by
   have:=Int.mul_le_mul_of_nonneg_right (show h+1≤y by omega) (Int.le_of_lt hP)
   rwa [Int.add_mul,Int.one_mul]at this
  have hl0:0≤l/2^(64-s):=Int.ediv_nonneg l0 (Int.le_of_lt hR)
  have hl1:l/2^(64-s)<2^s:=Int.ediv_lt_of_lt_mul hR (by rw [hPR];exact l1')
  have d2:Go.bits .or .u64 (shl .u64 h (s:Int)) (shr .u64 l ((64-s:Nat):Int))=h*2^s+l/2^(64-s):=by
   rw [shl_eq _ _ (by omega),shr_eq _ _ (by omega),Int.emod_eq_of_lt h2 (by omega)]
   exact bits_join .u64 64 (by decide) wraps_u64 s (h*2^s) (l/2^(64-s)) h2 (Int.mul_emod_left _ _) (by show _<(18446744073709551616:Int);omega) hl0 hl1 (by show _<(18446744073709551616:Int);omega)
  have d3:shl .u64 l (s:Int)=(l*2^s)%18446744073709551616:=shl_eq _ _ (by omega)
  have hm:l*2^s=l/2^(64-s)*18446744073709551616+(l*2^s)%18446744073709551616:=by
   have g:=Int.emod_add_mul_ediv l (2^(64-s))
   have g0:=Int.emod_nonneg l (show(2:Int)^(64-s)≠0 by omega)
   have g1:=Int.emod_lt_of_pos l hR
   have g2:l*2^s=l%2^(64-s)*2^s+18446744073709551616*(l/2^(64-s)):=by
    conv=>lhs;rw [←g]
    rw [Int.add_mul,Int.mul_right_comm,Int.mul_comm (2^(64-s)) (2^s),hPR]
   have g3:0≤l%2^(64-s)*2^s:=Int.mul_nonneg g0 (Int.le_of_lt hP)
   have g4:l%2^(64-s)*2^s<18446744073709551616:=by
    have:=Int.mul_lt_mul_of_pos_right g1 hP
    rwa [Int.mul_comm (2^(64-s)) (2^s),hPR]at this
   omega
  obtain⟨U,hU⟩:∃U,U=h*2^s+l/2^(64-s):=⟨_,rfl⟩
  obtain⟨L,hL⟩:∃L,L=(l*2^s)%18446744073709551616:=⟨_,rfl⟩
  obtain⟨Y,hY⟩:∃Y,Y=y*2^s:=⟨_,rfl⟩
  have L0:0≤L:=by rw [hL];exact Int.emod_nonneg _ (by decide)
  have L1:L<18446744073709551616:=by rw [hL];exact Int.emod_lt_of_pos _ (by decide)
  have U0:0≤U:=by omega
  have U1:U<Y:=by omega
  have key:(h*18446744073709551616+l)*2^s=U*18446744073709551616+L:=by
   rw [Int.add_mul,Int.mul_right_comm,hU,hL]
   rw [hm]at*
   omega
  rw [←hU]at d2
  rw [←hL]at d3
  rw [←hY]at d1
  rw [←hY]at n0 n1
  have hPle:(2:Int)^s≤2^s:=Int.le_refl _
  clear hm h3 hl0 hl1 h2 hPR hR
  have hYd:=Int.emod_add_mul_ediv Y 4294967296
  have a1:2147483648≤Y/4294967296:=by omega
  have a2:Y/4294967296<4294967296:=by omega
  have a3:0≤Y%4294967296:=by omega
  have a4:Y%4294967296<4294967296:=by omega
  have aY:Y/4294967296*4294967296+Y%4294967296=Y:=by omega
  have b1:0≤L/4294967296:=by omega
  have b2:L/4294967296<4294967296:=by omega
  have b3:0≤L%4294967296:=by omega
  have b4:L%4294967296<4294967296:=by omega
  have c1:=and_low (x:=Y) (by omega) n1
  have c2:=and_low (x:=L) L0 L1
  obtain⟨f1,f2⟩:=half_start a1 a2 a3 a4 U0 (by rw [aY];exact U1) b1 b2
  have q1:U/(Y/4294967296)<18446744073709551616:=by have:=f1.2.2.2.2;omega
  have w1:IntKind.u64.wrap (Int.tdiv U (Y/4294967296))=U/(Y/4294967296):=by rw [Int.tdiv_eq_ediv_of_nonneg U0,u64 f2 q1]
  have m1:=mul_range f2 (show U/(Y/4294967296)≤4294967297 from f1.2.2.2.2) (show 0≤Y/4294967296 by omega) (show Y/4294967296≤4294967295 by omega)
  have r1:U-U/(Y/4294967296)*(Y/4294967296)=U%(Y/4294967296):=by have:=f1.2.1;omega
  have w2:IntKind.u64.wrap (U/(Y/4294967296)*(Y/4294967296))=U/(Y/4294967296)*(Y/4294967296):=u64 m1.1 (by omega)
  have w3:IntKind.u64.wrap (U%(Y/4294967296))=U%(Y/4294967296):=u64 f1.2.2.1 (by have:=f1.2.2.2.1;omega)
  refine Ev.congr (f:=fun k=>bits_Div64.l0 k Y (s:Int) (Y/4294967296) (Y%4294967296) U (L/4294967296) (L%4294967296) (U/(Y/4294967296)) (U%(Y/4294967296))) (fun k=>?_) ?_
  ·unfold bits_Div64.f
   rw [if_neg (by omega),if_neg (by omega),if_neg hz,hs,Option.bind_some,e1,if_pos (by omega),e2,if_pos (by omega),d1,d2,d3,c1,c2,if_neg (by omega),w1,w2,r1,w3]
  ·obtain⟨d,hd⟩:∃d:Nat,U/(Y/4294967296)=(U*4294967296+L/4294967296)/(Y/4294967296*4294967296+Y%4294967296)+d:=⟨(U/(Y/4294967296)-(U*4294967296+L/4294967296)/(Y/4294967296*4294967296+Y%4294967296)).toNat,by have:=f1.1;omega⟩
   refine div_l0 a1 a2 a3 a4 U0 (by rw [aY];exact U1) b1 b2 ?_ d _ _ hd f1
   clear d hd f1 f2 q1 w1 m1 r1 w2 w3
   rw [aY]
   obtain⟨Q,hQ⟩:∃Q,Q=(U*4294967296+L/4294967296)/Y:=⟨_,rfl⟩
   obtain⟨V,hV⟩:∃V,V=(U*4294967296+L/4294967296)%Y:=⟨_,rfl⟩
   have gQ:=Int.emod_add_mul_ediv (U*4294967296+L/4294967296) Y
   have V0:0≤V:=by rw [hV];exact Int.emod_nonneg _ (by omega)
   have V1:V<Y:=by rw [hV];exact Int.emod_lt_of_pos _ (by omega)
   have Q0:0≤Q:=by rw [hQ];exact Int.ediv_nonneg (by omega) (by omega)
   have Q1:Q<4294967296:=by
    have:=half_lt (y1:=Y/4294967296) (y0:=Y%4294967296) (U:=U) (u:=L/4294967296) (by omega) (by omega) b2
    rwa [aY,←hQ]at this
   rw [←hQ,←hV]at gQ
   rw [←hQ]
   have w4:IntKind.u64.wrap (IntKind.u64.wrap (IntKind.u64.wrap (U*4294967296)+L/4294967296)-IntKind.u64.wrap (Q*Y))=V:=by
    rw [Int.mul_comm Y Q]at gQ
    generalize Q*Y=QY at*
    rw [u64_mod,u64_mod,u64_mod,u64_mod]
    omega
   obtain⟨f1,f2⟩:=half_start a1 a2 a3 a4 V0 (by rw [aY];exact V1) b3 b4
   have q1:V/(Y/4294967296)<18446744073709551616:=by have:=f1.2.2.2.2;omega
   have w1:IntKind.u64.wrap (Int.tdiv V (Y/4294967296))=V/(Y/4294967296):=by rw [Int.tdiv_eq_ediv_of_nonneg V0,u64 f2 q1]
   have m1:=mul_range f2 (show V/(Y/4294967296)≤4294967297 from f1.2.2.2.2) (show 0≤Y/4294967296 by omega) (show Y/4294967296≤4294967295 by omega)
   have r1:V-V/(Y/4294967296)*(Y/4294967296)=V%(Y/4294967296):=by have:=f1.2.1;omega
   have w2:IntKind.u64.wrap (V/(Y/4294967296)*(Y/4294967296))=V/(Y/4294967296)*(Y/4294967296):=u64 m1.1 (by omega)
   have w3:IntKind.u64.wrap (V%(Y/4294967296))=V%(Y/4294967296):=u64 f1.2.2.1 (by have:=f1.2.2.2.1;omega)
   refine Ev.step (f:=fun k=>bits_Div64.l1 k Y (s:Int) (Y/4294967296) (Y%4294967296) (L%4294967296) Q (V%(Y/4294967296)) V (V/(Y/4294967296))) (fun k=>?_) ?_
   ·simp only [bits_Div64.j2]
    rw [if_neg (by omega),w4,w1,w2,r1,w3]
   ·obtain⟨d,hd⟩:∃d:Nat,V/(Y/4294967296)=(V*4294967296+L%4294967296)/(Y/4294967296*4294967296+Y%4294967296)+d:=⟨(V/(Y/4294967296)-(V*4294967296+L%4294967296)/(Y/4294967296*4294967296+Y%4294967296)).toNat,by have:=f1.1;omega⟩
    have fin:=div_l1 (y:=Y) (s:=(s:Int)) a1 a2 a3 a4 (by omega) V0 (by rw [aY];exact V1) b3 b4 (Q1:=Q) d _ _ hd f1
    rw [aY]at fin
    clear d hd f1 f2 q1 w1 m1 r1 w2 w3 w4
    obtain⟨q,hq⟩:∃q,q=(V*4294967296+L%4294967296)/Y:=⟨_,rfl⟩
    obtain⟨v,hv⟩:∃v,v=(V*4294967296+L%4294967296)%Y:=⟨_,rfl⟩
    have gq:=Int.emod_add_mul_ediv (V*4294967296+L%4294967296) Y
    have v0:0≤v:=by rw [hv];exact Int.emod_nonneg _ (by omega)
    have v1:v<Y:=by rw [hv];exact Int.emod_lt_of_pos _ (by omega)
    have q0:0≤q:=by rw [hq];exact Int.ediv_nonneg (by omega) (by omega)
    have q1:q<4294967296:=by
     have:=half_lt (y1:=Y/4294967296) (y0:=Y%4294967296) (U:=V) (u:=L%4294967296) (by omega) (by omega) b4
     rwa [aY,←hq]at this
    rw [←hq,←hv]at gq
    rw [←hq]at fin
    have w5:IntKind.u64.wrap (IntKind.u64.wrap (IntKind.u64.wrap (V*4294967296)+L%4294967296)-IntKind.u64.wrap (q*Y))=v:=by
     rw [Int.mul_comm Y q]at gq
     generalize q*Y=QY at*
     rw [u64_mod,u64_mod,u64_mod,u64_mod]
     omega
    have w6:IntKind.u64.wrap (IntKind.u64.wrap (Q*4294967296)+q)=Q*4294967296+q:=by
     rw [u64 (x:=Q*4294967296) (by omega) (by omega),u64 (by omega) (by omega)]
    rw [w5,w6,shr_eq _ _ (by omega)]at fin
    have hN:(h*18446744073709551616+l)*2^s=(Q*4294967296+q)*Y+v:=by
     rw [key,Int.add_mul,Int.mul_right_comm Q]
     rw [Int.mul_comm Y Q]at gQ
     rw [Int.mul_comm Y q]at gq
     generalize Q*Y=QY at*
     generalize q*Y=qY at*
     omega
    rw [hY,←Int.mul_assoc]at hN
    have hv':v=(h*18446744073709551616+l-(Q*4294967296+q)*y)*2^s:=by rw [Int.sub_mul];omega
    have hv2:v/2^s=h*18446744073709551616+l-(Q*4294967296+q)*y:=by rw [hv',Int.mul_ediv_cancel _ (by omega)]
    have hv3:0≤v/2^s:=Int.ediv_nonneg v0 (by omega)
    have hv4:v/2^s<y:=Int.ediv_lt_of_lt_mul hP (by rw [←hY];exact v1)
    have e:(h*18446744073709551616+l)/y=Q*4294967296+q∧(h*18446744073709551616+l)%y=v/2^s:=by
     have:h*18446744073709551616+l=v/2^s+y*(Q*4294967296+q):=by rw [hv2,Int.mul_comm y];omega
     constructor
     ·rw [this,Int.add_mul_ediv_left _ _ (by omega),Int.ediv_eq_zero_of_lt hv3 hv4,Int.zero_add]
     ·rw [this,Int.add_mul_emod_self_left,Int.emod_eq_of_lt hv3 hv4]
    rw [e.1,e.2]
    exact fin
theorem top_lt {x y:List Int} (hx:Dig B64 x) (hy:Dig B64 y) {i:Nat} (hi:i<x.length) (hi':i<y.length) (hd:vB B64 (x.drop (i+1))=vB B64 (y.drop (i+1))) (h:rd x (i:Int)<rd y (i:Int)):vB B64 x<vB B64 y:=by
 have hB:(0:Int)<B64:=by decide
 have hsx:=vB_split B64 x (i+1) (by omega)
 have hsy:=vB_split B64 y (i+1) (by omega)
 rw [take_succ]at hsx hsy
 have ax:=vB_lt hB (Dig_take hx i)
 rw [List.length_take,Nat.min_eq_left (by omega)]at ax
 have bb:=vB_nonneg (Int.le_of_lt hB) (Dig_take hy i)
 rw [hd]at hsx
 have hP:(0:Int)<B64^i:=Int.pow_pos hB
 rw [hsx,hsy]
 generalize vB B64 (x.take i)=X at*
 generalize vB B64 (y.take i)=Y at*
 generalize B64^(i+1)*vB B64 (y.drop (i+1))=Z at*
 generalize(B64:Int)^i=P at*
 generalize rd x (i:Int)=a at*
 generalize rd y (i:Int)=b at*
 have h1:=Int.mul_le_mul_of_nonneg_left (show a+1≤b by omega) (Int.le_of_lt hP)
 rw [Int.mul_add,Int.mul_one]at h1
 clear hsx hsy hd
 omega
theorem cmp_l0 (x y:List Int) (hx:Dig B64 x) (hy:Dig B64 y) (hl:x.length=y.length) (hs:x.length<9223372036854775808) {m n:Nat} (hm:vB B64 x=m) (hn:vB B64 y=n):∀i:Nat,i≤x.length→vB B64 (x.drop i)=vB B64 (y.drop i)→Ev (fun k=>exact_compareWords.l0 k x y ((i:Int)-1)) (cmpN m n):=by
 have hB:(0:Int)<B64:=by decide
 intro i
 induction i with
 |zero=>
  intro _ hd
  rw [List.drop_zero,List.drop_zero,hm,hn]at hd
  have e:m=n:=by omega
  subst e
  refine Ev.step (f:=fun _=>some 0) (fun k=>?_) (by
   have:cmpN m m=0:=by simp [cmpN]
   rw [this]
   exact Ev.now _)
  simp only [exact_compareWords.l0]
  rw [if_neg (by decide)]
 |succ i ih=>
  intro hi hd
  have e0:((i+1:Nat):Int)-1=(i:Int):=by omega
  have e1:wrap64 ((i:Int)-1)=(i:Int)-1:=w64 (by omega) (by omega)
  have c1:(i:Int)≥0:=by omega
  have c2:(i:Int)<(x.length:Int):=by omega
  have c3:(i:Int)<(y.length:Int):=by omega
  rw [e0]
  by_cases he:rd x (i:Int)=rd y (i:Int)
  ·refine Ev.step (f:=fun k=>exact_compareWords.l0 k x y ((i:Int)-1)) (fun k=>?_) (ih (by omega) ?_)
   ·simp only [exact_compareWords.l0,e1]
    rw [if_pos c1,if_pos c1,if_pos c2,if_pos c3,if_pos he]
   ·rw [List.drop_eq_getElem_cons (show i<x.length by omega),List.drop_eq_getElem_cons (show i<y.length by omega),vB_cons,vB_cons,hd,←rd_get x i (by omega),←rd_get y i (by omega),he]
  ·by_cases hab:rd x (i:Int)<rd y (i:Int)
   ·have h1:=top_lt hx hy (by omega) (by omega) hd hab
    have h2:m<n:=by rw [hm,hn]at h1;omega
    refine Ev.step (f:=fun _=>some (-1)) (fun k=>?_) (by
     have:cmpN m n= -1:=by unfold cmpN;rw [if_pos h2]
     rw [this]
     exact Ev.now _)
    simp only [exact_compareWords.l0,e1]
    rw [if_pos c1,if_pos c1,if_pos c2,if_pos c3,if_neg he,if_pos hab]
   ·have h1:=top_lt hy hx (by omega) (by omega) hd.symm (show rd y (i:Int)<rd x (i:Int)by omega)
    have h2:n<m:=by rw [hm,hn]at h1;omega
    refine Ev.step (f:=fun _=>some 1) (fun k=>?_) (by
     have:cmpN m n=1:=by unfold cmpN;rw [if_neg (by omega),if_neg (by omega)]
     rw [this]
     exact Ev.now _)
    simp only [exact_compareWords.l0,e1]
    rw [if_pos c1,if_pos c1,if_pos c2,if_pos c3,if_neg he,if_neg hab]
theorem compareWords_ev {m n:Nat} (hm:(d64 m).length≤1099511627776) (hn:(d64 n).length≤1099511627776):Ev (fun k=>exact_compareWords.f k (d64 m) (d64 n)) (cmpN m n):=by
 by_cases h1:(d64 m).length=(d64 n).length
 ·have:=cmp_l0 (d64 m) (d64 n) (d64_dig m) (d64_dig n) h1 (by omega) (d64_val m) (d64_val n) (d64 m).length (Nat.le_refl _) (by
   rw [List.drop_of_length_le (Nat.le_refl _),List.drop_of_length_le (by omega)])
  refine Ev.congr (fun k=>?_) this
  unfold exact_compareWords.f
  rw [if_pos (by omega),w64 (by omega) (by omega)]
 ·by_cases h2:(d64 m).length<(d64 n).length
  ·have h3:=trim_len (by decide) (d64_dig m) (d64_dig n) (d64_trim n) h2
   rw [d64_val,d64_val]at h3
   refine Ev.congr (f:=fun _=>some (-1)) (fun k=>?_) (by
    have:cmpN m n= -1:=by unfold cmpN;rw [if_pos (by omega)]
    rw [this]
    exact Ev.now _)
   unfold exact_compareWords.f
   rw [if_neg (by omega),if_pos (by omega)]
  ·have h3:=trim_len (by decide) (d64_dig n) (d64_dig m) (d64_trim m) (by omega)
   rw [d64_val,d64_val]at h3
   refine Ev.congr (f:=fun _=>some 1) (fun k=>?_) (by
    have:cmpN m n=1:=by unfold cmpN;rw [if_neg (by omega),if_neg (by omega)]
    rw [this]
    exact Ev.now _)
   unfold exact_compareWords.f
   rw [if_neg (by omega),if_neg (by omega)]
theorem word_shift {x:Int} (x0:0≤x) (x1:x<B64) (s:Nat) (hs:s≤63):x*2^s=(x*2^s)%B64+B64*(x/2^(64-s))∧0≤x/2^(64-s)∧x/2^(64-s)<2^s∧((x*2^s)%B64)%2^s=0:=by
 have hP:(0:Int)<2^s:=Int.pow_pos (by decide)
 have hR:(0:Int)<2^(64-s):=Int.pow_pos (by decide)
 have hPR:(2:Int)^(64-s)*2^s=B64:=by
  rw [←Int.pow_add]
  have:64-s+s=64:=by omega
  rw [this]
  rfl
 have g:=Int.emod_add_mul_ediv x (2^(64-s))
 have g0:=Int.emod_nonneg x (show(2:Int)^(64-s)≠0 by omega)
 have g1:=Int.emod_lt_of_pos x hR
 have g2:x*2^s=x%2^(64-s)*2^s+B64*(x/2^(64-s)):=by
  conv=>lhs;rw [←g]
  rw [Int.add_mul,Int.mul_right_comm,hPR]
 have g3:0≤x%2^(64-s)*2^s:=Int.mul_nonneg g0 (Int.le_of_lt hP)
 have g4:x%2^(64-s)*2^s<B64:=by
  have:=Int.mul_lt_mul_of_pos_right g1 hP
  rwa [hPR]at this
 have g5:(x*2^s)%B64=x%2^(64-s)*2^s:=by
  rw [g2,Int.add_mul_emod_self_left,Int.emod_eq_of_lt g3 g4]
 refine⟨by rw [g5];exact g2,Int.ediv_nonneg x0 (Int.le_of_lt hR),Int.ediv_lt_of_lt_mul hR (by rw [Int.mul_comm,hPR];exact x1),by rw [g5];exact Int.mul_emod_left _ _⟩
theorem bits_or_comm {x y:Int} (x0:0≤x) (x1:x<2^64) (y0:0≤y) (y1:y<2^64):Go.bits .or .u64 x y=Go.bits .or .u64 y x:=by
 obtain⟨a,rfl⟩:=Int.eq_ofNat_of_zero_le x0
 obtain⟨b,rfl⟩:=Int.eq_ofNat_of_zero_le y0
 have ha:a<2^64:=by omega
 have hb:b<2^64:=by omega
 rw [(bits_nat .u64 64 (by decide) wraps_u64 a b ha hb).2,(bits_nat .u64 64 (by decide) wraps_u64 b a hb ha).2,Nat.or_comm]
theorem bits_join2 (s:Nat) (hs:s≤64) {x y:Int} (x0:0≤x) (x1:x<2^s) (y0:0≤y) (y1:y<B64) (hy:y%2^s=0) (hxy:x+y<B64):Go.bits .or .u64 x y=x+y:=by
 have y1':y<2^64:=by simpa using y1
 have x2:x<2^64:=Int.lt_of_le_of_lt (by omega) hxy
 have:=bits_join .u64 64 (by decide) wraps_u64 s y x y0 hy y1' x0 x1 x2
 rw [Int.add_comm x y,←this]
 exact bits_or_comm x0 x2 y0 y1'
def ShiftOut (w out:List Int) (s i:Nat):Prop:=
 out.length=w.length+1∧Dig B64 out∧vB B64 out=vB B64 (w.take i)*2^s∧(rd out (i:Int)<2^s)∧∀j:Nat,i<j→rd out (j:Int)=0
theorem shift_out {w out:List Int} {s i:Nat} (hs:s≤63) (hw:Dig B64 w) (hi:i<w.length) (h:ShiftOut w out s i):
  ShiftOut w ((out.set i (rd out (i:Int)+(rd w (i:Int)*2^s)%B64)).set (i+1) (rd w (i:Int)/2^(64-s))) s (i+1)∧0≤rd out (i:Int)+(rd w (i:Int)*2^s)%B64∧rd out (i:Int)+(rd w (i:Int)*2^s)%B64<B64:=by
 obtain⟨hl,hd,hv,hr,hz⟩:=h
 obtain⟨x0,x1⟩:=Dig_rd hw i hi
 obtain⟨o0,o1⟩:=Dig_rd hd i (by omega)
 obtain⟨a1,a2,a3,a4⟩:=word_shift x0 x1 s hs
 have hP:(0:Int)<2^s:=Int.pow_pos (by decide)
 have m0:=Int.emod_nonneg (rd w (i:Int)*2^s) (show(B64:Int)≠0 by decide)
 have m1:=Int.emod_lt_of_pos (rd w (i:Int)*2^s) (show(0:Int)<B64 by decide)
 have hsum:rd out (i:Int)+(rd w (i:Int)*2^s)%B64<B64:=by
  obtain⟨c,hc⟩:∃c,c*2^s=B64:=⟨2^(64-s),by
   rw [←Int.pow_add]
   have:64-s+s=64:=by omega
   rw [this]
   rfl⟩
  have h1:=Int.emod_add_mul_ediv ((rd w (i:Int)*2^s)%B64) (2^s)
  rw [a4,Int.zero_add]at h1
  generalize((rd w (i:Int)*2^s)%B64)/2^s=e at*
  generalize(rd w (i:Int)*2^s)%B64=M at*
  rw [←h1,←hc]at m1
  have h2:e<c:=Int.lt_of_mul_lt_mul_right (by rwa [Int.mul_comm (2^s) e]at m1) (Int.le_of_lt hP)
  have h3:=Int.mul_le_mul_of_nonneg_right (show e+1≤c by omega) (Int.le_of_lt hP)
  rw [Int.add_mul,Int.one_mul,hc,Int.mul_comm e]at h3
  omega
 have hsum0:0≤rd out (i:Int)+(rd w (i:Int)*2^s)%B64:=by omega
 have hlt:rd w (i:Int)/2^(64-s)<B64:=by
  have:(2:Int)^s≤2^63:=pow_le_pow (by decide) hs
  have e:(2:Int)^63<B64:=by decide
  exact Int.lt_trans a3 (Int.lt_of_le_of_lt this e)
 refine⟨⟨by rw [List.length_set,List.length_set];exact hl,Dig_set (Dig_set hd _ hsum0 hsum) _ a2 hlt,?_,?_,fun j hj=>?_⟩,hsum0,hsum⟩
 ·have c1:i<out.length:=by omega
  have c2:i+1<(out.set i (rd out (i:Int)+(rd w (i:Int)*2^s)%B64)).length:=by rw [List.length_set];omega
  rw [vB_set _ _ _ _ c2,rd_set_ne _ _ _ _ (by omega),hz (i+1) (by omega),vB_set _ _ _ _ c1,hv,take_succ,Int.pow_succ,Int.sub_zero,Int.add_mul]
  have e1:rd out (i:Int)+rd w (i:Int)*2^s%B64-rd out (i:Int)=rd w (i:Int)*2^s%B64:=by omega
  rw [e1,Int.mul_assoc (B64^i) B64,Int.mul_assoc (B64^i) (rd w (i:Int)),a1,Int.mul_add,Int.add_assoc]
  congr 2
  rw [←a1]
 ·rw [rd_set_self _ _ _ (by rw [List.length_set];omega)]
  exact a3
 ·rw [rd_set_ne _ _ _ _ (by omega),rd_set_ne _ _ _ _ (by omega)]
  exact hz j (by omega)
theorem shiftUp_l0 (w:List Int) (hw:Dig B64 w) (lw:w.length≤1099511627776) (s:Nat) (hs:s≤63):∀(d i:Nat) (out:List Int),i+d=w.length→ShiftOut w out s i→
  ∃r,r.length=w.length+1∧Dig B64 r∧vB B64 r=vB B64 w*2^s∧Ev (fun k=>exact_shiftUp.l0 k (s:Int) out w (w.length:Int) (i:Int)) r:=by
 intro d
 induction d with
 |zero=>
  intro i out hi h
  obtain⟨hl,hd,hv,hr,hz⟩:=h
  have hi:i=w.length:=by omega
  subst hi
  refine⟨out,hl,hd,by rw [hv,vB_all _ _ _ (Nat.le_refl _)],Ev.step (f:=fun _=>some out) (fun k=>?_) (Ev.now _)⟩
  simp only [exact_shiftUp.l0]
  rw [if_neg (Int.lt_irrefl _)]
 |succ d ih=>
  intro i out hi h
  have hi':i<w.length:=by omega
  obtain⟨hn,n0,n1⟩:=shift_out hs hw hi' h
  have hl:=h.1
  have hr:=h.2.2.2.1
  obtain⟨o0,o1⟩:=Dig_rd h.2.1 i (by omega)
  have hz:=h.2.2.2.2 (i+1) (by omega)
  obtain⟨x0,x1⟩:=Dig_rd hw i hi'
  obtain⟨a1,a2,a3,a4⟩:=word_shift x0 x1 s hs
  have m0:=Int.emod_nonneg (rd w (i:Int)*2^s) (show(B64:Int)≠0 by decide)
  have m1:=Int.emod_lt_of_pos (rd w (i:Int)*2^s) (show(0:Int)<B64 by decide)
  have c1:(i:Int)<(w.length:Int):=Int.ofNat_lt.2 hi'
  have c2:(i:Int)<(out.length:Int):=by omega
  have c3:((i+1:Nat):Int)<(out.length:Int):=by omega
  have c4:i+1+d=w.length:=by omega
  obtain⟨r,r1,r2,r3,r4⟩:=ih (i+1) _ c4 hn
  refine⟨r,r1,r2,r3,Ev.step (f:=fun k=>exact_shiftUp.l0 k (s:Int) ((out.set i (rd out (i:Int)+(rd w (i:Int)*2^s)%B64)).set (i+1) (rd w (i:Int)/2^(64-s))) w (w.length:Int) ((i+1:Nat):Int)) (fun k=>?_) r4⟩
  have c5:¬(s:Int)>0→s=0:=by omega
  have g1:Go.bits .or .u64 (rd out (i:Int)) (shl .u64 (rd w (i:Int)) (s:Int))=rd out (i:Int)+(rd w (i:Int)*2^s)%B64:=by
   rw [shl_eq _ _ (by omega)]
   have:=bits_join2 s (by omega) o0 hr m0 m1 a4 n1
   exact this
  have g2:shr .u64 (rd w (i:Int)) ((64-s:Nat):Int)=rd w (i:Int)/2^(64-s):=shr_eq _ _ (by omega)
  have e1:wrap64 ((i:Int)+1)=((i+1:Nat):Int):=by clear a1 g1 g2;rw [w64 (by omega) (by omega)];omega
  have e2:wrap64 (64-(s:Int))=((64-s:Nat):Int):=by clear a1 g1 g2 e1;rw [w64 (by omega) (by omega)];omega
  simp only [exact_shiftUp.l0,e1,e2,g1,g2,Int.toNat_natCast,Option.bind_some]
  rw [if_pos c1,if_pos (Int.natCast_nonneg _),if_pos c1,if_pos c2,if_pos (Int.natCast_nonneg _)]
  by_cases hs0:(s:Int)>0
  ·rw [if_pos hs0,if_pos (Int.natCast_nonneg _),if_pos (Int.natCast_nonneg _),if_pos c3]
  ·rw [if_neg hs0]
   have hs1:=c5 hs0
   subst hs1
   have hq:rd w (i:Int)/2^(64-0)=0:=Int.ediv_eq_zero_of_lt x0 x1
   rw [hq]
   have:=set_eq (out.set i (rd out (i:Int)+(rd w (i:Int)*2^0)%B64)) (i+1) (by rw [List.length_set];clear a1 g1 g2 e1 e2;omega)
   rw [rd_set_ne _ _ _ _ (by clear a1 g1 g2 e1 e2;omega),hz]at this
   rw [this]
theorem shiftUp_ev (w:List Int) (hw:Dig B64 w) (lw:w.length≤1099511627776) (s:Nat) (hs:s≤63):∃r,r.length=w.length+1∧Dig B64 r∧vB B64 r=vB B64 w*2^s∧Ev (fun k=>exact_shiftUp.f k w (s:Int)) r:=by
 obtain⟨r,r1,r2,r3,r4⟩:=shiftUp_l0 w hw lw s hs w.length 0 (List.replicate (w.length+1) 0) (Nat.zero_add _) ⟨by simp,Dig_replicate (by decide) _,by rw [vB_replicate];simp [vB],by rw [rd_replicate];exact Int.pow_pos (by decide),fun j _=>rd_replicate _ _⟩
 refine⟨r,r1,r2,r3,Ev.congr (fun k=>?_) r4⟩
 unfold exact_shiftUp.f
 have e1:wrap64 ((w.length:Int)+1)=((w.length+1:Nat):Int):=by rw [w64 (by omega) (by omega)];omega
 rw [e1,if_pos (Int.natCast_nonneg _),Int.toNat_natCast,if_pos (by omega)]
 rfl
def SubMul (u v z:List Int) (q:Int) (i:Nat) (b c:Int):Prop:=
 z.length=u.length∧Dig B64 z∧(0≤b∧b≤1)∧(0≤c∧c<B64)∧vB B64 z+q*vB B64 (v.take i)=vB B64 u+B64^i*(b+c)
end Go.Proofs.YtjllholdppjllaaGreatN
