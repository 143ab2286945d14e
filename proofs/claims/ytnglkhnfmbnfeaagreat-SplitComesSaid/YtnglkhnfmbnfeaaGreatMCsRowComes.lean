import Derived.Test.YtnglkhnfmbnfeaaGreatMCs8
import Derived.Test.YtnglkhnfmbnfeaaGreatRows
import Derived.WalkKit
import Derived.ProofKit
import Derived.OpenShut
import Derived.ShutString
import Derived.ChangeOld
import Derived.Below
import Derived.SizedLaws
set_option linter.unusedVariables false
set_option linter.unusedSimpArgs false
set_option linter.unusedSectionVars false
set_option linter.unnecessarySimpa false
namespace Go.Proofs.YtnglkhnfmbnfeaaGreat
open Go Go.SK
structure BothP (N : Nat) (w : World) (r : RegD) (p m : Nat) (gs : List GhostE) (vL : Value) (fgs : List FG) (B : Nat → Prop) (c : Nat) : Prop where
  rep : Rep w p r m gs
  new : ∀ b ∈ foot p m gs, N ≤ b
  frep : FRep B w vL r.l fgs
  dis : ∀ b, B b → b ∉ foot p m gs ∧ b ≠ c ∧ b < w.heap.size
  cell : Blk w c (encR ⟨#[99]⟩ vL) 28
  out : c ∉ foot p m gs
  carrier : r.carrier = ⟨#[99]⟩
theorem BothP.ex {N : Nat} {w w' : World} {r : RegD} {p m : Nat} {gs : List GhostE} {vL : Value} {fgs : List FG} {B : Nat → Prop} {c : Nat} (h : BothP N w r p m gs vL fgs B c) (hx : Ex w w') : BothP N w' r p m gs vL fgs B c :=
  ⟨h.rep.ex hx, h.new, h.frep.ex hx, fun b hb => ⟨(h.dis b hb).1, (h.dis b hb).2.1, Nat.lt_of_lt_of_le (h.dis b hb).2.2 hx.size⟩, h.cell.ex hx, h.out, h.carrier⟩
theorem BothP.put {N : Nat} {w w1 w2 : World} {r r' : RegD} {p m : Nat} {gs gs' : List GhostE} {vL vL' : Value} {fgs fgs' : List FG} {B : Nat → Prop} {c : Nat} (h : BothP N w r p m gs vL fgs B c) (hN : N ≤ w.heap.size)
    (h1 : FRep (fun b => B b ∨ w.heap.size ≤ b) w1 vL' r'.l fgs') (hc : Blk w1 c (encR ⟨#[99]⟩ vL') 28) (hr : Rep w2 p r' m gs') (hf : ∀ b ∈ foot p m gs', b ∈ foot p m gs ∨ w1.heap.size ≤ b) (hm : Ext (· ∈ foot p m gs) w1 w2) (hw : w.heap.size ≤ w1.heap.size) (e : r'.carrier = ⟨#[99]⟩) :
    BothP N w2 r' p m gs' vL' fgs' (fun b => (B b ∨ w.heap.size ≤ b) ∧ b < w1.heap.size) c := by
  have hfl : ∀ b ∈ foot p m gs, b < w.heap.size := fun b hb => h.rep.foot_lt hb
  have hcl := h.cell.lt
  have hdis : ∀ b, (B b ∨ w.heap.size ≤ b) ∧ b < w1.heap.size → b ∉ foot p m gs := fun b hb hbf => by
    rcases hb.1 with h' | h'
    · exact (h.dis b h').1 hbf
    · have := hfl b hbf; omega
  refine ⟨hr, fun b hb => ?_, h1.lt.ext hm (fun b hb => hdis b hb), fun b hb => ⟨fun hbf => ?_, ?_, ?_⟩, hc.ext hm h.out, fun hbf => ?_, e⟩
  · rcases hf b hb with h' | h'
    · exact h.new b h'
    · omega
  · rcases hf b hbf with h' | h'
    · exact hdis b hb h'
    · have := hb.2; omega
  · rcases hb.1 with h' | h'
    · exact (h.dis b h').2.1
    · omega
  · have := hb.2; have := hm.size; omega
  · rcases hf _ hbf with h' | h'
    · exact h.out h'
    · omega
end Go.Proofs.YtnglkhnfmbnfeaaGreat
namespace Go.SK
open Go
attribute [local semireducible] CW LW QW Ret Kn
section
variable {P : Program} {T : Tab} {n : Nat} {fr : Fr} {S : World → Prop} {ops : Array Oper}
theorem yo_eql_bool {d t : Nat} {a b : Bool} {x y : Operand} {t' : TypeId} {ty : TypeId} {ps : String} {af : Array Edge} (hu : P.underlying t = some .bool) (hx : ev n fr x = some (.bool a)) (hy : ev n fr y = some (.bool b)) :
    YO P ops S n fr { dst := some d, op := .binOp .eql t x y t', type := ty, pos := ps, after := af, guard := none } (.bool (a == b)) :=
  yo_run rfl fun a' hk w _ => by
    have hq : (Op.equal t (.bool a) (.bool b)).run P w = .ok (a == b) w := equalIn_bool 9999 hu
    simp only [execOp, ev_sound hk hx, ev_sound hk hy]
    simp [eqGuard, binOp, hq]
end
end Go.SK
namespace Go.Proofs.YtnglkhnfmbnfeaaGreat
open Go Go.SK
def noSuch : ByteArray := ⟨#[110, 111, 32, 115, 117, 99, 104, 32, 98, 105, 108, 108]⟩
theorem no_such {k : Nat} {r : RegD} (hG : Good k r) : r.at? noSuch = none := by
  cases hat : r.at? noSuch with
  | none => rfl
  | some e =>
    obtain ⟨h1, i, hi⟩ := at_some hat
    have := (may_len (hG.ent e (List.mem_of_getElem? hi)).may).2.2.2
    rw [← h1] at this
    exact absurd this (by decide)
theorem par_none {r : RegD} {n : ByteArray} {L : List ByteArray} (h : ParL r n L) (hat : r.at? n = none) : L = [] := by
  cases L with
  | nil => rfl
  | cons x L =>
    obtain ⟨hr, _⟩ := (h.2 x).1 List.mem_cons_self
    have : ∀ y, Reach r n y → False := by
      intro y hy
      induction hy with
      | base e1 _ => rw [hat] at e1; cases e1
      | step _ _ _ ih => exact ih
    exact (this x hr).elim
set_option maxHeartbeats 8000000 in
theorem l24_Comes {A1 A2 : Nat → Prop} {w : World} {v1 v2 : Value} {l : List ActD} {acts : List SActD} (h1 : ActsAt A1 w v1 l) (h2 : SActsAt A2 w v2 acts) {A3 : Nat → Prop} {v3 : Value} {boxes : List ByteArray} (h3 : SlS A3 w v3 boxes) :
    Ret Tryz.prog 5 [v1, v2, v3] w fun v w' => v = .bool true ∧ Ex w w' := by
  obtain ⟨p1, cap1, rfl, _, _⟩ := h1.is
  have h2' := h2.lt
  obtain ⟨p2, cap2, rfl, _, _⟩ := h2.is
  obtain ⟨_, _, hve2, _, hrow2⟩ := h2'.is
  simp only [Value.slice.injEq] at hve2
  obtain ⟨rfl, _, rfl⟩ := hve2
  have h3' := h3
  have h3m := h3.small
  obtain ⟨p3, cap3, rfl, _, _⟩ := h3.is
  simp only [List.length_map] at h3m
  unfold maxLen at h3m
  simp only [List.length_map] at *
  refine ret_of Tryz.func5 Tryz.ntmps5 rfl rfl rfl ?_
  (repeat (first | refine lw_pure hT rfl ?_ | refine lw_nil ?_ | refine cw_seq ?_ | refine cw_region ?_ | refine qw_then ?_))
  refine lw_call hT rfl rfl (l24_awake w) ?_
  rintro _ w1 ⟨rfl, hx1⟩
  have hx01 : Ex w w1 := hx1
  (repeat (first | refine lw_pure hT rfl ?_ | (refine lw_gon_f rfl ?_ ?_; focus with_reducible (first | rfl | exact Bool.not_false | exact Bool.not_true))))
  refine lw_call hT rfl rfl (r23_Few (h1.ex hx01)) ?_
  rintro _ w2 ⟨⟨b1, rfl, hr1⟩, hx2⟩
  have hx02 := hx01.trans hx2
  (repeat (first | refine lw_pure hT rfl ?_ | (refine lw_gon_f rfl ?_ ?_; focus with_reducible (first | rfl | exact Bool.not_false | exact Bool.not_true))))
  refine lw_guard rfl (fun e => ?_) (fun e => ?_)
  · (repeat (first | refine lw_pure hT rfl ?_ | refine lw_nil ?_ | refine cw_seq ?_ | refine cw_region ?_ | refine qw_then ?_ | (refine lw_goff_t rfl ?_ ?_; focus with_reducible (first | rfl | exact Bool.not_false | exact Bool.not_true)) | (refine cw_cond_t rfl ?_ ?_; focus with_reducible (first | rfl | exact Bool.not_false | exact Bool.not_true))))
    refine lw_call hT rfl rfl (l24_awake w2) ?_
    rintro _ wz ⟨rfl, hxz⟩
    (repeat (first | refine lw_pure hT rfl ?_ | refine lw_nil ?_ | refine qw_then ?_ | refine cw_ret ?_ | refine qw_then_ret ?_))
    exact qw_ret rfl ⟨rfl, hx02.trans hxz⟩
  replace hr1 := hr1 (by simpa using e)
  (repeat (first | refine lw_pure hT rfl ?_ | (refine lw_gon_f rfl ?_ ?_; focus with_reducible (first | rfl | exact Bool.not_false | exact Bool.not_true))))
  refine lw_call hT rfl rfl (l24_few (h2.ex hx02)) ?_
  rintro _ w3 ⟨⟨b2, rfl, hr2⟩, hx3⟩
  have hx03 := hx02.trans hx3
  (repeat (first | refine lw_pure hT rfl ?_ | (refine lw_gon_f rfl ?_ ?_; focus with_reducible (first | rfl | exact Bool.not_false | exact Bool.not_true))))
  refine lw_guard rfl (fun e => ?_) (fun e => ?_)
  · (repeat (first | refine lw_pure hT rfl ?_ | refine lw_nil ?_ | refine cw_seq ?_ | refine cw_region ?_ | refine qw_then ?_ | (refine lw_goff_t rfl ?_ ?_; focus with_reducible (first | rfl | exact Bool.not_false | exact Bool.not_true)) | (refine cw_cond_t rfl ?_ ?_; focus with_reducible (first | rfl | exact Bool.not_false | exact Bool.not_true))))
    refine lw_call hT rfl rfl (l24_awake w3) ?_
    rintro _ wz ⟨rfl, hxz⟩
    (repeat (first | refine lw_pure hT rfl ?_ | refine lw_nil ?_ | refine qw_then ?_ | refine cw_ret ?_ | refine qw_then_ret ?_))
    exact qw_ret rfl ⟨rfl, hx03.trans hxz⟩
  replace hr2 := hr2 (by simpa using e)
  (repeat (first | refine lw_pure hT rfl ?_ | refine lw_nil ?_ | refine qw_then ?_ | (refine lw_gon_f rfl ?_ ?_; focus with_reducible (first | rfl | exact Bool.not_false | exact Bool.not_true))))
  refine cw_cond rfl (fun e => ?_) (fun e => ?_)
  · (repeat (first | refine cw_seq ?_ | refine cw_region ?_))
    refine lw_call hT rfl rfl (l24_awake w3) ?_
    rintro _ wz ⟨rfl, hxz⟩
    (repeat (first | refine lw_pure hT rfl ?_ | refine lw_nil ?_ | refine qw_then ?_ | refine cw_ret ?_ | refine qw_then_ret ?_))
    exact qw_ret rfl ⟨rfl, hx03.trans hxz⟩
  (repeat (first | refine lw_pure hT rfl ?_ | refine cw_seq ?_ | refine cw_region ?_ | refine qw_then ?_ | refine cw_skip ?_))
  refine lw_call hT rfl rfl (l24_begin (h1.ex hx03) hr1) ?_
  rintro _ w4 ⟨⟨p, m, gs, vL, fgs, A', rfl, hP⟩, hx4⟩
  have hx04 := hx03.trans hx4
  have hgood := good_kept h1.ok
  have hlen := hr1.1
  have hlens := hr2.1
  have ec : (runA regC (keptA l)).carrier = ⟨#[99]⟩ := runA_carrier _ _
  obtain ⟨r0, hr0⟩ : ∃ r0, r0 = runA regC (keptA l) := ⟨_, rfl⟩
  rw [← hr0] at hgood hP ec
  have hl0 := hgood.len
  have hn04 : ∀ b ∈ foot p m gs, w.heap.size ≤ b := fun b hb => by have := hP.new b hb; have := (hx03).size; omega
  (repeat (refine lw_pure hT rfl ?_))
  refine lw_alloc z28 ?_
  intro b10 w5 hbb8 hb8 hx5 hs5
  (repeat (refine lw_pure hT rfl ?_))
  refine lw_store_agg hT rfl rfl rfl rfl (by intro v hv; simp [encR] at hv; rcases hv with rfl | rfl <;> first | rfl | exact Sl.one hP.frep.sl) hb8 (show (2 : Nat) ≤ 2 by decide) ?_
  intro w6 hb86 hx6 hs6
  replace hb86 : Blk w6 b10 (encR ⟨#[99]⟩ vL) 28 := hb86
  have hx46 : Ex w4 w6 := hx5.up_new hx6 (fun i h => by omega)
  have hx06 := hx04.trans hx46
  have hR6 := hP.rep.ex hx46
  have hF6 := hP.frep.lt.ex hx46
  have hfl4 : ∀ b ∈ foot p m gs, b < w4.heap.size := fun b hb => hP.rep.foot_lt hb
  have l46 := hx46.size
  have l04 := hx04.size
  have hb10w : w.heap.size ≤ b10 := by omega
  have h0 : BothP w.heap.size w6 r0 p m gs vL fgs (fun b => A' b ∧ b < w4.heap.size) b10 := ⟨hR6, hn04, hF6, fun b hb => ⟨hP.dis b hb.1, by have := hb.2; omega, by have := hb.2; omega⟩, hb86, fun h => by have := hfl4 _ h; omega, ec⟩
  (repeat (first | refine lw_pure hT rfl ?_ | refine lw_nil ?_ | refine cw_seq ?_ | refine cw_region ?_ | refine qw_then ?_ | refine cw_block ?_))
  refine cw_loop (fun i : Nat => [(2, .slice p3 boxes.length cap3), (7, .pointer (some ⟨p, 0, none⟩)), (8, .pointer (some ⟨b10, 0, none⟩)), (36, .slice p2 acts.length cap2), (37, .int .i64 (acts.length : Nat)), (38, .int .i64 (i : Nat))])
    (fun i w' => i ≤ acts.length ∧ Ex w w' ∧ ∃ gs' vL' fgs' B, BothP w.heap.size w' (runS r0 (acts.take i)) p m gs' vL' fgs' B b10) (fun i => acts.length - i) 0 (by repeat (first | exact trivial | refine ⟨rfl, ?_⟩)) ⟨Nat.zero_le _, hx06, gs, vL, fgs, _, h0⟩ ?_
  rintro i w8 ⟨hi, hx08, gs8, vL8, fgs8, B8, hB⟩
  have hG8 : Good (l.length + 65 * i) (runS r0 (acts.take i)) := by
    have := good_runS (l := acts.take i) hgood (fun a ha => h2.ok a (List.mem_of_mem_take ha))
    have e : (acts.take i).length = i := by rw [List.length_take]; omega
    rw [e] at this
    exact this
  have hl8 : (runS r0 (acts.take i)).l.length ≤ 256 := len_runS (by omega)
  (repeat (first | refine lw_pure hT rfl ?_ | refine lw_nil ?_ | refine cw_seq ?_ | refine cw_region ?_ | refine qw_then ?_))
  refine cw_cond rfl (fun e => ?_) (fun e => ?_)
  · have hlt : i < acts.length := by have := of_decide_eq_true e; omega
    obtain ⟨b, o, vp, vn, rfl, hbA, hrd, hsa⟩ := hrow2 i hlt
    have hfa := hr2.2 _ (List.getElem_mem hlt)
    have hrt := runS_take (r := r0) hlt
    have hGn := good_call hG8 hsa.ok
    generalize acts[i] = a at hrd hsa hfa hrt hGn
    rw [← hrt] at hGn
    have hln : (runS r0 (acts.take (i + 1))).l.length ≤ 256 := len_runS (by omega)
    obtain ⟨rn, hrn⟩ : ∃ rn, rn = runS r0 (acts.take (i + 1)) := ⟨_, rfl⟩
    rw [← hrn] at hrt hGn hln
    generalize runS r0 (acts.take i) = r8 at hrt hG8 hB hl8
    (repeat (first | refine cw_seq ?_ | refine cw_region ?_ | refine qw_then ?_ | refine cw_skip ?_ | refine cw_block ?_))
    refine lw_index hT rfl rfl rfl i rfl hlt ?_
    skip
    refine lw_load_agg hT rfl rfl rfl (vs := encS a vp vn) (hrd.ex hx08) ?_
    skip
    refine lw_alloc z45 ?_
    intro b12 w9 hbb9 hb9 hx9 hs9
    skip
    refine lw_store_agg hT rfl rfl rfl rfl (encS_one hsa) hb9 (show (9 : Nat) ≤ 9 by decide) ?_
    intro w10 hb12 hx10 hs10
    replace hb12 : Blk w10 b12 (encS a vp vn) 45 := hb12
    have hx810 : Ex w8 w10 := hx9.up_new hx10 (fun i h => by omega)
    have hx010 := hx08.trans hx810
    have hB10 := hB.ex hx810
    (repeat (first | refine lw_nil ?_ | refine cw_seq ?_ | refine cw_region ?_ | refine qw_then ?_))
    refine lw_load_agg hT rfl rfl rfl (vs := encR ⟨#[99]⟩ vL8) (hB10.cell.rd 0 2) ?_
    skip
    refine lw_load_agg hT rfl rfl rfl (vs := encS a vp vn) (hb12.rd 0 9) ?_
    have hw := l24_want hB10.frep hG8 (by omega) hl8 (hsa.ex hx010) hfa
    rw [hB.carrier] at hw
    skip
    refine lw_call hT rfl rfl hw ?_
    rintro _ w11 ⟨⟨vL11, gs11, rfl, hF11⟩, hx11⟩
    have hx811 := hx810.trans hx11
    have hx011 := hx08.trans hx811
    have l810 := hx810.size
    have l11 := hx11.size
    have hb1211 := hb12.ex hx11
    have hB11 := hB10.ex hx11
    have hr8 : ∀ b ∈ foot p m gs8, b < w8.heap.size := fun b hb => hB.rep.foot_lt hb
    have hbc := hB.cell.lt
    (repeat (refine lw_pure hT rfl ?_))
    refine lw_store_agg hT rfl rfl rfl rfl (by intro v hv; simp [encR] at hv; rcases hv with rfl | rfl <;> first | rfl | exact Sl.one hF11.sl) hB11.cell (show (2 : Nat) ≤ 2 by decide) ?_
    intro w14 hb10n hx14 hs14
    replace hb10n : Blk w14 b10 (encR ⟨#[99]⟩ vL11) 28 := hb10n
    have l1314 := hx14.size
    have hb1214 := hb1211.ext hx14 (show b12 ≠ b10 by omega)
    have hx014 : Ex w w14 := hx011.up_new hx14 (fun i h => by omega)
    have hR14 : Rep w14 p r8 m gs8 := hB11.rep.frame hx14 (fun b hb e => hB.out (e ▸ hb))
    have hF14 : FRep (fun b => B8 b ∨ w10.heap.size ≤ b) w14 vL11 (callR r8 (callD r8 a)).l gs11 := hF11.ext hx14 (fun b hb e => by
      rcases hb with h' | h'
      · exact (hB.dis b h').2.1 e
      · omega)
    (repeat (first | refine lw_pure hT rfl ?_ | refine lw_nil ?_ | refine cw_region ?_ | refine qw_then ?_))
    refine lw_load_agg hT rfl rfl rfl (vs := encS a vp vn) (hb1214.rd 0 9) ?_
    skip
    refine lw_call hT rfl rfl (l24_do hR14 hG8 (by omega) (hsa.ex hx014) hfa) ?_
    rintro _ w15 ⟨rfl, hm15⟩
    obtain ⟨gs15, hR15, hf15⟩ := hm15.is
    rw [← hrt] at hR15 hF14
    have hx015 : Ex w w15 := hm15.new hx014 hB.new
    have hBn := hB10.put (by have := hx010.size; omega) hF14 hb10n hR15 hf15 hm15.ext (by omega) (by rw [hrt, callR_carrier, hB.carrier])
    rw [hrn] at hBn
    (repeat (first | (refine lw_add rfl rfl ?_ ?_ ?_; iterate 2 omega) | refine lw_pure hT rfl ?_ | refine lw_nil ?_ | refine cw_region ?_ | refine qw_then ?_ | refine qw_block ?_))
    exact qw_round (i + 1) (by repeat (first | exact trivial | refine ⟨rfl, ?_⟩)) ⟨hlt, hx015, gs15, vL11, gs11, _, hBn⟩ (by omega)
  have hil : i = acts.length := by have := of_decide_eq_false e; omega
  subst hil
  generalize runS r0 (acts.take acts.length) = r8 at hG8 hB hl8
  have hF8 := hB.frep
  have hrc := hB.carrier
  have hat0 := no_such hG8
  obtain ⟨aL, cL, rfl, _⟩ := hB.frep.slice
  (repeat (first | refine lw_pure hT rfl ?_ | refine cw_seq ?_ | refine cw_region ?_ | refine qw_then ?_ | refine cw_exit ?_ | refine qw_block_exit ?_ | refine qw_then_exit ?_))
  refine lw_load hT rfl rfl (v := .slice aL r8.l.length cL) (hB.cell.cell 1) ?_
  (repeat (first | refine lw_pure hT rfl ?_ | refine lw_nil ?_ | refine qw_then ?_ | refine cw_block ?_))
  refine cw_loop (fun i : Nat => [(2, .slice p3 boxes.length cap3), (7, .pointer (some ⟨p, 0, none⟩)), (8, .pointer (some ⟨b10, 0, none⟩)), (53, .slice aL r8.l.length cL), (54, .int .i64 (r8.l.length : Nat)), (55, .int .i64 (i : Nat))])
    (fun i w' => i ≤ r8.l.length ∧ Ex w8 w') (fun i => r8.l.length - i) 0 (by repeat (first | exact trivial | refine ⟨rfl, ?_⟩)) ⟨Nat.zero_le _, Ext.refl _ _⟩ ?_
  rintro i w9 ⟨hi, hx89⟩
  have hB9 := hB.ex hx89
  have hx09 := hx08.trans hx89
  (repeat (first | refine lw_pure hT rfl ?_ | refine lw_nil ?_ | refine cw_seq ?_ | refine cw_region ?_ | refine qw_then ?_))
  refine cw_cond rfl (fun e => ?_) (fun e => ?_)
  · have hlt : i < r8.l.length := by have := of_decide_eq_true e; omega
    obtain ⟨x, g, bL, oL, cap, hxl, hgl, heq, hrd, hE⟩ := hB9.frep.row hlt
    simp only [Value.slice.injEq] at heq
    obtain ⟨rfl, _, rfl⟩ := heq
    (repeat (first | refine cw_seq ?_ | refine cw_region ?_ | refine qw_then ?_ | refine cw_skip ?_ | refine cw_block ?_))
    refine lw_index hT rfl rfl rfl i rfl hlt ?_
    skip
    refine lw_load_agg hT rfl rfl rfl (vs := entF (x, g)) hrd ?_
    skip
    refine lw_alloc z56 ?_
    intro b12 w10 hbb12 hb12 hx10 hs10
    skip
    refine lw_store_agg hT rfl rfl rfl rfl (entF_one hE) hb12 (show (11 : Nat) ≤ 11 by decide) ?_
    intro w11 hb1211 hx11 hs11
    replace hb1211 : Blk w11 b12 (entF (x, g)) 56 := hb1211
    have hx911 : Ex w9 w11 := hx10.up_new hx11 (fun i h => by omega)
    have hB11 := hB9.ex hx911
    (repeat (first | refine lw_nil ?_ | refine cw_seq ?_ | refine qw_then ?_))
    refine cw_draw hM (fun w' => Ex w11 w') [] rfl rfl (by repeat with_reducible (first | refine nop_then ?_ | refine nop_block ?_ | exact nop_body)) (fun w12 hx12 _ => ⟨hx12, ?_⟩)
    (refine rw_takeP 0 rfl rfl (by kernel_rfl) (by kernel_rfl) (by kernel_rfl) (by kernel_rfl) rfl (yo_pure hT rfl) ?_; refine rw_takeP 1 rfl rfl (by kernel_rfl) (by kernel_rfl) (by kernel_rfl) (by kernel_rfl) rfl (yo_pure hT rfl) ?_; refine rw_takeP 2 rfl rfl (by kernel_rfl) (by kernel_rfl) (by kernel_rfl) (by kernel_rfl) rfl (yo_pure hT rfl) ?_)
    refine rw_take 3 rfl rfl (by kernel_rfl) (by kernel_rfl) (by kernel_rfl) (by kernel_rfl) rfl (yo_load hT rfl rfl (v := .string x.bill.number) (fun w' hS => (hb1211.ex hS).cell 0)) ?_
    refine rw_take 5 rfl rfl (by kernel_rfl) (by kernel_rfl) (by kernel_rfl) (by kernel_rfl) rfl (yo_load_agg hT rfl rfl rfl (vs := encR ⟨#[99]⟩ (.slice (some ⟨bL, oL, none⟩) r8.l.length cL)) (fun w' hS => (hB11.cell.ex hS).rd 0 2)) ?_
    (refine rw_takeP 6 rfl rfl (by kernel_rfl) (by kernel_rfl) (by kernel_rfl) (by kernel_rfl) rfl (yo_pure hT rfl) ?_; refine rw_takeP 7 rfl rfl (by kernel_rfl) (by kernel_rfl) (by kernel_rfl) (by kernel_rfl) rfl (yo_pure hT rfl) ?_)
    refine rw_take 8 rfl rfl (by kernel_rfl) (by kernel_rfl) (by kernel_rfl) (by kernel_rfl) rfl (yo_load hT rfl rfl (v := .string x.bill.number) (fun w' hS => (hb1211.ex hS).cell 0)) ?_
    refine rw_one 4 rfl (by kernel_rfl) rfl (fun hcl => ?_)
    refine lw_call hT rfl rfl (spl_Parents (hB11.rep.ex hx12) hG8 (by omega) hl8 x.bill.number) ?_
    rintro u1 w13 ⟨⟨L1, hL1, ho1⟩, hx13⟩
    have hx1113 := hx12.trans hx13
    have hPar := r24_Parents (hB11.frep.ex hx1113) hG8 (by omega) x.bill.number
    rw [hrc] at hPar
    (repeat (refine lw_nil ?_))
    refine qw_rw (by repeat with_reducible (first | refine nop_then ?_ | refine nop_block ?_ | exact nop_body)) hcl (fun _ => hx1113) ?_
    refine rw_one 9 rfl (by kernel_rfl) rfl (fun hcl => ?_)
    refine lw_call hT rfl rfl hPar ?_
    rintro u2 w14 ⟨⟨L2, hL2, ho2⟩, hx14⟩
    have hx1114 := hx1113.trans hx14
    (repeat (refine lw_nil ?_))
    refine qw_rw (by repeat with_reducible (first | refine nop_then ?_ | refine nop_block ?_ | exact nop_body)) hcl (fun _ => hx1114) ?_
    refine rw_one 10 rfl (by kernel_rfl) rfl (fun hcl => ?_)
    refine lw_call hT rfl rfl (r_Same w14 ((sls_own (A := fun _ => True) ho1 fun _ _ => trivial).ex hx14) ho2.sls) ?_
    rintro _ w15 ⟨rfl, hx15⟩
    have hx1115 := hx1114.trans hx15
    rw [decide_eq_true (hL1.eq hL2)]
    (repeat (refine lw_nil ?_))
    refine qw_rw (by repeat with_reducible (first | refine nop_then ?_ | refine nop_block ?_ | exact nop_body)) hcl (fun _ => hx1115) ?_
    (refine rw_takeP 11 rfl rfl (by kernel_rfl) (by kernel_rfl) (by kernel_rfl) (by kernel_rfl) rfl (yo_pure hT rfl) ?_)
    refine rw_done (by kernel_rfl) ?_
    (repeat (first | (refine lw_add rfl rfl ?_ ?_ ?_; iterate 2 omega) | refine lw_pure hT rfl ?_ | refine lw_nil ?_ | refine cw_region ?_ | refine qw_then ?_ | refine cw_skip ?_ | refine qw_block ?_ | (refine cw_cond_f rfl ?_ ?_; focus with_reducible (first | rfl | exact Bool.not_false | exact Bool.not_true))))
    exact qw_round (i + 1) (by repeat (first | exact trivial | refine ⟨rfl, ?_⟩)) ⟨hlt, hx89.trans (hx911.trans hx1115)⟩ (by omega)
  have h39 := h3'.ex hx09
  (repeat (first | refine cw_seq ?_ | refine qw_then ?_ | refine cw_exit ?_ | refine qw_block_exit ?_ | refine qw_then_exit ?_))
  refine cw_draw hM (fun w' => Ex w9 w') [] rfl rfl (by repeat with_reducible (first | refine nop_then ?_ | refine nop_block ?_ | exact nop_body)) (fun w10 hx10 _ => ⟨hx10, ?_⟩)
  (refine rw_takeP 0 rfl rfl (by kernel_rfl) (by kernel_rfl) (by kernel_rfl) (by kernel_rfl) rfl (yo_pure hT rfl) ?_)
  refine rw_one 1 rfl (by kernel_rfl) rfl (fun hcl => ?_)
  refine lw_call hT rfl rfl (spl_Parents (hB9.rep.ex hx10) hG8 (by omega) hl8 noSuch) ?_
  rintro u1 w11 ⟨⟨L1, hL1, ho1⟩, hx11⟩
  have hx911 := hx10.trans hx11
  have eL := par_none hL1 hat0
  subst eL
  obtain ⟨a1, c1, rfl⟩ := own_slice0 ho1
  (repeat (refine lw_nil ?_))
  refine qw_rw (by repeat with_reducible (first | refine nop_then ?_ | refine nop_block ?_ | exact nop_body)) hcl (fun _ => hx911) ?_
  (refine rw_takeP 2 rfl rfl (by kernel_rfl) (by kernel_rfl) (by kernel_rfl) (by kernel_rfl) rfl (yo_pure hT rfl) ?_; refine rw_takeP 3 rfl rfl (by kernel_rfl) (by kernel_rfl) (by kernel_rfl) (by kernel_rfl) rfl (yo_pure hT rfl) ?_; refine rw_takeP 4 rfl rfl (by kernel_rfl) (by kernel_rfl) (by kernel_rfl) (by kernel_rfl) rfl (yo_pure hT rfl) ?_)
  (refine rw_takeP 5 rfl rfl (by kernel_rfl) (by kernel_rfl) (by kernel_rfl) (by kernel_rfl) rfl (yo_on rfl rfl (yo_pure hT rfl)) ?_; refine rw_takeP 6 rfl rfl (by kernel_rfl) (by kernel_rfl) (by kernel_rfl) (by kernel_rfl) rfl (yo_on rfl rfl (yo_pure hT rfl)) ?_; refine rw_takeP 9 rfl rfl (by kernel_rfl) (by kernel_rfl) (by kernel_rfl) (by kernel_rfl) rfl (yo_on rfl rfl (yo_pure hT rfl)) ?_)
  refine rw_take 8 rfl rfl (by kernel_rfl) (by kernel_rfl) (by kernel_rfl) (by kernel_rfl) rfl (yo_on rfl rfl (yo_load_agg hT rfl rfl rfl (vs := encR ⟨#[99]⟩ (.slice aL r8.l.length cL)) (fun w' hS => (hB9.cell.ex hS).rd 0 2))) ?_
  refine rw_one 7 rfl (by kernel_rfl) rfl (fun hcl => ?_)
  refine lw_gon_t rfl rfl ?_
  refine lw_call hT rfl rfl (spl_Covers (hB9.rep.ex hx911) (h39.ex hx911)) ?_
  rintro _ w12 ⟨rfl, hx12⟩
  have hx912 := hx911.trans hx12
  have hCov := r24_Covers (hB9.frep.ex hx912) (h39.ex hx912)
  rw [hrc] at hCov
  (repeat (refine lw_nil ?_))
  refine qw_rw (by repeat with_reducible (first | refine nop_then ?_ | refine nop_block ?_ | exact nop_body)) hcl (fun _ => hx912) ?_
  refine rw_one 10 rfl (by kernel_rfl) rfl (fun hcl => ?_)
  refine lw_gon_t rfl rfl ?_
  refine lw_call hT rfl rfl hCov ?_
  rintro _ w13 ⟨rfl, hx13⟩
  have hx913 := hx912.trans hx13
  generalize boxes.all r8.boxed = bb
  (repeat (refine lw_nil ?_))
  refine qw_rw (by repeat with_reducible (first | refine nop_then ?_ | refine nop_block ?_ | exact nop_body)) hcl (fun _ => hx913) ?_
  cases bb
  all_goals
    refine rw_takeP 11 rfl rfl (by kernel_rfl) (by kernel_rfl) (by kernel_rfl) (by kernel_rfl) rfl (yo_on rfl rfl (yo_eql_bool (by kernel_rfl) rfl rfl)) ?_
    (refine rw_takeP 12 rfl rfl (by kernel_rfl) (by kernel_rfl) (by kernel_rfl) (by kernel_rfl) rfl (yo_pure hT rfl) ?_; refine rw_takeP 13 rfl rfl (by kernel_rfl) (by kernel_rfl) (by kernel_rfl) (by kernel_rfl) rfl (yo_pure hT rfl) ?_)
    (refine rw_takeP 14 rfl rfl (by kernel_rfl) (by kernel_rfl) (by kernel_rfl) (by kernel_rfl) rfl (yo_on rfl rfl (yo_pure hT rfl)) ?_)
    refine rw_one 15 rfl (by kernel_rfl) rfl (fun hcl => ?_)
    refine lw_gon_t rfl rfl ?_
    refine lw_call hT rfl rfl (spl_Covers (l := []) (hB9.rep.ex hx913) (show SlS (fun _ => True) w13 (.slice none 0 0) [] from Sl.nil _ _ _)) ?_
    rintro _ w14 ⟨rfl, hx14⟩
    have hx914 := hx913.trans hx14
    (repeat (refine lw_nil ?_))
    refine qw_rw (by repeat with_reducible (first | refine nop_then ?_ | refine nop_block ?_ | exact nop_body)) hcl (fun _ => hx914) ?_
    (refine rw_takeP 16 rfl rfl (by kernel_rfl) (by kernel_rfl) (by kernel_rfl) (by kernel_rfl) rfl (yo_pure hT rfl) ?_; refine rw_takeP 17 rfl rfl (by kernel_rfl) (by kernel_rfl) (by kernel_rfl) (by kernel_rfl) rfl (yo_pure hT rfl) ?_)
    refine rw_done (by kernel_rfl) ?_
    (repeat (first | refine qw_then ?_ | refine cw_ret ?_))
    exact qw_ret rfl ⟨rfl, hx09.trans hx914⟩
end Go.Proofs.YtnglkhnfmbnfeaaGreat
namespace Go.Proofs.YtnglkhnfmbnfeaaGreat.splitComes
open Go Go.SK Go.ChangeShapes Go.WideShapes Go.ChangeAt Go.RowKit
open Go.ChangeMaps (open_string shut_string)
section
attribute [local semireducible] Go.SK.Ret
theorem of_ret {P : Program} {f : FuncId} {args : List Value} {w : World} {R : Value → World → Prop} (h : Ret P f args w R) : Calls P f ⟨args⟩ w fun e w' => ∃ v, e = .returned v ∧ R v w' := h
end
theorem own : ownKnob Tryz.prog.godebug = none := by kernel_rfl
theorem laidOut : laidOutB Tryz.prog = true := by kernel_rfl
set_option maxRecDepth 100000 in
theorem lifted (os : Os) (started : os.Started) (H : Type) (enc : TypeId × Value → H) :
    ReturnsInHanded {} Tryz.checked os 5 .any (Rows.splitComesSpec.pre6 enc Tryz.prog Tryz.f5 Rows.splitComesRow.domain false) (Rows.splitComesSpec.post enc Tryz.prog Tryz.f5 false true false false) := by
  refine returnsInHanded_of_change_sized (C := Tryz.checked) own started (by kernel_rfl) Tryz.func5
    (ChangeSpec.witness6 (enc := enc) (C := Tryz.checked) false ⟨#[], #[.slice none 0 0, .slice none 0 0, .slice none 0 0], []⟩ 8 (by kernel_rfl) (by kernel_rfl) (by kernel_rfl) (by kernel_rfl)) ?_
  intro W base args ds gs before hval0 hW hcnd hsz0 _
  have hval : ∀ (j : Nat) t v, Tryz.f5.params[j]? = some t → args[j]? = some v → Value.okWide Tryz.prog W .any base t v := hval0
  have hW' := hW
  obtain ⟨p, q, hA0, hV, rfl, hfz, hnd⟩ := hW
  have hA : DataW.TrodAll enc Tryz.prog W 0 (fun _ => true) true Tryz.f5.params.toList args.toList ds p := hA0
  rw [Tryz.params5] at hA hval
  obtain ⟨v0, vs0, d0, ds0, p0, q0, hargs, rfl, rfl, h0, r0⟩ := trodAll_cons hA
  obtain ⟨v1, vs1, d1, ds1, p1, q1, rfl, rfl, rfl, h1, r1⟩ := trodAll_cons r0
  obtain ⟨v2, vs2, d2, ds2, p2, q2, rfl, rfl, rfl, h2, r2⟩ := trodAll_cons r1
  obtain ⟨rfl, rfl, rfl⟩ := trodAll_nil r2
  obtain rfl : args = #[v0, v1, v2] := by cases args; simp_all
  obtain ⟨rfl, rfl⟩ := trodVars_none hV
  obtain ⟨a0, len0, cap0, rfl⟩ := okWide_slice Tryz.underlying22 (hval 0 22 v0 rfl rfl)
  have k0 := h0
  have lt0 : ∀ x ∈ p0, x.block < W.heap.size := by obtain ⟨m, hm⟩ := k0; exact DataW.trod_lt m _ _ _ hm
  obtain ⟨l0, w0⟩ : ∃ l, ActsAt (fun _ => True) W (.slice a0 len0 cap0) l := by
    obtain ⟨fuel, hf⟩ := h0
    obtain ⟨v, l, hcs, hl⟩ := open_acts (fun _ => rfl) hf
    simp [Value.cells] at hcs
    subst hcs
    exact ⟨l, hl⟩
  obtain ⟨a1, len1, cap1, rfl⟩ := okWide_slice Tryz.underlying47 (hval 1 47 v1 rfl rfl)
  have k1 := h1
  have lt1 : ∀ x ∈ p1, x.block < W.heap.size := by obtain ⟨m, hm⟩ := k1; exact DataW.trod_lt m _ _ _ hm
  obtain ⟨l1, w1⟩ : ∃ l, SActsAt (fun _ => True) W (.slice a1 len1 cap1) l := by
    obtain ⟨fuel, hf⟩ := h1
    obtain ⟨v, l, hcs, hl⟩ := open_sacts (fun _ => rfl) hf
    simp [Value.cells] at hcs
    subst hcs
    exact ⟨l, hl⟩
  obtain ⟨a2, len2, cap2, rfl⟩ := okWide_slice Tryz.underlying31 (hval 2 31 v2 rfl rfl)
  have k2 := h2
  have lt2 : ∀ x ∈ p2, x.block < W.heap.size := by obtain ⟨m, hm⟩ := k2; exact DataW.trod_lt m _ _ _ hm
  obtain ⟨l2, w2⟩ : ∃ l, SlS (fun _ => True) W (.slice a2 len2 cap2) l := by
    obtain ⟨fuel, hf⟩ := h2
    obtain ⟨v, l, hcs, hl, _⟩ := open_strs (fun _ => rfl) hf
    simp [Value.cells] at hcs
    subst hcs
    exact ⟨l, hl⟩
  clear hA0 hval0 hsz0
  refine (of_ret (l24_Comes w0 w1 w2)).mono fun e W' ⟨v, he, hv, hx⟩ => ?_
  subst he hv
  have bel : Below W.heap.size W W' := Ext.below hx (Nat.le_refl _) (fun _ _ f => f)
  exact ⟨_, rfl, _, _, _, [], _, [], hW', trodAll_mk1 (shut_bool Tryz.underlying4 _), (trodAll_cons_mk (Below.trod laidOut (by kernel_rfl) (of_decide_eq_true (by kernel_rfl)) k0 bel lt0) (trodAll_cons_mk (Below.trod laidOut (by kernel_rfl) (of_decide_eq_true (by kernel_rfl)) k1 bel lt1) (trodAll_cons_mk (Below.trod laidOut (by kernel_rfl) (of_decide_eq_true (by kernel_rfl)) k2 bel lt2) trodAll_mk0))), rfl, bel.frame _, fun h => by cases h⟩
theorem over : Rows.splitComesRow.holds Tryz.pinned (OpenSpec.ofChange Rows.splitComesSpec) :=
  OpenClaim.holds_of_wide 5 Tryz.f5 rfl rfl rfl rfl rfl rfl rfl ⟨rfl, rfl, rfl, rfl, rfl⟩ rfl rfl rfl rfl rfl (by kernel_rfl) Tryz.func5 (by kernel_rfl)
    (of_decide_eq_true (by kernel_rfl)) (by unfold Func.isWrapper; first | (rw [if_pos (by decide +kernel)]; kernel_rfl) | (rw [if_neg (by decide +kernel)]; exact ⟨rfl, rfl⟩))
    (fun os started H enc _ => lifted os started H enc)
end Go.Proofs.YtnglkhnfmbnfeaaGreat.splitComes
namespace Go.Proofs.YtnglkhnfmbnfeaaGreat
theorem splitComes_holds : Rows.SplitComesSaid := splitComes.over
#print axioms splitComes_holds
end Go.Proofs.YtnglkhnfmbnfeaaGreat
