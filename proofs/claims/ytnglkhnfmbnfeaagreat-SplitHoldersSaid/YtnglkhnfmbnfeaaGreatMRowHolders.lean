/- Of somebody who does not hold all three originals of a bill nothing is split, joined or switched, of at most 41 calls. -/
import Derived.Test.YtnglkhnfmbnfeaaGreatM8
import Derived.Test.YtnglkhnfmbnfeaaGreatRows
import Derived.WalkKit
import Derived.ProofKit
import Derived.OpenShut
import Derived.ShutString
import Derived.ChangeOld
import Derived.Below
import Derived.SizedLaws
set_option linter.unusedVariables false
set_option linter.unusedSimpArgs false
set_option linter.unusedSectionVars false
set_option linter.unnecessarySimpa false
/- Vd -/
namespace Go.Proofs.YtnglkhnfmbnfeaaGreat
open Go Go.SK

set_option maxHeartbeats 8000000 in
theorem l24_Holders {A1 A2 : Nat → Prop} {w : World} {v1 : Value} {l : List ActD} (h1 : ActsAt A1 w v1 l) {a : SActD} {vp vn : Value} (h2 : SActAt A2 w a vp vn) :
    Ret Tryz.prog 8 [v1, .agg ⟨encS a vp vn⟩] w fun v w' => v = .bool true ∧ Ex w w' := by
  obtain ⟨p1, cap1, rfl, _, _⟩ := h1.is
  obtain ⟨pp, cpp, rfl, _⟩ := h2.parts.is
  obtain ⟨pn, cpn, rfl, _, hnrow⟩ := h2.names.is
  simp only [List.length_map] at *
  obtain ⟨vp, hvp⟩ : ∃ vp, vp = Value.slice pp a.parts.length cpp := ⟨_, rfl⟩
  obtain ⟨vn, hvn⟩ : ∃ vn, vn = Value.slice pn a.names.length cpn := ⟨_, rfl⟩
  rw [← hvp, ← hvn] at h2 ⊢
  refine ret_of Tryz.func8 Tryz.ntmps8 rfl rfl rfl ?_
  (repeat (first | refine cw_seq ?_ | refine cw_region ?_))
  refine lw_box rfl ?_
  intro b3 w0 hbb3 hb3 hx0 hs0
  replace hb3 : Blk w0 b3 (encS a vp vn) 45 := hb3
  (repeat (first | refine lw_pure hT rfl ?_ | refine lw_nil ?_ | refine cw_seq ?_ | refine cw_region ?_ | refine qw_then ?_))
  refine lw_call hT rfl rfl (l24_awake w0) ?_
  rintro _ w1 ⟨rfl, hx1⟩
  have hx01 : Ex w w1 := hx0.trans hx1
  (repeat (first | refine lw_pure hT rfl ?_ | (refine lw_gon_f rfl ?_ ?_; focus (first | with_reducible rfl | with_reducible exact Bool.not_false | with_reducible exact Bool.not_true))))
  refine lw_call hT rfl rfl (r23_Few (h1.ex hx01)) ?_
  rintro _ w2 ⟨⟨b1, rfl, hr1⟩, hx2⟩
  have hx02 := hx01.trans hx2
  (repeat (first | refine lw_pure hT rfl ?_ | (refine lw_gon_f rfl ?_ ?_; focus (first | with_reducible rfl | with_reducible exact Bool.not_false | with_reducible exact Bool.not_true))))
  refine lw_guard rfl (fun e => ?_) (fun e => ?_)
  · (repeat (first | refine lw_pure hT rfl ?_ | refine lw_nil ?_ | refine cw_seq ?_ | refine cw_region ?_ | refine qw_then ?_ | (refine lw_goff_t rfl ?_ ?_; focus (first | with_reducible rfl | with_reducible exact Bool.not_false | with_reducible exact Bool.not_true)) | (refine cw_cond_t rfl ?_ ?_; focus (first | with_reducible rfl | with_reducible exact Bool.not_false | with_reducible exact Bool.not_true))))
    refine lw_call hT rfl rfl (l24_awake w2) ?_
    rintro _ wz ⟨rfl, hxz⟩
    (repeat (first | refine lw_pure hT rfl ?_ | refine lw_nil ?_ | refine qw_then ?_ | refine cw_ret ?_ | refine qw_then_ret ?_))
    exact qw_ret rfl ⟨rfl, hx02.trans hxz⟩
  replace hr1 := hr1 (by simpa using e)
  (repeat (refine lw_gon_f rfl ?_ ?_; focus (first | with_reducible rfl | with_reducible exact Bool.not_false | with_reducible exact Bool.not_true)))
  refine lw_load_agg hT rfl rfl rfl (vs := encS a vp vn) (((hb3.ex hx1).ex hx2).rd 0 9) ?_
  (repeat (refine lw_gon_f rfl ?_ ?_; focus (first | with_reducible rfl | with_reducible exact Bool.not_false | with_reducible exact Bool.not_true)))
  refine lw_buildSlice sl47 rfl rfl rfl ?_
  intro bf wf hbbf hbf hxf hsf
  have hx0f := hx02.trans hxf
  (repeat (refine lw_gon_f rfl ?_ ?_; focus (first | with_reducible rfl | with_reducible exact Bool.not_false | with_reducible exact Bool.not_true)))
  refine lw_call hT rfl rfl (l24_few (sacts_one (show Blk wf bf (encS a vp vn) 45 from hbf) (h2.ex hx0f))) ?_
  rintro _ w3 ⟨⟨b2, rfl, hr2⟩, hx3⟩
  have hx03 := hx0f.trans hx3
  (repeat (first | refine lw_pure hT rfl ?_ | refine lw_nil ?_ | refine qw_then ?_ | (refine lw_gon_f rfl ?_ ?_; focus (first | with_reducible rfl | with_reducible exact Bool.not_false | with_reducible exact Bool.not_true))))
  refine cw_cond rfl (fun e => ?_) (fun e => ?_)
  · (repeat (first | refine cw_seq ?_ | refine cw_region ?_))
    refine lw_call hT rfl rfl (l24_awake w3) ?_
    rintro _ wz ⟨rfl, hxz⟩
    (repeat (first | refine lw_pure hT rfl ?_ | refine lw_nil ?_ | refine qw_then ?_ | refine cw_ret ?_ | refine qw_then_ret ?_))
    exact qw_ret rfl ⟨rfl, hx03.trans hxz⟩
  have hfa : FewA a := (hr2 (by simpa using e)).2 a (by simp)
  (repeat (first | refine lw_pure hT rfl ?_ | refine cw_seq ?_ | refine cw_region ?_ | refine qw_then ?_ | refine cw_skip ?_))
  refine lw_call hT rfl rfl (l24_begin (h1.ex hx03) hr1) ?_
  rintro _ w4 ⟨⟨p, m, gs, vL, fgs, A', rfl, hP⟩, hx4⟩
  have hx04 := hx03.trans hx4
  have hgood := good_kept h1.ok
  have hlen := hr1.1
  have ec : (runA regC (keptA l)).carrier = ⟨#[99]⟩ := runA_carrier _ _
  obtain ⟨r0, hr0⟩ : ∃ r0, r0 = runA regC (keptA l) := ⟨_, rfl⟩
  rw [← hr0] at hgood hP ec
  have hl0 := hgood.len
  have hn04 : ∀ b ∈ foot p m gs, w.heap.size ≤ b := fun b hb => by have := hP.new b hb; have := (hx03).size; omega
  (repeat (refine lw_pure hT rfl ?_))
  refine lw_alloc z28 ?_
  intro b6 w5 hbb8 hb8 hx5 hs5
  (repeat (refine lw_pure hT rfl ?_))
  refine lw_store_agg hT rfl rfl rfl rfl (by intro v hv; simp [encR] at hv; rcases hv with rfl | rfl <;> first | rfl | exact Sl.one hP.frep.sl) hb8 (show (2 : Nat) ≤ 2 by decide) ?_
  intro w6 hb86 hx6 hs6
  replace hb86 : Blk w6 b6 (encR ⟨#[99]⟩ vL) 28 := hb86
  have hx46 : Ex w4 w6 := hx5.up_new hx6 (fun i h => by omega)
  have hx06 := hx04.trans hx46
  have hR6 := hP.rep.ex hx46
  have hF6 := hP.frep.lt.ex hx46
  have hfl4 : ∀ b ∈ foot p m gs, b < w4.heap.size := fun b hb => hP.rep.foot_lt hb
  have l46 := hx46.size
  have hx06' : Ex w0 w6 := ((((hx1.trans hx2).trans hxf).trans hx3).trans hx4).trans hx46
  have hb36 := hb3.ex hx06'
  (repeat (first | refine lw_pure hT rfl ?_ | refine lw_nil ?_ | refine cw_seq ?_ | refine cw_region ?_ | refine qw_then ?_))
  refine lw_load hT rfl rfl (v := .string a.bill) (hb36.cell 1) ?_
  (repeat (refine lw_pure hT rfl ?_))
  refine lw_load hT rfl rfl (v := .string a.by_) (hb36.cell 2) ?_
  skip
  refine lw_call hT rfl rfl (reg_Full hR6 a.bill a.by_) ?_
  rintro _ w7 ⟨rfl, hx7⟩
  have hx07 := hx06.trans hx7
  have hb37 := hb36.ex hx7
  have hR7 := hR6.ex hx7
  (repeat (first | refine lw_pure hT rfl ?_ | refine lw_nil ?_ | refine cw_seq ?_ | refine cw_region ?_ | refine qw_then ?_))
  refine lw_load hT rfl rfl (v := .int .u8 a.kind) (hb37.cell 0) ?_
  skip
  refine lw_rem8 rfl rfl (by decide) ?_
  (repeat (first | refine lw_pure hT rfl ?_ | refine lw_nil ?_ | refine qw_then ?_))
  refine cw_cut_any (α := Bool) (fun h => [(3, pB b3), (5, .pointer (some ⟨p, 0, none⟩)), (6, pB b6), (7, .bool h)]) (fun h w' => Ex w7 w' ∧ ((∀ n ∈ goneL a, r0.fullOf n a.by_ = true) → h = true)) ?_ ?_
  · unfold pB
    refine cw_cond rfl (fun hk => ?_) (fun hk => ?_)
    · have hk : a.kind.tmod 3 = 1 := by simpa using hk
      have eg : goneL a = a.names := by unfold goneL; rw [if_pos hk]
      (repeat (first | refine lw_pure hT rfl ?_ | refine lw_nil ?_ | refine cw_seq ?_ | refine cw_region ?_ | refine qw_then ?_))
      refine lw_load hT rfl rfl (v := vn) (hb37.cell 7) ?_
      subst hvn
      (repeat (first | refine lw_pure hT rfl ?_ | refine lw_nil ?_ | refine qw_then ?_ | refine cw_block ?_))
      refine cw_loop (fun z : Nat × Bool => [(3, .pointer (some ⟨b3, 0, none⟩)), (5, .pointer (some ⟨p, 0, none⟩)), (6, .pointer (some ⟨b6, 0, none⟩)), (7, .bool z.2), (41, .slice pn a.names.length cpn), (42, .int .i64 (a.names.length : Nat)), (43, .int .i64 (z.1 : Nat))])
        (fun z w' => z.1 ≤ a.names.length ∧ Ex w7 w' ∧ ((∀ n ∈ a.names, r0.fullOf n a.by_ = true) → z.2 = true)) (fun z => a.names.length - z.1) (0, true) (by repeat (first | exact trivial | refine ⟨rfl, ?_⟩)) ⟨Nat.zero_le _, Ext.refl _ _, fun _ => rfl⟩ ?_
      rintro ⟨i, hh⟩ w8 ⟨hi, hx8, hih⟩
      dsimp only at hi hih ⊢
      have hnm := h2.names.small
      simp only [List.length_map] at hnm
      unfold maxLen at hnm
      (repeat (first | refine lw_pure hT rfl ?_ | refine lw_nil ?_ | refine cw_seq ?_ | refine cw_region ?_ | refine qw_then ?_))
      refine cw_cond rfl (fun e => ?_) (fun e => ?_)
      · have hlt : i < a.names.length := by have := of_decide_eq_true e; omega
        have hne : a.names.map (fun s => [Value.string s]) ≠ [] := by intro e; simp at e; rw [e] at hlt; simp at hlt
        obtain ⟨bn, on, rfl, _, hnrd⟩ := hnrow hne
        have hni := (hnrd i [.string a.names[i]] (by rw [List.getElem?_map, List.getElem?_eq_getElem hlt]; rfl)).2
        have hmem : a.names[i] ∈ a.names := List.getElem_mem hlt
        generalize a.names[i] = nb at hni hmem
        (repeat (first | refine cw_seq ?_ | refine cw_region ?_ | refine qw_then ?_ | refine cw_skip ?_ | refine cw_block ?_))
        refine lw_index hT rfl rfl rfl i rfl hlt ?_
        skip
        refine lw_load hT rfl rfl (v := .string nb) (((hni.ex hx07).ex hx8) 0 _ rfl) ?_
        (repeat (first | refine lw_pure hT rfl ?_ | refine lw_nil ?_ | refine cw_region ?_ | refine qw_then ?_))
        refine lw_guard rfl (fun eh => ?_) (fun eh => ?_)
        · subst eh
          (repeat (first | refine lw_pure hT rfl ?_ | (refine lw_gon_t rfl ?_ ?_; focus (first | with_reducible rfl | with_reducible exact Bool.not_false | with_reducible exact Bool.not_true))))
          refine lw_load hT rfl rfl (v := .string a.by_) ((hb37.ex hx8).cell 2) ?_
          (repeat (refine lw_gon_t rfl ?_ ?_; focus (first | with_reducible rfl | with_reducible exact Bool.not_false | with_reducible exact Bool.not_true)))
          refine lw_call hT rfl rfl (reg_Full (hR7.ex hx8) nb a.by_) ?_
          rintro _ w9 ⟨rfl, hx9⟩
          (repeat (first | (refine lw_add rfl rfl ?_ ?_ ?_; iterate 2 omega) | refine lw_pure hT rfl ?_ | refine lw_nil ?_ | refine cw_region ?_ | refine qw_then ?_ | refine qw_block ?_))
          exact qw_round (x := (i, true)) (i + 1, r0.fullOf nb a.by_) (by repeat (first | exact trivial | refine ⟨rfl, ?_⟩)) ⟨hlt, hx8.trans hx9, fun h => h nb hmem⟩ (by show a.names.length - (i + 1) < a.names.length - i; omega)
        · subst eh
          (repeat (first | (refine lw_add rfl rfl ?_ ?_ ?_; iterate 2 omega) | refine lw_pure hT rfl ?_ | refine lw_nil ?_ | refine cw_region ?_ | refine qw_then ?_ | (refine lw_goff_f rfl ?_ ?_; focus (first | with_reducible rfl | with_reducible exact Bool.not_false | with_reducible exact Bool.not_true)) | refine qw_block ?_))
          exact qw_round (x := (i, false)) (i + 1, false) (by repeat (first | exact trivial | refine ⟨rfl, ?_⟩)) ⟨hlt, hx8, hih⟩ (by show a.names.length - (i + 1) < a.names.length - i; omega)
      · have hil : i = a.names.length := by have := of_decide_eq_false e; omega
        subst hil
        (repeat (first | refine cw_exit ?_ | refine qw_block_exit ?_ | refine qw_then_exit ?_))
        exact qw_cut hh (by repeat (first | exact trivial | refine ⟨rfl, ?_⟩)) ⟨hx8, by rw [eg]; exact hih⟩
    · have hk : ¬ a.kind.tmod 3 = 1 := by simpa using hk
      have eg : goneL a = [a.bill] := by unfold goneL; rw [if_neg hk]
      (repeat (refine cw_skip ?_))
      exact qw_cut (r0.fullOf a.bill a.by_) (by repeat (first | exact trivial | refine ⟨rfl, ?_⟩)) ⟨Ext.refl _ _, by rw [eg]; exact fun h => h a.bill (by simp)⟩
  · rintro hh w8 ⟨hx8, hall⟩
    unfold pB
    have hx08 := hx07.trans hx8
    have hx68 := hx7.trans hx8
    have hb38 := hb37.ex hx8
    have l68 := hx68.size
    (repeat (first | refine lw_pure hT rfl ?_ | refine cw_seq ?_ | refine cw_region ?_ | refine qw_then ?_))
    refine lw_load_agg hT rfl rfl rfl (vs := encS a vp vn) (hb38.rd 0 9) ?_
    skip
    refine lw_call hT rfl rfl (l24_do (hR7.ex hx8) hgood (by omega) (h2.ex hx08) hfa) ?_
    rintro _ w9 ⟨rfl, hm9⟩
    obtain ⟨gs9, hR9, hf9⟩ := hm9.is
    have hx09 : Ex w w9 := hm9.new hx08 hn04
    (repeat (first | refine lw_pure hT rfl ?_ | refine lw_nil ?_ | refine cw_seq ?_ | refine cw_region ?_ | refine qw_then ?_))
    refine cw_cond rfl (fun e => ?_) (fun e => ?_)
    · have hz : callC r0 (callD r0 a) = 0 := by simpa using e
      obtain ⟨N, hg⟩ := call_gone hgood h2.ok hz
      have hh1 := hall fun n hn => by
        obtain ⟨x, g1, _, _, g4, _⟩ := hg.old n hn
        rw [full_of g1]; exact g4
      subst hh1
      (repeat (first | refine lw_pure hT rfl ?_ | refine lw_nil ?_ | refine cw_seq ?_ | refine cw_region ?_ | refine qw_then ?_ | refine cw_ret ?_ | refine qw_then_ret ?_))
      exact qw_ret rfl ⟨rfl, hx09⟩
    · have hne : callC r0 (callD r0 a) ≠ 0 := by simpa using e
      rw [callR_ne hne] at hR9
      have n9 : ∀ b, w4.heap.size ≤ b → b ∉ foot p m gs := fun b hb h => by have := hfl4 b h; omega
      have hb69 : Blk w9 b6 (encR ⟨#[99]⟩ vL) 28 := (hb86.ex hx68).ext hm9.ext (n9 _ (by omega))
      have hb39 : Blk w9 b3 (encS a vp vn) 45 := hb38.ext hm9.ext (fun h => by
        have h3 := hP.new _ h
        have := hb3.lt
        have := (((hx1.trans hx2).trans hxf).trans hx3).size
        omega)
      have hF9 := (hF6.ex hx68).ext hm9.ext (fun b hb => hP.dis b hb.1)
      have hU := l23_Unlike hR9 hgood (by omega) hF9 a.by_ ⟨#[]⟩
      rw [ec] at hU
      (repeat (first | refine lw_pure hT rfl ?_ | refine cw_seq ?_ | refine cw_region ?_ | refine qw_then ?_ | refine cw_skip ?_))
      refine lw_load_agg hT rfl rfl rfl (vs := encR ⟨#[99]⟩ vL) (hb69.rd 0 2) ?_
      (repeat (refine lw_pure hT rfl ?_))
      refine lw_load hT rfl rfl (v := .string a.by_) (hb39.cell 2) ?_
      skip
      refine lw_call hT rfl rfl hU ?_
      rintro _ w10 ⟨rfl, hx10⟩
      (repeat (first | refine lw_pure hT rfl ?_ | refine lw_nil ?_ | refine qw_then ?_ | refine cw_ret ?_))
      exact qw_ret rfl ⟨rfl, hx09.trans hx10⟩
end Go.Proofs.YtnglkhnfmbnfeaaGreat

/- RowHolders -/
namespace Go.Proofs.YtnglkhnfmbnfeaaGreat.splitHolders
open Go Go.SK Go.ChangeShapes Go.WideShapes Go.ChangeAt Go.RowKit
open Go.ChangeMaps (open_string shut_string)
section
attribute [local semireducible] Go.SK.Ret
theorem of_ret {P : Program} {f : FuncId} {args : List Value} {w : World} {R : Value → World → Prop} (h : Ret P f args w R) : Calls P f ⟨args⟩ w fun e w' => ∃ v, e = .returned v ∧ R v w' := h
end
theorem own : ownKnob Tryz.prog.godebug = none := by kernel_rfl
theorem laidOut : laidOutB Tryz.prog = true := by kernel_rfl
set_option maxRecDepth 100000 in
theorem lifted (os : Os) (started : os.Started) (H : Type) (enc : TypeId × Value → H) :
    ReturnsInHanded {} Tryz.checked os 8 .any (Rows.splitHoldersSpec.pre6 enc Tryz.prog Tryz.f8 Rows.splitHoldersRow.domain false) (Rows.splitHoldersSpec.post enc Tryz.prog Tryz.f8 false true false false) := by
  refine returnsInHanded_of_change_sized (C := Tryz.checked) own started (by kernel_rfl) Tryz.func8
    (ChangeSpec.witness6 (enc := enc) (C := Tryz.checked) false ⟨#[], #[.slice none 0 0, .agg #[.int .u8 0, .string ByteArray.empty, .string ByteArray.empty, .string ByteArray.empty, .string ByteArray.empty, .string ByteArray.empty, .slice none 0 0, .slice none 0 0, .int .i64 0]], []⟩ 8 (by kernel_rfl) (by kernel_rfl) (by kernel_rfl) (by kernel_rfl)) ?_
  intro W base args ds gs before hval0 hW hcnd hsz0 _
  have hval : ∀ (j : Nat) t v, Tryz.f8.params[j]? = some t → args[j]? = some v → Value.okWide Tryz.prog W .any base t v := hval0
  have hW' := hW
  obtain ⟨p, q, hA0, hV, rfl, hfz, hnd⟩ := hW
  have hA : DataW.TrodAll enc Tryz.prog W 0 (fun _ => true) true Tryz.f8.params.toList args.toList ds p := hA0
  rw [Tryz.params8] at hA hval
  obtain ⟨v0, vs0, d0, ds0, p0, q0, hargs, rfl, rfl, h0, r0⟩ := trodAll_cons hA
  obtain ⟨v1, vs1, d1, ds1, p1, q1, rfl, rfl, rfl, h1, r1⟩ := trodAll_cons r0
  obtain ⟨rfl, rfl, rfl⟩ := trodAll_nil r1
  obtain rfl : args = #[v0, v1] := by cases args; simp_all
  obtain ⟨rfl, rfl⟩ := trodVars_none hV
  obtain ⟨a0, len0, cap0, rfl⟩ := okWide_slice Tryz.underlying22 (hval 0 22 v0 rfl rfl)
  have k0 := h0
  have lt0 : ∀ x ∈ p0, x.block < W.heap.size := by obtain ⟨m, hm⟩ := k0; exact DataW.trod_lt m _ _ _ hm
  obtain ⟨l0, w0⟩ : ∃ l, ActsAt (fun _ => True) W (.slice a0 len0 cap0) l := by
    obtain ⟨fuel, hf⟩ := h0
    obtain ⟨v, l, hcs, hl⟩ := open_acts (fun _ => rfl) hf
    simp [Value.cells] at hcs
    subst hcs
    exact ⟨l, hl⟩
  obtain ⟨c1, rfl, hc1⟩ := okWide_struct Tryz.underlying45 (hval 1 45 v1 rfl rfl)
  have k1 := h1
  have lt1 : ∀ x ∈ p1, x.block < W.heap.size := by obtain ⟨m, hm⟩ := k1; exact DataW.trod_lt m _ _ _ hm
  obtain ⟨a1, vp1, vn1, e1, w1⟩ : ∃ a vp vn, c1 = ⟨encS a vp vn⟩ ∧ SActAt (fun _ => True) W a vp vn := by
    obtain ⟨fuel, hf⟩ := h1
    obtain ⟨a, vp, vn, hcs, hl⟩ := open_sact (fun _ => rfl) hf
    exact ⟨a, vp, vn, by cases c1; simp [Value.cells] at hcs; subst hcs; rfl, hl⟩
  subst e1
  clear hA0 hval0 hsz0
  refine (of_ret (l24_Holders w0 w1)).mono fun e W' ⟨v, he, hv, hx⟩ => ?_
  subst he hv
  have bel : Below W.heap.size W W' := Ext.below hx (Nat.le_refl _) (fun _ _ f => f)
  exact ⟨_, rfl, _, _, _, [], _, [], hW', trodAll_mk1 (shut_bool Tryz.underlying4 _), (trodAll_cons_mk (Below.trod laidOut (by kernel_rfl) (of_decide_eq_true (by kernel_rfl)) k0 bel lt0) (trodAll_cons_mk (Below.trod laidOut (by kernel_rfl) (of_decide_eq_true (by kernel_rfl)) k1 bel lt1) trodAll_mk0)), rfl, bel.frame _, fun h => by cases h⟩
theorem over : Rows.splitHoldersRow.holds Tryz.pinned (OpenSpec.ofChange Rows.splitHoldersSpec) :=
  OpenClaim.holds_of_wide 8 Tryz.f8 rfl rfl rfl rfl rfl rfl rfl ⟨rfl, rfl, rfl, rfl, rfl⟩ rfl rfl rfl rfl rfl (by kernel_rfl) Tryz.func8 (by kernel_rfl)
    (of_decide_eq_true (by kernel_rfl)) (by unfold Func.isWrapper; first | (rw [if_pos (by decide +kernel)]; kernel_rfl) | (rw [if_neg (by decide +kernel)]; exact ⟨rfl, rfl⟩))
    (fun os started H enc _ => lifted os started H enc)
end Go.Proofs.YtnglkhnfmbnfeaaGreat.splitHolders
namespace Go.Proofs.YtnglkhnfmbnfeaaGreat
theorem splitHolders_holds : Rows.SplitHoldersSaid := splitHolders.over
#print axioms splitHolders_holds
end Go.Proofs.YtnglkhnfmbnfeaaGreat
