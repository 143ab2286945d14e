/- Texts of ours, laid together, part 6: the walking kit, the model, contracts of functions, plain laws. -/
import Derived.Test.YtnglkhnfmbnfeaaGreatM5
import Derived.Shelf.SlIter.Sorted
import Derived.LoopIn
import Derived.LoopNIn
set_option linter.unusedVariables false
set_option linter.unusedSimpArgs false
set_option linter.unusedSectionVars false
set_option linter.unnecessarySimpa false
/- Fh -/
namespace Go.Proofs.YtnglkhnfmbnfeaaGreat
open Go Go.SK

def voided (ps : List PapD) (i : Nat) : List PapD := (ps.take i).map (stateP 2) ++ ps.drop i
theorem voided_step {ps : List PapD} (h : ps.length = 3) {i : Nat} (hi : i < 3) : onIx [i] (stateP 2) (voided ps i) = voided ps (i + 1) := by
  obtain ⟨a, b, c, rfl⟩ := three_cases h
  match i, hi with
  | 0, _ => rfl
  | 1, _ => rfl
  | 2, _ => rfl
theorem voided_3 {ps : List PapD} (h : ps.length = 3) : voided ps 3 = ps.map (stateP 2) := by
  obtain ⟨a, b, c, rfl⟩ := three_cases h
  rfl
theorem voided_len {ps : List PapD} (h : ps.length = 3) (i : Nat) : (voided ps i).length = 3 := by simp [voided]; omega
/-- States alone were written. -/
theorem PapsAt.states {A : Nat → Prop} {w w' : World} {bq : Nat} {ps : List PapD} {vcs tail : List Value} (h : PapsAt A w bq ps vcs tail) (hA : ∀ b, A b → b ≠ bq) {k : Nat} (hk : k < 3) (s : Int) (hx : Ext (· = bq) w w') (hb : Blk w' bq (((rowsOf ps vcs).flatten ++ tail).set (k * 3) (.int .i64 s)) 126) :
    PapsAt A w' bq (onIx [k] (stateP s) ps) vcs tail := by
  refine ⟨by rw [onIx_len]; exact h.three, h.three', by rw [← set_st h.three h.three' hk]; exact hb, fun i q' vc hq' hvc => ?_⟩
  have hi : i < ps.length := by have := (List.getElem?_eq_some_iff.1 hq').1; rwa [onIx_len] at this
  rw [onIx_get (List.getElem?_eq_getElem hi)] at hq'
  have := (h.chains i ps[i] vc (List.getElem?_eq_getElem hi) hvc).ext hx hA
  simp only [Option.some.injEq] at hq'
  subst hq'; split <;> exact this
set_option maxHeartbeats 4000000 in
theorem r23_Do {A0' A0 : Nat → Prop} {w : World} {vL : Value} {l : List EntD} {gs : List FG} (c : ByteArray) (hF : FRep A0' w vL l gs) (hl : l.length ≤ 256) (hN : RegD.Nd ⟨c, l⟩) (hsm : RegD.Small ⟨c, l⟩) (a : ActD) {vb vp : Value} (hB : SlS A0 w vb a.b.boxes) (hP : SlS A0 w vp a.b.parents) (hok : a.b.Ok)
    (hcap : ∀ a n c, vb = .slice a n c → n ≤ c) (hk : 0 ≤ a.kind ∧ a.kind ≤ 5) (hto : a.to_.size ≤ maxLen) :
    Ret Tryz.prog 34 [.agg ⟨encR c vL⟩, .agg ⟨encAct a vb vp⟩] w fun v w' =>
      (∃ vL' gs', v = .tuple #[.agg ⟨encR c vL'⟩, .int .i64 (actC ⟨c, l⟩ a)] ∧ FRep (fun b => A0' b ∨ w.heap.size ≤ b) w' vL' (doA ⟨c, l⟩ a).l gs') ∧ Ex w w' := by
  have hF0 := hF.lt
  obtain ⟨aL, cL, hvL, hLm⟩ := hF.slice
  subst hvL
  unfold maxLen at hLm
  refine ret_of Tryz.func34 Tryz.ntmps34 rfl rfl rfl ?_
  (repeat (first | refine cw_seq ?_ | refine cw_region ?_))
  refine lw_box rfl ?_
  intro b2 w1 hbb2 hb2 hx1 hs1
  replace hb2 : Blk w1 b2 (encR c (.slice aL l.length cL)) 28 := hb2
  skip
  refine lw_box rfl ?_
  intro b3 w2 hbb3 hb3 hx2 hs2
  replace hb3 : Blk w2 b3 (encAct a vb vp) 73 := hb3
  skip
  refine lw_alloc z28 ?_
  intro b4 w3 hbb4 hb4 hx3 hs3
  have hx03 := (hx1.trans hx2).trans hx3
  have hb23 := (hb2.ex hx2).ex hx3
  have hb33 := hb3.ex hx3
  have hF3 := hF.ex hx03
  (repeat (first | refine lw_pure hT rfl ?_ | refine lw_nil ?_ | refine cw_seq ?_ | refine cw_region ?_ | refine qw_then ?_))
  refine lw_load hT rfl rfl (v := .int .i64 a.kind) (hb33.cell 0) ?_
  (repeat (first | refine lw_pure hT rfl ?_ | refine lw_nil ?_ | refine qw_then ?_))
  refine cw_cond rfl (fun h0 => ?_) (fun h0 => ?_)
  · have h0 : a.kind = 0 := by simpa using h0
    (repeat (first | refine cw_seq ?_ | refine cw_region ?_))
    refine lw_load_agg hT rfl rfl rfl (vs := encR c (.slice aL l.length cL)) (hb23.rd 0 2) ?_
    (repeat (refine lw_pure hT rfl ?_))
    refine lw_load_agg hT rfl rfl rfl (vs := encB a.b vb vp) (hb33.rd 6 9) ?_
    (repeat (refine lw_pure hT rfl ?_))
    refine lw_load hT rfl rfl (v := .string a.to_) (hb33.cell 5) ?_
    skip
    refine lw_call hT rfl rfl (r23_Issue c (hF0.ex hx03) hl (hB.ex hx03) (hP.ex hx03) hok hcap a.to_ hto) ?_
    rintro _ w4 ⟨⟨vL', gs', rfl, hF'⟩, hx4⟩
    have hl3 := hx03.size
    (repeat (refine lw_pure hT rfl ?_))
    refine lw_store_agg hT rfl rfl rfl rfl (by intro v hv; simp [encR] at hv; rcases hv with rfl | rfl <;> first | rfl | exact Sl.one hF'.sl) (hb4.ex hx4) (show (2 : Nat) ≤ 2 by decide) ?_
    intro w5 hb5 hx5 hs5
    (repeat (first | refine lw_pure hT rfl ?_ | refine lw_nil ?_ | refine qw_then ?_ | refine cw_ret ?_ | refine qw_then_ret ?_))
    have hac : actC ⟨c, l⟩ a = issueC ⟨c, l⟩ a.b a.to_ := by unfold actC; rw [if_pos h0]
    have had : doA ⟨c, l⟩ a = issueD ⟨c, l⟩ a.b a.to_ := by unfold doA; rw [if_pos h0]
    have hx05 : Ex w w5 := (hx03.trans hx4).up_new hx5 (fun i hi => by omega)
    refine qw_ret_cell hT rfl rfl rfl rfl (vs := encR c vL') (hb5.rd 0 2) rfl ⟨⟨vL', gs', by rw [hac]; rfl, ?_⟩, hx05⟩
    rw [had]
    exact (hF'.ext hx5 (fun b hb e => by rcases hb with hb | hb <;> omega)).weaken fun b hb => by
      rcases hb with hb | hb
      · exact .inl hb.1
      · exact .inr (by omega)
  · have h0 : ¬ a.kind = 0 := by simpa using h0
    have hk1 : 1 ≤ a.kind ∧ a.kind ≤ 5 := by omega
    have hac : actC ⟨c, l⟩ a = askC ⟨c, l⟩ a.ask := by unfold actC; rw [if_neg h0]
    have hbill : a.ask.bill = a.bill := by
      have : a.kind = 1 ∨ a.kind = 2 ∨ a.kind = 3 ∨ a.kind = 4 ∨ a.kind = 5 := by omega
      rcases this with h | h | h | h | h <;> simp [ActD.ask, h]
    (repeat (first | refine cw_seq ?_ | refine cw_region ?_ | refine qw_then ?_ | refine cw_skip ?_))
    refine lw_load_agg hT rfl rfl rfl (vs := encR c (.slice aL l.length cL)) (hb23.rd 0 2) ?_
    skip
    refine lw_load_agg hT rfl rfl rfl (vs := encAct a vb vp) (hb33.rd 0 15) ?_
    skip
    refine lw_call hT rfl rfl (r23_Wrong (A0 := A0) c hF3 a vb vp hk1 hto) ?_
    rintro _ w4 ⟨rfl, hx4⟩
    have hx04 := hx03.trans hx4
    have hb24 := hb23.ex hx4
    have hb34 := hb33.ex hx4
    have hb44 := hb4.ex hx4
    have hl4 := hx4.size
    (repeat (first | refine lw_pure hT rfl ?_ | refine lw_nil ?_ | refine cw_seq ?_ | refine cw_region ?_ | refine qw_then ?_))
    refine cw_cond rfl (fun hw => ?_) (fun hw => ?_)
    · have hw : ¬ askC ⟨c, l⟩ a.ask = 0 := by simpa using hw
      (repeat (first | refine cw_seq ?_ | refine cw_region ?_))
      refine lw_load_agg hT rfl rfl rfl (vs := encR c (.slice aL l.length cL)) (hb24.rd 0 2) ?_
      (repeat (refine lw_pure hT rfl ?_))
      refine lw_store_agg hT rfl rfl rfl rfl (by intro v hv; simp [encR] at hv; rcases hv with rfl | rfl <;> rfl) hb44 (show (2 : Nat) ≤ 2 by decide) ?_
      intro w5 hb5 hx5 hs5
      (repeat (first | refine lw_pure hT rfl ?_ | refine lw_nil ?_ | refine qw_then ?_ | refine cw_ret ?_ | refine qw_then_ret ?_))
      have had : doA ⟨c, l⟩ a = ⟨c, l⟩ := by unfold doA; rw [if_neg h0, if_neg hw]
      have hx05 : Ex w w5 := hx04.up_new hx5 (fun i hi => by omega)
      refine qw_ret_cell hT rfl rfl rfl rfl (vs := encR c (.slice aL l.length cL)) (hb5.rd 0 2) rfl ⟨⟨_, gs, by rw [hac]; rfl, ?_⟩, hx05⟩
      rw [had]
      exact (hF.ex hx05).weaken fun _ h => .inl h
    · have hw : askC ⟨c, l⟩ a.ask = 0 := by simpa using hw
      have had : doA ⟨c, l⟩ a = RegD.upd ⟨c, l⟩ a.bill (·.after a) := by unfold doA; rw [if_neg h0, if_pos hw]
      rw [hac, had, hw]
      have hF4 := hF0.ex hx04
      rcases fidx_cases l a.bill with ⟨hi, hat⟩ | ⟨i, hil, hi, hat⟩
      · exfalso
        have : RegD.at? ⟨c, l⟩ a.ask.bill = none := by rw [hbill]; exact hat
        simp [askC, this] at hw
      obtain ⟨x, g, bL, oL, cL', hx_, hg_, hv, hrd, hE⟩ := hF4.row hil
      cases hv
      have hxi : x = l[i] := by rw [List.getElem?_eq_getElem hil] at hx_; exact (Option.some.inj hx_).symm
      have hask : askE x a.ask = 0 := by
        have : RegD.at? ⟨c, l⟩ a.ask.bill = some l[i] := by rw [hbill]; exact hat
        simp only [askC, this] at hw; rw [hxi]; exact hw
      have hwr : wrongE x a = 0 := (wrongE_eq hk1).trans hask
      have hbi : badIx a = false := by
        cases h : badIx a with
        | false => rfl
        | true => unfold wrongE at hwr; rw [if_pos h] at hwr; cases hwr
      obtain ⟨eW, eI, eN⟩ := goodIx hk1 hbi
      (repeat (first | refine cw_seq ?_ | refine cw_region ?_ | refine qw_then ?_ | refine cw_skip ?_))
      refine lw_load_agg hT rfl rfl rfl (vs := encR c (.slice (some ⟨bL, oL, none⟩) l.length cL)) (hb24.rd 0 2) ?_
      (repeat (refine lw_pure hT rfl ?_))
      refine lw_load hT rfl rfl (v := .string a.bill) (hb34.cell 3) ?_
      skip
      refine lw_call hT rfl rfl (r23_Find c a.bill hF4) ?_
      rintro _ w5 ⟨rfl, hx5⟩
      rw [hi]
      have hb25 := hb24.ex hx5
      have hb35 := hb34.ex hx5
      have hb45 := hb44.ex hx5
      have hE5 := hE.ex hx5
      have hl5 := hx5.size
      (repeat (first | refine lw_pure hT rfl ?_ | refine lw_nil ?_ | refine cw_seq ?_ | refine cw_region ?_ | refine qw_then ?_))
      refine lw_load hT rfl rfl (v := .slice (some ⟨bL, oL, none⟩) l.length cL) (hb25.cell 1) ?_
      (repeat (refine lw_pure hT rfl ?_))
      refine lw_index hT rfl rfl rfl i rfl hil ?_
      skip
      refine lw_load_agg hT rfl rfl rfl (vs := entF (x, g)) (hrd.ex hx5) ?_
      skip
      refine lw_alloc z56 ?_
      intro b8 w6 hbb8 hb8 hx6 hs6
      skip
      refine lw_store_agg hT rfl rfl rfl rfl (entF_one hE) hb8 (show (11 : Nat) ≤ 11 by decide) ?_
      intro w7 hb87 hx7 hs7
      replace hb87 : Blk w7 b8 (entF (x, g)) 56 := hb87
      have hx57 : Ex w5 w7 := hx6.up_new hx7 (fun i hi => by omega)
      (repeat (first | refine lw_nil ?_ | refine cw_seq ?_ | refine cw_region ?_ | refine qw_then ?_))
      refine lw_buildSlice sl54 rfl rfl rfl ?_
      intro e1 w8 he1 hbe1 hx8 hs8
      (repeat (refine lw_pure hT rfl ?_))
      refine lw_load hT rfl rfl (v := g.vP) ((hb87.ex hx8).cell 10) ?_
      skip
      have hown1 : w8.ownsRow w7.heap.size 126 3 (.slice (some ⟨e1, 0, none⟩) 0 0) 0 [] := own_lit hbe1 (by omega) rfl (by decide)
      have hE8 := (hE5.ex hx57).ex hx8
      have hpl : ((x.ps.zip g.vcs).map papRow).length = 3 := by simp [hE.three, hE.three']
      refine lw_append_sl sl54 (by decide) rfl hown1 rfl hE8.papers (by
        intro r hr u hu
        obtain ⟨⟨q, vc⟩, hz, rfl⟩ := List.mem_map.1 hr
        obtain ⟨j, hj⟩ := List.getElem?_of_mem hz
        rw [List.getElem?_zip_eq_some] at hj
        simp [papRow] at hu
        rcases hu with rfl | rfl | rfl <;> first | rfl | exact Sl.one (hE8.chains j q _ hj.1 hj.2)) (by rw [hpl]; decide) (by rw [hpl]; decide) (by omega) ?_
      intro v9 w9 g1 g2 g3 g4
      rw [hpl] at g1
      rcases g1.2 with ⟨_, hz⟩ | ⟨bq, capq, cur, rfl, hbq, hbqb, hq1, hq2, hq3, hq4⟩
      · cases hz
      have hl9 := g2.size
      have hx79 : Ex w7 w9 := hx8.up_new g2 (fun i h => by simp [Value.ownBlock] at h; omega)
      have hx59 := hx57.trans hx79
      have hbql : bq < w9.heap.size := (own_base g1 rfl).2
      have hP9 : PapsAt (fun b => (A0' b ∨ w.heap.size ≤ b) ∧ (b ≠ bq ∧ b ≠ b8 ∧ b ≠ b2 ∧ b ≠ b4)) w9 bq x.ps g.vcs (cur.toList.drop 9) := by
        refine ⟨hE.three, hE.three', ?_, fun j q vc h1 h2 => ((hE5.ex hx59).chains j q vc h1 h2).weaken fun b hb => ⟨.inl hb.1, by have := hb.2; have := hx04.size; omega, by have := hb.2; have := hx04.size; omega, by have := hb.2; omega, by have := hb.2; have := hx03.size; omega⟩⟩
        have e : cur.toList = (rowsOf x.ps g.vcs).flatten ++ cur.toList.drop 9 := by
          have : (rowsOf x.ps g.vcs).flatten = cur.toList.take 9 := by rw [hq4]; rfl
          rw [this, List.take_append_drop]
        unfold Blk; rw [← e]; exact hbqb
      have hb29 := hb25.ex hx59
      have hb39 := hb35.ex hx59
      (repeat (first | refine lw_pure hT rfl ?_ | refine lw_nil ?_ | refine cw_seq ?_ | refine cw_region ?_ | refine qw_then ?_))
      refine lw_load_agg hT rfl rfl rfl (vs := encAct a vb vp) (hb39.rd 0 15) ?_
      skip
      refine lw_call hT rfl rfl (r23_which a vb vp w9) ?_
      rintro v10 w10 ⟨hv10, hx10⟩
      have hP10 : PapsAt (fun b => (A0' b ∨ w.heap.size ≤ b) ∧ (b ≠ bq ∧ b ≠ b8 ∧ b ≠ b2 ∧ b ≠ b4)) w10 bq x.ps g.vcs (cur.toList.drop 9) := ⟨hP9.three, hP9.three', hP9.blk.ex hx10, fun j q vc h1 h2 => (hP9.chains j q vc h1 h2).ex hx10⟩
      have hl10 := hx10.size
      have hb310 := hb39.ex hx10
      have hnn : ((whichD a).map fun i => [Value.int .i64 i]) ≠ [] := by rw [eW]; simp; exact eN
      have hwl : (whichD a).length = (whichN a).length := by rw [eW]; simp
      have hwm := hv10.small
      obtain ⟨va, vcap, hv7e, _, hvr⟩ := hv10.is
      subst hv7e
      obtain ⟨bw, ow, rfl, hbw, hwrd⟩ := hvr hnn
      simp only [List.length_map] at hwm ⊢
      unfold maxLen at hwm
      have hlen3 : (whichN a).length ≤ 3 := by rw [eI, ← ixs_eq]; exact Nat.le_trans (List.length_filter_le _ _) (by simp)
      have get : ∀ j, j < (whichN a).length → ∃ k, (whichN a)[j]? = some k ∧ k < 3 ∧ w10.cell? ⟨bw, ow + j * 1, none⟩ = some (.int .i64 (k : Nat)) := by
        intro j hj
        refine ⟨(whichN a)[j], List.getElem?_eq_getElem hj, ixs_lt (index := a.ask.index) (by rw [← eI]; exact List.getElem_mem hj), ?_⟩
        have h1 : ((whichD a).map fun i => [Value.int .i64 i])[j]? = some [.int .i64 ((whichN a)[j] : Nat)] := by
          rw [eW, List.map_map, List.getElem?_map, List.getElem?_eq_getElem hj]; rfl
        exact (hwrd j _ h1).2 0 _ rfl
      rw [hwl]
      (repeat (first | refine lw_pure hT rfl ?_ | refine lw_nil ?_ | refine cw_seq ?_ | refine cw_region ?_ | refine qw_then ?_ | refine cw_block ?_))
      refine cw_loop (fun j : Nat => [(2, pB b2), (3, pB b3), (4, pB b4), (7, .int .i64 (i : Nat)), (8, pB b8), (9, .slice (some ⟨bq, 0, none⟩) 3 capq), (10, .slice (some ⟨bw, ow, none⟩) (whichN a).length vcap), (11, .int .i64 (j : Nat))])
        (fun j w' => j ≤ (whichN a).length ∧ Ext (· = bq) w10 w' ∧ ∃ vcs, PapsAt (fun b => (A0' b ∨ w.heap.size ≤ b) ∧ (b ≠ bq ∧ b ≠ b8 ∧ b ≠ b2 ∧ b ≠ b4)) w' bq (onIx ((whichN a).take j) (fD a) x.ps) vcs (cur.toList.drop 9)) (fun j => (whichN a).length - j) 0 (by repeat (first | exact trivial | refine ⟨rfl, ?_⟩)) ⟨Nat.zero_le _, Ext.refl _ _, g.vcs, ?_⟩ ?_
      · have : onIx ((whichN a).take 0) (fD a) x.ps = x.ps := by
          obtain ⟨q0, q1, q2, hq⟩ := three_cases hE.three
          rw [hq]; rfl
        rw [this]; exact hP10
      rintro j w11 ⟨hj, hx11, vcs, hP11⟩
      unfold pB
      have hb311 := hb310.ext hx11 (by have := hb310.lt; omega)
      have hl11 := hx11.size
      (repeat (first | refine lw_pure hT rfl ?_ | refine lw_nil ?_ | refine cw_seq ?_ | refine cw_region ?_ | refine qw_then ?_))
      refine cw_cond rfl (fun h => ?_) (fun h => ?_)
      · have hlt : j < (whichN a).length := by have := of_decide_eq_true h; omega
        obtain ⟨k, hkj, hk3, hcell⟩ := get j hlt
        have hkk : (ixs a.ask.index)[j]? = some k := by rw [← eI]; exact hkj
        obtain ⟨st1, st2⟩ := onIx_step (fD a) hE.three hkk
        rw [← eI] at st1 st2
        obtain ⟨q, hq0⟩ : ∃ q, x.ps[k]? = some q := ⟨_, papAt_get hE.three hk3⟩
        have hqk := st2.trans hq0
        obtain ⟨vc, hvk⟩ : ∃ vc, vcs[k]? = some vc := ⟨_, List.getElem?_eq_getElem (by rw [hP11.three']; exact hk3)⟩
        have hchk := hP11.chains _ _ _ hqk hvk
        have hqm := List.mem_of_getElem? hq0
        have hrow : Rd w11 bq (0 + k * 3) [.int .i64 q.state, .string q.holder, vc] := by
          have := hP11.blk.rd (k * 3) 3
          rw [row_take hP11.three hP11.three' hk3 hqk hvk] at this
          rwa [Nat.zero_add]
        (repeat (first | refine lw_pure hT rfl ?_ | refine cw_seq ?_ | refine cw_region ?_ | refine qw_then ?_ | refine cw_skip ?_ | refine cw_block ?_))
        refine lw_index hT rfl rfl rfl j rfl hlt ?_
        skip
        refine lw_load hT rfl rfl (v := .int .i64 (k : Nat)) (hx11.cell hcell (by have := hbw; omega)) ?_
        skip
        refine lw_index hT rfl rfl rfl k rfl hk3 ?_
        skip
        refine lw_load_agg hT rfl rfl rfl hrow ?_
        skip
        refine lw_alloc z126 ?_
        intro b12 w12 hbb12 hb12 hx12 hs12
        skip
        refine lw_store_agg hT rfl rfl rfl rfl (by intro v hv; simp at hv; rcases hv with rfl | rfl | rfl <;> first | rfl | exact Sl.one hchk) hb12 (show (3 : Nat) ≤ 3 by decide) ?_
        intro w13 hb13 hx13 hs13
        replace hb13 : Blk w13 b12 [.int .i64 q.state, .string q.holder, vc] 126 := hb13
        refine lw_nil ?_
        refine qw_then ?_
        refine cw_seq ?_
        refine cw_then_cut (α := Value) (fun u => [(2, pB b2), (3, pB b3), (4, pB b4), (7, .int .i64 (i : Nat)), (8, pB b8), (9, .slice (some ⟨bq, 0, none⟩) 3 capq), (10, .slice (some ⟨bw, ow, none⟩) (whichN a).length vcap), (11, .int .i64 (j : Nat)), (12, pB b12)])
          (fun u w' => Ex w11 w' ∧ Blk w' b12 [.int .i64 (fD a q).state, .string (fD a q).holder, u] 126 ∧ SlE (fun b => (A0' b ∨ w.heap.size ≤ b) ∧ (b ≠ bq ∧ b ≠ b8 ∧ b ≠ b2 ∧ b ≠ b4)) w' u (fD a q).chain) ?_ ?_
        · have hx1113 : Ex w11 w13 := hx12.up_new hx13 (fun i hi => by omega)
          have hb313 := hb311.ex hx1113
          have hch13 := hchk.ex hx1113
          unfold pB
          have hks : a.kind = 1 ∨ a.kind = 2 ∨ a.kind = 3 ∨ a.kind = 4 ∨ a.kind = 5 := by omega
          (repeat (first | refine lw_pure hT rfl ?_ | refine cw_seq ?_ | refine cw_region ?_))
          refine lw_load hT rfl rfl (v := .int .i64 a.kind) (hb313.cell 0) ?_
          (repeat (first | refine lw_pure hT rfl ?_ | refine lw_nil ?_ | refine cw_seq ?_ | refine cw_region ?_ | refine qw_then ?_ | refine cw_block ?_))
          refine cw_cond rfl (fun h1 => ?_) (fun h1 => ?_)
          · have h1 : a.kind = 1 := by simpa using h1
            have efD : fD a = endorseP a.by_ a.to_ a.day := by unfold fD; rw [if_pos h1]
            rw [efD]
            (repeat (first | refine lw_pure hT rfl ?_ | refine cw_seq ?_ | refine cw_region ?_))
            refine lw_load hT rfl rfl (v := .string a.to_) (hb313.cell 5) ?_
            (repeat (refine lw_pure hT rfl ?_))
            refine lw_store (size := 1) hT rfl rfl rfl rfl hb13 (show (1 : Nat) < 3 by decide) ?_
            intro w15 hb15 hx15 hs15
            replace hb15 : Blk w15 b12 [.int .i64 q.state, .string a.to_, vc] 126 := hb15
            have hx1115 : Ex w11 w15 := hx1113.up_new hx15 (fun i hi => by omega)
            have hb315 := hb311.ex hx1115
            have hch15 : SlE (fun b => (A0' b ∨ w.heap.size ≤ b) ∧ (b ≠ bq ∧ b ≠ b8 ∧ b ≠ b2 ∧ b ≠ b4)) w15 vc q.chain := hchk.ex hx1115
            have hqs : q.chain.length ≤ 1000000 := (hsm x (List.mem_of_getElem? hx_)).1 _ hqm
            have hl15 := hx1115.size
            have fin17 : ∀ (u2 : Value) (wa wb : World), Ex w15 wa → Ext (· = b12) wa wb → Blk wb b12 ([.int .i64 q.state, .string a.to_, vc].set 2 u2) 126 →
                wa.ownsRow w15.heap.size 139 4 u2 (q.chain.length + 1) ((q.chain.map encE).flatten ++ encE (newE a.by_ a.to_ a.day)) →
                Ex w11 wb ∧ Blk wb b12 [.int .i64 (endorseP a.by_ a.to_ a.day q).state, .string (endorseP a.by_ a.to_ a.day q).holder, u2] 126 ∧ SlE (fun b => (A0' b ∨ w.heap.size ≤ b) ∧ (b ≠ bq ∧ b ≠ b8 ∧ b ≠ b2 ∧ b ≠ b4)) wb u2 (endorseP a.by_ a.to_ a.day q).chain := by
              intro u2 wa wb hxa hxb hblk how
              have hla := hxa.size
              refine ⟨(hx1115.trans hxa).up_new hxb (fun i hi => by omega), hblk, ?_⟩
              have how' := own_ext how hxb (fun k hk e => by have := own_base how hk; have := hb15.lt; omega)
              refine own_sl (base := w15.heap.size) (e := 139) ?_ encE_len (fun k hk => ?_)
              · simp only [endorseP, List.length_map, List.length_append, List.length_singleton, List.map_append, List.flatten_append]
                exact how'
              · have := own_base how hk
                have := hx04.size
                exact ⟨.inr (by omega), by omega, by omega, by omega, by omega⟩
            (repeat (first | refine lw_nil ?_ | refine qw_then ?_))
            refine cw_draw hM (fun w' => Ex w15 w') [14] rfl rfl (by repeat (first | with_reducible refine nop_then ?_ | with_reducible refine nop_block ?_ | with_reducible exact nop_body)) (fun w16 hx16 _ => ⟨hx16, ?_⟩)
            (refine rw_takeP 1 rfl rfl (by kernel_rfl) (by kernel_rfl) (by kernel_rfl) (by kernel_rfl) rfl (yo_pure hT rfl) ?_)
            refine rw_take 2 rfl rfl (by kernel_rfl) (by kernel_rfl) (by kernel_rfl) (by kernel_rfl) rfl (yo_load hT rfl rfl (fun w' hS => Ex.cell hS (hb15.cell 2))) ?_
            (refine rw_takeP 4 rfl rfl (by kernel_rfl) (by kernel_rfl) (by kernel_rfl) (by kernel_rfl) rfl (yo_pure hT rfl) ?_)
            refine rw_take 5 rfl rfl (by kernel_rfl) (by kernel_rfl) (by kernel_rfl) (by kernel_rfl) rfl (yo_load hT rfl rfl (v := .string a.by_) (fun w' hS => Ex.cell hS (hb315.cell 4))) ?_
            (refine rw_takeP 6 rfl rfl (by kernel_rfl) (by kernel_rfl) (by kernel_rfl) (by kernel_rfl) rfl (yo_pure hT rfl) ?_)
            refine rw_take 7 rfl rfl (by kernel_rfl) (by kernel_rfl) (by kernel_rfl) (by kernel_rfl) rfl (yo_load hT rfl rfl (v := .string a.to_) (fun w' hS => Ex.cell hS (hb315.cell 5))) ?_
            (refine rw_takeP 8 rfl rfl (by kernel_rfl) (by kernel_rfl) (by kernel_rfl) (by kernel_rfl) rfl (yo_pure hT rfl) ?_)
            refine rw_take 9 rfl rfl (by kernel_rfl) (by kernel_rfl) (by kernel_rfl) (by kernel_rfl) rfl (yo_load hT rfl rfl (v := .int .i64 a.day) (fun w' hS => Ex.cell hS (hb315.cell 2))) ?_
            refine rw_takeP 10 rfl rfl (by kernel_rfl) (by kernel_rfl) (by kernel_rfl) (by kernel_rfl) rfl (yo_build bt139 rfl) ?_
            refine rw_two 0 11 rfl rfl (by kernel_rfl) rfl rfl (fun hcl => ?_) (fun hcl => ?_)
            · refine lw_buildSlice sl82 rfl rfl rfl ?_
              intro e0 w17 he0 hbe0 hx17 hs17
              have hC17 := hx16.trans hx17
              have own17 : w17.ownsRow w15.heap.size 139 4 (.slice (some ⟨e0, 0, none⟩) 0 0) 0 [] := own_lit hbe0 (by have := hx16.size; omega) rfl (by decide)
              (repeat (refine lw_nil ?_))
              refine qw_rw (by repeat (first | with_reducible refine nop_then ?_ | with_reducible refine nop_block ?_ | with_reducible exact nop_body)) hcl (fun _ => hC17) ?_
              refine rw_two 3 11 rfl rfl (by kernel_rfl) rfl rfl (fun hcl => ?_) (fun hcl => ?_)
              · refine lw_append_sl sl82 (by decide) rfl own17 rfl (hch15.ex hC17) encE_one (by simp [maxLen]; omega) (by simp; omega) (by have := hC17.size; omega) ?_
                intro u1 w18 g1 g2 g3 g4
                have hC18 : Ex w15 w18 := hC17.up_new g2 (fun i h => by simp [Value.ownBlock] at h; have := hx16.size; have := hC17.size; omega)
                rw [Nat.zero_add, List.nil_append, List.length_map] at g1
                (repeat (refine lw_nil ?_))
                refine qw_rw (by repeat (first | with_reducible refine nop_then ?_ | with_reducible refine nop_block ?_ | with_reducible exact nop_body)) hcl (fun _ => hC18) ?_
                refine rw_one 11 rfl (by kernel_rfl) rfl (fun hcl => ?_)
                refine lw_buildSlice sl82 rfl rfl rfl ?_
                intro e11 w19 he11 hbe11 hx19 hs19
                replace hbe11 : Blk w19 e11 (encE (newE a.by_ a.to_ a.day)) 139 := hbe11
                have hC19 := hC18.trans hx19
                have own19 := own_ex g1 hx19
                (repeat (refine lw_nil ?_))
                refine qw_rw (by repeat (first | with_reducible refine nop_then ?_ | with_reducible refine nop_block ?_ | with_reducible exact nop_body)) hcl (fun _ => hC19) ?_
                refine rw_one 12 rfl (by kernel_rfl) rfl (fun hcl => ?_)
                refine lw_append sl82 (by decide) rfl own19 rfl (hbe11.rd 0 4) rfl (by intro u hu; simp [encE] at hu; rcases hu with rfl | rfl | rfl | rfl <;> rfl) (by unfold maxLen; omega) (by omega) (by have := hC19.size; omega) ?_
                intro u2 w20 k1 k2 k3 k4
                have hu1b : ∀ k, Value.ownBlock u1 = some k → w15.heap.size ≤ k := fun k hk => (own_base g1 hk).1
                have hC20 : Ex w15 w20 := hC19.up_new k2 (fun i h => hu1b i h.symm)
                (repeat (refine lw_nil ?_))
                refine qw_rw (by repeat (first | with_reducible refine nop_then ?_ | with_reducible refine nop_block ?_ | with_reducible exact nop_body)) hcl (fun _ => hC20) ?_
                (refine rw_takeP 13 rfl rfl (by kernel_rfl) (by kernel_rfl) (by kernel_rfl) (by kernel_rfl) rfl (yo_pure hT rfl) ?_)
                refine rw_one 14 rfl (by kernel_rfl) rfl (fun hcl => ?_)
                refine lw_store (size := 1) hT rfl rfl rfl (own_one k1) (hb15.ex hC20) (show (2 : Nat) < 3 by decide) ?_
                intro w21 hbz hxz hsz
                (repeat (refine lw_nil ?_))
                refine qw_rw (by repeat (first | with_reducible refine nop_then ?_ | with_reducible refine nop_block ?_ | with_reducible exact nop_body)) hcl (fun h => absurd h (by decide)) ?_
                refine rw_done (by kernel_rfl) ?_
                (repeat (refine qw_block ?_))
                exact qw_cut u2 (by repeat (first | exact trivial | refine ⟨rfl, ?_⟩)) (fin17 u2 w20 w21 hC20 hxz hbz k1)
              · refine lw_buildSlice sl82 rfl rfl rfl ?_
                intro e11 w18 he11 hbe11 hx18 hs18
                replace hbe11 : Blk w18 e11 (encE (newE a.by_ a.to_ a.day)) 139 := hbe11
                have hC18 := hC17.trans hx18
                have own18 := own_ex own17 hx18
                (repeat (refine lw_nil ?_))
                refine qw_rw (by repeat (first | with_reducible refine nop_then ?_ | with_reducible refine nop_block ?_ | with_reducible exact nop_body)) hcl (fun _ => hC18) ?_
                refine rw_one 3 rfl (by kernel_rfl) rfl (fun hcl => ?_)
                refine lw_append_sl sl82 (by decide) rfl own18 rfl (hch15.ex hC18) encE_one (by simp [maxLen]; omega) (by simp; omega) (by have := hC18.size; omega) ?_
                intro u1 w19 g1 g2 g3 g4
                have hC19 : Ex w15 w19 := hC18.up_new g2 (fun i h => by simp [Value.ownBlock] at h; have := hx16.size; have := hC17.size; omega)
                rw [Nat.zero_add, List.nil_append, List.length_map] at g1
                have be19 := hbe11.ext g2 (by simp [Value.ownBlock]; have := hC18.size; omega)
                (repeat (refine lw_nil ?_))
                refine qw_rw (by repeat (first | with_reducible refine nop_then ?_ | with_reducible refine nop_block ?_ | with_reducible exact nop_body)) hcl (fun _ => hC19) ?_
                refine rw_one 12 rfl (by kernel_rfl) rfl (fun hcl => ?_)
                refine lw_append sl82 (by decide) rfl g1 rfl (be19.rd 0 4) rfl (by intro u hu; simp [encE] at hu; rcases hu with rfl | rfl | rfl | rfl <;> rfl) (by unfold maxLen; omega) (by omega) (by have := hC19.size; omega) ?_
                intro u2 w20 k1 k2 k3 k4
                have hu1b : ∀ k, Value.ownBlock u1 = some k → w15.heap.size ≤ k := fun k hk => (own_base g1 hk).1
                have hC20 : Ex w15 w20 := hC19.up_new k2 (fun i h => hu1b i h.symm)
                (repeat (refine lw_nil ?_))
                refine qw_rw (by repeat (first | with_reducible refine nop_then ?_ | with_reducible refine nop_block ?_ | with_reducible exact nop_body)) hcl (fun _ => hC20) ?_
                (refine rw_takeP 13 rfl rfl (by kernel_rfl) (by kernel_rfl) (by kernel_rfl) (by kernel_rfl) rfl (yo_pure hT rfl) ?_)
                refine rw_one 14 rfl (by kernel_rfl) rfl (fun hcl => ?_)
                refine lw_store (size := 1) hT rfl rfl rfl (own_one k1) (hb15.ex hC20) (show (2 : Nat) < 3 by decide) ?_
                intro w21 hbz hxz hsz
                (repeat (refine lw_nil ?_))
                refine qw_rw (by repeat (first | with_reducible refine nop_then ?_ | with_reducible refine nop_block ?_ | with_reducible exact nop_body)) hcl (fun h => absurd h (by decide)) ?_
                refine rw_done (by kernel_rfl) ?_
                (repeat (refine qw_block ?_))
                exact qw_cut u2 (by repeat (first | exact trivial | refine ⟨rfl, ?_⟩)) (fin17 u2 w20 w21 hC20 hxz hbz k1)
            · refine lw_buildSlice sl82 rfl rfl rfl ?_
              intro e11 w17 he11 hbe11 hx17 hs17
              replace hbe11 : Blk w17 e11 (encE (newE a.by_ a.to_ a.day)) 139 := hbe11
              have hC17 := hx16.trans hx17
              (repeat (refine lw_nil ?_))
              refine qw_rw (by repeat (first | with_reducible refine nop_then ?_ | with_reducible refine nop_block ?_ | with_reducible exact nop_body)) hcl (fun _ => hC17) ?_
              refine rw_one 0 rfl (by kernel_rfl) rfl (fun hcl => ?_)
              refine lw_buildSlice sl82 rfl rfl rfl ?_
              intro e0 w18 he0 hbe0 hx18 hs18
              have hC18 := hC17.trans hx18
              have own18 : w18.ownsRow w15.heap.size 139 4 (.slice (some ⟨e0, 0, none⟩) 0 0) 0 [] := own_lit hbe0 (by have := hC17.size; omega) rfl (by decide)
              have be18 := hbe11.ex hx18
              (repeat (refine lw_nil ?_))
              refine qw_rw (by repeat (first | with_reducible refine nop_then ?_ | with_reducible refine nop_block ?_ | with_reducible exact nop_body)) hcl (fun _ => hC18) ?_
              refine rw_one 3 rfl (by kernel_rfl) rfl (fun hcl => ?_)
              refine lw_append_sl sl82 (by decide) rfl own18 rfl (hch15.ex hC18) encE_one (by simp [maxLen]; omega) (by simp; omega) (by have := hC18.size; omega) ?_
              intro u1 w19 g1 g2 g3 g4
              have hC19 : Ex w15 w19 := hC18.up_new g2 (fun i h => by simp [Value.ownBlock] at h; have := hx16.size; have := hC17.size; omega)
              rw [Nat.zero_add, List.nil_append, List.length_map] at g1
              have be19 := be18.ext g2 (by simp [Value.ownBlock]; have := hC18.size; omega)
              (repeat (refine lw_nil ?_))
              refine qw_rw (by repeat (first | with_reducible refine nop_then ?_ | with_reducible refine nop_block ?_ | with_reducible exact nop_body)) hcl (fun _ => hC19) ?_
              refine rw_one 12 rfl (by kernel_rfl) rfl (fun hcl => ?_)
              refine lw_append sl82 (by decide) rfl g1 rfl (be19.rd 0 4) rfl (by intro u hu; simp [encE] at hu; rcases hu with rfl | rfl | rfl | rfl <;> rfl) (by unfold maxLen; omega) (by omega) (by have := hC19.size; omega) ?_
              intro u2 w20 k1 k2 k3 k4
              have hu1b : ∀ k, Value.ownBlock u1 = some k → w15.heap.size ≤ k := fun k hk => (own_base g1 hk).1
              have hC20 : Ex w15 w20 := hC19.up_new k2 (fun i h => hu1b i h.symm)
              (repeat (refine lw_nil ?_))
              refine qw_rw (by repeat (first | with_reducible refine nop_then ?_ | with_reducible refine nop_block ?_ | with_reducible exact nop_body)) hcl (fun _ => hC20) ?_
              (refine rw_takeP 13 rfl rfl (by kernel_rfl) (by kernel_rfl) (by kernel_rfl) (by kernel_rfl) rfl (yo_pure hT rfl) ?_)
              refine rw_one 14 rfl (by kernel_rfl) rfl (fun hcl => ?_)
              refine lw_store (size := 1) hT rfl rfl rfl (own_one k1) (hb15.ex hC20) (show (2 : Nat) < 3 by decide) ?_
              intro w21 hbz hxz hsz
              (repeat (refine lw_nil ?_))
              refine qw_rw (by repeat (first | with_reducible refine nop_then ?_ | with_reducible refine nop_block ?_ | with_reducible exact nop_body)) hcl (fun h => absurd h (by decide)) ?_
              refine rw_done (by kernel_rfl) ?_
              (repeat (refine qw_block ?_))
              exact qw_cut u2 (by repeat (first | exact trivial | refine ⟨rfl, ?_⟩)) (fin17 u2 w20 w21 hC20 hxz hbz k1)
          · have h1 : ¬ a.kind = 1 := by simpa using h1
            (repeat (first | refine lw_pure hT rfl ?_ | refine lw_nil ?_ | refine cw_seq ?_ | refine cw_region ?_ | refine qw_then ?_))
            refine cw_cond rfl (fun h3 => ?_) (fun h3 => ?_)
            · have h3 : a.kind = 3 := by simpa using h3
              have efD : fD a = stateP 3 := by unfold fD; rw [if_neg h1, if_pos h3]
              rw [efD]
              (repeat (first | refine lw_pure hT rfl ?_ | refine cw_region ?_))
              refine lw_store (size := 1) hT rfl rfl rfl rfl hb13 (show (0 : Nat) < 3 by decide) ?_
              intro w15 hb15 hx15 hs15
              (repeat (first | refine lw_nil ?_ | refine qw_block ?_))
              exact qw_cut _ (by repeat (first | exact trivial | refine ⟨rfl, ?_⟩)) ⟨hx1113.up_new hx15 (fun i hi => by omega), hb15, hchk.ex (hx1113.up_new hx15 (fun i hi => by omega))⟩
            · have h3 : ¬ a.kind = 3 := by simpa using h3
              (repeat (first | refine lw_pure hT rfl ?_ | refine lw_nil ?_ | refine cw_seq ?_ | refine cw_region ?_ | refine qw_then ?_))
              refine cw_cond rfl (fun h4 => ?_) (fun h4 => ?_)
              · have h4 : a.kind = 4 := by simpa using h4
                have efD : fD a = stateP 0 := by unfold fD; rw [if_neg h1, if_neg h3, if_pos h4]
                rw [efD]
                (repeat (first | refine lw_pure hT rfl ?_ | refine cw_region ?_))
                refine lw_store (size := 1) hT rfl rfl rfl rfl hb13 (show (0 : Nat) < 3 by decide) ?_
                intro w15 hb15 hx15 hs15
                (repeat (first | refine lw_nil ?_ | refine qw_block ?_))
                exact qw_cut _ (by repeat (first | exact trivial | refine ⟨rfl, ?_⟩)) ⟨hx1113.up_new hx15 (fun i hi => by omega), hb15, hchk.ex (hx1113.up_new hx15 (fun i hi => by omega))⟩
              · have h4 : ¬ a.kind = 4 := by simpa using h4
                have efD : fD a = id := by unfold fD; rw [if_neg h1, if_neg h3, if_neg h4]
                rw [efD]
                (repeat (first | refine cw_skip ?_ | refine qw_block ?_))
                exact qw_cut _ (by repeat (first | exact trivial | refine ⟨rfl, ?_⟩)) ⟨hx1113, hb13, hch13⟩
        rintro u w14 ⟨hx14, hb14, hch14⟩
        have hx1014 : Ext (· = bq) w10 w14 := hx11.up hx14
        have hl14 := hx14.size
        have hP14 : Blk w14 bq ((rowsOf (onIx ((whichN a).take j) (fD a) x.ps) vcs).flatten ++ cur.toList.drop 9) 126 := hP11.blk.ex hx14
        unfold pB
        (repeat (refine qw_then ?_))
        refine cw_draw hM (fun w' => Ex w14 w') [7] rfl rfl (by repeat (first | with_reducible refine nop_then ?_ | with_reducible refine nop_block ?_ | with_reducible exact nop_body)) (fun w15 hx15 _ => ⟨hx15, ?_⟩)
        (refine rw_takeP 0 rfl rfl (by kernel_rfl) (by kernel_rfl) (by kernel_rfl) (by kernel_rfl) rfl (yo_pure hT rfl) ?_; refine rw_takeP 1 rfl rfl (by kernel_rfl) (by kernel_rfl) (by kernel_rfl) (by kernel_rfl) rfl (yo_pure hT rfl) ?_; refine rw_takeP 2 rfl rfl (by kernel_rfl) (by kernel_rfl) (by kernel_rfl) (by kernel_rfl) rfl (yo_pure hT rfl) ?_)
        refine rw_takeP 3 rfl rfl (by kernel_rfl) (by kernel_rfl) (by kernel_rfl) (by kernel_rfl) rfl (yo_index hT rfl rfl rfl j rfl hlt) ?_
        refine rw_take 4 rfl rfl (by kernel_rfl) (by kernel_rfl) (by kernel_rfl) (by kernel_rfl) rfl (yo_load hT rfl rfl (v := .int .i64 (k : Nat)) (fun w' hS => Ex.cell hS (hx1014.cell hcell (by have := hbw; omega)))) ?_
        refine rw_take 5 rfl rfl (by kernel_rfl) (by kernel_rfl) (by kernel_rfl) (by kernel_rfl) rfl (yo_load_agg hT rfl rfl rfl (fun w' hS => (hb14.ex hS).rd 0 3)) ?_
        refine rw_takeP 6 rfl rfl (by kernel_rfl) (by kernel_rfl) (by kernel_rfl) (by kernel_rfl) rfl (yo_index hT rfl rfl rfl k rfl hk3) ?_
        refine rw_one 7 rfl (by kernel_rfl) rfl (fun hcl => ?_)
        refine lw_store_agg hT rfl rfl rfl rfl (by intro v hv; simp at hv; rcases hv with rfl | rfl | rfl <;> first | rfl | exact Sl.one hch14) (hP14.ex hx15) (show 0 + k * 3 + 3 ≤ _ by rw [rows_len hP11.three hP11.three']; omega) ?_
        intro w16 hb16 hx16 hs16
        (repeat (refine lw_nil ?_))
        refine qw_rw (by repeat (first | with_reducible refine nop_then ?_ | with_reducible refine nop_block ?_ | with_reducible exact nop_body)) hcl (fun h => absurd h (by decide)) ?_
        refine rw_done (by kernel_rfl) ?_
        (repeat (first | (refine lw_add rfl rfl ?_ ?_ ?_; iterate 2 omega) | refine lw_pure hT rfl ?_ | refine lw_nil ?_ | refine cw_region ?_ | refine qw_then ?_ | refine qw_block ?_))
        have hxE : Ext (· = bq) w11 w16 := ((Ext.of_ex hx14).up hx15).trans hx16
        refine qw_round (j + 1) (by repeat (first | exact trivial | refine ⟨rfl, ?_⟩)) ⟨hlt, hx11.trans hxE, vcs.set k u, ?_⟩ (by omega)
        rw [st1, onIx_set hP11.three hk3 hqk]
        refine ⟨by simp [hP11.three], by simp [hP11.three'], ?_, ?_⟩
        · rw [← set_row hP11.three hP11.three' hk3 (fD a q) u]
          have e : 0 + k * 3 = k * 3 := Nat.zero_add _
          rw [e] at hb16; exact hb16
        · intro j' q' vc' hq' hvc'
          have hxu : Ext (· = bq) w14 w16 := (Ext.of_ex hx15).trans hx16
          by_cases e : k = j'
          · subst e
            rw [List.getElem?_set_self (by rw [hP11.three]; exact hk3)] at hq'
            rw [List.getElem?_set_self (by rw [hP11.three']; exact hk3)] at hvc'
            cases hq'; cases hvc'
            exact hch14.ext hxu (fun b hb => hb.2.1)
          · rw [List.getElem?_set_ne e] at hq' hvc'
            exact (hP11.chains j' q' vc' hq' hvc').ext hxE (fun b hb => hb.2.1)
      · have hjn : j = (whichN a).length := by have := of_decide_eq_false h; omega
        subst hjn
        rw [List.take_length] at hP11
        have hb811 : Blk w11 b8 (entF (x, g)) 56 := ((hb87.ex hx79).ex hx10).ext hx11 (by have := hb87.lt; omega)
        (repeat (first | refine cw_skip ?_ | refine cw_exit ?_ | refine qw_then_exit ?_ | refine qw_block_exit ?_ | refine qw_then ?_))
        refine cw_seq ?_
        have hb311 : Blk w11 b3 (encAct a vb vp) 73 := hb310.ext hx11 (by have := hb310.lt; omega)
        refine cw_then_cut (α := Unit) (fun _ => [(2, pB b2), (3, pB b3), (4, pB b4), (7, .int .i64 (i : Nat)), (8, pB b8), (9, .slice (some ⟨bq, 0, none⟩) 3 capq)])
          (fun _ w' => Ext (fun b => b = bq ∨ b = b8) w11 w' ∧ PapsAt (fun b => (A0' b ∨ w.heap.size ≤ b) ∧ (b ≠ bq ∧ b ≠ b8 ∧ b ≠ b2 ∧ b ≠ b4)) w' bq (midP a (onIx (whichN a) (fD a) x.ps)) vcs (cur.toList.drop 9) ∧ Blk w' b8 (entF ({ x with state := midS a x.state }, g)) 56) ?_ ?_
        · unfold pB
          (repeat (first | refine lw_pure hT rfl ?_ | refine cw_seq ?_ | refine cw_region ?_))
          refine lw_load hT rfl rfl (v := .int .i64 a.kind) (hb311.cell 0) ?_
          (repeat (refine lw_pure hT rfl ?_))
          refine lw_guard rfl (fun h2 => ?_) (fun h2 => ?_)
          · have hv : a.kind = 2 ∨ a.kind = 5 := .inl (by simpa using h2)
            (repeat (first | refine lw_pure hT rfl ?_ | refine lw_nil ?_ | refine cw_seq ?_ | refine cw_region ?_ | refine qw_then ?_ | (refine lw_goff_t rfl ?_ ?_; focus (first | with_reducible rfl | with_reducible exact Bool.not_false | with_reducible exact Bool.not_true)) | refine cw_block ?_ | (refine cw_cond_t rfl ?_ ?_; focus (first | with_reducible rfl | with_reducible exact Bool.not_false | with_reducible exact Bool.not_true))))
            refine cw_loop (fun t : Nat => [(2, .pointer (some ⟨b2, 0, none⟩)), (3, .pointer (some ⟨b3, 0, none⟩)), (4, .pointer (some ⟨b4, 0, none⟩)), (7, .int .i64 (i : Nat)), (8, .pointer (some ⟨b8, 0, none⟩)), (9, .slice (some ⟨bq, 0, none⟩) 3 capq), (13, .int .i64 (t : Nat))])
              (fun t w' => t ≤ 3 ∧ Ext (· = bq) w11 w' ∧ PapsAt (fun b => (A0' b ∨ w.heap.size ≤ b) ∧ (b ≠ bq ∧ b ≠ b8 ∧ b ≠ b2 ∧ b ≠ b4)) w' bq (voided (onIx (whichN a) (fD a) x.ps) t) vcs (cur.toList.drop 9)) (fun t => 3 - t) 0 (by repeat (first | exact trivial | refine ⟨rfl, ?_⟩)) ⟨by omega, Ext.refl _ _, hP11⟩ ?_
            rintro t w12 ⟨ht, hx12, hP12⟩
            (repeat (first | refine lw_pure hT rfl ?_ | refine lw_nil ?_ | refine cw_seq ?_ | refine cw_region ?_ | refine qw_then ?_))
            refine cw_cond rfl (fun h => ?_) (fun h => ?_)
            · have hlt : t < 3 := by have := of_decide_eq_true h; omega
              (repeat (first | refine lw_pure hT rfl ?_ | refine cw_seq ?_ | refine cw_region ?_ | refine qw_then ?_ | refine cw_skip ?_ | refine cw_block ?_))
              refine lw_index hT rfl rfl rfl t rfl hlt ?_
              (repeat (refine lw_pure hT rfl ?_))
              refine lw_store (size := 1) hT rfl rfl rfl rfl hP12.blk (show 0 + t * 3 + 0 < _ by rw [rows_len hP12.three hP12.three']; omega) ?_
              intro w13 hb13 hx13 hs13
              have e : 0 + t * 3 + 0 = t * 3 := by omega
              rw [e] at hb13
              have hP13 := hP12.states (fun b hb => hb.2.1) hlt 2 hx13 hb13
              rw [voided_step hP11.three hlt] at hP13
              (repeat (first | (refine lw_add rfl rfl ?_ ?_ ?_; iterate 2 omega) | refine lw_pure hT rfl ?_ | refine lw_nil ?_ | refine cw_region ?_ | refine qw_then ?_ | refine qw_block ?_))
              exact qw_round (t + 1) (by repeat (first | exact trivial | refine ⟨rfl, ?_⟩)) ⟨hlt, hx12.trans hx13, hP13⟩ (by omega)
            · have : t = 3 := by have := of_decide_eq_false h; omega
              subst this
              rw [voided_3 hP11.three] at hP12
              (repeat (first | refine lw_pure hT rfl ?_ | refine cw_region ?_ | refine qw_then ?_ | refine cw_exit ?_ | refine qw_block_exit ?_ | refine qw_then_exit ?_))
              refine lw_store (size := 1) hT rfl rfl rfl rfl (hb811.ext hx12 (by have := hb87.lt; omega)) (show (9 : Nat) < 11 by decide) ?_
              intro w13 hb13 hx13 hs13
              (repeat (refine lw_nil ?_))
              refine qw_cut () (by repeat (first | exact trivial | refine ⟨rfl, ?_⟩)) ⟨(hx12.mono fun _ _ h => .inl h).trans (hx13.mono fun _ _ h => .inr h), ?_, ?_⟩
              · unfold midP; rw [if_pos hv]
                exact ⟨hP12.three, hP12.three', hP12.blk.ext hx13 (by have := hb87.lt; omega), fun i' q' vc' h1 h2 => (hP12.chains i' q' vc' h1 h2).ext hx13 (fun b hb => hb.2.2.1)⟩
              · unfold midS; rw [if_pos hv]; exact hb13
          · (repeat (first | refine lw_pure hT rfl ?_ | (refine lw_gon_f rfl ?_ ?_; focus (first | with_reducible rfl | with_reducible exact Bool.not_false | with_reducible exact Bool.not_true))))
            refine lw_load hT rfl rfl (v := .int .i64 a.kind) (hb311.cell 0) ?_
            (repeat (first | refine lw_pure hT rfl ?_ | refine lw_nil ?_ | refine qw_then ?_ | (refine lw_gon_f rfl ?_ ?_; focus (first | with_reducible rfl | with_reducible exact Bool.not_false | with_reducible exact Bool.not_true))))
            refine cw_cond rfl (fun h5 => ?_) (fun h5 => ?_)
            · have hv : a.kind = 2 ∨ a.kind = 5 := .inr (by simpa using h5)
              (repeat (first | refine lw_pure hT rfl ?_ | refine lw_nil ?_ | refine cw_seq ?_ | refine cw_region ?_ | refine qw_then ?_ | refine cw_block ?_))
              refine cw_loop (fun t : Nat => [(2, .pointer (some ⟨b2, 0, none⟩)), (3, .pointer (some ⟨b3, 0, none⟩)), (4, .pointer (some ⟨b4, 0, none⟩)), (7, .int .i64 (i : Nat)), (8, .pointer (some ⟨b8, 0, none⟩)), (9, .slice (some ⟨bq, 0, none⟩) 3 capq), (13, .int .i64 (t : Nat))])
                (fun t w' => t ≤ 3 ∧ Ext (· = bq) w11 w' ∧ PapsAt (fun b => (A0' b ∨ w.heap.size ≤ b) ∧ (b ≠ bq ∧ b ≠ b8 ∧ b ≠ b2 ∧ b ≠ b4)) w' bq (voided (onIx (whichN a) (fD a) x.ps) t) vcs (cur.toList.drop 9)) (fun t => 3 - t) 0 (by repeat (first | exact trivial | refine ⟨rfl, ?_⟩)) ⟨by omega, Ext.refl _ _, hP11⟩ ?_
              rintro t w12 ⟨ht, hx12, hP12⟩
              (repeat (first | refine lw_pure hT rfl ?_ | refine lw_nil ?_ | refine cw_seq ?_ | refine cw_region ?_ | refine qw_then ?_))
              refine cw_cond rfl (fun h => ?_) (fun h => ?_)
              · have hlt : t < 3 := by have := of_decide_eq_true h; omega
                (repeat (first | refine lw_pure hT rfl ?_ | refine cw_seq ?_ | refine cw_region ?_ | refine qw_then ?_ | refine cw_skip ?_ | refine cw_block ?_))
                refine lw_index hT rfl rfl rfl t rfl hlt ?_
                (repeat (refine lw_pure hT rfl ?_))
                refine lw_store (size := 1) hT rfl rfl rfl rfl hP12.blk (show 0 + t * 3 + 0 < _ by rw [rows_len hP12.three hP12.three']; omega) ?_
                intro w13 hb13 hx13 hs13
                have e : 0 + t * 3 + 0 = t * 3 := by omega
                rw [e] at hb13
                have hP13 := hP12.states (fun b hb => hb.2.1) hlt 2 hx13 hb13
                rw [voided_step hP11.three hlt] at hP13
                (repeat (first | (refine lw_add rfl rfl ?_ ?_ ?_; iterate 2 omega) | refine lw_pure hT rfl ?_ | refine lw_nil ?_ | refine cw_region ?_ | refine qw_then ?_ | refine qw_block ?_))
                exact qw_round (t + 1) (by repeat (first | exact trivial | refine ⟨rfl, ?_⟩)) ⟨hlt, hx12.trans hx13, hP13⟩ (by omega)
              · have : t = 3 := by have := of_decide_eq_false h; omega
                subst this
                rw [voided_3 hP11.three] at hP12
                (repeat (first | refine lw_pure hT rfl ?_ | refine cw_region ?_ | refine qw_then ?_ | refine cw_exit ?_ | refine qw_block_exit ?_ | refine qw_then_exit ?_))
                refine lw_store (size := 1) hT rfl rfl rfl rfl (hb811.ext hx12 (by have := hb87.lt; omega)) (show (9 : Nat) < 11 by decide) ?_
                intro w13 hb13 hx13 hs13
                (repeat (refine lw_nil ?_))
                refine qw_cut () (by repeat (first | exact trivial | refine ⟨rfl, ?_⟩)) ⟨(hx12.mono fun _ _ h => .inl h).trans (hx13.mono fun _ _ h => .inr h), ?_, ?_⟩
                · unfold midP; rw [if_pos hv]
                  exact ⟨hP12.three, hP12.three', hP12.blk.ext hx13 (by have := hb87.lt; omega), fun i' q' vc' h1 h2 => (hP12.chains i' q' vc' h1 h2).ext hx13 (fun b hb => hb.2.2.1)⟩
                · unfold midS; rw [if_pos hv]; exact hb13
            · have hv : ¬ (a.kind = 2 ∨ a.kind = 5) := by simp at h2 h5; omega
              (repeat (refine cw_skip ?_))
              refine qw_cut () (by repeat (first | exact trivial | refine ⟨rfl, ?_⟩)) ⟨Ext.refl _ _, ?_, ?_⟩
              · unfold midP; rw [if_neg hv]; exact hP11
              · unfold midS; rw [if_neg hv]; exact hb811
        rintro _ w12 ⟨hx12, hP12, hb812⟩
        have hb312 : Blk w12 b3 (encAct a vb vp) 73 := hb311.ext hx12 (by have := hb310.lt; have := hb35.lt; rintro (h | h) <;> omega)
        refine qw_then ?_
        refine cw_seq ?_
        refine cw_then_cut (α := Unit) (fun _ => [(2, pB b2), (3, pB b3), (4, pB b4), (7, .int .i64 (i : Nat)), (8, pB b8), (9, .slice (some ⟨bq, 0, none⟩) 3 capq)])
          (fun _ w' => Ext (fun b => b = bq ∨ b = b8) w12 w' ∧ PapsAt (fun b => (A0' b ∨ w.heap.size ≤ b) ∧ (b ≠ bq ∧ b ≠ b8 ∧ b ≠ b2 ∧ b ≠ b4)) w' bq (finP a (midP a (onIx (whichN a) (fD a) x.ps))) vcs (cur.toList.drop 9) ∧ Blk w' b8 (entF ({ x with state := finS a (midS a x.state) }, g)) 56) ?_ ?_
        · unfold pB
          (repeat (first | refine lw_pure hT rfl ?_ | refine cw_seq ?_ | refine cw_region ?_))
          refine lw_load hT rfl rfl (v := .int .i64 a.kind) (hb312.cell 0) ?_
          (repeat (first | refine lw_pure hT rfl ?_ | refine lw_nil ?_ | refine qw_then ?_))
          refine cw_cond rfl (fun h2 => ?_) (fun h2 => ?_)
          · have h2 : a.kind = 2 := by simpa using h2
            obtain ⟨k, hk3, ek, ei⟩ : ∃ k : Nat, k < 3 ∧ whichN a = [k] ∧ a.index = (k : Int) := by
              have e1 : whichD a = [a.index] := by unfold whichD; rw [if_neg (by omega)]
              have e2 : whichN a = [a.index.toNat] := by unfold whichN; rw [e1]; rfl
              have e3 := eW
              rw [e1, e2] at e3
              have e4 : a.index = (a.index.toNat : Int) := by simpa using e3
              exact ⟨a.index.toNat, ixs_lt (index := a.ask.index) (by rw [← eI, e2]; simp), e2, e4⟩
            (repeat (first | refine lw_pure hT rfl ?_ | refine cw_seq ?_ | refine cw_region ?_))
            refine lw_load hT rfl rfl (v := .int .i64 a.index) (hb312.cell 1) ?_
            skip
            refine lw_index hT rfl rfl rfl k ei hk3 ?_
            (repeat (refine lw_pure hT rfl ?_))
            refine lw_store (size := 1) hT rfl rfl rfl rfl hP12.blk (show 0 + k * 3 + 0 < _ by rw [rows_len hP12.three hP12.three']; omega) ?_
            intro w13 hb13 hx13 hs13
            have e : 0 + k * 3 + 0 = k * 3 := by omega
            rw [e] at hb13
            have hP13 := hP12.states (fun b hb => hb.2.1) hk3 1 hx13 hb13
            (repeat (first | refine lw_pure hT rfl ?_ | refine lw_nil ?_ | refine cw_region ?_ | refine qw_then ?_))
            refine lw_store (size := 1) hT rfl rfl rfl rfl (hb812.ext hx13 (by have := hb87.lt; omega)) (show (9 : Nat) < 11 by decide) ?_
            intro w14 hb14 hx14 hs14
            (repeat (refine lw_nil ?_))
            refine qw_cut () (by repeat (first | exact trivial | refine ⟨rfl, ?_⟩)) ⟨(hx13.mono fun _ _ h => .inl h).trans (hx14.mono fun _ _ h => .inr h), ?_, ?_⟩
            · have ef : finP a (midP a (onIx (whichN a) (fD a) x.ps)) = onIx [k] (stateP 1) (midP a (onIx (whichN a) (fD a) x.ps)) := by unfold finP; rw [if_pos h2]; congr 1
              rw [ef]
              exact ⟨hP13.three, hP13.three', hP13.blk.ext hx14 (by have := hb87.lt; omega), fun i' q' vc' h1 h2 => (hP13.chains i' q' vc' h1 h2).ext hx14 (fun b hb => hb.2.2.1)⟩
            · unfold finS; rw [if_pos h2]; exact hb14
          · have h2 : ¬ a.kind = 2 := by simpa using h2
            (repeat (refine cw_skip ?_))
            refine qw_cut () (by repeat (first | exact trivial | refine ⟨rfl, ?_⟩)) ⟨Ext.refl _ _, ?_, ?_⟩
            · unfold finP; rw [if_neg h2]; exact hP12
            · unfold finS; rw [if_neg h2]; exact hb812
        rintro _ w13 ⟨hx13, hP13, hb813⟩
        have hx1113 : Ext (fun b => b = bq ∨ b = b8) w11 w13 := hx12.trans hx13
        have hb213 : Blk w13 b2 (encR c (.slice (some ⟨bL, oL, none⟩) l.length cL)) 28 := ((hb29.ex hx10).ext hx11 (by have := hb25.lt; omega)).ext hx1113 (by have := hb25.lt; rintro (h | h) <;> omega)
        unfold pB
        (repeat (first | refine lw_pure hT rfl ?_ | refine cw_seq ?_ | refine cw_region ?_ | refine qw_then ?_))
        refine lw_store (size := 1) hT rfl rfl rfl rfl hb813 (show (10 : Nat) < 11 by decide) ?_
        intro w14 hb814 hx14 hs14
        (repeat (first | refine lw_nil ?_ | refine cw_seq ?_ | refine qw_then ?_))
        have hl59 := hx59.size
        have hl79 := hx79.size
        have hl57 := hx57.size
        have hx514 : Ex w5 w14 := (((hx59.trans hx10).up_new hx11 (fun i h => by omega)).up_new hx1113 (fun i h => by rcases h with h | h <;> omega)).up_new hx14 (fun i h => by omega)
        have hF14 := hF4.ex (hx5.trans hx514)
        have hb214 : Blk w14 b2 (encR c (.slice (some ⟨bL, oL, none⟩) l.length cL)) 28 := hb213.ext hx14 (by have := hb25.lt; omega)
        have hcl0 : l.length ≤ cL := hF14.cap _ _ _ rfl
        obtain ⟨x1, hx1e⟩ : ∃ x1 : EntD, x1 = { x with state := finS a (midS a x.state), ps := finP a (midP a (onIx (whichN a) (fD a) x.ps)) } := ⟨_, rfl⟩
        obtain ⟨g1, hg1e⟩ : ∃ g1 : FG, g1 = { g with vP := .slice (some ⟨bq, 0, none⟩) 3 capq, vcs := vcs } := ⟨_, rfl⟩
        replace hb814 : Blk w14 b8 (entF (x1, g1)) 56 := by rw [hx1e, hg1e]; exact hb814
        have hzl : ((l.zip gs).map entF).length = l.length := by simp [hF.len]
        have hTk := hF14.sl.cutTo (i := i) (by rw [hzl]; omega)
        have hDr := hF14.sl.cutFrom (i := i + 1) (m := l.length - (i + 1)) (by rw [hzl]; omega) (by rw [hzl]) hcl0
        have hTkl : (((l.zip gs).map entF).take i).length = i := by rw [List.length_take, hzl]; omega
        have hDrl : (((l.zip gs).map entF).drop (i + 1)).length = l.length - (i + 1) := by rw [List.length_drop, hzl]
        have hTk1 : ∀ r ∈ ((l.zip gs).map entF).take i, ∀ u ∈ r, u.oneCell' = true := fun r hr => hF14.one r (List.mem_of_mem_take hr)
        have hDr1 : ∀ r ∈ ((l.zip gs).map entF).drop (i + 1), ∀ u ∈ r, u.oneCell' = true := fun r hr => hF14.one r (List.mem_of_mem_drop hr)
        have hP14 : PapsAt (fun b => (A0' b ∨ w.heap.size ≤ b) ∧ (b ≠ bq ∧ b ≠ b8 ∧ b ≠ b2 ∧ b ≠ b4)) w14 bq (finP a (midP a (onIx (whichN a) (fD a) x.ps))) vcs (cur.toList.drop 9) :=
          ⟨hP13.three, hP13.three', hP13.blk.ext hx14 (by have := hb87.lt; omega), fun i' q' vc' h1 h2 => (hP13.chains i' q' vc' h1 h2).ext hx14 (fun b hb => hb.2.2.1)⟩
        have hE14 := hE5.ex hx514
        have hx04s := hx04.size
        have hE1 : FEnt (fun b => (A0' b ∨ w.heap.size ≤ b) ∧ (b ≠ b2 ∧ b ≠ b4)) w14 x1 g1 := by
          rw [hx1e, hg1e]
          refine ⟨hE14.boxes.weaken fun b hb => ⟨.inl hb.1, by have := hb.2; omega, by have := hb.2; omega⟩, hE14.parents.weaken fun b hb => ⟨.inl hb.1, by have := hb.2; omega, by have := hb.2; omega⟩, hP14.three, hP14.three', hP14.sl ⟨.inr (by omega), by omega, by omega⟩, fun j q vc h1 h2 => (hP14.chains j q vc h1 h2).weaken fun b hb => ⟨hb.1, hb.2.2.2.1, hb.2.2.2.2⟩⟩
        have hx1one := entF_one hE1
        refine cw_then_cut (α := Value) (fun u => [(2, pB b2), (4, pB b4)]) (fun u w' => ∃ wa, Ex w14 wa ∧ wa.ownsRow w14.heap.size 56 11 u (i + 1 + (l.length - (i + 1))) (((((l.zip gs).map entF).take i).flatten ++ entF (x1, g1)) ++ (((l.zip gs).map entF).drop (i + 1)).flatten) ∧ Ext (· = b2) wa w' ∧ Blk w' b2 (encR c u) 28) ?_ ?_
        · unfold pB
          refine cw_draw hM (fun w' => Ex w14 w') [16] rfl rfl (by repeat (first | with_reducible refine nop_then ?_ | with_reducible refine nop_block ?_ | with_reducible exact nop_body)) (fun w15 hx15 _ => ⟨hx15, ?_⟩)
          (refine rw_takeP 1 rfl rfl (by kernel_rfl) (by kernel_rfl) (by kernel_rfl) (by kernel_rfl) rfl (yo_pure hT rfl) ?_)
          refine rw_take 2 rfl rfl (by kernel_rfl) (by kernel_rfl) (by kernel_rfl) (by kernel_rfl) rfl (yo_load hT rfl rfl (v := .slice (some ⟨bL, oL, none⟩) l.length cL) (fun w' hS => Ex.cell hS (hb214.cell 1))) ?_
          (refine rw_takeP 3 rfl rfl (by kernel_rfl) (by kernel_rfl) (by kernel_rfl) (by kernel_rfl) rfl (yo_pure hT rfl) ?_)
          refine rw_takeP 4 rfl rfl (by kernel_rfl) (by kernel_rfl) (by kernel_rfl) (by kernel_rfl) rfl (yo_slice_sl hT rfl rfl rfl rfl 0 i rfl rfl (Nat.zero_le _) (by omega)) ?_
          refine rw_take 6 rfl rfl (by kernel_rfl) (by kernel_rfl) (by kernel_rfl) (by kernel_rfl) rfl (yo_load_agg hT rfl rfl rfl (vs := entF (x1, g1)) (fun w' hS => (hb814.ex hS).rd 0 11)) ?_
          (refine rw_takeP 9 rfl rfl (by kernel_rfl) (by kernel_rfl) (by kernel_rfl) (by kernel_rfl) rfl (yo_pure hT rfl) ?_)
          refine rw_take 10 rfl rfl (by kernel_rfl) (by kernel_rfl) (by kernel_rfl) (by kernel_rfl) rfl (yo_load hT rfl rfl (v := .slice (some ⟨bL, oL, none⟩) l.length cL) (fun w' hS => Ex.cell hS (hb214.cell 1))) ?_
          (refine rw_takeP 11 rfl rfl (by kernel_rfl) (by kernel_rfl) (by kernel_rfl) (by kernel_rfl) rfl (yo_pure hT rfl) ?_)
          refine rw_takeP 12 rfl rfl (by kernel_rfl) (by kernel_rfl) (by kernel_rfl) (by kernel_rfl) rfl (yo_sum rfl rfl (.inl ⟨rfl, rfl⟩) (by omega) (by omega)) ?_
          refine rw_takeP 13 rfl rfl (by kernel_rfl) (by kernel_rfl) (by kernel_rfl) (by kernel_rfl) rfl (yo_slice_sl hT rfl rfl rfl rfl (i + 1) l.length (by omega) rfl (by omega) hcl0) ?_
          refine rw_two 0 7 rfl rfl (by kernel_rfl) rfl rfl (fun hcl => ?_) (fun hcl => ?_)
          · refine lw_buildSlice sl26 rfl rfl rfl ?_
            intro e0 w16 he0 hbe0 hx16 hs16
            have hC16 := hx15.trans hx16
            have own16 : w16.ownsRow w14.heap.size 56 11 (.slice (some ⟨e0, 0, none⟩) 0 0) 0 [] := own_lit hbe0 (by have := hx15.size; omega) rfl (by decide)
            (repeat (refine lw_nil ?_))
            refine qw_rw (by repeat (first | with_reducible refine nop_then ?_ | with_reducible refine nop_block ?_ | with_reducible exact nop_body)) hcl (fun _ => hC16) ?_
            refine rw_two 5 7 rfl rfl (by kernel_rfl) rfl rfl (fun hcl => ?_) (fun hcl => ?_)
            · refine lw_append_sl sl26 (by decide) rfl own16 rfl (hTk.ex hC16) hTk1 (by rw [hTkl]; unfold maxLen; omega) (by rw [hTkl]; omega) (by have := hC16.size; omega) ?_
              intro u1 w17 q1 q2 q3 q4
              have hC17 : Ex w14 w17 := hC16.up_new q2 (fun i h => by simp [Value.ownBlock] at h; have := hx15.size; have := hC16.size; omega)
              rw [Nat.zero_add, List.nil_append, hTkl] at q1
              (repeat (refine lw_nil ?_))
              refine qw_rw (by repeat (first | with_reducible refine nop_then ?_ | with_reducible refine nop_block ?_ | with_reducible exact nop_body)) hcl (fun _ => hC17) ?_
              refine rw_one 7 rfl (by kernel_rfl) rfl (fun hcl => ?_)
              refine lw_buildSlice sl26 rfl rfl rfl ?_
              intro e7 w18 he7 hbe7 hx18 hs18
              replace hbe7 : Blk w18 e7 (entF (x1, g1)) 56 := hbe7
              have hC18 := hC17.trans hx18
              have own18 := own_ex q1 hx18
              (repeat (refine lw_nil ?_))
              refine qw_rw (by repeat (first | with_reducible refine nop_then ?_ | with_reducible refine nop_block ?_ | with_reducible exact nop_body)) hcl (fun _ => hC18) ?_
              refine rw_one 8 rfl (by kernel_rfl) rfl (fun hcl => ?_)
              refine lw_append sl26 (by decide) rfl own18 rfl (hbe7.rd 0 11) rfl hx1one (by unfold maxLen; omega) (by omega) (by have := hC18.size; omega) ?_
              intro u2 w19 k1 k2 k3 k4
              have hC19 : Ex w14 w19 := hC18.up_new k2 (fun i h => (own_base q1 h.symm).1)
              (repeat (refine lw_nil ?_))
              refine qw_rw (by repeat (first | with_reducible refine nop_then ?_ | with_reducible refine nop_block ?_ | with_reducible exact nop_body)) hcl (fun _ => hC19) ?_
              refine rw_one 14 rfl (by kernel_rfl) rfl (fun hcl => ?_)
              refine lw_append_sl sl26 (by decide) rfl k1 rfl (hDr.ex hC19) hDr1 (by rw [hDrl]; unfold maxLen; omega) (by rw [hDrl]; omega) (by have := hC19.size; omega) ?_
              intro u3 w20 m1 m2 m3 m4
              have hC20 : Ex w14 w20 := hC19.up_new m2 (fun i h => (own_base k1 h.symm).1)
              rw [hDrl] at m1
              (repeat (refine lw_nil ?_))
              refine qw_rw (by repeat (first | with_reducible refine nop_then ?_ | with_reducible refine nop_block ?_ | with_reducible exact nop_body)) hcl (fun _ => hC20) ?_
              (refine rw_takeP 15 rfl rfl (by kernel_rfl) (by kernel_rfl) (by kernel_rfl) (by kernel_rfl) rfl (yo_pure hT rfl) ?_)
              refine rw_one 16 rfl (by kernel_rfl) rfl (fun hcl => ?_)
              refine lw_store (size := 1) hT rfl rfl rfl (own_one m1) (hb214.ex hC20) (show (1 : Nat) < 2 by decide) ?_
              intro w21 hbz hxz hsz
              (repeat (refine lw_nil ?_))
              refine qw_rw (by repeat (first | with_reducible refine nop_then ?_ | with_reducible refine nop_block ?_ | with_reducible exact nop_body)) hcl (fun h => absurd h (by decide)) ?_
              refine rw_done (by kernel_rfl) ?_
              skip
              exact qw_cut u3 (by repeat (first | exact trivial | refine ⟨rfl, ?_⟩)) ⟨w20, hC20, m1, hxz, hbz⟩
            · refine lw_buildSlice sl26 rfl rfl rfl ?_
              intro e7 w17 he7 hbe7 hx17 hs17
              replace hbe7 : Blk w17 e7 (entF (x1, g1)) 56 := hbe7
              have hC17 := hC16.trans hx17
              have own17 := own_ex own16 hx17
              (repeat (refine lw_nil ?_))
              refine qw_rw (by repeat (first | with_reducible refine nop_then ?_ | with_reducible refine nop_block ?_ | with_reducible exact nop_body)) hcl (fun _ => hC17) ?_
              refine rw_one 5 rfl (by kernel_rfl) rfl (fun hcl => ?_)
              refine lw_append_sl sl26 (by decide) rfl own17 rfl (hTk.ex hC17) hTk1 (by rw [hTkl]; unfold maxLen; omega) (by rw [hTkl]; omega) (by have := hC17.size; omega) ?_
              intro u1 w18 q1 q2 q3 q4
              have hC18 : Ex w14 w18 := hC17.up_new q2 (fun i h => by simp [Value.ownBlock] at h; have := hx15.size; have := hC16.size; omega)
              rw [Nat.zero_add, List.nil_append, hTkl] at q1
              have be18 := hbe7.ext q2 (by simp [Value.ownBlock]; have := hC17.size; omega)
              (repeat (refine lw_nil ?_))
              refine qw_rw (by repeat (first | with_reducible refine nop_then ?_ | with_reducible refine nop_block ?_ | with_reducible exact nop_body)) hcl (fun _ => hC18) ?_
              refine rw_one 8 rfl (by kernel_rfl) rfl (fun hcl => ?_)
              refine lw_append sl26 (by decide) rfl q1 rfl (be18.rd 0 11) rfl hx1one (by unfold maxLen; omega) (by omega) (by have := hC18.size; omega) ?_
              intro u2 w19 k1 k2 k3 k4
              have hC19 : Ex w14 w19 := hC18.up_new k2 (fun i h => (own_base q1 h.symm).1)
              (repeat (refine lw_nil ?_))
              refine qw_rw (by repeat (first | with_reducible refine nop_then ?_ | with_reducible refine nop_block ?_ | with_reducible exact nop_body)) hcl (fun _ => hC19) ?_
              refine rw_one 14 rfl (by kernel_rfl) rfl (fun hcl => ?_)
              refine lw_append_sl sl26 (by decide) rfl k1 rfl (hDr.ex hC19) hDr1 (by rw [hDrl]; unfold maxLen; omega) (by rw [hDrl]; omega) (by have := hC19.size; omega) ?_
              intro u3 w20 m1 m2 m3 m4
              have hC20 : Ex w14 w20 := hC19.up_new m2 (fun i h => (own_base k1 h.symm).1)
              rw [hDrl] at m1
              (repeat (refine lw_nil ?_))
              refine qw_rw (by repeat (first | with_reducible refine nop_then ?_ | with_reducible refine nop_block ?_ | with_reducible exact nop_body)) hcl (fun _ => hC20) ?_
              (refine rw_takeP 15 rfl rfl (by kernel_rfl) (by kernel_rfl) (by kernel_rfl) (by kernel_rfl) rfl (yo_pure hT rfl) ?_)
              refine rw_one 16 rfl (by kernel_rfl) rfl (fun hcl => ?_)
              refine lw_store (size := 1) hT rfl rfl rfl (own_one m1) (hb214.ex hC20) (show (1 : Nat) < 2 by decide) ?_
              intro w21 hbz hxz hsz
              (repeat (refine lw_nil ?_))
              refine qw_rw (by repeat (first | with_reducible refine nop_then ?_ | with_reducible refine nop_block ?_ | with_reducible exact nop_body)) hcl (fun h => absurd h (by decide)) ?_
              refine rw_done (by kernel_rfl) ?_
              skip
              exact qw_cut u3 (by repeat (first | exact trivial | refine ⟨rfl, ?_⟩)) ⟨w20, hC20, m1, hxz, hbz⟩
          · refine lw_buildSlice sl26 rfl rfl rfl ?_
            intro e7 w16 he7 hbe7 hx16 hs16
            replace hbe7 : Blk w16 e7 (entF (x1, g1)) 56 := hbe7
            have hC16 := hx15.trans hx16
            (repeat (refine lw_nil ?_))
            refine qw_rw (by repeat (first | with_reducible refine nop_then ?_ | with_reducible refine nop_block ?_ | with_reducible exact nop_body)) hcl (fun _ => hC16) ?_
            refine rw_one 0 rfl (by kernel_rfl) rfl (fun hcl => ?_)
            refine lw_buildSlice sl26 rfl rfl rfl ?_
            intro e0 w17 he0 hbe0 hx17 hs17
            have hC17 := hC16.trans hx17
            have own17 : w17.ownsRow w14.heap.size 56 11 (.slice (some ⟨e0, 0, none⟩) 0 0) 0 [] := own_lit hbe0 (by have := hC16.size; omega) rfl (by decide)
            have be17 := hbe7.ex hx17
            (repeat (refine lw_nil ?_))
            refine qw_rw (by repeat (first | with_reducible refine nop_then ?_ | with_reducible refine nop_block ?_ | with_reducible exact nop_body)) hcl (fun _ => hC17) ?_
            refine rw_one 5 rfl (by kernel_rfl) rfl (fun hcl => ?_)
            refine lw_append_sl sl26 (by decide) rfl own17 rfl (hTk.ex hC17) hTk1 (by rw [hTkl]; unfold maxLen; omega) (by rw [hTkl]; omega) (by have := hC17.size; omega) ?_
            intro u1 w18 q1 q2 q3 q4
            have hC18 : Ex w14 w18 := hC17.up_new q2 (fun i h => by simp [Value.ownBlock] at h; have := hx15.size; have := hC16.size; omega)
            rw [Nat.zero_add, List.nil_append, hTkl] at q1
            have be18 := be17.ext q2 (by simp [Value.ownBlock]; have := hC17.size; omega)
            (repeat (refine lw_nil ?_))
            refine qw_rw (by repeat (first | with_reducible refine nop_then ?_ | with_reducible refine nop_block ?_ | with_reducible exact nop_body)) hcl (fun _ => hC18) ?_
            refine rw_one 8 rfl (by kernel_rfl) rfl (fun hcl => ?_)
            refine lw_append sl26 (by decide) rfl q1 rfl (be18.rd 0 11) rfl hx1one (by unfold maxLen; omega) (by omega) (by have := hC18.size; omega) ?_
            intro u2 w19 k1 k2 k3 k4
            have hC19 : Ex w14 w19 := hC18.up_new k2 (fun i h => (own_base q1 h.symm).1)
            (repeat (refine lw_nil ?_))
            refine qw_rw (by repeat (first | with_reducible refine nop_then ?_ | with_reducible refine nop_block ?_ | with_reducible exact nop_body)) hcl (fun _ => hC19) ?_
            refine rw_one 14 rfl (by kernel_rfl) rfl (fun hcl => ?_)
            refine lw_append_sl sl26 (by decide) rfl k1 rfl (hDr.ex hC19) hDr1 (by rw [hDrl]; unfold maxLen; omega) (by rw [hDrl]; omega) (by have := hC19.size; omega) ?_
            intro u3 w20 m1 m2 m3 m4
            have hC20 : Ex w14 w20 := hC19.up_new m2 (fun i h => (own_base k1 h.symm).1)
            rw [hDrl] at m1
            (repeat (refine lw_nil ?_))
            refine qw_rw (by repeat (first | with_reducible refine nop_then ?_ | with_reducible refine nop_block ?_ | with_reducible exact nop_body)) hcl (fun _ => hC20) ?_
            (refine rw_takeP 15 rfl rfl (by kernel_rfl) (by kernel_rfl) (by kernel_rfl) (by kernel_rfl) rfl (yo_pure hT rfl) ?_)
            refine rw_one 16 rfl (by kernel_rfl) rfl (fun hcl => ?_)
            refine lw_store (size := 1) hT rfl rfl rfl (own_one m1) (hb214.ex hC20) (show (1 : Nat) < 2 by decide) ?_
            intro w21 hbz hxz hsz
            (repeat (refine lw_nil ?_))
            refine qw_rw (by repeat (first | with_reducible refine nop_then ?_ | with_reducible refine nop_block ?_ | with_reducible exact nop_body)) hcl (fun h => absurd h (by decide)) ?_
            refine rw_done (by kernel_rfl) ?_
            skip
            exact qw_cut u3 (by repeat (first | exact trivial | refine ⟨rfl, ?_⟩)) ⟨w20, hC20, m1, hxz, hbz⟩
        rintro u w15 ⟨wa, hxa, how, hxb, hb215⟩
        unfold pB
        (repeat (first | refine cw_seq ?_ | refine cw_region ?_ | refine qw_then ?_))
        refine lw_load_agg hT rfl rfl rfl (vs := encR c u) (hb215.rd 0 2) ?_
        skip
        have hua := fun k (hk : Value.ownBlock u = some k) => own_base how hk
        have hla := hxa.size
        have hlb := hxb.size
        have hl514 := hx514.size
        have hb4w : Blk w15 b4 _ 28 := ((hb45.ex hx514).ex hxa).ext hxb (by omega)
        refine lw_store_agg hT rfl rfl rfl rfl (by intro v hv; simp [encR] at hv; rcases hv with rfl | rfl <;> first | rfl | exact own_one how) hb4w (show (2 : Nat) ≤ 2 by decide) ?_
        intro w16 hb16 hx16 hs16
        (repeat (first | refine lw_pure hT rfl ?_ | refine lw_nil ?_ | refine qw_then ?_ | refine cw_ret ?_))
        have hx0a : Ex w wa := (hx04.trans (hx5.trans hx514)).trans hxa
        have hx0b : Ex w w15 := hx0a.up_new hxb (fun i h => by omega)
        have hx0c : Ex w w16 := hx0b.up_new hx16 (fun i h => by omega)
        refine qw_ret_cell hT rfl rfl rfl rfl (vs := encR c u) (hb16.rd 0 2) rfl ⟨⟨u, gs.set i g1, rfl, ?_⟩, hx0c⟩
        have hnum : a.bill = x.bill.number := by
          have := List.find?_some hat
          rw [hxi]; exact of_decide_eq_true this
        have eupd : (RegD.upd ⟨c, l⟩ a.bill (·.after a)).l = l.set i x1 := by
          rw [upd_set' (r := ⟨c, l⟩) (i := i) (x := x) hx_ hnum hN, after_eq hk1 eI eN, hx1e]
        rw [eupd]
        have hs2 : Ext (fun k => k = b2 ∨ k = b4) wa w16 := (hxb.mono fun _ _ h => .inl h).trans (hx16.mono fun _ _ h => .inr h)
        refine FRep.changed hF.len hil (own_ext how hs2 (fun k hk e => by have := hua k hk; rcases e with e | e <;> omega)) (fun k hk => .inr (by have := hua k hk; omega)) ?_ ?_
        · intro j y v _ hy hv
          exact ((hF.ents j y v hy hv).ex hx0c).weaken fun b hb => .inl hb
        · exact ((hE1.ex hxa).ext hs2 (fun b hb e => by rcases e with e | e <;> simp_all)).weaken fun b hb => hb.1
end Go.Proofs.YtnglkhnfmbnfeaaGreat

/- Ha -/
namespace Go.Proofs.YtnglkhnfmbnfeaaGreat
open Go Go.SK

set_option maxHeartbeats 2000000 in
theorem r23_put {A : Nat → Prop} {w : World} {b o c : Nat} {l : List ByteArray} (s : ByteArray) (hS : SlS A w (.slice (some ⟨b, o, none⟩) l.length c) l) (hc : l.length ≤ c) (hl : l.length ≤ 1000) :
    Ret Tryz.prog 105 [.slice (some ⟨b, o, none⟩) l.length c, .string s] w fun u w' => w'.ownsRow w.heap.size 9 1 u (l.length + 1) ((putL l s).map Value.string) ∧ Ex w w' := by
  have hS0 := hS
  obtain ⟨a_, c_, hv, _, hr⟩ := hS.is
  have hrow : ∀ i (hi : i < l.length), Rd w b (o + i * 1) [.string l[i]] := by
    intro i hi
    have hne : l.map (fun s => [Value.string s]) ≠ [] := by intro e; simp at e; subst e; simp at hi
    obtain ⟨bb, oo, e, _, hrd⟩ := hr hne
    simp only [Value.slice.injEq] at hv
    have e2 := hv.1.trans e
    simp only [Option.some.injEq, Addr.mk.injEq, and_true] at e2
    obtain ⟨rfl, rfl⟩ := e2
    exact (hrd i [.string l[i]] (by simp [hi])).2
  refine ret_of Tryz.func105 Tryz.ntmps105 rfl rfl rfl ?_
  (iterate 2 (refine cw_seq ?_; refine cw_region ?_; refine lw_pure hT rfl ?_; refine lw_nil ?_; refine qw_then ?_))
  refine cw_seq ?_
  refine cw_then_cut (α := Nat) (fun k => [(0, .slice (some ⟨b, o, none⟩) l.length c), (1, .string s), (5, .int .i64 (k : Nat))]) (fun k w' => Ex w w' ∧ k ≤ l.length ∧ (∀ j (hj : j < l.length), j < k → ltB l[j] s = true) ∧ ∀ hj : k < l.length, ltB l[k] s = false) ?_ ?_
  · refine cw_block ?_
    refine cw_loop (fun k : Nat => [(0, .slice (some ⟨b, o, none⟩) l.length c), (1, .string s), (5, .int .i64 (k : Nat))]) (fun k w' => Ex w w' ∧ k ≤ l.length ∧ ∀ j (hj : j < l.length), j < k → ltB l[j] s = true) (fun k => l.length - k) 0 (by repeat (first | exact trivial | refine ⟨rfl, ?_⟩)) ⟨Ext.refl _ _, Nat.zero_le _, fun j _ hj => by omega⟩ ?_
    rintro k w1 ⟨hx1, hk, hb⟩
    (repeat (first | refine lw_pure hT rfl ?_ | refine cw_seq ?_ | refine cw_region ?_))
    refine lw_guard rfl (fun e => ?_) (fun e => ?_)
    · have hlt : k < l.length := by have := of_decide_eq_true e; omega
      (repeat (first | refine lw_pure hT rfl ?_ | (refine lw_gon_t rfl ?_ ?_; focus (first | with_reducible rfl | with_reducible exact Bool.not_false | with_reducible exact Bool.not_true))))
      refine lw_index hT rfl rfl rfl k rfl hlt ?_
      (repeat (refine lw_gon_t rfl ?_ ?_; focus (first | with_reducible rfl | with_reducible exact Bool.not_false | with_reducible exact Bool.not_true)))
      refine lw_load hT rfl rfl (v := .string l[k]) (((hrow k hlt).ex hx1) 0 _ rfl) ?_
      (repeat (first | refine lw_pure hT rfl ?_ | refine lw_nil ?_ | refine qw_then ?_ | (refine lw_gon_t rfl ?_ ?_; focus (first | with_reducible rfl | with_reducible exact Bool.not_false | with_reducible exact Bool.not_true))))
      refine cw_cond rfl (fun e' => ?_) (fun e' => ?_)
      · (repeat (first | (refine lw_add rfl rfl ?_ ?_ ?_; iterate 2 omega) | refine lw_pure hT rfl ?_ | refine lw_nil ?_ | refine cw_region ?_ | refine qw_then ?_ | refine cw_skip ?_ | refine cw_block ?_ | refine qw_block ?_))
        refine qw_round (k + 1) (by repeat (first | exact trivial | refine ⟨rfl, ?_⟩)) ⟨hx1, hlt, fun j hj hjk => ?_⟩ (by omega)
        by_cases ej : j = k
        · subst ej; exact e'
        · exact hb j hj (by omega)
      · (repeat (first | refine cw_exit ?_ | refine qw_block_exit ?_ | refine qw_then_exit ?_))
        exact qw_cut k (by repeat (first | exact trivial | refine ⟨rfl, ?_⟩)) ⟨hx1, hk, hb, fun _ => e'⟩
    · have hge : ¬ k < l.length := by have := of_decide_eq_false e; omega
      (repeat (first | refine lw_pure hT rfl ?_ | refine lw_nil ?_ | refine qw_then ?_ | (refine lw_goff_f rfl ?_ ?_; focus (first | with_reducible rfl | with_reducible exact Bool.not_false | with_reducible exact Bool.not_true)) | refine cw_exit ?_ | refine qw_block_exit ?_ | refine qw_then_exit ?_ | (refine cw_cond_f rfl ?_ ?_; focus (first | with_reducible rfl | with_reducible exact Bool.not_false | with_reducible exact Bool.not_true))))
      exact qw_cut k (by repeat (first | exact trivial | refine ⟨rfl, ?_⟩)) ⟨hx1, hk, hb, fun h => absurd h hge⟩
  rintro k w1 ⟨hx1, hk, hb, h2⟩
  have fin : ∀ (u3 : Value) (w9 : World), w9.ownsRow w1.heap.size 9 1 u3 (k + 1 + (l.length - k)) (((((l.map fun s => [Value.string s]).take k).flatten ++ [Value.string s])) ++ ((l.map fun s => [Value.string s]).drop k).flatten) →
      w9.ownsRow w.heap.size 9 1 u3 (l.length + 1) ((putL l s).map Value.string) := by
    intro u3 w9 h
    rw [putL_at hk hb h2]
    have e1 : ((l.map fun s => [Value.string s]).take k).flatten = (l.take k).map Value.string := by rw [← List.map_take]; exact flat4 _
    have e2 : ((l.map fun s => [Value.string s]).drop k).flatten = (l.drop k).map Value.string := by rw [← List.map_drop]; exact flat4 _
    rw [e1, e2, show k + 1 + (l.length - k) = l.length + 1 from by omega] at h
    have := own_mono h hx1.size
    simpa using this
  have hS1 := hS.ex hx1
  have hzl : (l.map fun s => [Value.string s]).length = l.length := List.length_map _
  have hTk := hS1.cutTo (i := k) (by rw [hzl]; exact hk)
  have hDr := hS1.cutFrom (i := k) (m := l.length - k) (by rw [hzl]; exact hk) (by rw [hzl]) hc
  have hTkl : ((l.map fun s => [Value.string s]).take k).length = k := by rw [List.length_take, hzl]; omega
  have hDrl : ((l.map fun s => [Value.string s]).drop k).length = l.length - k := by rw [List.length_drop, hzl]
  have hone : ∀ r ∈ (l.map fun s => [Value.string s]), ∀ u ∈ r, u.oneCell' = true := by intro r hr u hu; obtain ⟨x, _, rfl⟩ := List.mem_map.1 hr; simp at hu; subst hu; rfl
  have hTk1 : ∀ r ∈ (l.map fun s => [Value.string s]).take k, ∀ u ∈ r, u.oneCell' = true := fun r hr => hone r (List.mem_of_mem_take hr)
  have hDr1 : ∀ r ∈ (l.map fun s => [Value.string s]).drop k, ∀ u ∈ r, u.oneCell' = true := fun r hr => hone r (List.mem_of_mem_drop hr)
  (repeat (first | refine cw_seq ?_ | refine qw_then ?_))
  refine cw_draw hM (fun w' => Ex w1 w') [] rfl rfl (by repeat (first | with_reducible refine nop_then ?_ | with_reducible refine nop_block ?_ | with_reducible exact nop_body)) (fun w2 hx2 _ => ⟨hx2, ?_⟩)
  (refine rw_takeP 1 rfl rfl (by kernel_rfl) (by kernel_rfl) (by kernel_rfl) (by kernel_rfl) rfl (yo_pure hT rfl) ?_; refine rw_takeP 2 rfl rfl (by kernel_rfl) (by kernel_rfl) (by kernel_rfl) (by kernel_rfl) rfl (yo_pure hT rfl) ?_)
  refine rw_takeP 3 rfl rfl (by kernel_rfl) (by kernel_rfl) (by kernel_rfl) (by kernel_rfl) rfl (yo_slice_sl hT rfl rfl rfl rfl 0 k rfl rfl (Nat.zero_le _) (by omega)) ?_
  (refine rw_takeP 5 rfl rfl (by kernel_rfl) (by kernel_rfl) (by kernel_rfl) (by kernel_rfl) rfl (yo_pure hT rfl) ?_; refine rw_takeP 8 rfl rfl (by kernel_rfl) (by kernel_rfl) (by kernel_rfl) (by kernel_rfl) rfl (yo_pure hT rfl) ?_; refine rw_takeP 9 rfl rfl (by kernel_rfl) (by kernel_rfl) (by kernel_rfl) (by kernel_rfl) rfl (yo_pure hT rfl) ?_)
  refine rw_takeP 10 rfl rfl (by kernel_rfl) (by kernel_rfl) (by kernel_rfl) (by kernel_rfl) rfl (yo_slice_sl hT rfl rfl rfl rfl k l.length rfl rfl hk hc) ?_
  skip
  refine rw_two 0 6 rfl rfl (by kernel_rfl) rfl rfl (fun hcl => ?_) (fun hcl => ?_)
  · refine lw_buildSlice sl31 rfl rfl rfl ?_
    intro e0 w3 he0 hbe0 hx3 hs3
    have hC3 := hx2.trans hx3
    have own3 : w3.ownsRow w1.heap.size 9 1 (.slice (some ⟨e0, 0, none⟩) 0 0) 0 [] := own_lit hbe0 (by have := hx2.size; omega) rfl (by decide)
    (repeat (refine lw_nil ?_))
    refine qw_rw (by repeat (first | with_reducible refine nop_then ?_ | with_reducible refine nop_block ?_ | with_reducible exact nop_body)) hcl (fun _ => hC3) ?_
    refine rw_two 4 6 rfl rfl (by kernel_rfl) rfl rfl (fun hcl => ?_) (fun hcl => ?_)
    · refine lw_append_sl sl31 (by decide) rfl own3 rfl (hTk.ex hC3) hTk1 (by rw [hTkl]; unfold maxLen; omega) (by rw [hTkl]; omega) (by have := hC3.size; omega) ?_
      intro u1 w4 q1 q2 q3 q4
      have hC4 : Ex w1 w4 := hC3.up_new q2 (fun i h => by simp [Value.ownBlock] at h; have := hx2.size; have := hC3.size; omega)
      rw [Nat.zero_add, List.nil_append, hTkl] at q1
      (repeat (refine lw_nil ?_))
      refine qw_rw (by repeat (first | with_reducible refine nop_then ?_ | with_reducible refine nop_block ?_ | with_reducible exact nop_body)) hcl (fun _ => hC4) ?_
      refine rw_one 6 rfl (by kernel_rfl) rfl (fun hcl => ?_)
      refine lw_buildSlice sl31 rfl rfl rfl ?_
      intro e7 w5 he7 hbe7 hx5 hs5
      replace hbe7 : Blk w5 e7 ([Value.string s]) 9 := hbe7
      have hC5 := hC4.trans hx5
      have own5 := own_ex q1 hx5
      (repeat (refine lw_nil ?_))
      refine qw_rw (by repeat (first | with_reducible refine nop_then ?_ | with_reducible refine nop_block ?_ | with_reducible exact nop_body)) hcl (fun _ => hC5) ?_
      refine rw_one 7 rfl (by kernel_rfl) rfl (fun hcl => ?_)
      refine lw_append sl31 (by decide) rfl own5 rfl (hbe7.rd 0 1) rfl (by intro u hu; simp at hu; subst hu; rfl) (by unfold maxLen; omega) (by omega) (by have := hC5.size; omega) ?_
      intro u2 w6 k1 k2 k3 k4
      have hC6 : Ex w1 w6 := hC5.up_new k2 (fun i h => (own_base q1 h.symm).1)
      (repeat (refine lw_nil ?_))
      refine qw_rw (by repeat (first | with_reducible refine nop_then ?_ | with_reducible refine nop_block ?_ | with_reducible exact nop_body)) hcl (fun _ => hC6) ?_
      refine rw_one 11 rfl (by kernel_rfl) rfl (fun hcl => ?_)
      refine lw_append_sl sl31 (by decide) rfl k1 rfl (hDr.ex hC6) hDr1 (by rw [hDrl]; unfold maxLen; omega) (by rw [hDrl]; omega) (by have := hC6.size; omega) ?_
      intro u3 w7 m1 m2 m3 m4
      have hC7 : Ex w1 w7 := hC6.up_new m2 (fun i h => (own_base k1 h.symm).1)
      rw [hDrl] at m1
      (repeat (refine lw_nil ?_))
      refine qw_rw (by repeat (first | with_reducible refine nop_then ?_ | with_reducible refine nop_block ?_ | with_reducible exact nop_body)) hcl (fun _ => hC7) ?_
      (refine rw_takeP 12 rfl rfl (by kernel_rfl) (by kernel_rfl) (by kernel_rfl) (by kernel_rfl) rfl (yo_pure hT rfl) ?_)
      refine rw_done (by kernel_rfl) ?_
      (repeat (first | refine qw_then ?_ | refine cw_ret ?_))
      exact qw_ret rfl ⟨fin u3 w7 m1, hx1.trans hC7⟩
    · refine lw_buildSlice sl31 rfl rfl rfl ?_
      intro e7 w4 he7 hbe7 hx4 hs4
      replace hbe7 : Blk w4 e7 ([Value.string s]) 9 := hbe7
      have hC4 := hC3.trans hx4
      have own4 := own_ex own3 hx4
      (repeat (refine lw_nil ?_))
      refine qw_rw (by repeat (first | with_reducible refine nop_then ?_ | with_reducible refine nop_block ?_ | with_reducible exact nop_body)) hcl (fun _ => hC4) ?_
      refine rw_one 4 rfl (by kernel_rfl) rfl (fun hcl => ?_)
      refine lw_append_sl sl31 (by decide) rfl own4 rfl (hTk.ex hC4) hTk1 (by rw [hTkl]; unfold maxLen; omega) (by rw [hTkl]; omega) (by have := hC4.size; omega) ?_
      intro u1 w5 q1 q2 q3 q4
      have hC5 : Ex w1 w5 := hC4.up_new q2 (fun i h => by simp [Value.ownBlock] at h; have := hx2.size; have := hC3.size; omega)
      rw [Nat.zero_add, List.nil_append, hTkl] at q1
      have be5 := hbe7.ext q2 (by simp [Value.ownBlock]; have := hC4.size; omega)
      (repeat (refine lw_nil ?_))
      refine qw_rw (by repeat (first | with_reducible refine nop_then ?_ | with_reducible refine nop_block ?_ | with_reducible exact nop_body)) hcl (fun _ => hC5) ?_
      refine rw_one 7 rfl (by kernel_rfl) rfl (fun hcl => ?_)
      refine lw_append sl31 (by decide) rfl q1 rfl (be5.rd 0 1) rfl (by intro u hu; simp at hu; subst hu; rfl) (by unfold maxLen; omega) (by omega) (by have := hC5.size; omega) ?_
      intro u2 w6 k1 k2 k3 k4
      have hC6 : Ex w1 w6 := hC5.up_new k2 (fun i h => (own_base q1 h.symm).1)
      (repeat (refine lw_nil ?_))
      refine qw_rw (by repeat (first | with_reducible refine nop_then ?_ | with_reducible refine nop_block ?_ | with_reducible exact nop_body)) hcl (fun _ => hC6) ?_
      refine rw_one 11 rfl (by kernel_rfl) rfl (fun hcl => ?_)
      refine lw_append_sl sl31 (by decide) rfl k1 rfl (hDr.ex hC6) hDr1 (by rw [hDrl]; unfold maxLen; omega) (by rw [hDrl]; omega) (by have := hC6.size; omega) ?_
      intro u3 w7 m1 m2 m3 m4
      have hC7 : Ex w1 w7 := hC6.up_new m2 (fun i h => (own_base k1 h.symm).1)
      rw [hDrl] at m1
      (repeat (refine lw_nil ?_))
      refine qw_rw (by repeat (first | with_reducible refine nop_then ?_ | with_reducible refine nop_block ?_ | with_reducible exact nop_body)) hcl (fun _ => hC7) ?_
      (refine rw_takeP 12 rfl rfl (by kernel_rfl) (by kernel_rfl) (by kernel_rfl) (by kernel_rfl) rfl (yo_pure hT rfl) ?_)
      refine rw_done (by kernel_rfl) ?_
      (repeat (first | refine qw_then ?_ | refine cw_ret ?_))
      exact qw_ret rfl ⟨fin u3 w7 m1, hx1.trans hC7⟩
  · refine lw_buildSlice sl31 rfl rfl rfl ?_
    intro e7 w3 he7 hbe7 hx3 hs3
    replace hbe7 : Blk w3 e7 ([Value.string s]) 9 := hbe7
    have hC3 := hx2.trans hx3
    (repeat (refine lw_nil ?_))
    refine qw_rw (by repeat (first | with_reducible refine nop_then ?_ | with_reducible refine nop_block ?_ | with_reducible exact nop_body)) hcl (fun _ => hC3) ?_
    refine rw_one 0 rfl (by kernel_rfl) rfl (fun hcl => ?_)
    refine lw_buildSlice sl31 rfl rfl rfl ?_
    intro e0 w4 he0 hbe0 hx4 hs4
    have hC4 := hC3.trans hx4
    have own4 : w4.ownsRow w1.heap.size 9 1 (.slice (some ⟨e0, 0, none⟩) 0 0) 0 [] := own_lit hbe0 (by have := hC3.size; omega) rfl (by decide)
    have be4 := hbe7.ex hx4
    (repeat (refine lw_nil ?_))
    refine qw_rw (by repeat (first | with_reducible refine nop_then ?_ | with_reducible refine nop_block ?_ | with_reducible exact nop_body)) hcl (fun _ => hC4) ?_
    refine rw_one 4 rfl (by kernel_rfl) rfl (fun hcl => ?_)
    refine lw_append_sl sl31 (by decide) rfl own4 rfl (hTk.ex hC4) hTk1 (by rw [hTkl]; unfold maxLen; omega) (by rw [hTkl]; omega) (by have := hC4.size; omega) ?_
    intro u1 w5 q1 q2 q3 q4
    have hC5 : Ex w1 w5 := hC4.up_new q2 (fun i h => by simp [Value.ownBlock] at h; have := hx2.size; have := hC3.size; omega)
    rw [Nat.zero_add, List.nil_append, hTkl] at q1
    have be5 := be4.ext q2 (by simp [Value.ownBlock]; have := hC4.size; omega)
    (repeat (refine lw_nil ?_))
    refine qw_rw (by repeat (first | with_reducible refine nop_then ?_ | with_reducible refine nop_block ?_ | with_reducible exact nop_body)) hcl (fun _ => hC5) ?_
    refine rw_one 7 rfl (by kernel_rfl) rfl (fun hcl => ?_)
    refine lw_append sl31 (by decide) rfl q1 rfl (be5.rd 0 1) rfl (by intro u hu; simp at hu; subst hu; rfl) (by unfold maxLen; omega) (by omega) (by have := hC5.size; omega) ?_
    intro u2 w6 k1 k2 k3 k4
    have hC6 : Ex w1 w6 := hC5.up_new k2 (fun i h => (own_base q1 h.symm).1)
    (repeat (refine lw_nil ?_))
    refine qw_rw (by repeat (first | with_reducible refine nop_then ?_ | with_reducible refine nop_block ?_ | with_reducible exact nop_body)) hcl (fun _ => hC6) ?_
    refine rw_one 11 rfl (by kernel_rfl) rfl (fun hcl => ?_)
    refine lw_append_sl sl31 (by decide) rfl k1 rfl (hDr.ex hC6) hDr1 (by rw [hDrl]; unfold maxLen; omega) (by rw [hDrl]; omega) (by have := hC6.size; omega) ?_
    intro u3 w7 m1 m2 m3 m4
    have hC7 : Ex w1 w7 := hC6.up_new m2 (fun i h => (own_base k1 h.symm).1)
    rw [hDrl] at m1
    (repeat (refine lw_nil ?_))
    refine qw_rw (by repeat (first | with_reducible refine nop_then ?_ | with_reducible refine nop_block ?_ | with_reducible exact nop_body)) hcl (fun _ => hC7) ?_
    (refine rw_takeP 12 rfl rfl (by kernel_rfl) (by kernel_rfl) (by kernel_rfl) (by kernel_rfl) rfl (yo_pure hT rfl) ?_)
    refine rw_done (by kernel_rfl) ?_
    (repeat (first | refine qw_then ?_ | refine cw_ret ?_))
    exact qw_ret rfl ⟨fin u3 w7 m1, hx1.trans hC7⟩

theorem putAll_take {l : List ByteArray} {i : Nat} (hi : i < l.length) : putAll (l.take (i + 1)) = putL (putAll (l.take i)) l[i] := by rw [List.take_succ_eq_append_getElem hi, putAll_snoc]
theorem putAll_len (l : List ByteArray) : (putAll l).length = l.length := (putAll_perm l).length_eq
/-- A slice of the call's own, of texts, that isn't nil. -/
def TxtO (N : Nat) (w : World) (u : Value) (l : List ByteArray) : Prop := w.ownsRow N 9 1 u l.length (l.map Value.string) ∧ ∃ g c, u = .slice (some ⟨g, 0, none⟩) l.length c ∧ l.length ≤ c
theorem TxtO.ex {N : Nat} {w w' : World} {u : Value} {l : List ByteArray} (h : TxtO N w u l) (hx : Ex w w') : TxtO N w' u l := ⟨own_ex h.1 hx, h.2⟩
theorem TxtO.sls {N : Nat} {w : World} {u : Value} {l : List ByteArray} (h : TxtO N w u l) : SlS (fun _ => True) w u l := sls_own h.1 fun _ _ => trivial
theorem txt_put {N : Nat} {w w' : World} {u : Value} {l : List ByteArray} (hN : N ≤ w.heap.size) {s : ByteArray} (h : w'.ownsRow w.heap.size 9 1 u (l.length + 1) ((putL l s).map Value.string)) : TxtO N w' u (putL l s) := by
  have e : (putL l s).length = l.length + 1 := putL_len l s
  obtain ⟨g, c, rfl⟩ := own_slice h (by omega)
  unfold TxtO
  rw [e]
  exact ⟨own_mono h hN, g, c, rfl, own_cap h _ _ _ rfl⟩
theorem r23_put' {N : Nat} {w : World} {u : Value} {l : List ByteArray} (s : ByteArray) (h : TxtO N w u l) (hN : N ≤ w.heap.size) (hl : l.length ≤ 1000) : Ret Tryz.prog 105 [u, .string s] w fun u' w' => TxtO N w' u' (putL l s) ∧ Ex w w' := by
  have hs := h.sls
  obtain ⟨h1, g, c, rfl, hc⟩ := h
  exact (r23_put s hs hc hl).mono fun u' w' ⟨h1, h2⟩ => ⟨txt_put hN h1, h2⟩
theorem r23_Bills {A : Nat → Prop} {w : World} {vL : Value} {l : List EntD} {gs : List FG} (c : ByteArray) (hF : FRep A w vL l gs) (hl : l.length ≤ 256) : Ret Tryz.prog 61 [.agg ⟨encR c vL⟩] w fun u w' => TxtO w.heap.size w' u (putAll (l.map (·.bill.number))) ∧ Ex w w' := by
  obtain ⟨aL, cL, hvL, hLm⟩ := hF.slice
  subst hvL
  refine ret_of Tryz.func61 Tryz.ntmps61 rfl rfl rfl ?_
  (repeat (first | refine cw_seq ?_ | refine cw_region ?_))
  refine lw_box rfl ?_
  intro b1 w1 hbb1 hb1 hx1 hs1
  replace hb1 : Blk w1 b1 (encR c (.slice aL l.length cL)) 28 := hb1
  (repeat (first | refine lw_pure hT rfl ?_ | refine lw_nil ?_ | refine cw_seq ?_ | refine cw_region ?_ | refine qw_then ?_))
  refine lw_buildSlice sl31 rfl rfl rfl ?_
  intro b2 w2 hbb2 hb2 hx2 hs2
  have hb12 := hb1.ex hx2
  have hx02 := hx1.trans hx2
  have h0 : TxtO w.heap.size w2 (.slice (some ⟨b2, 0, none⟩) 0 0) (putAll ((l.map (·.bill.number)).take 0)) := ⟨own_lit hb2 (by omega) rfl (by decide), b2, 0, rfl, Nat.le_refl _⟩
  (repeat (first | refine lw_pure hT rfl ?_ | refine lw_nil ?_ | refine cw_seq ?_ | refine cw_region ?_ | refine qw_then ?_ | refine cw_block ?_))
  refine cw_loop (fun z : Nat × Value => [(1, .pointer (some ⟨b1, 0, none⟩)), (3, z.2), (4, .int .i64 (z.1 : Nat))]) (fun z w' => z.1 ≤ l.length ∧ Ex w2 w' ∧ TxtO w.heap.size w' z.2 (putAll ((l.map (·.bill.number)).take z.1))) (fun z => l.length - z.1) (0, .slice (some ⟨b2, 0, none⟩) 0 0) (by repeat (first | exact trivial | refine ⟨rfl, ?_⟩)) ⟨Nat.zero_le _, Ext.refl _ _, h0⟩ ?_
  rintro ⟨i, u⟩ w3 ⟨hi, hx3, hu⟩
  dsimp only at hi hu ⊢
  have hx03 := hx02.trans hx3
  have hb13 := hb12.ex hx3
  (repeat (first | refine lw_pure hT rfl ?_ | refine cw_seq ?_ | refine cw_region ?_))
  refine lw_load hT rfl rfl (v := .slice aL l.length cL) (hb13.cell 1) ?_
  (repeat (first | refine lw_pure hT rfl ?_ | refine lw_nil ?_ | refine qw_then ?_))
  refine cw_cond rfl (fun e => ?_) (fun e => ?_)
  · have hlt : i < l.length := by have := of_decide_eq_true e; omega
    obtain ⟨x, g, bL, oL, cL', hx_, hg_, hv, hrd, hE⟩ := (hF.ex hx03).row hlt
    cases hv
    have hxi : x = l[i] := by rw [List.getElem?_eq_getElem hlt] at hx_; exact (Option.some.inj hx_).symm
    (repeat (first | refine lw_pure hT rfl ?_ | refine cw_seq ?_ | refine cw_region ?_ | refine qw_then ?_ | refine cw_skip ?_ | refine cw_block ?_))
    refine lw_load hT rfl rfl (v := .slice (some ⟨bL, oL, none⟩) l.length cL) (hb13.cell 1) ?_
    (repeat (refine lw_pure hT rfl ?_))
    refine lw_index hT rfl rfl rfl i rfl hlt ?_
    (repeat (refine lw_pure hT rfl ?_))
    refine lw_load hT rfl rfl (v := .string x.bill.number) (hrd 0 _ rfl) ?_
    skip
    refine lw_call hT rfl rfl (r23_put' x.bill.number hu (by have := hx03.size; omega) (by rw [putAll_len]; simp; omega)) ?_
    rintro u' w4 ⟨hu', hx4⟩
    (repeat (first | (refine lw_add rfl rfl ?_ ?_ ?_; iterate 2 omega) | refine lw_pure hT rfl ?_ | refine lw_nil ?_ | refine cw_region ?_ | refine qw_then ?_ | refine qw_block ?_))
    refine qw_round (x := (i, u)) (i + 1, u') (by repeat (first | exact trivial | refine ⟨rfl, ?_⟩)) ⟨hlt, hx3.trans hx4, ?_⟩ (by show l.length - (i + 1) < l.length - i; omega)
    have := putAll_take (l := l.map (·.bill.number)) (i := i) (by simpa using hlt)
    rw [this]
    simpa [hxi] using hu'
  · have : i = l.length := by have := of_decide_eq_false e; omega
    subst this
    (repeat (first | refine lw_pure hT rfl ?_ | refine lw_nil ?_ | refine cw_seq ?_ | refine cw_region ?_ | refine qw_then ?_ | refine cw_ret ?_ | refine cw_exit ?_ | refine qw_block_exit ?_ | refine qw_then_exit ?_))
    rw [List.take_of_length_le (by simp)] at hu
    exact qw_ret rfl ⟨hu, hx03⟩
set_option maxHeartbeats 1000000 in
theorem r23_Of {A : Nat → Prop} {w : World} {vL : Value} {l : List EntD} {gs : List FG} (c who : ByteArray) (hF : FRep A w vL l gs) (hl : l.length ≤ 256) : Ret Tryz.prog 63 [.agg ⟨encR c vL⟩, .string who] w fun u w' => TxtO w.heap.size w' u (putAll ((l.filter fun e => e.holds who).map (·.bill.number))) ∧ Ex w w' := by
  obtain ⟨aL, cL, hvL, hLm⟩ := hF.slice
  subst hvL
  refine ret_of Tryz.func63 Tryz.ntmps63 rfl rfl rfl ?_
  (repeat (first | refine cw_seq ?_ | refine cw_region ?_))
  refine lw_box rfl ?_
  intro b1 w1 hbb1 hb1 hx1 hs1
  replace hb1 : Blk w1 b1 (encR c (.slice aL l.length cL)) 28 := hb1
  (repeat (first | refine lw_pure hT rfl ?_ | refine lw_nil ?_ | refine cw_seq ?_ | refine cw_region ?_ | refine qw_then ?_))
  refine lw_buildSlice sl31 rfl rfl rfl ?_
  intro b2 w2 hbb2 hb2 hx2 hs2
  have hb12 := hb1.ex hx2
  have hx02 := hx1.trans hx2
  have h0 : TxtO w.heap.size w2 (.slice (some ⟨b2, 0, none⟩) 0 0) (putAll (((l.take 0).filter fun e => e.holds who).map (·.bill.number))) := ⟨own_lit hb2 (by omega) rfl (by decide), b2, 0, rfl, Nat.le_refl _⟩
  (repeat (first | refine lw_pure hT rfl ?_ | refine lw_nil ?_ | refine cw_seq ?_ | refine cw_region ?_ | refine qw_then ?_ | refine cw_block ?_))
  refine cw_loop (fun z : Nat × Value => [(1, .string who), (2, .pointer (some ⟨b1, 0, none⟩)), (5, z.2), (6, .int .i64 (z.1 : Nat))]) (fun z w' => z.1 ≤ l.length ∧ Ex w2 w' ∧ TxtO w.heap.size w' z.2 (putAll (((l.take z.1).filter fun e => e.holds who).map (·.bill.number)))) (fun z => l.length - z.1) (0, .slice (some ⟨b2, 0, none⟩) 0 0) (by repeat (first | exact trivial | refine ⟨rfl, ?_⟩)) ⟨Nat.zero_le _, Ext.refl _ _, h0⟩ ?_
  rintro ⟨i, u⟩ w3 ⟨hi, hx3, hu⟩
  dsimp only at hi hu ⊢
  have hx03 := hx02.trans hx3
  have hb13 := hb12.ex hx3
  (repeat (first | refine lw_pure hT rfl ?_ | refine cw_seq ?_ | refine cw_region ?_))
  refine lw_load hT rfl rfl (v := .slice aL l.length cL) (hb13.cell 1) ?_
  (repeat (first | refine lw_pure hT rfl ?_ | refine lw_nil ?_ | refine qw_then ?_))
  refine cw_cond rfl (fun e => ?_) (fun e => ?_)
  · have hlt : i < l.length := by have := of_decide_eq_true e; omega
    obtain ⟨x, g, bL, oL, cL', hx_, hg_, hv, hrd, hE⟩ := (hF.ex hx03).row hlt
    cases hv
    have hxi : x = l[i] := by rw [List.getElem?_eq_getElem hlt] at hx_; exact (Option.some.inj hx_).symm
    have etake : l.take (i + 1) = l.take i ++ [x] := by rw [List.take_succ_eq_append_getElem hlt, hxi]
    (repeat (first | refine lw_pure hT rfl ?_ | refine cw_seq ?_ | refine cw_region ?_ | refine qw_then ?_ | refine cw_skip ?_ | refine cw_block ?_))
    refine lw_load hT rfl rfl (v := .slice (some ⟨bL, oL, none⟩) l.length cL) (hb13.cell 1) ?_
    (repeat (refine lw_pure hT rfl ?_))
    refine lw_index hT rfl rfl rfl i rfl hlt ?_
    skip
    refine lw_load_agg hT rfl rfl rfl (vs := entF (x, g)) hrd ?_
    skip
    refine lw_alloc z56 ?_
    intro b7 w4 hbb7 hb7 hx4 hs4
    skip
    refine lw_store_agg hT rfl rfl rfl rfl (entF_one hE) hb7 (show (11 : Nat) ≤ 11 by decide) ?_
    intro w5 hb75 hx5 hs5
    replace hb75 : Blk w5 b7 (entF (x, g)) 56 := hb75
    have hx35 : Ex w3 w5 := hx4.up_new hx5 (fun i h => by omega)
    have hE5 := hE.ex hx35
    (repeat (first | refine lw_pure hT rfl ?_ | refine lw_nil ?_ | refine cw_seq ?_ | refine cw_region ?_ | refine qw_then ?_ | refine cw_block ?_))
    refine cw_loop (fun k : Nat => [(1, .string who), (2, .pointer (some ⟨b1, 0, none⟩)), (5, u), (6, .int .i64 (i : Nat)), (7, .pointer (some ⟨b7, 0, none⟩)), (8, .bool ((x.ps.take k).any fun q => decide (x.state = 0) && (decide (q.state = 0) && decide (q.holder = who)))), (9, .int .i64 (k : Nat))])
      (fun k w' => k ≤ 3 ∧ w5 = w') (fun k => 3 - k) 0 (by repeat (first | exact trivial | refine ⟨rfl, ?_⟩)) ⟨Nat.zero_le _, rfl⟩ ?_
    rintro k _ ⟨hk, rfl⟩
    (repeat (first | refine lw_pure hT rfl ?_ | refine lw_nil ?_ | refine cw_seq ?_ | refine cw_region ?_ | refine qw_then ?_))
    refine cw_cond rfl (fun e => ?_) (fun e => ?_)
    · have hk3 : k < 3 := by have := of_decide_eq_true e; omega
      obtain ⟨vc, bP, oP, cP, hvP, _, hrP, hvk, _⟩ := hE5.paper hk3
      have hpk := papAt_get hE.three hk3
      have htk : x.ps.take (k + 1) = x.ps.take k ++ [papAt x k] := by
        have hkl : k < x.ps.length := by rw [hE.three]; exact hk3
        rw [List.take_succ_eq_append_getElem hkl]
        rw [List.getElem?_eq_getElem hkl] at hpk
        rw [Option.some.inj hpk]
      have hany : ((x.ps.take (k + 1)).any fun q => decide (x.state = 0) && (decide (q.state = 0) && decide (q.holder = who))) = (((x.ps.take k).any fun q => decide (x.state = 0) && (decide (q.state = 0) && decide (q.holder = who))) || (decide (x.state = 0) && (decide ((papAt x k).state = 0) && decide ((papAt x k).holder = who)))) := by rw [htk, List.any_append]; simp
      have no : (decide (x.state = 0) && (decide ((papAt x k).state = 0) && decide ((papAt x k).holder = who))) = false → ((x.ps.take (k + 1)).any fun q => decide (x.state = 0) && (decide (q.state = 0) && decide (q.holder = who))) = ((x.ps.take k).any fun q => decide (x.state = 0) && (decide (q.state = 0) && decide (q.holder = who))) := fun h => by rw [hany, h, Bool.or_false]
      (repeat (first | refine lw_pure hT rfl ?_ | refine cw_seq ?_ | refine cw_region ?_ | refine qw_then ?_ | refine cw_skip ?_ | refine cw_block ?_))
      refine lw_load hT rfl rfl (v := .int .i64 x.state) (hb75.cell 9) ?_
      (repeat (refine lw_pure hT rfl ?_))
      refine lw_guard rfl (fun e1 => ?_) (fun e1 => ?_)
      · (repeat (first | refine lw_pure hT rfl ?_ | (refine lw_gon_t rfl ?_ ?_; focus (first | with_reducible rfl | with_reducible exact Bool.not_false | with_reducible exact Bool.not_true))))
        refine lw_load hT rfl rfl (v := g.vP) (hb75.cell 10) ?_
        rw [hvP]
        (repeat (first | refine lw_pure hT rfl ?_ | (refine lw_gon_t rfl ?_ ?_; focus (first | with_reducible rfl | with_reducible exact Bool.not_false | with_reducible exact Bool.not_true))))
        refine lw_index hT rfl rfl rfl k rfl hk3 ?_
        (repeat (first | refine lw_pure hT rfl ?_ | (refine lw_gon_t rfl ?_ ?_; focus (first | with_reducible rfl | with_reducible exact Bool.not_false | with_reducible exact Bool.not_true))))
        refine lw_load hT rfl rfl (v := .int .i64 (papAt x k).state) (hrP 0 _ rfl) ?_
        (repeat (first | refine lw_pure hT rfl ?_ | (refine lw_gon_t rfl ?_ ?_; focus (first | with_reducible rfl | with_reducible exact Bool.not_false | with_reducible exact Bool.not_true))))
        refine lw_guard rfl (fun e2 => ?_) (fun e2 => ?_)
        · (repeat (first | refine lw_pure hT rfl ?_ | (refine lw_gon_t rfl ?_ ?_; focus (first | with_reducible rfl | with_reducible exact Bool.not_false | with_reducible exact Bool.not_true))))
          refine lw_load hT rfl rfl (v := g.vP) (hb75.cell 10) ?_
          rw [hvP]
          (repeat (first | refine lw_pure hT rfl ?_ | (refine lw_gon_t rfl ?_ ?_; focus (first | with_reducible rfl | with_reducible exact Bool.not_false | with_reducible exact Bool.not_true))))
          refine lw_index hT rfl rfl rfl k rfl hk3 ?_
          (repeat (first | refine lw_pure hT rfl ?_ | (refine lw_gon_t rfl ?_ ?_; focus (first | with_reducible rfl | with_reducible exact Bool.not_false | with_reducible exact Bool.not_true))))
          refine lw_load hT rfl rfl (v := .string (papAt x k).holder) (hrP 1 _ rfl) ?_
          (repeat (first | refine lw_pure hT rfl ?_ | refine lw_nil ?_ | refine qw_then ?_ | (refine lw_gon_t rfl ?_ ?_; focus (first | with_reducible rfl | with_reducible exact Bool.not_false | with_reducible exact Bool.not_true))))
          refine cw_cond rfl (fun e3 => ?_) (fun e3 => ?_)
          · (repeat (first | (refine lw_add rfl rfl ?_ ?_ ?_; iterate 2 omega) | refine lw_pure hT rfl ?_ | refine lw_nil ?_ | refine cw_region ?_ | refine qw_then ?_ | refine qw_block ?_))
            refine qw_round (k + 1) ?_ ⟨hk3, rfl⟩ (by omega)
            rw [hany, e1, e2, e3, Bool.and_true, Bool.and_true, Bool.or_true]
            exact (by repeat (first | exact trivial | refine ⟨rfl, ?_⟩))
          · (repeat (first | (refine lw_add rfl rfl ?_ ?_ ?_; iterate 2 omega) | refine lw_pure hT rfl ?_ | refine lw_nil ?_ | refine cw_region ?_ | refine qw_then ?_ | refine cw_skip ?_ | refine qw_block ?_))
            refine qw_round (k + 1) ?_ ⟨hk3, rfl⟩ (by omega)
            rw [no (by rw [e3, Bool.and_false, Bool.and_false])]
            exact (by repeat (first | exact trivial | refine ⟨rfl, ?_⟩))
        · (repeat (first | (refine lw_add rfl rfl ?_ ?_ ?_; iterate 2 omega) | refine lw_pure hT rfl ?_ | refine lw_nil ?_ | refine cw_region ?_ | refine qw_then ?_ | refine cw_skip ?_ | (refine lw_goff_f rfl ?_ ?_; focus (first | with_reducible rfl | with_reducible exact Bool.not_false | with_reducible exact Bool.not_true)) | refine qw_block ?_ | (refine cw_cond_f rfl ?_ ?_; focus (first | with_reducible rfl | with_reducible exact Bool.not_false | with_reducible exact Bool.not_true))))
          refine qw_round (k + 1) ?_ ⟨hk3, rfl⟩ (by omega)
          rw [no (by rw [e2, Bool.false_and, Bool.and_false])]
          exact (by repeat (first | exact trivial | refine ⟨rfl, ?_⟩))
      · (repeat (first | (refine lw_add rfl rfl ?_ ?_ ?_; iterate 2 omega) | refine lw_pure hT rfl ?_ | refine lw_nil ?_ | refine cw_region ?_ | refine qw_then ?_ | refine cw_skip ?_ | (refine lw_goff_f rfl ?_ ?_; focus (first | with_reducible rfl | with_reducible exact Bool.not_false | with_reducible exact Bool.not_true)) | refine qw_block ?_ | (refine cw_cond_f rfl ?_ ?_; focus (first | with_reducible rfl | with_reducible exact Bool.not_false | with_reducible exact Bool.not_true))))
        refine qw_round (k + 1) ?_ ⟨hk3, rfl⟩ (by omega)
        rw [no (by rw [e1, Bool.false_and])]
        exact (by repeat (first | exact trivial | refine ⟨rfl, ?_⟩))
    · have : k = 3 := by have := of_decide_eq_false e; omega
      subst this
      have e3 : x.ps.take 3 = x.ps := by rw [← hE.three]; exact List.take_length
      have eh : ((x.ps.take 3).any fun q => decide (x.state = 0) && (decide (q.state = 0) && decide (q.holder = who))) = x.holds who := by
        rw [e3]
        unfold EntD.holds
        cases decide (x.state = 0) with
        | true => simp
        | false => simp
      rw [eh]
      have hu5 := hu.ex hx35
      (repeat (first | refine lw_pure hT rfl ?_ | refine lw_nil ?_ | refine cw_seq ?_ | refine cw_region ?_ | refine qw_then ?_ | refine cw_exit ?_ | refine qw_block_exit ?_ | refine qw_then_exit ?_))
      refine cw_cond rfl (fun eh' => ?_) (fun eh' => ?_)
      · (repeat (first | refine lw_pure hT rfl ?_ | refine cw_region ?_))
        refine lw_load hT rfl rfl (v := .string x.bill.number) (hb75.cell 0) ?_
        skip
        refine lw_call hT rfl rfl (r23_put' x.bill.number hu5 (by have := (hx03.trans hx35).size; omega) (by rw [putAll_len]; have := List.length_filter_le (fun e : EntD => e.holds who) (l.take i); simp at this ⊢; omega)) ?_
        rintro u' w6 ⟨hu', hx6⟩
        (repeat (first | (refine lw_add rfl rfl ?_ ?_ ?_; iterate 2 omega) | refine lw_pure hT rfl ?_ | refine lw_nil ?_ | refine cw_region ?_ | refine qw_then ?_ | refine qw_block ?_))
        refine qw_round (x := (i, u)) (i + 1, u') (by repeat (first | exact trivial | refine ⟨rfl, ?_⟩)) ⟨hlt, (hx3.trans hx35).trans hx6, ?_⟩ (by show l.length - (i + 1) < l.length - i; omega)
        rw [etake, List.filter_append, List.map_append]
        simp only [List.filter_cons, eh', if_true, List.filter_nil, List.map_cons, List.map_nil]
        rw [putAll_snoc]; exact hu'
      · (repeat (first | (refine lw_add rfl rfl ?_ ?_ ?_; iterate 2 omega) | refine lw_pure hT rfl ?_ | refine lw_nil ?_ | refine cw_region ?_ | refine qw_then ?_ | refine cw_skip ?_ | refine qw_block ?_))
        refine qw_round (x := (i, u)) (i + 1, u) (by repeat (first | exact trivial | refine ⟨rfl, ?_⟩)) ⟨hlt, hx3.trans hx35, ?_⟩ (by show l.length - (i + 1) < l.length - i; omega)
        rw [etake, List.filter_append, List.map_append]
        simp only [List.filter_cons, eh', List.filter_nil, List.map_nil, List.append_nil, Bool.false_eq_true, if_false]
        exact hu5
  · have : i = l.length := by have := of_decide_eq_false e; omega
    subst this
    rw [List.take_length] at hu
    (repeat (first | refine lw_pure hT rfl ?_ | refine lw_nil ?_ | refine cw_seq ?_ | refine cw_region ?_ | refine qw_then ?_ | refine cw_ret ?_ | refine cw_exit ?_ | refine qw_block_exit ?_ | refine qw_then_exit ?_))
    exact qw_ret rfl ⟨hu, hx03⟩
end Go.Proofs.YtnglkhnfmbnfeaaGreat

/- Hb -/
namespace Go.SK
open Go
attribute [local semireducible] Ret
theorem ret_mk {P : Program} {f : FuncId} {args : List Value} {w : World} {R : Value → World → Prop} (h : Calls P f ⟨args⟩ w fun e w' => ∃ v, e = .returned v ∧ R v w') : Ret P f args w R := h
theorem ex_of_below {w w' : World} (h : Go.RowKit.Below w.heap.size w w') : Ex w w' := by
  obtain ⟨h1, h2, h3, h4, h5⟩ := h
  exact ⟨h1, h2, h3, h4, fun k hk _ => h5 k hk⟩
end Go.SK
namespace Go.Proofs.YtnglkhnfmbnfeaaGreat
open Go Go.SK Go.RowKit Go.Maps Go.Sort Go.Shelf

theorem sorts_at (m : Nat) : AnyZ.SortsIn Tryz.prog Tryz.sorted48_ren Fence.wide m :=
  ⟨fun blk off cap ss W hH hblk hsz => callsIn_wide.2 (AnyM.slices_Sort_string Tryz.sort96 blk off cap ss W hH hblk hsz),
   fun p cap W => callsIn_wide.2 (AnyM.slices_Sort_string_none Tryz.sort96 p cap W)⟩
theorem maps_Keys (mb : Option Nat) (W : World) : Ret Tryz.prog 49 [.map mb] W fun v w' => v = .func (.func 97) #[] #[.pointer (some ⟨W.heap.size, 0, none⟩)] ∧ w' = W.alloc (.cells #[.map mb] 78) :=
  ret_mk ((callsIn_wide.1 (AnyZ.keys_in Tryz.keys49 Fence.wide 5 trivial rfl mb W)).mono fun _ _ ⟨h1, h2⟩ => ⟨_, h1, rfl, h2⟩)
set_option maxHeartbeats 1000000 in
theorem sorted_keys {H : Type} (b nn : Nat) (D0 : DataW H) (R : Value → Option (DataW H × List MemPlace)) (w : World) (hown : w.ownsMap Tryz.prog 9 R b nn D0) (hmax : Maps.size D0 ≤ maxLen) (hbytes : Maps.size D0 * 16 ≤ 140737488355328) :
    Ret Tryz.prog 48 [.func (.func 97) #[] #[.pointer (some ⟨w.heap.size, 0, none⟩)]] (w.alloc (.cells #[.map (some b)] 78)) fun v w' => (∃ ss : List (List UInt8), ss.Perm (strKeys D0) ∧
      w'.ownsRow (w.alloc (.cells #[.map (some b)] 78)).heap.size 9 1 v ss.length ((ss.mergeSort (fun x y => decide (x ≤ y))).map encStr)) ∧ Ex (w.alloc (.cells #[.map (some b)] 78)) w' := by
  have hbl := hown.lt
  have hseq : SeqGives Fence.wide 2 Tryz.prog 97 #[.pointer (some ⟨w.heap.size, 0, none⟩)] encStr (fun ss => ss.Perm (strKeys D0)) (Maps.size D0) (w.alloc (.cells #[.map (some b)] 78)) :=
    AnyZ.keys_gives (ρ := Tryz.keys49_ren) { Tryz.keys49 with } Fence.wide _ trivial rfl (by omega) w.heap.size b nn D0 _ (by simp) (by simp) (by
      obtain ⟨es, clock, hb, Ft, hs, hD⟩ := hown
      exact ⟨es, clock, (Below.heap_alloc _ _ b hbl).trans hb, Ft, hs, hD⟩)
  have := AnyZ.sorted_in Tryz.sorted48 Fence.wide 5 trivial trivial trivial trivial rfl (by omega) (sorts_at _) (enters_of Tryz.func96 (by kernel_rfl) rfl) 97 #[.pointer (some ⟨w.heap.size, 0, none⟩)] trivial (enters_of Tryz.func97 (by kernel_rfl) rfl) _ _ hmax hbytes _ hseq
  exact ret_mk ((callsIn_wide.1 this).mono fun _ _ ⟨v, ss, h1, h2, h3, _, h5⟩ => ⟨v, h1, ⟨ss, h2, h3⟩, ex_of_below h5⟩)
/-- A map whose entries' stamps are told apart, no more. -/
structure Mw (w : World) (b : Nat) (es : List (ByteArray × Value)) : Prop where
  is : ∃ ents clock, w.heap[b]? = some (.map ents clock) ∧ ents.toList.map (fun e => (e.key, e.val)) = es.map (fun e => (Value.string e.1, e.2)) ∧ (∀ x ∈ ents.toList, x.born < clock) ∧ (ents.toList.map (·.born)).Nodup
theorem Mw.of {w : World} {b : Nat} {es : List (ByteArray × Value)} (h : Mp w b es) : Mw w b es := by
  obtain ⟨ents, clock, h1, h2, h3, h4⟩ := h.is
  refine ⟨ents, clock, h1, h2, fun x hx => ?_, by rw [h3]; exact List.nodup_range⟩
  have : x.born ∈ ents.toList.map (·.born) := List.mem_map.2 ⟨x, hx, rfl⟩
  rw [h3] at this
  rw [h4]; simpa using this
/-- A map of ours, in the shelf's words. -/
theorem owns_ofW {w : World} {m : Nat} {es : List (ByteArray × Value)} (hm : Mw w m es) (hk : ∀ e ∈ es, e.1.size ≤ maxLen) (hn : es.length ≤ maxLen) (hd : (es.map (·.1)).Nodup) :
    ∃ D : DataW Unit, w.ownsMap Tryz.prog 9 (fun _ => some (.nil, [])) m es.length D ∧ Maps.size D = es.length ∧ (strKeys D).Perm (es.map fun e => e.1.data.toList) := by
  obtain ⟨ents, clock, h1, h2, h3, h4⟩ := hm.is
  have us : Tryz.prog.underlying 9 = some .string := by kernel_rfl
  have hkeys : ents.toList.map (·.key) = es.map fun e => Value.string e.1 := by
    have := congrArg (List.map (·.1)) h2
    rw [List.map_map, List.map_map] at this
    exact this
  have hlen : ents.size = es.length := by have := congrArg List.length h2; simpa using this
  have hmem : ∀ x ∈ ents.toList, ∃ e ∈ es, x.key = .string e.1 := by
    intro x hx
    have : x.key ∈ ents.toList.map (·.key) := List.mem_map.2 ⟨x, hx, rfl⟩
    rw [hkeys] at this
    obtain ⟨e, he, hek⟩ := List.mem_map.1 this
    exact ⟨e, he, hek.symm⟩
  have hko : ∀ s : ByteArray, s.size ≤ maxLen → keyOf Tryz.prog 9 (.string s) = some (.string s.data.toList) := by
    intro s hs
    simp [keyOf, us, mapKey, hs]
  have hrd : ∀ x ∈ ents.toList, ∀ e ∈ es, x.key = .string e.1 → Go.WideElems.rd (H := Unit) Tryz.prog 9 (fun _ => some (.nil, [])) x = some (.string e.1.data.toList, .nil) := by
    intro x _ e he hx
    unfold Go.WideElems.rd
    rw [hx, hko _ (hk e he)]
    rfl
  have hfit : Go.WideElems.Fit (H := Unit) Tryz.prog 9 (fun _ => some (.nil, [])) ents clock := by
    refine ⟨by rw [hlen]; exact hn, ⟨?_, ?_, ?_⟩, ?_⟩
    · intro x hx
      exact h3 x hx
    · exact h4
    · rw [hkeys]
      have : (es.map fun e => Value.string e.1) = (es.map (·.1)).map Value.string := by simp
      rw [this]
      exact List.pairwise_map.2 (List.Pairwise.imp (fun hne e => hne (by injection e)) hd)
    · intro x hx
      obtain ⟨e, he, hxe⟩ := hmem x hx
      exact ⟨_, hrd x hx e he hxe⟩
  refine ⟨_, ⟨ents, clock, h1, hfit, by omega, rfl⟩, ?_, ?_⟩
  · show ((ents.toList.map _).foldr DataW.insert []).length = es.length
    rw [(Go.WideShapes.sorted_perm _).length_eq]
    simp [hlen]
  · show (((ents.toList.map _).foldr DataW.insert []).map fun p => strOf p.1).Perm _
    refine ((Go.WideShapes.sorted_perm _).map _).trans ?_
    have e1 : ((ents.toList.map (Go.WideElems.rg (H := Unit) Tryz.prog 9 fun _ => some (.nil, []))).map fun p => strOf p.1) = es.map fun e => e.1.data.toList := by
      have e2 : ((ents.toList.map (Go.WideElems.rg (H := Unit) Tryz.prog 9 fun _ => some (.nil, []))).map fun p => strOf p.1) = (ents.toList.map (·.key)).map fun v => match v with | .string s => s.data.toList | _ => [] := by
        rw [List.map_map, List.map_map]
        apply List.map_congr_left
        intro x hx
        obtain ⟨e, he, hxe⟩ := hmem x hx
        simp only [Function.comp, Go.WideElems.rg, hrd x hx e he hxe, Option.getD_some, hxe]
        rfl
      rw [e2, hkeys, List.map_map]
      rfl
    rw [e1]
theorem owns_of {w : World} {m : Nat} {es : List (ByteArray × Value)} (hm : Mp w m es) (hk : ∀ e ∈ es, e.1.size ≤ maxLen) (hn : es.length ≤ maxLen) (hd : (es.map (·.1)).Nodup) :
    ∃ D : DataW Unit, w.ownsMap Tryz.prog 9 (fun _ => some (.nil, [])) m es.length D ∧ Maps.size D = es.length ∧ (strKeys D).Perm (es.map fun e => e.1.data.toList) := owns_ofW (.of hm) hk hn hd
def ofBytes (l : List UInt8) : ByteArray := ⟨l.toArray⟩
theorem ofBytes_inv (s : ByteArray) : ofBytes s.data.toList = s := by unfold ofBytes; simp
section
variable {w : World} {p : Nat} {r : RegD} {m : Nat} {gs : List GhostE}
/-- A rising list of all numbers. -/
def BillsR (r : RegD) (N : Nat) (w' : World) (v : Value) : Prop := ∃ L, Rising L ∧ L.Perm r.nums ∧ w'.ownsRow N 9 1 v L.length (L.map Value.string)
theorem reg_Bills (hR : Rep w p r m gs) (hsz : ∀ e ∈ r.l, e.bill.number.size ≤ maxLen) (hl : r.l.length ≤ 256) : Ret Tryz.prog 21 [.pointer (some ⟨p, 0, none⟩)] w fun v w' => BillsR r w.heap.size w' v ∧ Ex w w' := by
  obtain ⟨es, hmp, hpm⟩ := hR.map
  have hkeys := hR.keys
  have hnum : (mapOf r.l gs).map (·.1) = r.nums := by
    have key : ∀ (l : List EntD) (gs : List GhostE), l.length = gs.length → (mapOf l gs).map (·.1) = l.map (·.bill.number) := by
      intro l
      induction l with
      | nil => intro gs _; rfl
      | cons a l ih =>
        intro gs hg
        cases gs with
        | nil => simp at hg
        | cons g gs => rw [mapOf_cons, List.map_cons, ih gs (by simpa using hg), List.map_cons]
    exact key r.l gs hR.len
  have hpn : (es.map (·.1)).Perm r.nums := by rw [← hnum]; exact hpm.map _
  have hnd : (es.map (·.1)).Nodup := hpn.nodup_iff.2 hR.nd.nums
  have hel : es.length = r.l.length := by have := hpn.length_eq; simpa [RegD.nums] using this
  have hks : ∀ e ∈ es, e.1.size ≤ maxLen := by
    intro e he
    have : e.1 ∈ r.nums := hpn.mem_iff.1 (List.mem_map.2 ⟨e, he, rfl⟩)
    obtain ⟨x, hx, hxe⟩ := List.mem_map.1 this
    rw [← hxe]; exact hsz x hx
  obtain ⟨D, hD1, hD2, hD3⟩ := owns_of hmp hks (by unfold maxLen; omega) hnd
  refine ret_of Tryz.func21 Tryz.ntmps21 rfl rfl rfl ?_
  (repeat (first | refine lw_pure hT rfl ?_ | refine lw_nil ?_ | refine cw_seq ?_ | refine cw_region ?_ | refine qw_then ?_))
  refine lw_load hT rfl rfl (v := .map (some m)) (hR.blk.cell 1) ?_
  skip
  refine lw_call hT rfl rfl (maps_Keys (some m) w) ?_
  rintro _ _ ⟨rfl, rfl⟩
  skip
  refine lw_call hT rfl rfl (sorted_keys m es.length D _ w hD1 (by rw [hD2]; unfold maxLen; omega) (by rw [hD2]; omega)) ?_
  rintro u w2 ⟨⟨ss, hss, hown⟩, hx2⟩
  have hx1 : Ex w (w.alloc (.cells #[.map (some m)] 78)) := Ext.alloc _ _
  have hpb : ss.Perm (es.map fun e => e.1.data.toList) := hss.trans hD3
  have tr : ∀ a b c : List UInt8, decide (a ≤ b) = true → decide (b ≤ c) = true → decide (a ≤ c) = true := fun a b c h1 h2 => by simp only [decide_eq_true_eq] at *; exact List.le_trans h1 h2
  have to : ∀ a b : List UInt8, (decide (a ≤ b) || decide (b ≤ a)) = true := fun a b => by simp only [Bool.or_eq_true, decide_eq_true_eq]; exact List.le_total a b
  have hms := List.mergeSort_perm ss (fun x y => decide (x ≤ y))
  have hsorted := List.pairwise_mergeSort tr to ss
  generalize ss.mergeSort (fun x y => decide (x ≤ y)) = S at hown hms hsorted
  have hSl : S.length = ss.length := hms.length_eq
  have hSp : S.Perm (es.map fun e => e.1.data.toList) := hms.trans hpb
  have hSn : S.Nodup := by
    refine hSp.nodup_iff.2 ?_
    have : (es.map fun e => e.1.data.toList) = (es.map (·.1)).map fun s => s.data.toList := by simp
    rw [this]
    exact List.pairwise_map.2 (List.Pairwise.imp (fun hne e => hne (by have := congrArg ofBytes e; rwa [ofBytes_inv, ofBytes_inv] at this)) hnd)
  (repeat (first | refine lw_pure hT rfl ?_ | refine lw_nil ?_ | refine qw_then ?_ | refine cw_ret ?_))
  refine qw_ret rfl ⟨⟨S.map ofBytes, ?_, ?_, ?_⟩, hx1.trans hx2⟩
  · unfold Rising
    rw [List.pairwise_map]
    have hne : S.Pairwise (fun a b => a ≠ b) := hSn
    refine (hsorted.and hne).imp fun {a b} ⟨h1, h2⟩ => ?_
    rw [ltB_iff]
    have ea : (ofBytes a).toList = a := by rw [Lib.toList_data]; rfl
    have eb : (ofBytes b).toList = b := by rw [Lib.toList_data]; rfl
    rw [ea, eb]
    have h1 : a ≤ b := of_decide_eq_true h1
    rcases List.le_iff_lt_or_eq.1 h1 with h | h
    · exact h
    · exact absurd h h2
  · have := hSp.map ofBytes
    rw [List.map_map] at this
    have e : (es.map (ofBytes ∘ fun e : ByteArray × Value => e.1.data.toList)) = es.map (·.1) := List.map_congr_left fun e _ => ofBytes_inv e.1
    rw [e] at this
    exact this.trans hpn
  · rw [List.length_map, hSl, List.map_map]
    exact own_mono hown hx1.size
end
end Go.Proofs.YtnglkhnfmbnfeaaGreat

/- Qi -/
namespace Go.Proofs.YtnglkhnfmbnfeaaGreat
open Go Go.RowKit Go.Maps Go.Sort Go.Shelf
section
variable {P : Program} {ρ : Ren}
/-- As the library's 'SeqGives', but of invariants alone by which nothing that lay before has turned. -/
def SeqB {α : Type} (F : Fence) (n : Nat) (P : Program) (g : Nat) (lb : Array Value) (enc : α → Value) (S : List α → Prop) (N : Nat) (w : World) : Prop :=
  ∀ (l : Nat) (J : List α → World → Prop) (W : World), Below w.heap.size w W → AbidesFrom W.heap.size J → (∀ s W1, J s W1 → Below w.heap.size w W1) →
    (∀ pre x W1, J pre W1 → pre.length < N → YieldAt F (n - 1) P l #[enc x] W1 fun e W' => e = .returned (.bool true) ∧ J (pre ++ [x]) W' ∧ KeepsWalks W1 W') →
    J [] W →
    CallsIn F n P g (#[.func (.yield l) #[] #[]] ++ lb) W fun e W' => (∃ v, e = .returned v) ∧ ∃ xs, S xs ∧ J xs W'
theorem SeqB.bounded {α : Type} {F : Fence} {n : Nat} {P : Program} {g : Nat} {lb : Array Value} {enc : α → Value} {S : List α → Prop} {N : Nat} {w : World}
    (h : SeqB F n P g lb enc S N w) : SeqB F n P g lb enc (fun xs => S xs ∧ xs.length ≤ N) N w := fun l J W hW hJ hB hY h0 => by
  refine (h l (fun xs W' => J xs W' ∧ xs.length ≤ N) W hW (fun s A B row hs hg hr => ⟨hJ s A B row hs.1 hg hr, hs.2⟩) (fun s W1 hs => hB s W1 hs.1)
    (fun pre x W1 hj hl => (hY pre x W1 hj.1 hl).mono (fun e w' hr => ⟨hr.1, ⟨hr.2.1, by simp; omega⟩, hr.2.2⟩)) ⟨h0, Nat.zero_le _⟩).mono ?_
  rintro e W' ⟨hv, xs, hS, hJ', hlen⟩
  exact ⟨hv, xs, ⟨hS, hlen⟩, hJ'⟩
set_option maxRecDepth 100000 in
set_option maxHeartbeats 2000000 in
theorem appendSeqB_in (L : SlLaysZ.n11 P ρ) (F : Fence) (n : Nat) (h11 : F.fn (ρ.f 11)) (hro : F.round = none) (hn : 2 ≤ n) (g : Nat) (lb : Array Value) (hFg : F.fn g) (eg : ∀ args w, (callFunc g args).run P w = .ok (.enter g args) w)
    (S : List (List UInt8) → Prop) (N : Nat) (hN : N ≤ maxLen) (hNb : N * 16 ≤ 140737488355328) (w : World) (hseq : SeqB F (n - 1) P g lb encStr S N w) :
    CallsIn F n P (ρ.f 11) #[.slice none 0 0, .func (.func g) #[] lb] w fun e w' => ∃ (v : Value) (ss : List (List UInt8)), e = .returned v ∧ S ss ∧ w'.ownsRow w.heap.size (ρ.t 26) 1 v ss.length (ss.map encStr) ∧ (v = .slice none 0 0 ↔ ss = []) ∧ Below w.heap.size w w' := by
  have h1 : 1 ≤ n := by omega
  have mixed := L.mixed; have t0 := L.t0; have a0 := L.a0; have z0 := L.z0; have v0 := L.v0; have t24 := L.t24; have a24 := L.a24; have z24 := L.z24; have v24 := L.v24; have t26 := L.t26; have a26 := L.a26; have z26 := L.z26; have v26 := L.v26; have t28 := L.t28; have a28 := L.a28; have z28 := L.z28; have v28 := L.v28
  have hne : ρ.t 24 ≠ ρ.t 26 := fun e => by have h := L.t24; rw [e, L.t26] at h; cases h
  have u0 := run_underlying L.t0; have u24 := run_underlying L.t24; have u26 := run_underlying L.t26; have u28 := run_underlying L.t28
  obtain ⟨_, _, FG⟩ := L.f11
  refine callsIn_of_wp_marks FG rfl h11 ?_ hro
  simp only [SlBodyZ.n11_ntmps ρ, List.size_toArray, List.length_cons, List.length_nil, Nat.reduceAdd, Nat.reduceSub, Array.replicate_succ, Array.replicate_zero, List.push_toArray, List.append_toArray, List.nil_append, List.cons_append]
  gi_wp2
  refine wpIn_rangeFunc ?_
  intro fn hfn
  rw [hro]
  obtain ⟨W0, hW0⟩ : ∃ W0, w.alloc (.cells #[.slice none 0 0] (ρ.t 24)) = W0 := ⟨_, rfl⟩
  have hs0 : W0.heap.size = w.heap.size + 1 := by rw [← hW0]; simp
  have hv0 : W0.heap[w.heap.size]? = some (.cells #[.slice none 0 0] (ρ.t 24) (0, 0)) := by rw [← hW0]; exact World.alloc_heap_new w _
  have hb0 : Below w.heap.size w W0 := by rw [← hW0]; exact (Below.refl _ w).alloc (Nat.le_refl _) _
  rw [hW0]
  obtain ⟨W1, hW1⟩ : ∃ W1, (W0.alloc (.deferred (some []))).alloc (.loop (AnyZ.apRec ρ fn (.func (.func g) #[] lb) w.heap.size W0.heap.size .ready none)) = W1 := ⟨_, rfl⟩
  have hold : ∀ k, k < W0.heap.size → W1.heap[k]? = W0.heap[k]? := fun k hk => by
    rw [← hW1]; exact (Below.heap_alloc _ _ k (by simp; omega)).trans (Below.heap_alloc _ _ k hk)
  have hb1 : Below w.heap.size w W1 := by rw [← hW1]; exact (hb0.alloc hb0.size _).alloc (by have := hb0.size; simp; omega) _
  have hs1 : W1.heap.size = W0.heap.size + 2 := by rw [← hW1]; simp
  have hM : AnyZ.ApAt ρ w fn (.func (.func g) #[] lb) w.heap.size (W0.heap.size + 1) W0.heap.size [] W1 :=
    ⟨⟨_, (hold w.heap.size (by omega)).trans hv0, ⟨rfl, .inl ⟨rfl, rfl⟩⟩, by simp⟩,
     by rw [← hW1]; have := World.alloc_heap_new (W0.alloc (.deferred (some []))) (.loop (AnyZ.apRec ρ fn (.func (.func g) #[] lb) w.heap.size W0.heap.size .ready none)); rwa [World.size_alloc] at this,
     by rw [← hW1]; exact (Below.heap_alloc _ _ _ (by simp)).trans (World.alloc_heap_new W0 _), hb1⟩
  refine ⟨W0.heap.size + 1, [{ target := .collected W0.heap.size, args := #[] }], W1, { target := .fn (.func g) lb, args := #[.func (.yield (W0.heap.size + 1)) #[] #[]] }, W1, g,
    #[.func (.yield (W0.heap.size + 1)) #[] #[]] ++ lb, W1, ?_, ?_, ?_, ?_, fun _ => h1, ?_⟩
  · rw [← hW1]; exact run_enterLoop_outer _ _ _ _ _
  · simp [resolve, go_sem]
  · intro f' hf'; simp [Target.leads] at hf'; subst hf'; exact hFg
  · simp [invoke, go_sem, eg]
  · refine (hseq (W0.heap.size + 1) (AnyZ.ApAt ρ w fn (.func (.func g) #[] lb) w.heap.size (W0.heap.size + 1) W0.heap.size) W1 hb1 (AnyZ.ap_abides ρ _ _ _ _ _ _ _ hb1.size) (fun s W1 hs => hs.below)
      (fun pre x W hJ hl => AnyZ.apYield { L with } F (n - 1 - 1) w fn hfn _ w.heap.size (W0.heap.size + 1) W0.heap.size (by omega) (by omega) (by omega) (Nat.le_refl _) (by omega) N hN hNb pre x W hJ hl) hM).mono ?_
    rintro e W2 ⟨⟨v0, rfl⟩, ss, hS, h2⟩
    obtain ⟨v, hv, hrow, hnil⟩ := h2.box
    have hend := run_endLoop (P := P) h2.L (by simp [AnyZ.apRec])
    obtain ⟨W3, hW3⟩ : ∃ W3, W2.putObj (W0.heap.size + 1) (.loop { AnyZ.apRec ρ fn (.func (.func g) #[] lb) w.heap.size W0.heap.size .ready none with state := .exhausted }) = W3 := ⟨_, rfl⟩
    rw [hW3] at hend
    have hg3 : W2.grownBy W3 (some (W0.heap.size + 1)) := by rw [← hW3]; exact grownBy_putObj_a _ _ _
    have hv3 : W3.heap[w.heap.size]? = some (.cells #[v] (ρ.t 24) (0, 0)) := by rw [← hW3]; exact (World.putObj_heap_other (by omega)).trans hv
    have hK3 : W3.heap[W0.heap.size]? = some (.deferred (some [])) := by rw [← hW3]; exact (World.putObj_heap_other (by omega)).trans h2.K
    have hrow3 := hrow.kept hg3 (ownsRow_ne_a hrow h2.L (fun cur e => by first | cases e | exact hne (Obj.cells.inj e).2.1))
    have hb3 : Below w.heap.size w W3 := h2.below.grown hg3 h2.below.size (fun k e => by cases e; omega)
    obtain ⟨hc3, hf3⟩ := cell_of_box_a hv3
    clear hW3
    refine ⟨none, W3, hend, ?_⟩
    gi_wp2
    rw [← hs0]
    refine ⟨by simp, .inl ⟨_, _, rfl, run_takeDeferred hK3, ?_⟩⟩
    exact ⟨_, results_tmp rfl _ _ _, v, ss, rfl, hS, hrow3.kept (grownBy_putObj_a _ _ _) (ownsRow_ne_a hrow3 hK3 (fun cur e => by first | cases e | exact hne (Obj.cells.inj e).2.1)), hnil, hb3.grown (grownBy_putObj_a _ _ _) hb3.size (fun k e => by cases e; omega)⟩


set_option maxHeartbeats 1000000 in
theorem collectB_in (L : SlLaysZ.n8 P ρ) (F : Fence) (n : Nat) (h8 : F.fn (ρ.f 8)) (h11 : F.fn (ρ.f 11)) (hro : F.round = none) (hn : 3 ≤ n) (g : Nat) (lb : Array Value) (hFg : F.fn g) (eg : ∀ args w, (callFunc g args).run P w = .ok (.enter g args) w)
    (S : List (List UInt8) → Prop) (N : Nat) (hN : N ≤ maxLen) (hNb : N * 16 ≤ 140737488355328) (w : World) (hseq : SeqB F (n - 1 - 1) P g lb encStr S N w) :
    CallsIn F n P (ρ.f 8) #[.func (.func g) #[] lb] w fun e w' => ∃ (v : Value) (ss : List (List UInt8)), e = .returned v ∧ S ss ∧ w'.ownsRow w.heap.size (ρ.t 26) 1 v ss.length (ss.map encStr) ∧ (v = .slice none 0 0 ↔ ss = []) ∧ Below w.heap.size w w' := by
  have h1 : 1 ≤ n := by omega
  have e11 : ∀ args w, (callFunc (ρ.f 11) args).run P w = .ok (.enter (ρ.f 11) args) w := L.f11.enters rfl
  have mixed := L.mixed; have t0 := L.t0; have a0 := L.a0; have z0 := L.z0; have v0 := L.v0; have t24 := L.t24; have a24 := L.a24; have z24 := L.z24; have v24 := L.v24; have t26 := L.t26; have a26 := L.a26; have z26 := L.z26; have v26 := L.v26; have t28 := L.t28; have a28 := L.a28; have z28 := L.z28; have v28 := L.v28
  have u0 := run_underlying L.t0; have u24 := run_underlying L.t24; have u26 := run_underlying L.t26; have u28 := run_underlying L.t28
  obtain ⟨_, _, FG⟩ := L.f8
  refine callsIn_of_wp FG rfl h8 ?_ hro
  simp only [SlBodyZ.n8_ntmps ρ, List.size_toArray, List.length_cons, List.length_nil, Nat.reduceAdd, Nat.reduceSub, Array.replicate_succ, Array.replicate_zero, List.push_toArray, List.append_toArray, List.nil_append, List.cons_append]
  gi_wp2_with (gi_at_fn (ρ.f 11); refine (appendSeqB_in { L with } F (n - 1) h11 hro (by omega) g lb hFg eg S N hN hNb _ hseq).mono ?_; rintro e w' ⟨v, ss, rfl, hS, hrow, hnil, hb⟩)
  go_ret
  exact ⟨v, ss, rfl, hS, hrow, hnil, hb⟩


set_option maxRecDepth 100000 in
set_option maxHeartbeats 2000000 in
theorem sortedB_in (L : SlLaysZ.n6 P ρ) (F : Fence) (n : Nat) (h6 : F.fn (ρ.f 6)) (h8 : F.fn (ρ.f 8)) (h9 : F.fn (ρ.f 9)) (h11 : F.fn (ρ.f 11)) (hro : F.round = none) (hn : 4 ≤ n) (hsort : AnyZ.SortsIn P ρ F (n - 1)) (e9 : ∀ args w, (callFunc (ρ.f 9) args).run P w = .ok (.enter (ρ.f 9) args) w) (g : Nat) (lb : Array Value) (hFg : F.fn g) (eg : ∀ args w, (callFunc g args).run P w = .ok (.enter g args) w)
    (S : List (List UInt8) → Prop) (N : Nat) (hN : N ≤ maxLen) (hNb : N * 16 ≤ 140737488355328) (w : World) (hseq : SeqB F (n - 1 - 1 - 1) P g lb encStr S N w) :
    CallsIn F n P (ρ.f 6) #[.func (.func g) #[] lb] w fun e w' => ∃ (v : Value) (ss : List (List UInt8)), e = .returned v ∧ S ss ∧
      w'.ownsRow w.heap.size (ρ.t 26) 1 v ss.length ((ss.mergeSort (fun x y => decide (x ≤ y))).map encStr) ∧ (v = .slice none 0 0 ↔ ss = []) ∧ Below w.heap.size w w' := by
  have h1 : 1 ≤ n := by omega
  have e8 : ∀ args w, (callFunc (ρ.f 8) args).run P w = .ok (.enter (ρ.f 8) args) w := L.f8.enters rfl
  have mixed := L.mixed; have t0 := L.t0; have a0 := L.a0; have z0 := L.z0; have v0 := L.v0; have t24 := L.t24; have a24 := L.a24; have z24 := L.z24; have v24 := L.v24; have t26 := L.t26; have a26 := L.a26; have z26 := L.z26; have v26 := L.v26; have t28 := L.t28; have a28 := L.a28; have z28 := L.z28; have v28 := L.v28
  have u0 := run_underlying L.t0; have u24 := run_underlying L.t24; have u26 := run_underlying L.t26; have u28 := run_underlying L.t28
  obtain ⟨_, _, FG⟩ := L.f6
  refine callsIn_of_wp FG rfl h6 ?_ hro
  simp only [SlBodyZ.n6_ntmps ρ, List.size_toArray, List.length_cons, List.length_nil, Nat.reduceAdd, Nat.reduceSub, Array.replicate_succ, Array.replicate_zero, List.push_toArray, List.append_toArray, List.nil_append, List.cons_append]
  gi_wp2_with (gi_at_fn (ρ.f 8); refine (collectB_in { L with } F (n - 1) h8 h11 hro (by omega) g lb hFg eg _ N hN hNb _ hseq.bounded).mono ?_; rintro e W ⟨v, ss, rfl, ⟨hS, hlen⟩, hrow, hnil, hb⟩)
  rcases hrow.2 with ⟨rfl, hz⟩ | ⟨gb, cap, cur, rfl, hbase, hgb, r1, r2, r3, r4⟩
  · -- nothing came: the nil slice is sorted and handed back
    have hss : ss = [] := List.eq_nil_of_length_eq_zero hz
    subst hss
    gi_wp2_with (gi_at_fn (ρ.f 9); refine (hsort.2 none 0 W).mono ?_; rintro e w' ⟨rfl, rfl⟩)
    go_ret
    exact ⟨.slice none 0 0, [], rfl, hS, by simpa using hrow, by simp, hb⟩
  · have hH : Holds encStr W gb 0 ss.toArray := holds_of_block hgb (by simpa using r4)
    have hgl : gb < W.heap.size := (Array.getElem?_eq_some_iff.1 hgb).1
    have hsz : ss.length < 4611686018427387904 := by omega
    have cS := hsort.1 gb 0 cap ss W hH hgl hsz
    gi_wp2_with (gi_at_fn (ρ.f 9); refine cS.mono ?_; rintro e w' ⟨rfl, nn, os, rfl⟩)
    go_ret
    exact ⟨_, ss, rfl, hS, ownsRow_sorted (by simp) hbase hgb r1 r2 r3, hnil, hb.grown (grownBy_sorted _) hb.size (fun j hj => by cases hj; exact hbase)⟩


end
end Go.Proofs.YtnglkhnfmbnfeaaGreat

/- Qj -/
namespace Go.Proofs.YtnglkhnfmbnfeaaGreat
open Go Go.SK Go.RowKit Go.Maps Go.Sort Go.Shelf
attribute [local go_sem] Oper.semAt_some

def toL (s : ByteArray) : List UInt8 := s.data.toList
theorem encStr_toL (s : ByteArray) : encStr (toL s) = .string s := by
  unfold encStr toL
  congr 1
set_option maxRecDepth 100000 in
set_option maxHeartbeats 2000000 in
theorem vals1_in (F : Fence) (n : Nat) (h7 : F.fn 132) (hro : F.round = none) (hn : 1 ≤ n) (l Bs b off cap : Nat) (zs : List ByteArray) (hreach : zs.length * 16 ≤ 140737488351232) (w : World) (hb : b < w.heap.size) (J : List (List UInt8) → World → Prop)
    (hB : ∀ s W1, J s W1 → Below w.heap.size w W1)
    (hY : ∀ pre x W, J pre W → pre.length < zs.length → YieldAt F (n - 1) Tryz.prog l #[encStr x] W fun e W' => e = .returned (.bool true) ∧ J (pre ++ [x]) W' ∧ KeepsWalks W W')
    (W : World) (hBs : W.cell? ⟨Bs, 0, none⟩ = some (.slice (some ⟨b, off, none⟩) zs.length cap)) (hc : ∀ j (hj : j < zs.length), w.cell? ⟨b, off + j, none⟩ = some (.string zs[j])) (h0 : J [] W) :
    CallsIn F n Tryz.prog 132 #[.func (.yield l) #[] #[], .pointer (some ⟨Bs, 0, none⟩)] W fun e W' => (∃ v, e = .returned v) ∧ J (zs.map toL) W' := by
  refine callsIn_of_wp Tryz.func132 rfl h7 ?_ hro
  simp only [Tryz.ntmps132, List.size_toArray, List.length_cons, List.length_nil, Nat.reduceAdd, Nat.reduceSub, Array.replicate_succ, Array.replicate_zero, List.push_toArray, List.append_toArray, List.nil_append, List.cons_append]
  obtain ⟨len, hlen⟩ : ∃ len, len = zs.length := ⟨_, rfl⟩
  rw [← hlen] at hBs hreach hY
  gi_wp2
  gi_loopw [7] (fun i wr => ∃ k : Nat, k ≤ len ∧ i = .int .i64 k ∧ J ((zs.take k).map toL) wr)
    (fun i _ => len - (intOf i).toNat)
  case atStart => exact ⟨0, Nat.zero_le _, rfl, by simpa using h0⟩
  case round =>
    obtain ⟨k, hk, rfl, hJs⟩ := hrel
    by_cases hlt : k < len
    · have hz : k < zs.length := by omega
      have hcx' : wr.cell? ⟨b, off + k, none⟩ = some (encStr (toL zs[k])) := ((hB _ _ hJs).cell (p := ⟨b, off + k, none⟩) hb).trans ((hc k hz).trans (by rw [encStr_toL]))
      obtain ⟨fn, tmps, assign, body, hy, hR⟩ := hY _ (toL zs[k]) wr hJs (by rw [List.length_map, List.length_take]; omega)
      gi_wp2
      refine hR.mono ?_
      rintro e W3 ⟨rfl, hJ3, hk3⟩
      gi_wp2
      go_roundw
      case rel => exact ⟨k + 1, by omega, by simp, by rw [List.take_succ_eq_append_getElem hz, List.map_append]; exact hJ3⟩
      case measure => simp [intOf]; omega
    · obtain rfl : k = len := by omega
      gi_wp2
      go_end0
      refine ⟨⟨_, rfl⟩, ?_⟩
      rw [hlen, List.take_length] at hJs
      exact hJs
set_option maxRecDepth 100000 in
set_option maxHeartbeats 1000000 in
theorem vals1_nil (F : Fence) (n : Nat) (h7 : F.fn 132) (hro : F.round = none) (l Bs cap : Nat) (a : Option Addr) (J : List (List UInt8) → World → Prop) (W : World) (hBs : W.cell? ⟨Bs, 0, none⟩ = some (.slice a 0 cap)) (h0 : J [] W) :
    CallsIn F n Tryz.prog 132 #[.func (.yield l) #[] #[], .pointer (some ⟨Bs, 0, none⟩)] W fun e W' => (∃ v, e = .returned v) ∧ J [] W' := by
  refine callsIn_of_wp Tryz.func132 rfl h7 ?_ hro
  simp only [Tryz.ntmps132, List.size_toArray, List.length_cons, List.length_nil, Nat.reduceAdd, Nat.reduceSub, Array.replicate_succ, Array.replicate_zero, List.push_toArray, List.append_toArray, List.nil_append, List.cons_append]
  gi_wp2
  gi_loopw [7] (fun i wr => i = .int .i64 0 ∧ J [] wr) (fun _ _ => 0)
  case atStart => exact ⟨rfl, h0⟩
  case round =>
    obtain ⟨rfl, hJs⟩ := hrel
    gi_wp2
    go_end0
    exact ⟨⟨_, rfl⟩, hJs⟩
/-- slices.Values of a slice of texts hands its texts back, one behind the other. -/
theorem vals_seq {A : Nat → Prop} {w : World} {v : Value} {zs : List ByteArray} (hS : SlS A w v zs) (hreach : zs.length * 16 ≤ 140737488351232) {Bs : Nat} (hBs : w.cell? ⟨Bs, 0, none⟩ = some v) :
    SeqB Fence.wide 2 Tryz.prog 132 #[.pointer (some ⟨Bs, 0, none⟩)] encStr (fun ss => ss = zs.map toL) zs.length w := fun l J W hW _ hB hY h0 => by
  have hc' := (hW.cell (p := ⟨Bs, 0, none⟩) (World.block_lt_of_cell? w _ hBs)).trans hBs
  obtain ⟨a, cap, rfl, hz, hr⟩ := hS.is
  rw [List.length_map] at hc'
  cases zs with
  | nil => exact (vals1_nil Fence.wide 2 trivial rfl l Bs cap a J W hc' h0).mono fun e W' ⟨he, hj⟩ => ⟨he, _, rfl, hj⟩
  | cons z zs =>
    obtain ⟨b, o, rfl, _, hrd⟩ := hr (by simp)
    have hcell : ∀ j (hj : j < (z :: zs).length), w.cell? ⟨b, o + j, none⟩ = some (.string (z :: zs)[j]) := fun j hj => by
      have := (hrd j [.string (z :: zs)[j]] (by rw [List.getElem?_map, List.getElem?_eq_getElem hj]; rfl)).2 0 _ rfl
      rwa [Nat.mul_one, Nat.add_zero] at this
    have hb := World.block_lt_of_cell? w _ (hcell 0 (by simp))
    exact (vals1_in Fence.wide 2 trivial rfl (by omega) l Bs b o cap (z :: zs) hreach w hb J hB hY W hc' hcell h0).mono fun e W' ⟨he, hj⟩ => ⟨he, _, rfl, hj⟩
theorem sl_Values {v : Value} (w : World) : Ret Tryz.prog 90 [v] w fun u w' => u = .func (.func 132) ⟨[]⟩ ⟨[.pointer (some ⟨w.heap.size, 0, none⟩)]⟩ ∧ Blk w' w.heap.size v.cells.toList 31 ∧ Ex w w' := by
  refine ret_of Tryz.func90 Tryz.ntmps90 rfl rfl rfl ?_
  (repeat (first | refine cw_seq ?_ | refine cw_region ?_))
  refine lw_box rfl ?_
  intro b w1 hbb hb1 hx1 hs1
  subst hbb
  (repeat (first | refine lw_pure hT rfl ?_ | refine lw_nil ?_ | refine cw_seq ?_ | refine cw_region ?_ | refine qw_then ?_ | refine cw_ret ?_))
  exact qw_ret rfl ⟨rfl, hb1, hx1⟩
/-- The texts of a slice, rising. -/
def sortL (zs : List ByteArray) : List ByteArray := ((zs.map toL).mergeSort (fun x y => decide (x ≤ y))).map ofBytes
theorem sortL_perm (zs : List ByteArray) : (sortL zs).Perm zs := by
  unfold sortL
  have h := (List.mergeSort_perm (zs.map toL) (fun x y => decide (x ≤ y))).map ofBytes
  rw [List.map_map] at h
  have e : zs.map (ofBytes ∘ toL) = zs := by
    conv => rhs; rw [← List.map_id zs]
    exact List.map_congr_left fun s _ => ofBytes_inv s
  rwa [e] at h
theorem sortL_iff (a b : List ByteArray) : sortL a = sortL b ↔ a.Perm b := by
  constructor
  · intro h
    have := (sortL_perm b)
    rw [← h] at this
    exact (sortL_perm a).symm.trans this
  · intro h
    unfold sortL
    congr 1
    have tr : ∀ a b c : List UInt8, decide (a ≤ b) = true → decide (b ≤ c) = true → decide (a ≤ c) = true := fun a b c h1 h2 => by simp only [decide_eq_true_eq] at *; exact List.le_trans h1 h2
    have to : ∀ a b : List UInt8, (decide (a ≤ b) || decide (b ≤ a)) = true := fun a b => by simp only [Bool.or_eq_true, decide_eq_true_eq]; exact List.le_total a b
    refine List.Perm.eq_of_pairwise (le := fun x y => decide (x ≤ y) = true) ?_ (List.pairwise_mergeSort tr to _) (List.pairwise_mergeSort tr to _) (((List.mergeSort_perm _ _).trans (h.map toL)).trans (List.mergeSort_perm _ _).symm)
    intro x y _ _ h1 h2
    exact List.le_antisymm (of_decide_eq_true h1) (of_decide_eq_true h2)
set_option maxHeartbeats 1000000 in
theorem sl_SortedVals {A : Nat → Prop} {w : World} {v : Value} {zs : List ByteArray} (hS : SlS A w v zs) (hreach : zs.length * 16 ≤ 140737488351232) {Bs : Nat} (hBs : w.cell? ⟨Bs, 0, none⟩ = some v) :
    Ret Tryz.prog 48 [.func (.func 132) ⟨[]⟩ ⟨[.pointer (some ⟨Bs, 0, none⟩)]⟩] w fun u w' => w'.ownsRow w.heap.size 9 1 u (sortL zs).length ((sortL zs).map Value.string) ∧ Ex w w' := by
  have := sortedB_in Tryz.sorted48 Fence.wide 5 trivial trivial trivial trivial rfl (by omega) (sorts_at _) (enters_of Tryz.func96 (by kernel_rfl) rfl) 132 #[.pointer (some ⟨Bs, 0, none⟩)] trivial (enters_of Tryz.func132 (by kernel_rfl) rfl) _ _ (by unfold maxLen; omega) (by omega) _ (vals_seq hS hreach hBs)
  refine ret_mk ((callsIn_wide.1 this).mono ?_)
  rintro e w' ⟨u, ss, rfl, rfl, h3, _, h5⟩
  refine ⟨u, rfl, ?_, ex_of_below h5⟩
  have e1 : (sortL zs).length = (zs.map toL).length := by rw [(sortL_perm zs).length_eq, List.length_map]
  have e2 : (sortL zs).map Value.string = ((zs.map toL).mergeSort (fun x y => decide (x ≤ y))).map encStr := by
    unfold sortL
    rw [List.map_map]; rfl
  rw [e1, e2]
  exact h3
/-- The values of a slice of slices of texts. -/
theorem SlsAt.vals {A : Nat → Prop} {w : World} {v : Value} {ps : List (List ByteArray)} (h : SlsAt A w v ps) : ∃ l : List (Value × List ByteArray), l.map (·.2) = ps ∧ Sl A w v 1 (l.map fun x => [x.1]) ∧ ∀ x ∈ l, SlS A w x.1 x.2 := by
  obtain ⟨p, cap, rfl, hrow⟩ := h.is
  have hz : ∃ us : List Value, us.length = ps.length ∧ ∀ i (hi : i < ps.length), ∃ b o, p = some ⟨b, o, none⟩ ∧ A b ∧ ∃ u, us[i]? = some u ∧ Rd w b (o + i * 1) [u] ∧ SlS A w u ps[i] := by
    have key : ∀ m, m ≤ ps.length → ∃ us : List Value, us.length = m ∧ ∀ i (hi : i < ps.length), i < m → ∃ b o, p = some ⟨b, o, none⟩ ∧ A b ∧ ∃ u, us[i]? = some u ∧ Rd w b (o + i * 1) [u] ∧ SlS A w u ps[i] := by
      intro m
      induction m with
      | zero => intro _; exact ⟨[], rfl, fun i _ h => by omega⟩
      | succ m ih =>
        intro hm
        obtain ⟨us, h1, h2⟩ := ih (by omega)
        obtain ⟨b, o, u, e1, e2, e3, e4⟩ := hrow m (by omega)
        refine ⟨us ++ [u], by simp [h1], fun i hi him => ?_⟩
        by_cases e : i = m
        · subst e
          exact ⟨b, o, e1, e2, u, by rw [List.getElem?_append_right (by omega)]; simp [h1], e3, e4⟩
        · obtain ⟨b', o', g1, g2, u', g3, g4⟩ := h2 i hi (by omega)
          exact ⟨b', o', g1, g2, u', by rw [List.getElem?_append_left (by omega)]; exact g3, g4⟩
    obtain ⟨us, h1, h2⟩ := key ps.length (Nat.le_refl _)
    exact ⟨us, h1, fun i hi => h2 i hi hi⟩
  obtain ⟨us, hl, hu⟩ := hz
  have hlen : (us.zip ps).length = ps.length := by rw [List.length_zip]; omega
  refine ⟨us.zip ps, ?_, ⟨⟨p, cap, ?_, ?_, ?_⟩, ?_⟩, ?_⟩
  · rw [List.map_snd_zip]; omega
  · rw [List.length_map, hlen]
  · exact fun hp => h.zero _ _ _ rfl hp
  · intro hne
    have hpl : 0 < ps.length := by
      rcases Nat.eq_zero_or_pos ps.length with h | h
      · exact absurd (List.eq_nil_of_length_eq_zero (by rw [List.length_map, hlen, h])) hne
      · exact h
    obtain ⟨b, o, e1, e2, _⟩ := hu 0 hpl
    refine ⟨b, o, e1, e2, fun i row hi => ?_⟩
    rw [List.getElem?_map] at hi
    obtain ⟨x, hx, rfl⟩ := Option.map_eq_some_iff.1 hi
    rw [List.getElem?_zip_eq_some] at hx
    obtain ⟨hx1, hx2⟩ := hx
    obtain ⟨b', o', e1', e2', u, e3, e4, e5⟩ := hu i (List.getElem?_eq_some_iff.1 hx2).1
    rw [e1] at e1'
    simp only [Option.some.injEq, Addr.mk.injEq, and_true] at e1'
    obtain ⟨rfl, rfl⟩ := e1'
    rw [hx1] at e3
    cases e3
    exact ⟨rfl, e4⟩
  · rw [List.length_map, hlen]; exact h.small
  · intro x hx
    obtain ⟨i, hi⟩ := List.getElem?_of_mem hx
    rw [List.getElem?_zip_eq_some] at hi
    obtain ⟨hx1, hx2⟩ := hi
    obtain ⟨hil, e⟩ := List.getElem?_eq_some_iff.1 hx2
    obtain ⟨b', o', e1', e2', u, e3, e4, e5⟩ := hu i hil
    rw [hx1] at e3
    cases e3
    rw [← e]; exact e5
theorem idxf_sls {α : Type} (row : α → List Value) (ev : α → Value) (hev : ∀ x, row x = [ev x]) {A : Nat → Prop} {v : Value} {l : List α} (p : α → Bool) {f : Nat} {fi cp : List Value} (w : World) (hS : Sl A w v 1 (l.map row)) (hf : memN T.fns f = true)
    (hcl : ∀ x ∈ l, ∀ w', Ex w w' → Ret Tryz.prog f (fi ++ [ev x] ++ cp) w' fun u w'' => u = .bool (p x) ∧ Ex w' w'') :
    Ret Tryz.prog 131 [v, .func (.func f) ⟨fi⟩ ⟨cp⟩] w fun u w' => u = .int .i64 (fidx p l) ∧ Ex w w' := by
  have hm := hS.small
  obtain ⟨a, cap, rfl, hz, hr⟩ := hS.is
  simp only [List.length_map] at *
  unfold maxLen at hm
  refine ret_of Tryz.func131 Tryz.ntmps131 rfl rfl rfl ?_
  (repeat (first | refine lw_pure hT rfl ?_ | refine lw_nil ?_ | refine cw_seq ?_ | refine cw_region ?_ | refine qw_then ?_ | refine cw_block ?_))
  refine cw_loop (fun i : Nat => [(0, .slice a l.length cap), (1, .func (.func f) ⟨fi⟩ ⟨cp⟩), (7, .int .i64 (l.length : Nat)), (8, .int .i64 (i : Nat))]) (fun i w' => Ex w w' ∧ i ≤ l.length ∧ ∀ j (hj : j < l.length), j < i → p l[j] = false) (fun i => l.length - i) 0 (by repeat (first | exact trivial | refine ⟨rfl, ?_⟩)) ⟨Ext.refl _ _, Nat.zero_le _, fun j _ hj => by omega⟩ ?_
  rintro i w' ⟨hx, hi, hb⟩
  (repeat (first | refine lw_pure hT rfl ?_ | refine lw_nil ?_ | refine cw_seq ?_ | refine cw_region ?_ | refine qw_then ?_))
  refine cw_cond rfl (fun h => ?_) (fun h => ?_)
  · have hlt : i < l.length := by simpa using h
    have hne : l.map row ≠ [] := by intro e; simp at e; subst e; simp at hlt
    obtain ⟨b, o, rfl, hA, hrd⟩ := hr hne
    obtain ⟨hlen, hrd⟩ := hrd i (row l[i]) (by simp [hlt])
    (repeat (first | refine lw_pure hT rfl ?_ | refine lw_nil ?_ | refine cw_seq ?_ | refine cw_region ?_ | refine qw_then ?_ | refine cw_skip ?_ | refine cw_block ?_))
    refine lw_index hT rfl rfl rfl i rfl hlt ?_
    skip
    refine lw_load hT rfl rfl (v := ev l[i]) (hx.cell (hrd 0 _ (by rw [hev]; rfl))) ?_
    skip
    refine lw_call_fn hT rfl hf rfl (hcl l[i] (List.getElem_mem hlt) w' hx) ?_
    rintro _ w2 ⟨rfl, hx2⟩
    (repeat (first | refine lw_nil ?_ | refine qw_then ?_))
    refine cw_cond rfl (fun h => ?_) (fun h => ?_)
    · (repeat (first | refine lw_pure hT rfl ?_ | refine lw_nil ?_ | refine cw_seq ?_ | refine cw_region ?_ | refine qw_then ?_ | refine cw_ret ?_ | refine qw_then_ret ?_ | refine qw_block_ret ?_))
      exact qw_ret rfl ⟨by rw [fidx_at hlt h fun j hj => hb j (by omega) hj]; rfl, hx.trans hx2⟩
    · (repeat (first | (refine lw_add rfl rfl ?_ ?_ ?_; iterate 2 omega) | refine lw_pure hT rfl ?_ | refine lw_nil ?_ | refine cw_region ?_ | refine qw_then ?_ | refine cw_skip ?_ | refine qw_block ?_))
      refine qw_round (i + 1) (by repeat (first | exact trivial | refine ⟨rfl, ?_⟩)) ⟨hx.trans hx2, hlt, fun j hj hji => ?_⟩ (by omega)
      by_cases e : j = i
      · subst e; exact h
      · exact hb j hj (by omega)
  · have : i = l.length := by simp at h; omega
    subst this
    (repeat (first | refine lw_pure hT rfl ?_ | refine lw_nil ?_ | refine cw_seq ?_ | refine cw_region ?_ | refine qw_then ?_ | refine cw_ret ?_ | refine cw_exit ?_ | refine qw_block_exit ?_ | refine qw_then_exit ?_))
    exact qw_ret rfl ⟨by rw [fidx_none fun j hj => hb j hj hj]; rfl, hx⟩
theorem cnf_sls {α : Type} (row : α → List Value) (ev : α → Value) (hev : ∀ x, row x = [ev x]) {A : Nat → Prop} {v : Value} {l : List α} (p : α → Bool) {f : Nat} {fi cp : List Value} (w : World) (hS : Sl A w v 1 (l.map row)) (hf : memN T.fns f = true)
    (hcl : ∀ x ∈ l, ∀ w', Ex w w' → Ret Tryz.prog f (fi ++ [ev x] ++ cp) w' fun u w'' => u = .bool (p x) ∧ Ex w' w'') :
    Ret Tryz.prog 88 [v, .func (.func f) ⟨fi⟩ ⟨cp⟩] w fun u w' => u = .bool (l.any p) ∧ Ex w w' := by
  refine ret_of Tryz.func88 Tryz.ntmps88 rfl rfl rfl ?_
  (repeat (first | refine lw_pure hT rfl ?_ | refine lw_nil ?_ | refine cw_seq ?_ | refine cw_region ?_ | refine qw_then ?_))
  refine lw_call hT rfl rfl (idxf_sls row ev hev p w hS hf hcl) ?_
  rintro _ w' ⟨rfl, hx⟩
  (repeat (first | refine lw_pure hT rfl ?_ | refine lw_nil ?_ | refine qw_then ?_ | refine cw_ret ?_))
  exact qw_ret rfl ⟨by rw [fidx_ge]; rfl, hx⟩
theorem spl_empty {A : Nat → Prop} {w : World} {v : Value} {l : List ByteArray} (hS : SlS A w v l) : Ret Tryz.prog 87 ([] ++ [v] ++ []) w fun u w' => u = .bool (decide (l = [])) ∧ Ex w w' := by
  obtain ⟨a, c, rfl, _, _⟩ := hS.is
  simp only [List.length_map] at *
  refine ret_of Tryz.func87 Tryz.ntmps87 rfl rfl rfl ?_
  (repeat (first | refine lw_pure hT rfl ?_ | refine lw_nil ?_ | refine cw_seq ?_ | refine cw_region ?_ | refine qw_then ?_ | refine cw_ret ?_))
  refine qw_ret rfl ⟨?_, Ext.refl _ _⟩
  show Value.bool _ = Value.bool _
  congr 1
  rw [decide_eq_decide]
  constructor
  · intro h; exact List.eq_nil_of_length_eq_zero (by omega)
  · intro h; rw [h]; rfl
set_option maxHeartbeats 2000000 in
theorem spl_parted {A B : Nat → Prop} {w : World} {b : BillD} {vb vp v : Value} {ps : List (List ByteArray)} (hS : SlsAt A w v ps) (hB : SlS B w vb b.boxes) (h1 : ps.flatten.length ≤ 1000000) (h2 : b.boxes.length ≤ 1000000) :
    Ret Tryz.prog 42 [.agg ⟨encB b vb vp⟩, v] w fun u w' => (∃ bb, u = .bool bb ∧ (bb = true ↔ PartP b.boxes ps)) ∧ Ex w w' := by
  obtain ⟨l, hl, hSl, hel⟩ := hS.vals
  refine ret_of Tryz.func42 Tryz.ntmps42 rfl rfl rfl ?_
  (repeat (first | refine cw_seq ?_ | refine cw_region ?_))
  refine lw_box rfl ?_
  intro b2 w1 hbb2 hb2 hx1 hs1
  replace hb2 : Blk w1 b2 (encB b vb vp) 33 := hb2
  (repeat (first | refine lw_pure hT rfl ?_ | refine lw_nil ?_ | refine cw_seq ?_ | refine cw_region ?_ | refine qw_then ?_))
  refine cw_draw hM (fun w' => Ex w1 w') [] rfl rfl (by repeat (first | with_reducible refine nop_then ?_ | with_reducible refine nop_block ?_ | with_reducible exact nop_body)) (fun w2 hx2 _ => ⟨hx2, ?_⟩)
  have hx02 := hx1.trans hx2
  (refine rw_takeP 0 rfl rfl (by kernel_rfl) (by kernel_rfl) (by kernel_rfl) (by kernel_rfl) rfl (yo_pure hT rfl) ?_; refine rw_takeP 1 rfl rfl (by kernel_rfl) (by kernel_rfl) (by kernel_rfl) (by kernel_rfl) rfl (yo_pure hT rfl) ?_)
  refine rw_one 2 rfl (by kernel_rfl) rfl (fun hcl => ?_)
  refine lw_call hT rfl rfl (cnf_sls (fun x : Value × List ByteArray => [x.1]) (fun x => x.1) (fun _ => rfl) (fun x => decide (x.2 = [])) w2 (hSl.ex hx02) rfl (fun x hx w' hx' => spl_empty ((hel x hx).ex (hx02.trans hx')))) ?_
  rintro _ w3 ⟨rfl, hx3⟩
  have hx13 := hx2.trans hx3
  have hany : (l.any fun x => decide (x.2 = [])) = true ↔ ¬ ∀ p ∈ ps, p ≠ [] := by
    rw [List.any_eq_true, ← hl]
    constructor
    · rintro ⟨x, hx, h⟩ hall
      exact hall x.2 (List.mem_map.2 ⟨x, hx, rfl⟩) (of_decide_eq_true h)
    · intro h
      exact Classical.byContradiction fun hne => h fun p hp hpe => by
        obtain ⟨x, hx, rfl⟩ := List.mem_map.1 hp
        exact hne ⟨x, hx, decide_eq_true hpe⟩
  (repeat (refine lw_nil ?_))
  refine qw_rw (by repeat (first | with_reducible refine nop_then ?_ | with_reducible refine nop_block ?_ | with_reducible exact nop_body)) hcl (fun _ => hx13) ?_
  cases hc : (l.any fun x => decide (x.2 = [])) with
  | true =>
    have hno := hany.1 hc
    (refine rw_takeP 3 rfl rfl (by kernel_rfl) (by kernel_rfl) (by kernel_rfl) (by kernel_rfl) rfl (yo_pure hT rfl) ?_; refine rw_takeP 4 rfl rfl (by kernel_rfl) (by kernel_rfl) (by kernel_rfl) (by kernel_rfl) rfl (yo_pure hT rfl) ?_)
    (refine rw_takeP 5 rfl rfl (by kernel_rfl) (by kernel_rfl) (by kernel_rfl) (by kernel_rfl) rfl (yo_off rfl rfl) ?_; refine rw_takeP 9 rfl rfl (by kernel_rfl) (by kernel_rfl) (by kernel_rfl) (by kernel_rfl) rfl (yo_off rfl rfl) ?_; refine rw_takeP 10 rfl rfl (by kernel_rfl) (by kernel_rfl) (by kernel_rfl) (by kernel_rfl) rfl (yo_off rfl rfl) ?_; refine rw_takeP 6 rfl rfl (by kernel_rfl) (by kernel_rfl) (by kernel_rfl) (by kernel_rfl) rfl (yo_off rfl rfl) ?_; refine rw_takeP 7 rfl rfl (by kernel_rfl) (by kernel_rfl) (by kernel_rfl) (by kernel_rfl) rfl (yo_off rfl rfl) ?_; refine rw_takeP 8 rfl rfl (by kernel_rfl) (by kernel_rfl) (by kernel_rfl) (by kernel_rfl) rfl (yo_off rfl rfl) ?_; refine rw_takeP 11 rfl rfl (by kernel_rfl) (by kernel_rfl) (by kernel_rfl) (by kernel_rfl) rfl (yo_off rfl rfl) ?_; refine rw_takeP 12 rfl rfl (by kernel_rfl) (by kernel_rfl) (by kernel_rfl) (by kernel_rfl) rfl (yo_off rfl rfl) ?_; refine rw_takeP 13 rfl rfl (by kernel_rfl) (by kernel_rfl) (by kernel_rfl) (by kernel_rfl) rfl (yo_off rfl rfl) ?_)
    (refine rw_takeP 14 rfl rfl (by kernel_rfl) (by kernel_rfl) (by kernel_rfl) (by kernel_rfl) rfl (yo_pure hT rfl) ?_; refine rw_takeP 15 rfl rfl (by kernel_rfl) (by kernel_rfl) (by kernel_rfl) (by kernel_rfl) rfl (yo_pure hT rfl) ?_)
    refine rw_done (by kernel_rfl) ?_
    (repeat (first | refine qw_then ?_ | refine cw_ret ?_))
    exact qw_ret rfl ⟨⟨false, rfl, ⟨fun h => by (exact absurd h (by decide)), fun h => absurd h.1 hno⟩⟩, hx1.trans hx13⟩
  | false =>
    have hyes : ∀ p ∈ ps, p ≠ [] := Classical.byContradiction fun h => by rw [hany.2 h] at hc; cases hc
    (refine rw_takeP 3 rfl rfl (by kernel_rfl) (by kernel_rfl) (by kernel_rfl) (by kernel_rfl) rfl (yo_pure hT rfl) ?_; refine rw_takeP 4 rfl rfl (by kernel_rfl) (by kernel_rfl) (by kernel_rfl) (by kernel_rfl) rfl (yo_pure hT rfl) ?_)
    (refine rw_takeP 5 rfl rfl (by kernel_rfl) (by kernel_rfl) (by kernel_rfl) (by kernel_rfl) rfl (yo_on rfl rfl (yo_pure hT rfl)) ?_; refine rw_takeP 9 rfl rfl (by kernel_rfl) (by kernel_rfl) (by kernel_rfl) (by kernel_rfl) rfl (yo_on rfl rfl (yo_pure hT rfl)) ?_)
    refine rw_take 10 rfl rfl (by kernel_rfl) (by kernel_rfl) (by kernel_rfl) (by kernel_rfl) rfl (yo_on rfl rfl (yo_load hT rfl rfl (v := vb) (fun w' hS => (hb2.ex hS).cell 5))) ?_
    refine rw_one 6 rfl (by kernel_rfl) rfl (fun hcl => ?_)
    refine lw_gon_t rfl rfl ?_
    refine lw_call hT rfl rfl (sl_Concat (hS.ex (hx1.trans hx13)) (by omega)) ?_
    rintro u4 w4 ⟨hu4, hx4⟩
    have hx14 := hx13.trans hx4
    (repeat (refine lw_nil ?_))
    refine qw_rw (by repeat (first | with_reducible refine nop_then ?_ | with_reducible refine nop_block ?_ | with_reducible exact nop_body)) hcl (fun _ => hx14) ?_
    have hs4 : SlS (fun _ => True) w4 u4 ps.flatten := sls_own hu4 fun _ _ => trivial
    refine rw_one 7 rfl (by kernel_rfl) rfl (fun hcl => ?_)
    refine lw_gon_t rfl rfl ?_
    refine lw_call hT rfl rfl (sl_Values w4) ?_
    rintro _ w5 ⟨rfl, hb5, hx5⟩
    have hx15 := hx14.trans hx5
    (repeat (refine lw_nil ?_))
    refine qw_rw (by repeat (first | with_reducible refine nop_then ?_ | with_reducible refine nop_block ?_ | with_reducible exact nop_body)) hcl (fun _ => hx15) ?_
    refine rw_one 8 rfl (by kernel_rfl) rfl (fun hcl => ?_)
    refine lw_gon_t rfl rfl ?_
    have one4 : u4.cells.toList = [u4] := by obtain ⟨a, c, e⟩ := own_slice0 hu4; rw [e]; rfl
    rw [one4] at hb5
    refine lw_call hT rfl rfl (sl_SortedVals (hs4.ex hx5) (by omega) (hb5.cell 0)) ?_
    rintro u6 w6 ⟨hu6, hx6⟩
    have hx16 := hx15.trans hx6
    (repeat (refine lw_nil ?_))
    refine qw_rw (by repeat (first | with_reducible refine nop_then ?_ | with_reducible refine nop_block ?_ | with_reducible exact nop_body)) hcl (fun _ => hx16) ?_
    refine rw_one 11 rfl (by kernel_rfl) rfl (fun hcl => ?_)
    refine lw_gon_t rfl rfl ?_
    refine lw_call hT rfl rfl (sl_Values w6) ?_
    rintro _ w7 ⟨rfl, hb7, hx7⟩
    have hx17 := hx16.trans hx7
    (repeat (refine lw_nil ?_))
    refine qw_rw (by repeat (first | with_reducible refine nop_then ?_ | with_reducible refine nop_block ?_ | with_reducible exact nop_body)) hcl (fun _ => hx17) ?_
    refine rw_one 12 rfl (by kernel_rfl) rfl (fun hcl => ?_)
    refine lw_gon_t rfl rfl ?_
    have oneb : vb.cells.toList = [vb] := by obtain ⟨a, c, e, _⟩ := hB.is; rw [e]; rfl
    rw [oneb] at hb7
    refine lw_call hT rfl rfl (sl_SortedVals (hB.ex (hx1.trans hx17)) (by omega) (hb7.cell 0)) ?_
    rintro u8 w8 ⟨hu8, hx8⟩
    have hx18 := hx17.trans hx8
    (repeat (refine lw_nil ?_))
    refine qw_rw (by repeat (first | with_reducible refine nop_then ?_ | with_reducible refine nop_block ?_ | with_reducible exact nop_body)) hcl (fun _ => hx18) ?_
    refine rw_one 13 rfl (by kernel_rfl) rfl (fun hcl => ?_)
    refine lw_gon_t rfl rfl ?_
    have hs6 : SlS (fun _ => True) w8 u6 (sortL ps.flatten) := sls_own (own_ex hu6 (hx7.trans hx8)) fun _ _ => trivial
    have hs8 : SlS (fun _ => True) w8 u8 (sortL b.boxes) := sls_own hu8 fun _ _ => trivial
    refine lw_call hT rfl rfl (sl_Equal hs6 hs8) ?_
    rintro _ w9 ⟨rfl, hx9⟩
    have hx19 := hx18.trans hx9
    (repeat (refine lw_nil ?_))
    refine qw_rw (by repeat (first | with_reducible refine nop_then ?_ | with_reducible refine nop_block ?_ | with_reducible exact nop_body)) hcl (fun _ => hx19) ?_
    (refine rw_takeP 14 rfl rfl (by kernel_rfl) (by kernel_rfl) (by kernel_rfl) (by kernel_rfl) rfl (yo_pure hT rfl) ?_; refine rw_takeP 15 rfl rfl (by kernel_rfl) (by kernel_rfl) (by kernel_rfl) (by kernel_rfl) rfl (yo_pure hT rfl) ?_)
    refine rw_done (by kernel_rfl) ?_
    (repeat (first | refine qw_then ?_ | refine cw_ret ?_))
    refine qw_ret rfl ⟨⟨_, rfl, ?_⟩, hx1.trans hx19⟩
    rw [decide_eq_true_iff, sortL_iff]
    exact ⟨fun h => ⟨hyes, h⟩, fun h => h.2⟩
end Go.Proofs.YtnglkhnfmbnfeaaGreat

/- Ua -/
namespace Go.Proofs.YtnglkhnfmbnfeaaGreat
open Go Go.SK

structure SActD where
  kind : Int
  bill : ByteArray
  by_ : ByteArray
  number : ByteArray
  shipper : ByteArray
  frm : ByteArray
  parts : List (List ByteArray)
  names : List ByteArray
  day : Int
structure SActD.Ok (a : SActD) : Prop where
  kind : 0 ≤ a.kind ∧ a.kind ≤ 255
  bill : a.bill.size ≤ maxLen
  by_ : a.by_.size ≤ maxLen
  number : a.number.size ≤ maxLen
  shipper : a.shipper.size ≤ maxLen
  frm : a.frm.size ≤ maxLen
  parts : ∀ p ∈ a.parts, ∀ x ∈ p, x.size ≤ maxLen
  names : ∀ x ∈ a.names, x.size ≤ maxLen
noncomputable def callD (r : RegD) (a : SActD) : Int × List ActD :=
  if a.kind.tmod 3 = 0 then splitC r a.bill a.by_ a.parts a.names a.day
  else if a.kind.tmod 3 = 1 then joinC r a.names a.by_ a.number a.day
  else switchC r a.bill a.by_ a.number a.shipper a.frm a.day
/-- Bills go into others. -/
def goL (P : List ByteArray) (by_ : ByteArray) (day : Int) (N : List BillD) : List ActD := P.map (retiA · by_ day) ++ N.map (issA · by_)
theorem callR_ne {r : RegD} {c : Int × List ActD} (h : callC r c ≠ 0) : callR r c = r := by
  unfold callC at h
  unfold callR
  split
  · next h0 => rw [if_pos h0] at h; unfold stepsR; rw [if_neg h]
  · rfl
theorem callC_zero {r : RegD} {c : Int × List ActD} (h : callC r c = 0) : c.1 = 0 ∧ stepsC r c.2 = 0 ∧ callR r c = runA r c.2 := by
  unfold callC at h
  unfold callR
  by_cases h0 : c.1 = 0
  · rw [if_pos h0] at h ⊢
    exact ⟨h0, h, by unfold stepsR; rw [if_pos h]⟩
  · rw [if_neg h0] at h; exact absurd h h0
theorem callR_len {r : RegD} (h : r.l.length ≤ 256) (c : Int × List ActD) : (callR r c).l.length ≤ 256 := by
  unfold callR; split
  · exact steps_len h _
  · exact h
theorem runA_cons (r : RegD) (a : ActD) (l : List ActD) : runA r (a :: l) = runA (doA r a) l := rfl
theorem stepsC_cons {r : RegD} {a : ActD} {l : List ActD} (h : stepsC r (a :: l) = 0) : actC r a = 0 ∧ stepsC (doA r a) l = 0 := by
  simp only [stepsC] at h
  split at h
  · next h0 => exact ⟨h0, h⟩
  · next h0 => exact absurd h h0
theorem callR_carrier (r : RegD) (c : Int × List ActD) : (callR r c).carrier = r.carrier := by
  unfold callR stepsR
  split
  · split
    · exact runA_carrier _ _
    · rfl
  · rfl
theorem reti_kind (n b : ByteArray) (d : Int) : 1 ≤ (retiA n b d).kind ∧ (retiA n b d).kind ≤ 5 := (show (1 : Int) ≤ 5 ∧ (5 : Int) ≤ 5 from ⟨by decide, by decide⟩)
theorem reti_ask (n b : ByteArray) (d : Int) : (retiA n b d).ask = ⟨n, b, -1, 0, true, d, ⟨#[]⟩, false⟩ := rfl
theorem reti_nz (n b : ByteArray) (d : Int) : ¬ (retiA n b d).kind = 0 := (show ¬ (5 : Int) = 0 by decide)
theorem reti_actC (r : RegD) (n b : ByteArray) (d : Int) : actC r (retiA n b d) = askC r (retiA n b d).ask := by
  unfold actC; rw [if_neg (reti_nz n b d)]
theorem iss_actC (r : RegD) (b : BillD) (h : ByteArray) : actC r (issA b h) = issueC r b h := rfl
theorem iss_doA (r : RegD) (b : BillD) (h : ByteArray) : doA r (issA b h) = issueD r b h := rfl
theorem reti_after (e : EntD) (n b : ByteArray) (d : Int) : e.after (retiA n b d) = { e with state := 4, ps := e.ps.map (stateP 2) } := rfl
theorem reti_ok {k : Nat} {r : RegD} (hG : Good k r) {n b : ByteArray} {d : Int} (h : actC r (retiA n b d) = 0) :
    ∃ e, r.at? n = some e ∧ n = e.bill.number ∧ e ∈ r.l ∧ e.state = 0 ∧ e.full b = true ∧ dayB d = true := by
  rw [reti_actC] at h
  obtain ⟨e, i, hat, hi, hn, hask⟩ := askC_ok (reti_kind n b d) h
  have he := List.mem_of_getElem? hi
  obtain ⟨_, h2, h3, h4, _⟩ := ask_ok hask
  rw [reti_ask] at h3 h4
  refine ⟨e, hat, hn, he, h2, (full_iff (hG.ent e he).three).2 ⟨h2, fun j hj => h3 j ?_⟩, (h4 rfl).1⟩
  match j, hj with
  | 0, _ => simp [ixs]
  | 1, _ => simp [ixs]
  | 2, _ => simp [ixs]
theorem reti_doA {r : RegD} {n b : ByteArray} {d : Int} (h : actC r (retiA n b d) = 0) : doA r (retiA n b d) = r.upd n (·.after (retiA n b d)) := by
  rw [reti_actC] at h
  unfold doA
  rw [if_neg (reti_nz n b d), if_pos h]; rfl
theorem at_reti {r : RegD} {n b : ByteArray} {d : Int} (h : actC r (retiA n b d) = 0) {e : EntD} (he : r.at? n = some e) : (doA r (retiA n b d)).at? n = some { e with state := 4, ps := e.ps.map (stateP 2) } := by
  rw [reti_actC] at h
  obtain ⟨x, h1, h2⟩ := at_do (reti_kind n b d) h
  have h1 : r.at? n = some x := h1
  rw [he] at h1; cases h1
  exact h2
theorem at_reti_ne {r : RegD} {n n' b : ByteArray} {d : Int} (hne : n' ≠ n) : (doA r (retiA n b d)).at? n' = r.at? n' := by
  by_cases h : actC r (retiA n b d) = 0
  · rw [reti_doA h, at_upd (fun e => after_bill e _)]
    cases hat : r.at? n' with
    | none => rfl
    | some e =>
      obtain ⟨hn, _⟩ := at_some hat
      rw [Option.map_some, if_neg (fun e' => hne (hn.trans e'.symm))]
  · rw [act_same h]
/-- A box stands in a live bill. -/
def RegD.liveX (r : RegD) (x : ByteArray) : Prop := ∃ e ∈ r.l, e.state = 0 ∧ x ∈ e.bill.boxes
theorem good_one {k : Nat} {r : RegD} (hG : Good k r) {e x : EntD} {s : ByteArray} (he : e ∈ r.l) (hx : x ∈ r.l) (h1 : e.state = 0) (h2 : x.state = 0) (h3 : s ∈ e.bill.boxes) (h4 : s ∈ x.bill.boxes) : e = x := by
  obtain ⟨i, hi⟩ := List.getElem?_of_mem he
  obtain ⟨j, hj⟩ := List.getElem?_of_mem hx
  have := hG.box i j e x s hi hj h1 h2 h3 h4
  subst this
  rw [hi] at hj; cases hj; rfl
theorem live_reti {k : Nat} {r : RegD} (hG : Good k r) {n b : ByteArray} {d : Int} (h : actC r (retiA n b d) = 0) {e : EntD} (he : r.at? n = some e) (x : ByteArray) :
    (doA r (retiA n b d)).liveX x ↔ r.liveX x ∧ x ∉ e.bill.boxes := by
  obtain ⟨e0, h1, hn, hm, hs, _⟩ := reti_ok hG h
  rw [he] at h1; cases h1
  rw [reti_doA h]
  unfold RegD.liveX RegD.upd
  dsimp only
  constructor
  · rintro ⟨y, hy, hys, hyx⟩
    obtain ⟨y0, hy0, rfl⟩ := List.mem_map.1 hy
    by_cases hny : n = y0.bill.number
    · rw [if_pos hny] at hys
      exact absurd hys (show ¬ (4 : Int) = 0 by decide)
    · rw [if_neg hny] at hys hyx
      refine ⟨⟨y0, hy0, hys, hyx⟩, fun hx => ?_⟩
      have := good_one hG hy0 hm hys hs hyx hx
      subst this
      exact hny hn
  · rintro ⟨⟨y, hy, hys, hyx⟩, hx⟩
    refine ⟨y, List.mem_map.2 ⟨y, hy, ?_⟩, hys, hyx⟩
    rw [if_neg]
    intro hny
    have e1 := at_self hG.nd hy
    rw [← hny, he] at e1; cases e1
    exact hx hyx
theorem live_iss {r : RegD} {b : BillD} {h : ByteArray} (hc : actC r (issA b h) = 0) (x : ByteArray) : (doA r (issA b h)).liveX x ↔ r.liveX x ∨ x ∈ b.boxes := by
  rw [iss_actC] at hc
  rw [iss_doA]
  unfold issueD
  rw [if_pos hc]
  unfold RegD.liveX
  dsimp only
  constructor
  · rintro ⟨y, hy, hys, hyx⟩
    rcases List.mem_append.1 hy with hy | hy
    · exact .inl ⟨y, hy, hys, hyx⟩
    · rw [List.mem_singleton.1 hy] at hyx; exact .inr hyx
  · rintro (⟨y, hy, hys, hyx⟩ | hx)
    · exact ⟨y, List.mem_append_left _ hy, hys, hyx⟩
    · exact ⟨newEnt b h, by simp, rfl, hx⟩
theorem iss_new {r : RegD} {b : BillD} {h : ByteArray} (hc : actC r (issA b h) = 0) : r.at? b.number = none ∧ mayB r.carrier b = true ∧ nameB h = true ∧ r.l.length ≠ 256 := by
  rw [iss_actC] at hc
  unfold issueC at hc
  split at hc
  · cases hc
  next h0 =>
  split at hc
  · cases hc
  next h1 =>
  split at hc
  · cases hc
  split at hc
  · cases hc
  next h3 =>
  simp only [Bool.or_eq_true, Bool.not_eq_true', not_or, Bool.not_eq_false] at h0
  exact ⟨by simpa using h1, h0.1, h0.2, h3⟩
theorem at_iss {r : RegD} {b : BillD} {h : ByteArray} (hc : actC r (issA b h) = 0) : (doA r (issA b h)).at? b.number = some (newEnt b h) := by
  have hn := (iss_new hc).1
  rw [iss_actC] at hc
  rw [iss_doA]
  unfold issueD
  rw [if_pos hc]
  unfold RegD.at? at hn ⊢
  rw [List.find?_append, hn]
  simp [newEnt]
theorem at_iss_ne {r : RegD} {b : BillD} {h n : ByteArray} (hne : n ≠ b.number) : (doA r (issA b h)).at? n = r.at? n := by
  rw [iss_doA]
  unfold issueD
  split
  · unfold RegD.at?
    rw [List.find?_append]
    have : ¬ n = (newEnt b h).bill.number := hne
    simp only [List.find?_cons, decide_eq_false this, List.find?_nil, Option.or_none]
  · rfl
theorem issA_kind (b : BillD) (h : ByteArray) : (issA b h).kind = 0 := rfl
/-- Some bills retired. -/
theorem steps_reti {b : ByteArray} {d : Int} (hb : b.size ≤ maxLen) : ∀ {P : List ByteArray} {k : Nat} {r : RegD}, Good k r → (∀ n ∈ P, n.size ≤ maxLen) → stepsC r (P.map (retiA · b d)) = 0 →
    Good (k + P.length) (runA r (P.map (retiA · b d))) ∧ P.Nodup ∧
    (∀ n ∈ P, ∃ e, r.at? n = some e ∧ e ∈ r.l ∧ e.state = 0 ∧ e.full b = true ∧ dayB d = true ∧ (runA r (P.map (retiA · b d))).at? n = some { e with state := 4, ps := e.ps.map (stateP 2) }) ∧
    (∀ n, n ∉ P → (runA r (P.map (retiA · b d))).at? n = r.at? n) ∧
    (∀ x, (runA r (P.map (retiA · b d))).liveX x ↔ r.liveX x ∧ ∀ n ∈ P, ∀ e, r.at? n = some e → x ∉ e.bill.boxes) ∧ (runA r (P.map (retiA · b d))).l.length = r.l.length
  | [], k, r, hG, _, _ => ⟨hG, List.nodup_nil, fun n hn => by simp at hn, fun n _ => rfl, fun x => ⟨fun h => ⟨h, fun n hn => by simp at hn⟩, fun h => h.1⟩, rfl⟩
  | n :: P, k, r, hG, hP, h => by
    rw [List.map_cons] at h ⊢
    rw [runA_cons]
    obtain ⟨h1, h2⟩ := stepsC_cons h
    obtain ⟨e, hat, hn, hm, hs, hf, hd⟩ := reti_ok hG h1
    have hG1 : Good (k + 1) (doA r (retiA n b d)) := good_do hG (by have := reti_kind n b d; omega) zeroB_ok (Nat.zero_le _)
    have ih := steps_reti hb (P := P) hG1 (fun m hm => hP m (List.mem_cons_of_mem _ hm)) h2
    have hat1 := at_reti h1 hat
    have hnP : n ∉ P := fun hm => by
      obtain ⟨e', g1, _, g2, _⟩ := ih.2.2.1 n hm
      rw [hat1] at g1; cases g1
      exact absurd g2 (show ¬ (4 : Int) = 0 by decide)
    have hup : (doA r (retiA n b d)).l.length = r.l.length := by rw [reti_doA h1, upd_len]
    refine ⟨?_, List.nodup_cons.2 ⟨hnP, ih.2.1⟩, ?_, ?_, ?_, by rw [ih.2.2.2.2.2, hup]⟩
    · rw [List.length_cons, show k + (P.length + 1) = k + 1 + P.length from by omega]; exact ih.1
    · intro m hm
      rcases List.mem_cons.1 hm with rfl | hm
      · refine ⟨e, hat, ‹_›, hs, hf, hd, ?_⟩
        rw [ih.2.2.2.1 m hnP]; exact hat1
      · have hmn : m ≠ n := fun e => hnP (by rw [← e]; exact hm)
        obtain ⟨e', g1, _, g3⟩ := ih.2.2.1 m hm
        rw [at_reti_ne hmn] at g1
        obtain ⟨_, j, hj⟩ := at_some g1
        exact ⟨e', g1, List.mem_of_getElem? hj, g3⟩
    · intro m hm
      simp only [List.mem_cons, not_or] at hm
      rw [ih.2.2.2.1 m hm.2, at_reti_ne hm.1]
    · intro x
      rw [ih.2.2.2.2.1 x, live_reti hG h1 hat x]
      constructor
      · rintro ⟨⟨g1, g2⟩, g3⟩
        refine ⟨g1, fun m hm e' he' => ?_⟩
        rcases List.mem_cons.1 hm with rfl | hm
        · rw [hat] at he'; cases he'; exact g2
        · exact g3 m hm e' (by rw [at_reti_ne (fun e => hnP (by rw [← e]; exact hm))]; exact he')
      · rintro ⟨g1, g2⟩
        refine ⟨⟨g1, g2 n List.mem_cons_self e hat⟩, fun m hm e' he' => ?_⟩
        rw [at_reti_ne (fun e => hnP (by rw [← e]; exact hm))] at he'
        exact g2 m (List.mem_cons_of_mem _ hm) e' he'
/-- Some bills issued. -/
theorem steps_iss {h : ByteArray} : ∀ {N : List BillD} {r : RegD}, stepsC r (N.map (issA · h)) = 0 →
    (N.map (·.number)).Nodup ∧ (∀ b ∈ N, r.at? b.number = none ∧ mayB r.carrier b = true ∧ nameB h = true ∧ (runA r (N.map (issA · h))).at? b.number = some (newEnt b h)) ∧
    (∀ n, n ∉ N.map (·.number) → (runA r (N.map (issA · h))).at? n = r.at? n) ∧
    (∀ x, (runA r (N.map (issA · h))).liveX x ↔ r.liveX x ∨ ∃ b ∈ N, x ∈ b.boxes) ∧ (runA r (N.map (issA · h))).l.length = r.l.length + N.length
  | [], r, _ => ⟨List.nodup_nil, fun b hb => by simp at hb, fun n _ => rfl, fun x => ⟨.inl, fun h => h.elim id fun ⟨b, hb, _⟩ => by simp at hb⟩, rfl⟩
  | b :: N, r, hc => by
    have em : (b :: N).map (issA · h) = issA b h :: N.map (issA · h) := rfl
    rw [em] at hc ⊢
    rw [runA_cons]
    obtain ⟨h1, h2⟩ := stepsC_cons hc
    obtain ⟨g1, g2, g3, g4⟩ := iss_new h1
    have ih := steps_iss (N := N) h2
    have hat := at_iss h1
    have hbN : b.number ∉ N.map (·.number) := fun hm => by
      obtain ⟨b', hb', e⟩ := List.mem_map.1 hm
      have := (ih.2.1 b' hb').1
      rw [e, hat] at this; cases this
    have hlen : (doA r (issA b h)).l.length = r.l.length + 1 := by
      rw [iss_actC] at h1
      rw [iss_doA]
      unfold issueD
      rw [if_pos h1]; simp
    refine ⟨?_, ?_, ?_, ?_, by rw [ih.2.2.2.2, hlen, List.length_cons]; omega⟩
    · rw [List.map_cons]; exact List.nodup_cons.2 ⟨hbN, ih.1⟩
    · intro x hx
      rcases List.mem_cons.1 hx with rfl | hx
      · exact ⟨g1, g2, g3, by rw [ih.2.2.1 _ hbN]; exact hat⟩
      · obtain ⟨j1, j2, j3, j4⟩ := ih.2.1 x hx
        have hne : x.number ≠ b.number := fun e => hbN (List.mem_map.2 ⟨x, hx, e⟩)
        rw [at_iss_ne hne] at j1
        rw [do_carrier] at j2
        exact ⟨j1, j2, j3, j4⟩
    · intro n hn
      rw [List.map_cons] at hn
      simp only [List.mem_cons, not_or] at hn
      rw [ih.2.2.1 n hn.2, at_iss_ne hn.1]
    · intro x
      rw [ih.2.2.2.1 x, live_iss h1 x]
      constructor
      · rintro ((g | g) | ⟨c, hc, g⟩)
        · exact .inl g
        · exact .inr ⟨b, List.mem_cons_self, g⟩
        · exact .inr ⟨c, List.mem_cons_of_mem _ hc, g⟩
      · rintro (g | ⟨c, hc, g⟩)
        · exact .inl (.inl g)
        · rcases List.mem_cons.1 hc with rfl | hc
          · exact .inl (.inr g)
          · exact .inr ⟨c, hc, g⟩
/-- Bills gone into others: what stands behind it. -/
structure GoneP (k : Nat) (r r' : RegD) (P : List ByteArray) (by_ : ByteArray) (N : List BillD) : Prop where
  nd : P.Nodup
  old : ∀ n ∈ P, ∃ e, r.at? n = some e ∧ e ∈ r.l ∧ e.state = 0 ∧ e.full by_ = true ∧ r'.at? n = some { e with state := 4, ps := e.ps.map (stateP 2) }
  new : ∀ b ∈ N, r.at? b.number = none ∧ mayB r.carrier b = true ∧ nameB by_ = true ∧ r'.at? b.number = some (newEnt b by_)
  rest : ∀ n, n ∉ P → n ∉ N.map (·.number) → r'.at? n = r.at? n
  live : ∀ x, r'.liveX x ↔ (r.liveX x ∧ ∀ n ∈ P, ∀ e, r.at? n = some e → x ∉ e.bill.boxes) ∨ ∃ b ∈ N, x ∈ b.boxes
  len : r'.l.length = r.l.length + N.length
theorem gone {k : Nat} {r : RegD} (hG : Good k r) {P : List ByteArray} {b : ByteArray} {d : Int} {N : List BillD} (hb : b.size ≤ maxLen) (hP : ∀ n ∈ P, n.size ≤ maxLen) (h : stepsC r (goL P b d N) = 0) : GoneP k r (runA r (goL P b d N)) P b N ∧ (P ≠ [] → dayB d = true) := by
  unfold goL at h ⊢
  rw [stepsC_append] at h
  rw [runA_append]
  split at h
  next h0 =>
    obtain ⟨a1, a2, a3, a4, a5, a6⟩ := steps_reti hb hG hP h0
    obtain ⟨b1, b2, b3, b4, b5⟩ := steps_iss h
    refine ⟨⟨a2, ?_, ?_, ?_, ?_, by rw [b5, a6]⟩, ?_⟩
    · intro n hn
      obtain ⟨e, c1, c2, c3, c4, c5, c6⟩ := a3 n hn
      refine ⟨e, c1, c2, c3, c4, ?_⟩
      rw [b3 n (fun hm => ?_)]
      · exact c6
      · obtain ⟨x, hx, rfl⟩ := List.mem_map.1 hm
        have := (b2 x hx).1
        rw [c6] at this; cases this
    · intro x hx
      obtain ⟨c1, c2, c3, c4⟩ := b2 x hx
      rw [runA_carrier] at c2
      refine ⟨?_, c2, c3, c4⟩
      rw [← a4 x.number (fun hm => by obtain ⟨e, _, _, _, _, _, c6⟩ := a3 _ hm; rw [c6] at c1; cases c1)]
      exact c1
    · intro n h1 h2
      rw [b3 n h2, a4 n h1]
    · intro x
      rw [b4 x, a5 x]
    · intro hne
      cases P with
      | nil => exact absurd rfl hne
      | cons n P => obtain ⟨e, _, _, _, _, c5, _⟩ := a3 n List.mem_cons_self; exact c5
  next h0 => exact absurd h h0
/-- What the three calls do, where they do something. -/
theorem split_goL {r : RegD} {bill by_ : ByteArray} {parts : List (List ByteArray)} {numbers : List ByteArray} {day : Int} (h : (splitC r bill by_ parts numbers day).1 = 0) :
    ∃ x, r.at? bill = some x ∧ 2 ≤ parts.length ∧ parts.length ≤ 64 ∧ numbers.length = parts.length ∧ PartP x.bill.boxes parts ∧
      (splitC r bill by_ parts numbers day).2 = goL [bill] by_ day ((parts.zip numbers).map fun q => nextB x.bill q.2 q.1 [bill] day) := by
  unfold splitC at h ⊢
  cases hat : r.at? bill with
  | none => rw [hat] at h; cases h
  | some x =>
    rw [hat] at h
    dsimp only at h ⊢
    split at h
    · cases h
    next hc =>
      rw [if_neg hc]
      simp only [not_or, Decidable.not_not] at hc
      obtain ⟨c1, c2, c3, c4, c5, c6⟩ := hc
      refine ⟨x, rfl, by omega, by omega, c3, Classical.not_not.1 c6, ?_⟩
      simp [goL, List.map_map, Function.comp_def]
theorem join_goL {r : RegD} {bills : List ByteArray} {by_ number : ByteArray} {day : Int} (h : (joinC r bills by_ number day).1 = 0) :
    ∃ x xs, bills.filterMap r.at? = x :: xs ∧ 2 ≤ bills.length ∧ bills.length ≤ 64 ∧ bills.Nodup ∧ (∀ n ∈ bills, ∃ e, r.at? n = some e) ∧ (∀ y ∈ xs, sameB x.bill y.bill) ∧
      (joinC r bills by_ number day).2 = goL bills by_ day [nextB x.bill number ((x :: xs).flatMap fun y => y.bill.boxes) bills day] := by
  unfold joinC at h ⊢
  split at h
  · cases h
  next h1 =>
  split at h
  · cases h
  next h2 =>
  rw [if_neg h1, if_neg h2]
  simp only [not_or, Decidable.not_not] at h1
  obtain ⟨c1, c2, c3⟩ := h1
  cases hf : bills.filterMap r.at? with
  | nil => rw [hf] at h; cases h
  | cons x xs =>
    rw [hf] at h
    dsimp only at h ⊢
    split at h
    · cases h
    next h3 =>
      rw [if_neg h3]
      refine ⟨x, xs, rfl, by omega, by omega, c3, fun n hn => ?_, fun y hy => ?_, rfl⟩
      · cases he : r.at? n with
        | none => exact absurd ⟨n, hn, he⟩ h2
        | some e => exact ⟨e, rfl⟩
      · exact Classical.byContradiction fun hne => h3 ⟨y, hy, hne⟩
theorem switch_goL {r : RegD} {bill by_ number shipper frm : ByteArray} {day : Int} (h : (switchC r bill by_ number shipper frm day).1 = 0) :
    ∃ x, r.at? bill = some x ∧ (switchC r bill by_ number shipper frm day).2 = goL [bill] by_ day [nextB { x.bill with shipper := shipper, frm := frm } number x.bill.boxes [bill] day] := by
  unfold switchC at h ⊢
  cases hat : r.at? bill with
  | none => rw [hat] at h; cases h
  | some x => exact ⟨x, rfl, rfl⟩
end Go.Proofs.YtnglkhnfmbnfeaaGreat
