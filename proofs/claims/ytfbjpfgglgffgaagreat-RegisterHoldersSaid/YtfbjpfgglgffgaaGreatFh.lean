/- Contracts of package supercargoref23, eighth part: Do, walked. -/
import Derived.Test.YtfbjpfgglgffgaaGreatFg
set_option linter.unusedVariables false
set_option linter.unusedSimpArgs false
set_option linter.unusedSectionVars false
set_option linter.unnecessarySimpa false
namespace Go.Proofs.YtfbjpfgglgffgaaGreat
open Go Go.SK

def voided (ps : List PapD) (i : Nat) : List PapD := (ps.take i).map (stateP 2) ++ ps.drop i
theorem voided_step {ps : List PapD} (h : ps.length = 3) {i : Nat} (hi : i < 3) : onIx [i] (stateP 2) (voided ps i) = voided ps (i + 1) := by
  obtain ⟨a, b, c, rfl⟩ := three_cases h
  match i, hi with
  | 0, _ => rfl
  | 1, _ => rfl
  | 2, _ => rfl
theorem voided_3 {ps : List PapD} (h : ps.length = 3) : voided ps 3 = ps.map (stateP 2) := by
  obtain ⟨a, b, c, rfl⟩ := three_cases h
  rfl
theorem voided_len {ps : List PapD} (h : ps.length = 3) (i : Nat) : (voided ps i).length = 3 := by simp [voided]; omega
/-- States alone were written. -/
theorem PapsAt.states {A : Nat → Prop} {w w' : World} {bq : Nat} {ps : List PapD} {vcs tail : List Value} (h : PapsAt A w bq ps vcs tail) (hA : ∀ b, A b → b ≠ bq) {k : Nat} (hk : k < 3) (s : Int) (hx : Ext (· = bq) w w') (hb : Blk w' bq (((rowsOf ps vcs).flatten ++ tail).set (k * 3) (.int .i64 s)) 114) :
    PapsAt A w' bq (onIx [k] (stateP s) ps) vcs tail := by
  refine ⟨by rw [onIx_len]; exact h.three, h.three', by rw [← set_st h.three h.three' hk]; exact hb, fun i q' vc hq' hvc => ?_⟩
  have hi : i < ps.length := by have := (List.getElem?_eq_some_iff.1 hq').1; rwa [onIx_len] at this
  rw [onIx_get (List.getElem?_eq_getElem hi)] at hq'
  have := (h.chains i ps[i] vc (List.getElem?_eq_getElem hi) hvc).ext hx hA
  simp only [Option.some.injEq] at hq'
  subst hq'; split <;> exact this
set_option maxHeartbeats 4000000 in
theorem r23_Do {A0' A0 : Nat → Prop} {w : World} {vL : Value} {l : List EntD} {gs : List FG} (c : ByteArray) (hF : FRep A0' w vL l gs) (hl : l.length ≤ 256) (hN : RegD.Nd ⟨c, l⟩) (hsm : RegD.Small ⟨c, l⟩) (a : ActD) {vb vp : Value} (hB : SlS A0 w vb a.b.boxes) (hP : SlS A0 w vp a.b.parents) (hok : a.b.Ok)
    (hcap : ∀ a n c, vb = .slice a n c → n ≤ c) (hk : 0 ≤ a.kind ∧ a.kind ≤ 5) (hto : a.to_.size ≤ maxLen) :
    Ret Tryz.prog 43 [.agg ⟨encR c vL⟩, .agg ⟨encAct a vb vp⟩] w fun v w' =>
      (∃ vL' gs', v = .tuple #[.agg ⟨encR c vL'⟩, .int .i64 (actC ⟨c, l⟩ a)] ∧ FRep (fun b => A0' b ∨ w.heap.size ≤ b) w' vL' (doA ⟨c, l⟩ a).l gs') ∧ Ex w w' := by
  have hF0 := hF.lt
  obtain ⟨aL, cL, hvL, hLm⟩ := hF.slice
  subst hvL
  unfold maxLen at hLm
  refine ret_of Tryz.func43 Tryz.ntmps43 rfl rfl rfl ?_
  (repeat (first | refine cw_seq ?_ | refine cw_region ?_))
  refine lw_box rfl ?_
  intro b2 w1 hbb2 hb2 hx1 hs1
  replace hb2 : Blk w1 b2 (encR c (.slice aL l.length cL)) 28 := hb2
  skip
  refine lw_box rfl ?_
  intro b3 w2 hbb3 hb3 hx2 hs2
  replace hb3 : Blk w2 b3 (encAct a vb vp) 44 := hb3
  skip
  refine lw_alloc z28 ?_
  intro b4 w3 hbb4 hb4 hx3 hs3
  have hx03 := (hx1.trans hx2).trans hx3
  have hb23 := (hb2.ex hx2).ex hx3
  have hb33 := hb3.ex hx3
  have hF3 := hF.ex hx03
  (repeat (first | refine lw_pure hT rfl ?_ | refine lw_nil ?_ | refine cw_seq ?_ | refine cw_region ?_ | refine qw_then ?_))
  refine lw_load hT rfl rfl (v := .int .i64 a.kind) (hb33.cell 0) ?_
  (repeat (first | refine lw_pure hT rfl ?_ | refine lw_nil ?_ | refine qw_then ?_))
  refine cw_cond rfl (fun h0 => ?_) (fun h0 => ?_)
  · have h0 : a.kind = 0 := by simpa using h0
    (repeat (first | refine cw_seq ?_ | refine cw_region ?_))
    refine lw_load_agg hT rfl rfl rfl (vs := encR c (.slice aL l.length cL)) (hb23.rd 0 2) ?_
    (repeat (refine lw_pure hT rfl ?_))
    refine lw_load_agg hT rfl rfl rfl (vs := encB a.b vb vp) (hb33.rd 6 9) ?_
    (repeat (refine lw_pure hT rfl ?_))
    refine lw_load hT rfl rfl (v := .string a.to_) (hb33.cell 5) ?_
    skip
    refine lw_call hT rfl rfl (r23_Issue c (hF0.ex hx03) hl (hB.ex hx03) (hP.ex hx03) hok hcap a.to_ hto) ?_
    rintro _ w4 ⟨⟨vL', gs', rfl, hF'⟩, hx4⟩
    have hl3 := hx03.size
    (repeat (refine lw_pure hT rfl ?_))
    refine lw_store_agg hT rfl rfl rfl rfl (by intro v hv; simp [encR] at hv; rcases hv with rfl | rfl <;> first | rfl | exact Sl.one hF'.sl) (hb4.ex hx4) (show (2 : Nat) ≤ 2 by decide) ?_
    intro w5 hb5 hx5 hs5
    (repeat (first | refine lw_pure hT rfl ?_ | refine lw_nil ?_ | refine qw_then ?_ | refine cw_ret ?_ | refine qw_then_ret ?_))
    have hac : actC ⟨c, l⟩ a = issueC ⟨c, l⟩ a.b a.to_ := by unfold actC; rw [if_pos h0]
    have had : doA ⟨c, l⟩ a = issueD ⟨c, l⟩ a.b a.to_ := by unfold doA; rw [if_pos h0]
    have hx05 : Ex w w5 := (hx03.trans hx4).up_new hx5 (fun i hi => by omega)
    refine qw_ret_cell hT rfl rfl rfl rfl (vs := encR c vL') (hb5.rd 0 2) rfl ⟨⟨vL', gs', by rw [hac]; rfl, ?_⟩, hx05⟩
    rw [had]
    exact (hF'.ext hx5 (fun b hb e => by rcases hb with hb | hb <;> omega)).weaken fun b hb => by
      rcases hb with hb | hb
      · exact .inl hb.1
      · exact .inr (by omega)
  · have h0 : ¬ a.kind = 0 := by simpa using h0
    have hk1 : 1 ≤ a.kind ∧ a.kind ≤ 5 := by omega
    have hac : actC ⟨c, l⟩ a = askC ⟨c, l⟩ a.ask := by unfold actC; rw [if_neg h0]
    have hbill : a.ask.bill = a.bill := by
      have : a.kind = 1 ∨ a.kind = 2 ∨ a.kind = 3 ∨ a.kind = 4 ∨ a.kind = 5 := by omega
      rcases this with h | h | h | h | h <;> simp [ActD.ask, h]
    (repeat (first | refine cw_seq ?_ | refine cw_region ?_ | refine qw_then ?_ | refine cw_skip ?_))
    refine lw_load_agg hT rfl rfl rfl (vs := encR c (.slice aL l.length cL)) (hb23.rd 0 2) ?_
    skip
    refine lw_load_agg hT rfl rfl rfl (vs := encAct a vb vp) (hb33.rd 0 15) ?_
    skip
    refine lw_call hT rfl rfl (r23_Wrong (A0 := A0) c hF3 a vb vp hk1 hto) ?_
    rintro _ w4 ⟨rfl, hx4⟩
    have hx04 := hx03.trans hx4
    have hb24 := hb23.ex hx4
    have hb34 := hb33.ex hx4
    have hb44 := hb4.ex hx4
    have hl4 := hx4.size
    (repeat (first | refine lw_pure hT rfl ?_ | refine lw_nil ?_ | refine cw_seq ?_ | refine cw_region ?_ | refine qw_then ?_))
    refine cw_cond rfl (fun hw => ?_) (fun hw => ?_)
    · have hw : ¬ askC ⟨c, l⟩ a.ask = 0 := by simpa using hw
      (repeat (first | refine cw_seq ?_ | refine cw_region ?_))
      refine lw_load_agg hT rfl rfl rfl (vs := encR c (.slice aL l.length cL)) (hb24.rd 0 2) ?_
      (repeat (refine lw_pure hT rfl ?_))
      refine lw_store_agg hT rfl rfl rfl rfl (by intro v hv; simp [encR] at hv; rcases hv with rfl | rfl <;> rfl) hb44 (show (2 : Nat) ≤ 2 by decide) ?_
      intro w5 hb5 hx5 hs5
      (repeat (first | refine lw_pure hT rfl ?_ | refine lw_nil ?_ | refine qw_then ?_ | refine cw_ret ?_ | refine qw_then_ret ?_))
      have had : doA ⟨c, l⟩ a = ⟨c, l⟩ := by unfold doA; rw [if_neg h0, if_neg hw]
      have hx05 : Ex w w5 := hx04.up_new hx5 (fun i hi => by omega)
      refine qw_ret_cell hT rfl rfl rfl rfl (vs := encR c (.slice aL l.length cL)) (hb5.rd 0 2) rfl ⟨⟨_, gs, by rw [hac]; rfl, ?_⟩, hx05⟩
      rw [had]
      exact (hF.ex hx05).weaken fun _ h => .inl h
    · have hw : askC ⟨c, l⟩ a.ask = 0 := by simpa using hw
      have had : doA ⟨c, l⟩ a = RegD.upd ⟨c, l⟩ a.bill (·.after a) := by unfold doA; rw [if_neg h0, if_pos hw]
      rw [hac, had, hw]
      have hF4 := hF0.ex hx04
      rcases fidx_cases l a.bill with ⟨hi, hat⟩ | ⟨i, hil, hi, hat⟩
      · exfalso
        have : RegD.at? ⟨c, l⟩ a.ask.bill = none := by rw [hbill]; exact hat
        simp [askC, this] at hw
      obtain ⟨x, g, bL, oL, cL', hx_, hg_, hv, hrd, hE⟩ := hF4.row hil
      cases hv
      have hxi : x = l[i] := by rw [List.getElem?_eq_getElem hil] at hx_; exact (Option.some.inj hx_).symm
      have hask : askE x a.ask = 0 := by
        have : RegD.at? ⟨c, l⟩ a.ask.bill = some l[i] := by rw [hbill]; exact hat
        simp only [askC, this] at hw; rw [hxi]; exact hw
      have hwr : wrongE x a = 0 := (wrongE_eq hk1).trans hask
      have hbi : badIx a = false := by
        cases h : badIx a with
        | false => rfl
        | true => unfold wrongE at hwr; rw [if_pos h] at hwr; cases hwr
      obtain ⟨eW, eI, eN⟩ := goodIx hk1 hbi
      (repeat (first | refine cw_seq ?_ | refine cw_region ?_ | refine qw_then ?_ | refine cw_skip ?_))
      refine lw_load_agg hT rfl rfl rfl (vs := encR c (.slice (some ⟨bL, oL, none⟩) l.length cL)) (hb24.rd 0 2) ?_
      (repeat (refine lw_pure hT rfl ?_))
      refine lw_load hT rfl rfl (v := .string a.bill) (hb34.cell 3) ?_
      skip
      refine lw_call hT rfl rfl (r23_Find c a.bill hF4) ?_
      rintro _ w5 ⟨rfl, hx5⟩
      rw [hi]
      have hb25 := hb24.ex hx5
      have hb35 := hb34.ex hx5
      have hb45 := hb44.ex hx5
      have hE5 := hE.ex hx5
      have hl5 := hx5.size
      (repeat (first | refine lw_pure hT rfl ?_ | refine lw_nil ?_ | refine cw_seq ?_ | refine cw_region ?_ | refine qw_then ?_))
      refine lw_load hT rfl rfl (v := .slice (some ⟨bL, oL, none⟩) l.length cL) (hb25.cell 1) ?_
      (repeat (refine lw_pure hT rfl ?_))
      refine lw_index hT rfl rfl rfl i rfl hil ?_
      skip
      refine lw_load_agg hT rfl rfl rfl (vs := entF (x, g)) (hrd.ex hx5) ?_
      skip
      refine lw_alloc z98 ?_
      intro b8 w6 hbb8 hb8 hx6 hs6
      skip
      refine lw_store_agg hT rfl rfl rfl rfl (entF_one hE) hb8 (show (11 : Nat) ≤ 11 by decide) ?_
      intro w7 hb87 hx7 hs7
      replace hb87 : Blk w7 b8 (entF (x, g)) 98 := hb87
      have hx57 : Ex w5 w7 := hx6.up_new hx7 (fun i hi => by omega)
      (repeat (first | refine lw_nil ?_ | refine cw_seq ?_ | refine cw_region ?_ | refine qw_then ?_))
      refine lw_buildSlice sl96 rfl rfl rfl ?_
      intro e1 w8 he1 hbe1 hx8 hs8
      (repeat (refine lw_pure hT rfl ?_))
      refine lw_load hT rfl rfl (v := g.vP) ((hb87.ex hx8).cell 10) ?_
      skip
      have hown1 : w8.ownsRow w7.heap.size 114 3 (.slice (some ⟨e1, 0, none⟩) 0 0) 0 [] := own_lit hbe1 (by omega) rfl (by decide)
      have hE8 := (hE5.ex hx57).ex hx8
      have hpl : ((x.ps.zip g.vcs).map papRow).length = 3 := by simp [hE.three, hE.three']
      refine lw_append_sl sl96 (by decide) rfl hown1 rfl hE8.papers (by
        intro r hr u hu
        obtain ⟨⟨q, vc⟩, hz, rfl⟩ := List.mem_map.1 hr
        obtain ⟨j, hj⟩ := List.getElem?_of_mem hz
        rw [List.getElem?_zip_eq_some] at hj
        simp [papRow] at hu
        rcases hu with rfl | rfl | rfl <;> first | rfl | exact Sl.one (hE8.chains j q _ hj.1 hj.2)) (by rw [hpl]; decide) (by rw [hpl]; decide) (by omega) ?_
      intro v9 w9 g1 g2 g3 g4
      rw [hpl] at g1
      rcases g1.2 with ⟨_, hz⟩ | ⟨bq, capq, cur, rfl, hbq, hbqb, hq1, hq2, hq3, hq4⟩
      · cases hz
      have hl9 := g2.size
      have hx79 : Ex w7 w9 := hx8.up_new g2 (fun i h => by simp [Value.ownBlock] at h; omega)
      have hx59 := hx57.trans hx79
      have hbql : bq < w9.heap.size := (own_base g1 rfl).2
      have hP9 : PapsAt (fun b => (A0' b ∨ w.heap.size ≤ b) ∧ (b ≠ bq ∧ b ≠ b8 ∧ b ≠ b2 ∧ b ≠ b4)) w9 bq x.ps g.vcs (cur.toList.drop 9) := by
        refine ⟨hE.three, hE.three', ?_, fun j q vc h1 h2 => ((hE5.ex hx59).chains j q vc h1 h2).weaken fun b hb => ⟨.inl hb.1, by have := hb.2; have := hx04.size; omega, by have := hb.2; have := hx04.size; omega, by have := hb.2; omega, by have := hb.2; have := hx03.size; omega⟩⟩
        have e : cur.toList = (rowsOf x.ps g.vcs).flatten ++ cur.toList.drop 9 := by
          have : (rowsOf x.ps g.vcs).flatten = cur.toList.take 9 := by rw [hq4]; rfl
          rw [this, List.take_append_drop]
        unfold Blk; rw [← e]; exact hbqb
      have hb29 := hb25.ex hx59
      have hb39 := hb35.ex hx59
      (repeat (first | refine lw_pure hT rfl ?_ | refine lw_nil ?_ | refine cw_seq ?_ | refine cw_region ?_ | refine qw_then ?_))
      refine lw_load_agg hT rfl rfl rfl (vs := encAct a vb vp) (hb39.rd 0 15) ?_
      skip
      refine lw_call hT rfl rfl (r23_which a vb vp w9) ?_
      rintro v10 w10 ⟨hv10, hx10⟩
      have hP10 : PapsAt (fun b => (A0' b ∨ w.heap.size ≤ b) ∧ (b ≠ bq ∧ b ≠ b8 ∧ b ≠ b2 ∧ b ≠ b4)) w10 bq x.ps g.vcs (cur.toList.drop 9) := ⟨hP9.three, hP9.three', hP9.blk.ex hx10, fun j q vc h1 h2 => (hP9.chains j q vc h1 h2).ex hx10⟩
      have hl10 := hx10.size
      have hb310 := hb39.ex hx10
      have hnn : ((whichD a).map fun i => [Value.int .i64 i]) ≠ [] := by rw [eW]; simp; exact eN
      have hwl : (whichD a).length = (whichN a).length := by rw [eW]; simp
      have hwm := hv10.small
      obtain ⟨va, vcap, hv7e, _, hvr⟩ := hv10.is
      subst hv7e
      obtain ⟨bw, ow, rfl, hbw, hwrd⟩ := hvr hnn
      simp only [List.length_map] at hwm ⊢
      unfold maxLen at hwm
      have hlen3 : (whichN a).length ≤ 3 := by rw [eI, ← ixs_eq]; exact Nat.le_trans (List.length_filter_le _ _) (by simp)
      have get : ∀ j, j < (whichN a).length → ∃ k, (whichN a)[j]? = some k ∧ k < 3 ∧ w10.cell? ⟨bw, ow + j * 1, none⟩ = some (.int .i64 (k : Nat)) := by
        intro j hj
        refine ⟨(whichN a)[j], List.getElem?_eq_getElem hj, ixs_lt (index := a.ask.index) (by rw [← eI]; exact List.getElem_mem hj), ?_⟩
        have h1 : ((whichD a).map fun i => [Value.int .i64 i])[j]? = some [.int .i64 ((whichN a)[j] : Nat)] := by
          rw [eW, List.map_map, List.getElem?_map, List.getElem?_eq_getElem hj]; rfl
        exact (hwrd j _ h1).2 0 _ rfl
      rw [hwl]
      (repeat (first | refine lw_pure hT rfl ?_ | refine lw_nil ?_ | refine cw_seq ?_ | refine cw_region ?_ | refine qw_then ?_ | refine cw_block ?_))
      refine cw_loop (fun j : Nat => [(2, pB b2), (3, pB b3), (4, pB b4), (7, .int .i64 (i : Nat)), (8, pB b8), (9, .slice (some ⟨bq, 0, none⟩) 3 capq), (10, .slice (some ⟨bw, ow, none⟩) (whichN a).length vcap), (11, .int .i64 (j : Nat))])
        (fun j w' => j ≤ (whichN a).length ∧ Ext (· = bq) w10 w' ∧ ∃ vcs, PapsAt (fun b => (A0' b ∨ w.heap.size ≤ b) ∧ (b ≠ bq ∧ b ≠ b8 ∧ b ≠ b2 ∧ b ≠ b4)) w' bq (onIx ((whichN a).take j) (fD a) x.ps) vcs (cur.toList.drop 9)) (fun j => (whichN a).length - j) 0 (by repeat (first | exact trivial | refine ⟨rfl, ?_⟩)) ⟨Nat.zero_le _, Ext.refl _ _, g.vcs, ?_⟩ ?_
      · have : onIx ((whichN a).take 0) (fD a) x.ps = x.ps := by
          obtain ⟨q0, q1, q2, hq⟩ := three_cases hE.three
          rw [hq]; rfl
        rw [this]; exact hP10
      rintro j w11 ⟨hj, hx11, vcs, hP11⟩
      unfold pB
      have hb311 := hb310.ext hx11 (by have := hb310.lt; omega)
      have hl11 := hx11.size
      (repeat (first | refine lw_pure hT rfl ?_ | refine lw_nil ?_ | refine cw_seq ?_ | refine cw_region ?_ | refine qw_then ?_))
      refine cw_cond rfl (fun h => ?_) (fun h => ?_)
      · have hlt : j < (whichN a).length := by have := of_decide_eq_true h; omega
        obtain ⟨k, hkj, hk3, hcell⟩ := get j hlt
        have hkk : (ixs a.ask.index)[j]? = some k := by rw [← eI]; exact hkj
        obtain ⟨st1, st2⟩ := onIx_step (fD a) hE.three hkk
        rw [← eI] at st1 st2
        obtain ⟨q, hq0⟩ : ∃ q, x.ps[k]? = some q := ⟨_, papAt_get hE.three hk3⟩
        have hqk := st2.trans hq0
        obtain ⟨vc, hvk⟩ : ∃ vc, vcs[k]? = some vc := ⟨_, List.getElem?_eq_getElem (by rw [hP11.three']; exact hk3)⟩
        have hchk := hP11.chains _ _ _ hqk hvk
        have hqm := List.mem_of_getElem? hq0
        have hrow : Rd w11 bq (0 + k * 3) [.int .i64 q.state, .string q.holder, vc] := by
          have := hP11.blk.rd (k * 3) 3
          rw [row_take hP11.three hP11.three' hk3 hqk hvk] at this
          rwa [Nat.zero_add]
        (repeat (first | refine lw_pure hT rfl ?_ | refine cw_seq ?_ | refine cw_region ?_ | refine qw_then ?_ | refine cw_skip ?_ | refine cw_block ?_))
        refine lw_index hT rfl rfl rfl j rfl hlt ?_
        skip
        refine lw_load hT rfl rfl (v := .int .i64 (k : Nat)) (hx11.cell hcell (by have := hbw; omega)) ?_
        skip
        refine lw_index hT rfl rfl rfl k rfl hk3 ?_
        skip
        refine lw_load_agg hT rfl rfl rfl hrow ?_
        skip
        refine lw_alloc z114 ?_
        intro b12 w12 hbb12 hb12 hx12 hs12
        skip
        refine lw_store_agg hT rfl rfl rfl rfl (by intro v hv; simp at hv; rcases hv with rfl | rfl | rfl <;> first | rfl | exact Sl.one hchk) hb12 (show (3 : Nat) ≤ 3 by decide) ?_
        intro w13 hb13 hx13 hs13
        replace hb13 : Blk w13 b12 [.int .i64 q.state, .string q.holder, vc] 114 := hb13
        refine lw_nil ?_
        refine qw_then ?_
        refine cw_seq ?_
        refine cw_then_cut (α := Value) (fun u => [(2, pB b2), (3, pB b3), (4, pB b4), (7, .int .i64 (i : Nat)), (8, pB b8), (9, .slice (some ⟨bq, 0, none⟩) 3 capq), (10, .slice (some ⟨bw, ow, none⟩) (whichN a).length vcap), (11, .int .i64 (j : Nat)), (12, pB b12)])
          (fun u w' => Ex w11 w' ∧ Blk w' b12 [.int .i64 (fD a q).state, .string (fD a q).holder, u] 114 ∧ SlE (fun b => (A0' b ∨ w.heap.size ≤ b) ∧ (b ≠ bq ∧ b ≠ b8 ∧ b ≠ b2 ∧ b ≠ b4)) w' u (fD a q).chain) ?_ ?_
        · have hx1113 : Ex w11 w13 := hx12.up_new hx13 (fun i hi => by omega)
          have hb313 := hb311.ex hx1113
          have hch13 := hchk.ex hx1113
          unfold pB
          have hks : a.kind = 1 ∨ a.kind = 2 ∨ a.kind = 3 ∨ a.kind = 4 ∨ a.kind = 5 := by omega
          (repeat (first | refine lw_pure hT rfl ?_ | refine cw_seq ?_ | refine cw_region ?_))
          refine lw_load hT rfl rfl (v := .int .i64 a.kind) (hb313.cell 0) ?_
          (repeat (first | refine lw_pure hT rfl ?_ | refine lw_nil ?_ | refine cw_seq ?_ | refine cw_region ?_ | refine qw_then ?_ | refine cw_block ?_))
          refine cw_cond rfl (fun h1 => ?_) (fun h1 => ?_)
          · have h1 : a.kind = 1 := by simpa using h1
            have efD : fD a = endorseP a.by_ a.to_ a.day := by unfold fD; rw [if_pos h1]
            rw [efD]
            (repeat (first | refine lw_pure hT rfl ?_ | refine cw_seq ?_ | refine cw_region ?_))
            refine lw_load hT rfl rfl (v := .string a.to_) (hb313.cell 5) ?_
            (repeat (refine lw_pure hT rfl ?_))
            refine lw_store (size := 1) hT rfl rfl rfl rfl hb13 (show (1 : Nat) < 3 by decide) ?_
            intro w15 hb15 hx15 hs15
            replace hb15 : Blk w15 b12 [.int .i64 q.state, .string a.to_, vc] 114 := hb15
            have hx1115 : Ex w11 w15 := hx1113.up_new hx15 (fun i hi => by omega)
            have hb315 := hb311.ex hx1115
            have hch15 : SlE (fun b => (A0' b ∨ w.heap.size ≤ b) ∧ (b ≠ bq ∧ b ≠ b8 ∧ b ≠ b2 ∧ b ≠ b4)) w15 vc q.chain := hchk.ex hx1115
            have hqs : q.chain.length ≤ 1000000 := (hsm x (List.mem_of_getElem? hx_)).1 _ hqm
            have hl15 := hx1115.size
            have fin17 : ∀ (u2 : Value) (wa wb : World), Ex w15 wa → Ext (· = b12) wa wb → Blk wb b12 ([.int .i64 q.state, .string a.to_, vc].set 2 u2) 114 →
                wa.ownsRow w15.heap.size 104 4 u2 (q.chain.length + 1) ((q.chain.map encE).flatten ++ encE (newE a.by_ a.to_ a.day)) →
                Ex w11 wb ∧ Blk wb b12 [.int .i64 (endorseP a.by_ a.to_ a.day q).state, .string (endorseP a.by_ a.to_ a.day q).holder, u2] 114 ∧ SlE (fun b => (A0' b ∨ w.heap.size ≤ b) ∧ (b ≠ bq ∧ b ≠ b8 ∧ b ≠ b2 ∧ b ≠ b4)) wb u2 (endorseP a.by_ a.to_ a.day q).chain := by
              intro u2 wa wb hxa hxb hblk how
              have hla := hxa.size
              refine ⟨(hx1115.trans hxa).up_new hxb (fun i hi => by omega), hblk, ?_⟩
              have how' := own_ext how hxb (fun k hk e => by have := own_base how hk; have := hb15.lt; omega)
              refine own_sl (base := w15.heap.size) (e := 104) ?_ encE_len (fun k hk => ?_)
              · simp only [endorseP, List.length_map, List.length_append, List.length_singleton, List.map_append, List.flatten_append]
                exact how'
              · have := own_base how hk
                have := hx04.size
                exact ⟨.inr (by omega), by omega, by omega, by omega, by omega⟩
            (repeat (first | refine lw_nil ?_ | refine qw_then ?_))
            refine cw_draw hM (fun w' => Ex w15 w') [14] rfl rfl (by repeat (first | with_reducible refine nop_then ?_ | with_reducible refine nop_block ?_ | with_reducible exact nop_body)) (fun w16 hx16 _ => ⟨hx16, ?_⟩)
            (refine rw_takeP 1 rfl rfl (by kernel_rfl) (by kernel_rfl) (by kernel_rfl) (by kernel_rfl) rfl (yo_pure hT rfl) ?_)
            refine rw_take 2 rfl rfl (by kernel_rfl) (by kernel_rfl) (by kernel_rfl) (by kernel_rfl) rfl (yo_load hT rfl rfl (fun w' hS => Ex.cell hS (hb15.cell 2))) ?_
            (refine rw_takeP 4 rfl rfl (by kernel_rfl) (by kernel_rfl) (by kernel_rfl) (by kernel_rfl) rfl (yo_pure hT rfl) ?_)
            refine rw_take 5 rfl rfl (by kernel_rfl) (by kernel_rfl) (by kernel_rfl) (by kernel_rfl) rfl (yo_load hT rfl rfl (v := .string a.by_) (fun w' hS => Ex.cell hS (hb315.cell 4))) ?_
            (refine rw_takeP 6 rfl rfl (by kernel_rfl) (by kernel_rfl) (by kernel_rfl) (by kernel_rfl) rfl (yo_pure hT rfl) ?_)
            refine rw_take 7 rfl rfl (by kernel_rfl) (by kernel_rfl) (by kernel_rfl) (by kernel_rfl) rfl (yo_load hT rfl rfl (v := .string a.to_) (fun w' hS => Ex.cell hS (hb315.cell 5))) ?_
            (refine rw_takeP 8 rfl rfl (by kernel_rfl) (by kernel_rfl) (by kernel_rfl) (by kernel_rfl) rfl (yo_pure hT rfl) ?_)
            refine rw_take 9 rfl rfl (by kernel_rfl) (by kernel_rfl) (by kernel_rfl) (by kernel_rfl) rfl (yo_load hT rfl rfl (v := .int .i64 a.day) (fun w' hS => Ex.cell hS (hb315.cell 2))) ?_
            refine rw_takeP 10 rfl rfl (by kernel_rfl) (by kernel_rfl) (by kernel_rfl) (by kernel_rfl) rfl (yo_build bt104 rfl) ?_
            refine rw_two 0 11 rfl rfl (by kernel_rfl) rfl rfl (fun hcl => ?_) (fun hcl => ?_)
            · refine lw_buildSlice sl51 rfl rfl rfl ?_
              intro e0 w17 he0 hbe0 hx17 hs17
              have hC17 := hx16.trans hx17
              have own17 : w17.ownsRow w15.heap.size 104 4 (.slice (some ⟨e0, 0, none⟩) 0 0) 0 [] := own_lit hbe0 (by have := hx16.size; omega) rfl (by decide)
              (repeat (refine lw_nil ?_))
              refine qw_rw (by repeat (first | with_reducible refine nop_then ?_ | with_reducible refine nop_block ?_ | with_reducible exact nop_body)) hcl (fun _ => hC17) ?_
              refine rw_two 3 11 rfl rfl (by kernel_rfl) rfl rfl (fun hcl => ?_) (fun hcl => ?_)
              · refine lw_append_sl sl51 (by decide) rfl own17 rfl (hch15.ex hC17) encE_one (by simp [maxLen]; omega) (by simp; omega) (by have := hC17.size; omega) ?_
                intro u1 w18 g1 g2 g3 g4
                have hC18 : Ex w15 w18 := hC17.up_new g2 (fun i h => by simp [Value.ownBlock] at h; have := hx16.size; have := hC17.size; omega)
                rw [Nat.zero_add, List.nil_append, List.length_map] at g1
                (repeat (refine lw_nil ?_))
                refine qw_rw (by repeat (first | with_reducible refine nop_then ?_ | with_reducible refine nop_block ?_ | with_reducible exact nop_body)) hcl (fun _ => hC18) ?_
                refine rw_one 11 rfl (by kernel_rfl) rfl (fun hcl => ?_)
                refine lw_buildSlice sl51 rfl rfl rfl ?_
                intro e11 w19 he11 hbe11 hx19 hs19
                replace hbe11 : Blk w19 e11 (encE (newE a.by_ a.to_ a.day)) 104 := hbe11
                have hC19 := hC18.trans hx19
                have own19 := own_ex g1 hx19
                (repeat (refine lw_nil ?_))
                refine qw_rw (by repeat (first | with_reducible refine nop_then ?_ | with_reducible refine nop_block ?_ | with_reducible exact nop_body)) hcl (fun _ => hC19) ?_
                refine rw_one 12 rfl (by kernel_rfl) rfl (fun hcl => ?_)
                refine lw_append sl51 (by decide) rfl own19 rfl (hbe11.rd 0 4) rfl (by intro u hu; simp [encE] at hu; rcases hu with rfl | rfl | rfl | rfl <;> rfl) (by unfold maxLen; omega) (by omega) (by have := hC19.size; omega) ?_
                intro u2 w20 k1 k2 k3 k4
                have hu1b : ∀ k, Value.ownBlock u1 = some k → w15.heap.size ≤ k := fun k hk => (own_base g1 hk).1
                have hC20 : Ex w15 w20 := hC19.up_new k2 (fun i h => hu1b i h.symm)
                (repeat (refine lw_nil ?_))
                refine qw_rw (by repeat (first | with_reducible refine nop_then ?_ | with_reducible refine nop_block ?_ | with_reducible exact nop_body)) hcl (fun _ => hC20) ?_
                (refine rw_takeP 13 rfl rfl (by kernel_rfl) (by kernel_rfl) (by kernel_rfl) (by kernel_rfl) rfl (yo_pure hT rfl) ?_)
                refine rw_one 14 rfl (by kernel_rfl) rfl (fun hcl => ?_)
                refine lw_store (size := 1) hT rfl rfl rfl (own_one k1) (hb15.ex hC20) (show (2 : Nat) < 3 by decide) ?_
                intro w21 hbz hxz hsz
                (repeat (refine lw_nil ?_))
                refine qw_rw (by repeat (first | with_reducible refine nop_then ?_ | with_reducible refine nop_block ?_ | with_reducible exact nop_body)) hcl (fun h => absurd h (by decide)) ?_
                refine rw_done (by kernel_rfl) ?_
                (repeat (refine qw_block ?_))
                exact qw_cut u2 (by repeat (first | exact trivial | refine ⟨rfl, ?_⟩)) (fin17 u2 w20 w21 hC20 hxz hbz k1)
              · refine lw_buildSlice sl51 rfl rfl rfl ?_
                intro e11 w18 he11 hbe11 hx18 hs18
                replace hbe11 : Blk w18 e11 (encE (newE a.by_ a.to_ a.day)) 104 := hbe11
                have hC18 := hC17.trans hx18
                have own18 := own_ex own17 hx18
                (repeat (refine lw_nil ?_))
                refine qw_rw (by repeat (first | with_reducible refine nop_then ?_ | with_reducible refine nop_block ?_ | with_reducible exact nop_body)) hcl (fun _ => hC18) ?_
                refine rw_one 3 rfl (by kernel_rfl) rfl (fun hcl => ?_)
                refine lw_append_sl sl51 (by decide) rfl own18 rfl (hch15.ex hC18) encE_one (by simp [maxLen]; omega) (by simp; omega) (by have := hC18.size; omega) ?_
                intro u1 w19 g1 g2 g3 g4
                have hC19 : Ex w15 w19 := hC18.up_new g2 (fun i h => by simp [Value.ownBlock] at h; have := hx16.size; have := hC17.size; omega)
                rw [Nat.zero_add, List.nil_append, List.length_map] at g1
                have be19 := hbe11.ext g2 (by simp [Value.ownBlock]; have := hC18.size; omega)
                (repeat (refine lw_nil ?_))
                refine qw_rw (by repeat (first | with_reducible refine nop_then ?_ | with_reducible refine nop_block ?_ | with_reducible exact nop_body)) hcl (fun _ => hC19) ?_
                refine rw_one 12 rfl (by kernel_rfl) rfl (fun hcl => ?_)
                refine lw_append sl51 (by decide) rfl g1 rfl (be19.rd 0 4) rfl (by intro u hu; simp [encE] at hu; rcases hu with rfl | rfl | rfl | rfl <;> rfl) (by unfold maxLen; omega) (by omega) (by have := hC19.size; omega) ?_
                intro u2 w20 k1 k2 k3 k4
                have hu1b : ∀ k, Value.ownBlock u1 = some k → w15.heap.size ≤ k := fun k hk => (own_base g1 hk).1
                have hC20 : Ex w15 w20 := hC19.up_new k2 (fun i h => hu1b i h.symm)
                (repeat (refine lw_nil ?_))
                refine qw_rw (by repeat (first | with_reducible refine nop_then ?_ | with_reducible refine nop_block ?_ | with_reducible exact nop_body)) hcl (fun _ => hC20) ?_
                (refine rw_takeP 13 rfl rfl (by kernel_rfl) (by kernel_rfl) (by kernel_rfl) (by kernel_rfl) rfl (yo_pure hT rfl) ?_)
                refine rw_one 14 rfl (by kernel_rfl) rfl (fun hcl => ?_)
                refine lw_store (size := 1) hT rfl rfl rfl (own_one k1) (hb15.ex hC20) (show (2 : Nat) < 3 by decide) ?_
                intro w21 hbz hxz hsz
                (repeat (refine lw_nil ?_))
                refine qw_rw (by repeat (first | with_reducible refine nop_then ?_ | with_reducible refine nop_block ?_ | with_reducible exact nop_body)) hcl (fun h => absurd h (by decide)) ?_
                refine rw_done (by kernel_rfl) ?_
                (repeat (refine qw_block ?_))
                exact qw_cut u2 (by repeat (first | exact trivial | refine ⟨rfl, ?_⟩)) (fin17 u2 w20 w21 hC20 hxz hbz k1)
            · refine lw_buildSlice sl51 rfl rfl rfl ?_
              intro e11 w17 he11 hbe11 hx17 hs17
              replace hbe11 : Blk w17 e11 (encE (newE a.by_ a.to_ a.day)) 104 := hbe11
              have hC17 := hx16.trans hx17
              (repeat (refine lw_nil ?_))
              refine qw_rw (by repeat (first | with_reducible refine nop_then ?_ | with_reducible refine nop_block ?_ | with_reducible exact nop_body)) hcl (fun _ => hC17) ?_
              refine rw_one 0 rfl (by kernel_rfl) rfl (fun hcl => ?_)
              refine lw_buildSlice sl51 rfl rfl rfl ?_
              intro e0 w18 he0 hbe0 hx18 hs18
              have hC18 := hC17.trans hx18
              have own18 : w18.ownsRow w15.heap.size 104 4 (.slice (some ⟨e0, 0, none⟩) 0 0) 0 [] := own_lit hbe0 (by have := hC17.size; omega) rfl (by decide)
              have be18 := hbe11.ex hx18
              (repeat (refine lw_nil ?_))
              refine qw_rw (by repeat (first | with_reducible refine nop_then ?_ | with_reducible refine nop_block ?_ | with_reducible exact nop_body)) hcl (fun _ => hC18) ?_
              refine rw_one 3 rfl (by kernel_rfl) rfl (fun hcl => ?_)
              refine lw_append_sl sl51 (by decide) rfl own18 rfl (hch15.ex hC18) encE_one (by simp [maxLen]; omega) (by simp; omega) (by have := hC18.size; omega) ?_
              intro u1 w19 g1 g2 g3 g4
              have hC19 : Ex w15 w19 := hC18.up_new g2 (fun i h => by simp [Value.ownBlock] at h; have := hx16.size; have := hC17.size; omega)
              rw [Nat.zero_add, List.nil_append, List.length_map] at g1
              have be19 := be18.ext g2 (by simp [Value.ownBlock]; have := hC18.size; omega)
              (repeat (refine lw_nil ?_))
              refine qw_rw (by repeat (first | with_reducible refine nop_then ?_ | with_reducible refine nop_block ?_ | with_reducible exact nop_body)) hcl (fun _ => hC19) ?_
              refine rw_one 12 rfl (by kernel_rfl) rfl (fun hcl => ?_)
              refine lw_append sl51 (by decide) rfl g1 rfl (be19.rd 0 4) rfl (by intro u hu; simp [encE] at hu; rcases hu with rfl | rfl | rfl | rfl <;> rfl) (by unfold maxLen; omega) (by omega) (by have := hC19.size; omega) ?_
              intro u2 w20 k1 k2 k3 k4
              have hu1b : ∀ k, Value.ownBlock u1 = some k → w15.heap.size ≤ k := fun k hk => (own_base g1 hk).1
              have hC20 : Ex w15 w20 := hC19.up_new k2 (fun i h => hu1b i h.symm)
              (repeat (refine lw_nil ?_))
              refine qw_rw (by repeat (first | with_reducible refine nop_then ?_ | with_reducible refine nop_block ?_ | with_reducible exact nop_body)) hcl (fun _ => hC20) ?_
              (refine rw_takeP 13 rfl rfl (by kernel_rfl) (by kernel_rfl) (by kernel_rfl) (by kernel_rfl) rfl (yo_pure hT rfl) ?_)
              refine rw_one 14 rfl (by kernel_rfl) rfl (fun hcl => ?_)
              refine lw_store (size := 1) hT rfl rfl rfl (own_one k1) (hb15.ex hC20) (show (2 : Nat) < 3 by decide) ?_
              intro w21 hbz hxz hsz
              (repeat (refine lw_nil ?_))
              refine qw_rw (by repeat (first | with_reducible refine nop_then ?_ | with_reducible refine nop_block ?_ | with_reducible exact nop_body)) hcl (fun h => absurd h (by decide)) ?_
              refine rw_done (by kernel_rfl) ?_
              (repeat (refine qw_block ?_))
              exact qw_cut u2 (by repeat (first | exact trivial | refine ⟨rfl, ?_⟩)) (fin17 u2 w20 w21 hC20 hxz hbz k1)
          · have h1 : ¬ a.kind = 1 := by simpa using h1
            (repeat (first | refine lw_pure hT rfl ?_ | refine lw_nil ?_ | refine cw_seq ?_ | refine cw_region ?_ | refine qw_then ?_))
            refine cw_cond rfl (fun h3 => ?_) (fun h3 => ?_)
            · have h3 : a.kind = 3 := by simpa using h3
              have efD : fD a = stateP 3 := by unfold fD; rw [if_neg h1, if_pos h3]
              rw [efD]
              (repeat (first | refine lw_pure hT rfl ?_ | refine cw_region ?_))
              refine lw_store (size := 1) hT rfl rfl rfl rfl hb13 (show (0 : Nat) < 3 by decide) ?_
              intro w15 hb15 hx15 hs15
              (repeat (first | refine lw_nil ?_ | refine qw_block ?_))
              exact qw_cut _ (by repeat (first | exact trivial | refine ⟨rfl, ?_⟩)) ⟨hx1113.up_new hx15 (fun i hi => by omega), hb15, hchk.ex (hx1113.up_new hx15 (fun i hi => by omega))⟩
            · have h3 : ¬ a.kind = 3 := by simpa using h3
              (repeat (first | refine lw_pure hT rfl ?_ | refine lw_nil ?_ | refine cw_seq ?_ | refine cw_region ?_ | refine qw_then ?_))
              refine cw_cond rfl (fun h4 => ?_) (fun h4 => ?_)
              · have h4 : a.kind = 4 := by simpa using h4
                have efD : fD a = stateP 0 := by unfold fD; rw [if_neg h1, if_neg h3, if_pos h4]
                rw [efD]
                (repeat (first | refine lw_pure hT rfl ?_ | refine cw_region ?_))
                refine lw_store (size := 1) hT rfl rfl rfl rfl hb13 (show (0 : Nat) < 3 by decide) ?_
                intro w15 hb15 hx15 hs15
                (repeat (first | refine lw_nil ?_ | refine qw_block ?_))
                exact qw_cut _ (by repeat (first | exact trivial | refine ⟨rfl, ?_⟩)) ⟨hx1113.up_new hx15 (fun i hi => by omega), hb15, hchk.ex (hx1113.up_new hx15 (fun i hi => by omega))⟩
              · have h4 : ¬ a.kind = 4 := by simpa using h4
                have efD : fD a = id := by unfold fD; rw [if_neg h1, if_neg h3, if_neg h4]
                rw [efD]
                (repeat (first | refine cw_skip ?_ | refine qw_block ?_))
                exact qw_cut _ (by repeat (first | exact trivial | refine ⟨rfl, ?_⟩)) ⟨hx1113, hb13, hch13⟩
        rintro u w14 ⟨hx14, hb14, hch14⟩
        have hx1014 : Ext (· = bq) w10 w14 := hx11.up hx14
        have hl14 := hx14.size
        have hP14 : Blk w14 bq ((rowsOf (onIx ((whichN a).take j) (fD a) x.ps) vcs).flatten ++ cur.toList.drop 9) 114 := hP11.blk.ex hx14
        unfold pB
        (repeat (refine qw_then ?_))
        refine cw_draw hM (fun w' => Ex w14 w') [7] rfl rfl (by repeat (first | with_reducible refine nop_then ?_ | with_reducible refine nop_block ?_ | with_reducible exact nop_body)) (fun w15 hx15 _ => ⟨hx15, ?_⟩)
        (refine rw_takeP 0 rfl rfl (by kernel_rfl) (by kernel_rfl) (by kernel_rfl) (by kernel_rfl) rfl (yo_pure hT rfl) ?_; refine rw_takeP 1 rfl rfl (by kernel_rfl) (by kernel_rfl) (by kernel_rfl) (by kernel_rfl) rfl (yo_pure hT rfl) ?_; refine rw_takeP 2 rfl rfl (by kernel_rfl) (by kernel_rfl) (by kernel_rfl) (by kernel_rfl) rfl (yo_pure hT rfl) ?_)
        refine rw_takeP 3 rfl rfl (by kernel_rfl) (by kernel_rfl) (by kernel_rfl) (by kernel_rfl) rfl (yo_index hT rfl rfl rfl j rfl hlt) ?_
        refine rw_take 4 rfl rfl (by kernel_rfl) (by kernel_rfl) (by kernel_rfl) (by kernel_rfl) rfl (yo_load hT rfl rfl (v := .int .i64 (k : Nat)) (fun w' hS => Ex.cell hS (hx1014.cell hcell (by have := hbw; omega)))) ?_
        refine rw_take 5 rfl rfl (by kernel_rfl) (by kernel_rfl) (by kernel_rfl) (by kernel_rfl) rfl (yo_load_agg hT rfl rfl rfl (fun w' hS => (hb14.ex hS).rd 0 3)) ?_
        refine rw_takeP 6 rfl rfl (by kernel_rfl) (by kernel_rfl) (by kernel_rfl) (by kernel_rfl) rfl (yo_index hT rfl rfl rfl k rfl hk3) ?_
        refine rw_one 7 rfl (by kernel_rfl) rfl (fun hcl => ?_)
        refine lw_store_agg hT rfl rfl rfl rfl (by intro v hv; simp at hv; rcases hv with rfl | rfl | rfl <;> first | rfl | exact Sl.one hch14) (hP14.ex hx15) (show 0 + k * 3 + 3 ≤ _ by rw [rows_len hP11.three hP11.three']; omega) ?_
        intro w16 hb16 hx16 hs16
        (repeat (refine lw_nil ?_))
        refine qw_rw (by repeat (first | with_reducible refine nop_then ?_ | with_reducible refine nop_block ?_ | with_reducible exact nop_body)) hcl (fun h => absurd h (by decide)) ?_
        refine rw_done (by kernel_rfl) ?_
        (repeat (first | (refine lw_add rfl rfl ?_ ?_ ?_; iterate 2 omega) | refine lw_pure hT rfl ?_ | refine lw_nil ?_ | refine cw_region ?_ | refine qw_then ?_ | refine qw_block ?_))
        have hxE : Ext (· = bq) w11 w16 := ((Ext.of_ex hx14).up hx15).trans hx16
        refine qw_round (j + 1) (by repeat (first | exact trivial | refine ⟨rfl, ?_⟩)) ⟨hlt, hx11.trans hxE, vcs.set k u, ?_⟩ (by omega)
        rw [st1, onIx_set hP11.three hk3 hqk]
        refine ⟨by simp [hP11.three], by simp [hP11.three'], ?_, ?_⟩
        · rw [← set_row hP11.three hP11.three' hk3 (fD a q) u]
          have e : 0 + k * 3 = k * 3 := Nat.zero_add _
          rw [e] at hb16; exact hb16
        · intro j' q' vc' hq' hvc'
          have hxu : Ext (· = bq) w14 w16 := (Ext.of_ex hx15).trans hx16
          by_cases e : k = j'
          · subst e
            rw [List.getElem?_set_self (by rw [hP11.three]; exact hk3)] at hq'
            rw [List.getElem?_set_self (by rw [hP11.three']; exact hk3)] at hvc'
            cases hq'; cases hvc'
            exact hch14.ext hxu (fun b hb => hb.2.1)
          · rw [List.getElem?_set_ne e] at hq' hvc'
            exact (hP11.chains j' q' vc' hq' hvc').ext hxE (fun b hb => hb.2.1)
      · have hjn : j = (whichN a).length := by have := of_decide_eq_false h; omega
        subst hjn
        rw [List.take_length] at hP11
        have hb811 : Blk w11 b8 (entF (x, g)) 98 := ((hb87.ex hx79).ex hx10).ext hx11 (by have := hb87.lt; omega)
        (repeat (first | refine cw_skip ?_ | refine cw_exit ?_ | refine qw_then_exit ?_ | refine qw_block_exit ?_ | refine qw_then ?_))
        refine cw_seq ?_
        have hb311 : Blk w11 b3 (encAct a vb vp) 44 := hb310.ext hx11 (by have := hb310.lt; omega)
        refine cw_then_cut (α := Unit) (fun _ => [(2, pB b2), (3, pB b3), (4, pB b4), (7, .int .i64 (i : Nat)), (8, pB b8), (9, .slice (some ⟨bq, 0, none⟩) 3 capq)])
          (fun _ w' => Ext (fun b => b = bq ∨ b = b8) w11 w' ∧ PapsAt (fun b => (A0' b ∨ w.heap.size ≤ b) ∧ (b ≠ bq ∧ b ≠ b8 ∧ b ≠ b2 ∧ b ≠ b4)) w' bq (midP a (onIx (whichN a) (fD a) x.ps)) vcs (cur.toList.drop 9) ∧ Blk w' b8 (entF ({ x with state := midS a x.state }, g)) 98) ?_ ?_
        · unfold pB
          (repeat (first | refine lw_pure hT rfl ?_ | refine cw_seq ?_ | refine cw_region ?_))
          refine lw_load hT rfl rfl (v := .int .i64 a.kind) (hb311.cell 0) ?_
          (repeat (refine lw_pure hT rfl ?_))
          refine lw_guard rfl (fun h2 => ?_) (fun h2 => ?_)
          · have hv : a.kind = 2 ∨ a.kind = 5 := .inl (by simpa using h2)
            (repeat (first | refine lw_pure hT rfl ?_ | refine lw_nil ?_ | refine cw_seq ?_ | refine cw_region ?_ | refine qw_then ?_ | (refine lw_goff_t rfl ?_ ?_; focus (first | with_reducible rfl | with_reducible exact Bool.not_false | with_reducible exact Bool.not_true)) | refine cw_block ?_ | (refine cw_cond_t rfl ?_ ?_; focus (first | with_reducible rfl | with_reducible exact Bool.not_false | with_reducible exact Bool.not_true))))
            refine cw_loop (fun t : Nat => [(2, .pointer (some ⟨b2, 0, none⟩)), (3, .pointer (some ⟨b3, 0, none⟩)), (4, .pointer (some ⟨b4, 0, none⟩)), (7, .int .i64 (i : Nat)), (8, .pointer (some ⟨b8, 0, none⟩)), (9, .slice (some ⟨bq, 0, none⟩) 3 capq), (13, .int .i64 (t : Nat))])
              (fun t w' => t ≤ 3 ∧ Ext (· = bq) w11 w' ∧ PapsAt (fun b => (A0' b ∨ w.heap.size ≤ b) ∧ (b ≠ bq ∧ b ≠ b8 ∧ b ≠ b2 ∧ b ≠ b4)) w' bq (voided (onIx (whichN a) (fD a) x.ps) t) vcs (cur.toList.drop 9)) (fun t => 3 - t) 0 (by repeat (first | exact trivial | refine ⟨rfl, ?_⟩)) ⟨by omega, Ext.refl _ _, hP11⟩ ?_
            rintro t w12 ⟨ht, hx12, hP12⟩
            (repeat (first | refine lw_pure hT rfl ?_ | refine lw_nil ?_ | refine cw_seq ?_ | refine cw_region ?_ | refine qw_then ?_))
            refine cw_cond rfl (fun h => ?_) (fun h => ?_)
            · have hlt : t < 3 := by have := of_decide_eq_true h; omega
              (repeat (first | refine lw_pure hT rfl ?_ | refine cw_seq ?_ | refine cw_region ?_ | refine qw_then ?_ | refine cw_skip ?_ | refine cw_block ?_))
              refine lw_index hT rfl rfl rfl t rfl hlt ?_
              (repeat (refine lw_pure hT rfl ?_))
              refine lw_store (size := 1) hT rfl rfl rfl rfl hP12.blk (show 0 + t * 3 + 0 < _ by rw [rows_len hP12.three hP12.three']; omega) ?_
              intro w13 hb13 hx13 hs13
              have e : 0 + t * 3 + 0 = t * 3 := by omega
              rw [e] at hb13
              have hP13 := hP12.states (fun b hb => hb.2.1) hlt 2 hx13 hb13
              rw [voided_step hP11.three hlt] at hP13
              (repeat (first | (refine lw_add rfl rfl ?_ ?_ ?_; iterate 2 omega) | refine lw_pure hT rfl ?_ | refine lw_nil ?_ | refine cw_region ?_ | refine qw_then ?_ | refine qw_block ?_))
              exact qw_round (t + 1) (by repeat (first | exact trivial | refine ⟨rfl, ?_⟩)) ⟨hlt, hx12.trans hx13, hP13⟩ (by omega)
            · have : t = 3 := by have := of_decide_eq_false h; omega
              subst this
              rw [voided_3 hP11.three] at hP12
              (repeat (first | refine lw_pure hT rfl ?_ | refine cw_region ?_ | refine qw_then ?_ | refine cw_exit ?_ | refine qw_block_exit ?_ | refine qw_then_exit ?_))
              refine lw_store (size := 1) hT rfl rfl rfl rfl (hb811.ext hx12 (by have := hb87.lt; omega)) (show (9 : Nat) < 11 by decide) ?_
              intro w13 hb13 hx13 hs13
              (repeat (refine lw_nil ?_))
              refine qw_cut () (by repeat (first | exact trivial | refine ⟨rfl, ?_⟩)) ⟨(hx12.mono fun _ _ h => .inl h).trans (hx13.mono fun _ _ h => .inr h), ?_, ?_⟩
              · unfold midP; rw [if_pos hv]
                exact ⟨hP12.three, hP12.three', hP12.blk.ext hx13 (by have := hb87.lt; omega), fun i' q' vc' h1 h2 => (hP12.chains i' q' vc' h1 h2).ext hx13 (fun b hb => hb.2.2.1)⟩
              · unfold midS; rw [if_pos hv]; exact hb13
          · (repeat (first | refine lw_pure hT rfl ?_ | (refine lw_gon_f rfl ?_ ?_; focus (first | with_reducible rfl | with_reducible exact Bool.not_false | with_reducible exact Bool.not_true))))
            refine lw_load hT rfl rfl (v := .int .i64 a.kind) (hb311.cell 0) ?_
            (repeat (first | refine lw_pure hT rfl ?_ | refine lw_nil ?_ | refine qw_then ?_ | (refine lw_gon_f rfl ?_ ?_; focus (first | with_reducible rfl | with_reducible exact Bool.not_false | with_reducible exact Bool.not_true))))
            refine cw_cond rfl (fun h5 => ?_) (fun h5 => ?_)
            · have hv : a.kind = 2 ∨ a.kind = 5 := .inr (by simpa using h5)
              (repeat (first | refine lw_pure hT rfl ?_ | refine lw_nil ?_ | refine cw_seq ?_ | refine cw_region ?_ | refine qw_then ?_ | refine cw_block ?_))
              refine cw_loop (fun t : Nat => [(2, .pointer (some ⟨b2, 0, none⟩)), (3, .pointer (some ⟨b3, 0, none⟩)), (4, .pointer (some ⟨b4, 0, none⟩)), (7, .int .i64 (i : Nat)), (8, .pointer (some ⟨b8, 0, none⟩)), (9, .slice (some ⟨bq, 0, none⟩) 3 capq), (13, .int .i64 (t : Nat))])
                (fun t w' => t ≤ 3 ∧ Ext (· = bq) w11 w' ∧ PapsAt (fun b => (A0' b ∨ w.heap.size ≤ b) ∧ (b ≠ bq ∧ b ≠ b8 ∧ b ≠ b2 ∧ b ≠ b4)) w' bq (voided (onIx (whichN a) (fD a) x.ps) t) vcs (cur.toList.drop 9)) (fun t => 3 - t) 0 (by repeat (first | exact trivial | refine ⟨rfl, ?_⟩)) ⟨by omega, Ext.refl _ _, hP11⟩ ?_
              rintro t w12 ⟨ht, hx12, hP12⟩
              (repeat (first | refine lw_pure hT rfl ?_ | refine lw_nil ?_ | refine cw_seq ?_ | refine cw_region ?_ | refine qw_then ?_))
              refine cw_cond rfl (fun h => ?_) (fun h => ?_)
              · have hlt : t < 3 := by have := of_decide_eq_true h; omega
                (repeat (first | refine lw_pure hT rfl ?_ | refine cw_seq ?_ | refine cw_region ?_ | refine qw_then ?_ | refine cw_skip ?_ | refine cw_block ?_))
                refine lw_index hT rfl rfl rfl t rfl hlt ?_
                (repeat (refine lw_pure hT rfl ?_))
                refine lw_store (size := 1) hT rfl rfl rfl rfl hP12.blk (show 0 + t * 3 + 0 < _ by rw [rows_len hP12.three hP12.three']; omega) ?_
                intro w13 hb13 hx13 hs13
                have e : 0 + t * 3 + 0 = t * 3 := by omega
                rw [e] at hb13
                have hP13 := hP12.states (fun b hb => hb.2.1) hlt 2 hx13 hb13
                rw [voided_step hP11.three hlt] at hP13
                (repeat (first | (refine lw_add rfl rfl ?_ ?_ ?_; iterate 2 omega) | refine lw_pure hT rfl ?_ | refine lw_nil ?_ | refine cw_region ?_ | refine qw_then ?_ | refine qw_block ?_))
                exact qw_round (t + 1) (by repeat (first | exact trivial | refine ⟨rfl, ?_⟩)) ⟨hlt, hx12.trans hx13, hP13⟩ (by omega)
              · have : t = 3 := by have := of_decide_eq_false h; omega
                subst this
                rw [voided_3 hP11.three] at hP12
                (repeat (first | refine lw_pure hT rfl ?_ | refine cw_region ?_ | refine qw_then ?_ | refine cw_exit ?_ | refine qw_block_exit ?_ | refine qw_then_exit ?_))
                refine lw_store (size := 1) hT rfl rfl rfl rfl (hb811.ext hx12 (by have := hb87.lt; omega)) (show (9 : Nat) < 11 by decide) ?_
                intro w13 hb13 hx13 hs13
                (repeat (refine lw_nil ?_))
                refine qw_cut () (by repeat (first | exact trivial | refine ⟨rfl, ?_⟩)) ⟨(hx12.mono fun _ _ h => .inl h).trans (hx13.mono fun _ _ h => .inr h), ?_, ?_⟩
                · unfold midP; rw [if_pos hv]
                  exact ⟨hP12.three, hP12.three', hP12.blk.ext hx13 (by have := hb87.lt; omega), fun i' q' vc' h1 h2 => (hP12.chains i' q' vc' h1 h2).ext hx13 (fun b hb => hb.2.2.1)⟩
                · unfold midS; rw [if_pos hv]; exact hb13
            · have hv : ¬ (a.kind = 2 ∨ a.kind = 5) := by simp at h2 h5; omega
              (repeat (refine cw_skip ?_))
              refine qw_cut () (by repeat (first | exact trivial | refine ⟨rfl, ?_⟩)) ⟨Ext.refl _ _, ?_, ?_⟩
              · unfold midP; rw [if_neg hv]; exact hP11
              · unfold midS; rw [if_neg hv]; exact hb811
        rintro _ w12 ⟨hx12, hP12, hb812⟩
        have hb312 : Blk w12 b3 (encAct a vb vp) 44 := hb311.ext hx12 (by have := hb310.lt; have := hb35.lt; rintro (h | h) <;> omega)
        refine qw_then ?_
        refine cw_seq ?_
        refine cw_then_cut (α := Unit) (fun _ => [(2, pB b2), (3, pB b3), (4, pB b4), (7, .int .i64 (i : Nat)), (8, pB b8), (9, .slice (some ⟨bq, 0, none⟩) 3 capq)])
          (fun _ w' => Ext (fun b => b = bq ∨ b = b8) w12 w' ∧ PapsAt (fun b => (A0' b ∨ w.heap.size ≤ b) ∧ (b ≠ bq ∧ b ≠ b8 ∧ b ≠ b2 ∧ b ≠ b4)) w' bq (finP a (midP a (onIx (whichN a) (fD a) x.ps))) vcs (cur.toList.drop 9) ∧ Blk w' b8 (entF ({ x with state := finS a (midS a x.state) }, g)) 98) ?_ ?_
        · unfold pB
          (repeat (first | refine lw_pure hT rfl ?_ | refine cw_seq ?_ | refine cw_region ?_))
          refine lw_load hT rfl rfl (v := .int .i64 a.kind) (hb312.cell 0) ?_
          (repeat (first | refine lw_pure hT rfl ?_ | refine lw_nil ?_ | refine qw_then ?_))
          refine cw_cond rfl (fun h2 => ?_) (fun h2 => ?_)
          · have h2 : a.kind = 2 := by simpa using h2
            obtain ⟨k, hk3, ek, ei⟩ : ∃ k : Nat, k < 3 ∧ whichN a = [k] ∧ a.index = (k : Int) := by
              have e1 : whichD a = [a.index] := by unfold whichD; rw [if_neg (by omega)]
              have e2 : whichN a = [a.index.toNat] := by unfold whichN; rw [e1]; rfl
              have e3 := eW
              rw [e1, e2] at e3
              have e4 : a.index = (a.index.toNat : Int) := by simpa using e3
              exact ⟨a.index.toNat, ixs_lt (index := a.ask.index) (by rw [← eI, e2]; simp), e2, e4⟩
            (repeat (first | refine lw_pure hT rfl ?_ | refine cw_seq ?_ | refine cw_region ?_))
            refine lw_load hT rfl rfl (v := .int .i64 a.index) (hb312.cell 1) ?_
            skip
            refine lw_index hT rfl rfl rfl k ei hk3 ?_
            (repeat (refine lw_pure hT rfl ?_))
            refine lw_store (size := 1) hT rfl rfl rfl rfl hP12.blk (show 0 + k * 3 + 0 < _ by rw [rows_len hP12.three hP12.three']; omega) ?_
            intro w13 hb13 hx13 hs13
            have e : 0 + k * 3 + 0 = k * 3 := by omega
            rw [e] at hb13
            have hP13 := hP12.states (fun b hb => hb.2.1) hk3 1 hx13 hb13
            (repeat (first | refine lw_pure hT rfl ?_ | refine lw_nil ?_ | refine cw_region ?_ | refine qw_then ?_))
            refine lw_store (size := 1) hT rfl rfl rfl rfl (hb812.ext hx13 (by have := hb87.lt; omega)) (show (9 : Nat) < 11 by decide) ?_
            intro w14 hb14 hx14 hs14
            (repeat (refine lw_nil ?_))
            refine qw_cut () (by repeat (first | exact trivial | refine ⟨rfl, ?_⟩)) ⟨(hx13.mono fun _ _ h => .inl h).trans (hx14.mono fun _ _ h => .inr h), ?_, ?_⟩
            · have ef : finP a (midP a (onIx (whichN a) (fD a) x.ps)) = onIx [k] (stateP 1) (midP a (onIx (whichN a) (fD a) x.ps)) := by unfold finP; rw [if_pos h2]; congr 1
              rw [ef]
              exact ⟨hP13.three, hP13.three', hP13.blk.ext hx14 (by have := hb87.lt; omega), fun i' q' vc' h1 h2 => (hP13.chains i' q' vc' h1 h2).ext hx14 (fun b hb => hb.2.2.1)⟩
            · unfold finS; rw [if_pos h2]; exact hb14
          · have h2 : ¬ a.kind = 2 := by simpa using h2
            (repeat (refine cw_skip ?_))
            refine qw_cut () (by repeat (first | exact trivial | refine ⟨rfl, ?_⟩)) ⟨Ext.refl _ _, ?_, ?_⟩
            · unfold finP; rw [if_neg h2]; exact hP12
            · unfold finS; rw [if_neg h2]; exact hb812
        rintro _ w13 ⟨hx13, hP13, hb813⟩
        have hx1113 : Ext (fun b => b = bq ∨ b = b8) w11 w13 := hx12.trans hx13
        have hb213 : Blk w13 b2 (encR c (.slice (some ⟨bL, oL, none⟩) l.length cL)) 28 := ((hb29.ex hx10).ext hx11 (by have := hb25.lt; omega)).ext hx1113 (by have := hb25.lt; rintro (h | h) <;> omega)
        unfold pB
        (repeat (first | refine lw_pure hT rfl ?_ | refine cw_seq ?_ | refine cw_region ?_ | refine qw_then ?_))
        refine lw_store (size := 1) hT rfl rfl rfl rfl hb813 (show (10 : Nat) < 11 by decide) ?_
        intro w14 hb814 hx14 hs14
        (repeat (first | refine lw_nil ?_ | refine cw_seq ?_ | refine qw_then ?_))
        have hl59 := hx59.size
        have hl79 := hx79.size
        have hl57 := hx57.size
        have hx514 : Ex w5 w14 := (((hx59.trans hx10).up_new hx11 (fun i h => by omega)).up_new hx1113 (fun i h => by rcases h with h | h <;> omega)).up_new hx14 (fun i h => by omega)
        have hF14 := hF4.ex (hx5.trans hx514)
        have hb214 : Blk w14 b2 (encR c (.slice (some ⟨bL, oL, none⟩) l.length cL)) 28 := hb213.ext hx14 (by have := hb25.lt; omega)
        have hcl0 : l.length ≤ cL := hF14.cap _ _ _ rfl
        obtain ⟨x1, hx1e⟩ : ∃ x1 : EntD, x1 = { x with state := finS a (midS a x.state), ps := finP a (midP a (onIx (whichN a) (fD a) x.ps)) } := ⟨_, rfl⟩
        obtain ⟨g1, hg1e⟩ : ∃ g1 : FG, g1 = { g with vP := .slice (some ⟨bq, 0, none⟩) 3 capq, vcs := vcs } := ⟨_, rfl⟩
        replace hb814 : Blk w14 b8 (entF (x1, g1)) 98 := by rw [hx1e, hg1e]; exact hb814
        have hzl : ((l.zip gs).map entF).length = l.length := by simp [hF.len]
        have hTk := hF14.sl.cutTo (i := i) (by rw [hzl]; omega)
        have hDr := hF14.sl.cutFrom (i := i + 1) (m := l.length - (i + 1)) (by rw [hzl]; omega) (by rw [hzl]) hcl0
        have hTkl : (((l.zip gs).map entF).take i).length = i := by rw [List.length_take, hzl]; omega
        have hDrl : (((l.zip gs).map entF).drop (i + 1)).length = l.length - (i + 1) := by rw [List.length_drop, hzl]
        have hTk1 : ∀ r ∈ ((l.zip gs).map entF).take i, ∀ u ∈ r, u.oneCell' = true := fun r hr => hF14.one r (List.mem_of_mem_take hr)
        have hDr1 : ∀ r ∈ ((l.zip gs).map entF).drop (i + 1), ∀ u ∈ r, u.oneCell' = true := fun r hr => hF14.one r (List.mem_of_mem_drop hr)
        have hP14 : PapsAt (fun b => (A0' b ∨ w.heap.size ≤ b) ∧ (b ≠ bq ∧ b ≠ b8 ∧ b ≠ b2 ∧ b ≠ b4)) w14 bq (finP a (midP a (onIx (whichN a) (fD a) x.ps))) vcs (cur.toList.drop 9) :=
          ⟨hP13.three, hP13.three', hP13.blk.ext hx14 (by have := hb87.lt; omega), fun i' q' vc' h1 h2 => (hP13.chains i' q' vc' h1 h2).ext hx14 (fun b hb => hb.2.2.1)⟩
        have hE14 := hE5.ex hx514
        have hx04s := hx04.size
        have hE1 : FEnt (fun b => (A0' b ∨ w.heap.size ≤ b) ∧ (b ≠ b2 ∧ b ≠ b4)) w14 x1 g1 := by
          rw [hx1e, hg1e]
          refine ⟨hE14.boxes.weaken fun b hb => ⟨.inl hb.1, by have := hb.2; omega, by have := hb.2; omega⟩, hE14.parents.weaken fun b hb => ⟨.inl hb.1, by have := hb.2; omega, by have := hb.2; omega⟩, hP14.three, hP14.three', hP14.sl ⟨.inr (by omega), by omega, by omega⟩, fun j q vc h1 h2 => (hP14.chains j q vc h1 h2).weaken fun b hb => ⟨hb.1, hb.2.2.2.1, hb.2.2.2.2⟩⟩
        have hx1one := entF_one hE1
        refine cw_then_cut (α := Value) (fun u => [(2, pB b2), (4, pB b4)]) (fun u w' => ∃ wa, Ex w14 wa ∧ wa.ownsRow w14.heap.size 98 11 u (i + 1 + (l.length - (i + 1))) (((((l.zip gs).map entF).take i).flatten ++ entF (x1, g1)) ++ (((l.zip gs).map entF).drop (i + 1)).flatten) ∧ Ext (· = b2) wa w' ∧ Blk w' b2 (encR c u) 28) ?_ ?_
        · unfold pB
          refine cw_draw hM (fun w' => Ex w14 w') [16] rfl rfl (by repeat (first | with_reducible refine nop_then ?_ | with_reducible refine nop_block ?_ | with_reducible exact nop_body)) (fun w15 hx15 _ => ⟨hx15, ?_⟩)
          (refine rw_takeP 1 rfl rfl (by kernel_rfl) (by kernel_rfl) (by kernel_rfl) (by kernel_rfl) rfl (yo_pure hT rfl) ?_)
          refine rw_take 2 rfl rfl (by kernel_rfl) (by kernel_rfl) (by kernel_rfl) (by kernel_rfl) rfl (yo_load hT rfl rfl (v := .slice (some ⟨bL, oL, none⟩) l.length cL) (fun w' hS => Ex.cell hS (hb214.cell 1))) ?_
          (refine rw_takeP 3 rfl rfl (by kernel_rfl) (by kernel_rfl) (by kernel_rfl) (by kernel_rfl) rfl (yo_pure hT rfl) ?_)
          refine rw_takeP 4 rfl rfl (by kernel_rfl) (by kernel_rfl) (by kernel_rfl) (by kernel_rfl) rfl (yo_slice_sl hT rfl rfl rfl rfl 0 i rfl rfl (Nat.zero_le _) (by omega)) ?_
          refine rw_take 6 rfl rfl (by kernel_rfl) (by kernel_rfl) (by kernel_rfl) (by kernel_rfl) rfl (yo_load_agg hT rfl rfl rfl (vs := entF (x1, g1)) (fun w' hS => (hb814.ex hS).rd 0 11)) ?_
          (refine rw_takeP 9 rfl rfl (by kernel_rfl) (by kernel_rfl) (by kernel_rfl) (by kernel_rfl) rfl (yo_pure hT rfl) ?_)
          refine rw_take 10 rfl rfl (by kernel_rfl) (by kernel_rfl) (by kernel_rfl) (by kernel_rfl) rfl (yo_load hT rfl rfl (v := .slice (some ⟨bL, oL, none⟩) l.length cL) (fun w' hS => Ex.cell hS (hb214.cell 1))) ?_
          (refine rw_takeP 11 rfl rfl (by kernel_rfl) (by kernel_rfl) (by kernel_rfl) (by kernel_rfl) rfl (yo_pure hT rfl) ?_)
          refine rw_takeP 12 rfl rfl (by kernel_rfl) (by kernel_rfl) (by kernel_rfl) (by kernel_rfl) rfl (yo_sum rfl rfl (.inl ⟨rfl, rfl⟩) (by omega) (by omega)) ?_
          refine rw_takeP 13 rfl rfl (by kernel_rfl) (by kernel_rfl) (by kernel_rfl) (by kernel_rfl) rfl (yo_slice_sl hT rfl rfl rfl rfl (i + 1) l.length (by omega) rfl (by omega) hcl0) ?_
          refine rw_two 0 7 rfl rfl (by kernel_rfl) rfl rfl (fun hcl => ?_) (fun hcl => ?_)
          · refine lw_buildSlice sl26 rfl rfl rfl ?_
            intro e0 w16 he0 hbe0 hx16 hs16
            have hC16 := hx15.trans hx16
            have own16 : w16.ownsRow w14.heap.size 98 11 (.slice (some ⟨e0, 0, none⟩) 0 0) 0 [] := own_lit hbe0 (by have := hx15.size; omega) rfl (by decide)
            (repeat (refine lw_nil ?_))
            refine qw_rw (by repeat (first | with_reducible refine nop_then ?_ | with_reducible refine nop_block ?_ | with_reducible exact nop_body)) hcl (fun _ => hC16) ?_
            refine rw_two 5 7 rfl rfl (by kernel_rfl) rfl rfl (fun hcl => ?_) (fun hcl => ?_)
            · refine lw_append_sl sl26 (by decide) rfl own16 rfl (hTk.ex hC16) hTk1 (by rw [hTkl]; unfold maxLen; omega) (by rw [hTkl]; omega) (by have := hC16.size; omega) ?_
              intro u1 w17 q1 q2 q3 q4
              have hC17 : Ex w14 w17 := hC16.up_new q2 (fun i h => by simp [Value.ownBlock] at h; have := hx15.size; have := hC16.size; omega)
              rw [Nat.zero_add, List.nil_append, hTkl] at q1
              (repeat (refine lw_nil ?_))
              refine qw_rw (by repeat (first | with_reducible refine nop_then ?_ | with_reducible refine nop_block ?_ | with_reducible exact nop_body)) hcl (fun _ => hC17) ?_
              refine rw_one 7 rfl (by kernel_rfl) rfl (fun hcl => ?_)
              refine lw_buildSlice sl26 rfl rfl rfl ?_
              intro e7 w18 he7 hbe7 hx18 hs18
              replace hbe7 : Blk w18 e7 (entF (x1, g1)) 98 := hbe7
              have hC18 := hC17.trans hx18
              have own18 := own_ex q1 hx18
              (repeat (refine lw_nil ?_))
              refine qw_rw (by repeat (first | with_reducible refine nop_then ?_ | with_reducible refine nop_block ?_ | with_reducible exact nop_body)) hcl (fun _ => hC18) ?_
              refine rw_one 8 rfl (by kernel_rfl) rfl (fun hcl => ?_)
              refine lw_append sl26 (by decide) rfl own18 rfl (hbe7.rd 0 11) rfl hx1one (by unfold maxLen; omega) (by omega) (by have := hC18.size; omega) ?_
              intro u2 w19 k1 k2 k3 k4
              have hC19 : Ex w14 w19 := hC18.up_new k2 (fun i h => (own_base q1 h.symm).1)
              (repeat (refine lw_nil ?_))
              refine qw_rw (by repeat (first | with_reducible refine nop_then ?_ | with_reducible refine nop_block ?_ | with_reducible exact nop_body)) hcl (fun _ => hC19) ?_
              refine rw_one 14 rfl (by kernel_rfl) rfl (fun hcl => ?_)
              refine lw_append_sl sl26 (by decide) rfl k1 rfl (hDr.ex hC19) hDr1 (by rw [hDrl]; unfold maxLen; omega) (by rw [hDrl]; omega) (by have := hC19.size; omega) ?_
              intro u3 w20 m1 m2 m3 m4
              have hC20 : Ex w14 w20 := hC19.up_new m2 (fun i h => (own_base k1 h.symm).1)
              rw [hDrl] at m1
              (repeat (refine lw_nil ?_))
              refine qw_rw (by repeat (first | with_reducible refine nop_then ?_ | with_reducible refine nop_block ?_ | with_reducible exact nop_body)) hcl (fun _ => hC20) ?_
              (refine rw_takeP 15 rfl rfl (by kernel_rfl) (by kernel_rfl) (by kernel_rfl) (by kernel_rfl) rfl (yo_pure hT rfl) ?_)
              refine rw_one 16 rfl (by kernel_rfl) rfl (fun hcl => ?_)
              refine lw_store (size := 1) hT rfl rfl rfl (own_one m1) (hb214.ex hC20) (show (1 : Nat) < 2 by decide) ?_
              intro w21 hbz hxz hsz
              (repeat (refine lw_nil ?_))
              refine qw_rw (by repeat (first | with_reducible refine nop_then ?_ | with_reducible refine nop_block ?_ | with_reducible exact nop_body)) hcl (fun h => absurd h (by decide)) ?_
              refine rw_done (by kernel_rfl) ?_
              skip
              exact qw_cut u3 (by repeat (first | exact trivial | refine ⟨rfl, ?_⟩)) ⟨w20, hC20, m1, hxz, hbz⟩
            · refine lw_buildSlice sl26 rfl rfl rfl ?_
              intro e7 w17 he7 hbe7 hx17 hs17
              replace hbe7 : Blk w17 e7 (entF (x1, g1)) 98 := hbe7
              have hC17 := hC16.trans hx17
              have own17 := own_ex own16 hx17
              (repeat (refine lw_nil ?_))
              refine qw_rw (by repeat (first | with_reducible refine nop_then ?_ | with_reducible refine nop_block ?_ | with_reducible exact nop_body)) hcl (fun _ => hC17) ?_
              refine rw_one 5 rfl (by kernel_rfl) rfl (fun hcl => ?_)
              refine lw_append_sl sl26 (by decide) rfl own17 rfl (hTk.ex hC17) hTk1 (by rw [hTkl]; unfold maxLen; omega) (by rw [hTkl]; omega) (by have := hC17.size; omega) ?_
              intro u1 w18 q1 q2 q3 q4
              have hC18 : Ex w14 w18 := hC17.up_new q2 (fun i h => by simp [Value.ownBlock] at h; have := hx15.size; have := hC16.size; omega)
              rw [Nat.zero_add, List.nil_append, hTkl] at q1
              have be18 := hbe7.ext q2 (by simp [Value.ownBlock]; have := hC17.size; omega)
              (repeat (refine lw_nil ?_))
              refine qw_rw (by repeat (first | with_reducible refine nop_then ?_ | with_reducible refine nop_block ?_ | with_reducible exact nop_body)) hcl (fun _ => hC18) ?_
              refine rw_one 8 rfl (by kernel_rfl) rfl (fun hcl => ?_)
              refine lw_append sl26 (by decide) rfl q1 rfl (be18.rd 0 11) rfl hx1one (by unfold maxLen; omega) (by omega) (by have := hC18.size; omega) ?_
              intro u2 w19 k1 k2 k3 k4
              have hC19 : Ex w14 w19 := hC18.up_new k2 (fun i h => (own_base q1 h.symm).1)
              (repeat (refine lw_nil ?_))
              refine qw_rw (by repeat (first | with_reducible refine nop_then ?_ | with_reducible refine nop_block ?_ | with_reducible exact nop_body)) hcl (fun _ => hC19) ?_
              refine rw_one 14 rfl (by kernel_rfl) rfl (fun hcl => ?_)
              refine lw_append_sl sl26 (by decide) rfl k1 rfl (hDr.ex hC19) hDr1 (by rw [hDrl]; unfold maxLen; omega) (by rw [hDrl]; omega) (by have := hC19.size; omega) ?_
              intro u3 w20 m1 m2 m3 m4
              have hC20 : Ex w14 w20 := hC19.up_new m2 (fun i h => (own_base k1 h.symm).1)
              rw [hDrl] at m1
              (repeat (refine lw_nil ?_))
              refine qw_rw (by repeat (first | with_reducible refine nop_then ?_ | with_reducible refine nop_block ?_ | with_reducible exact nop_body)) hcl (fun _ => hC20) ?_
              (refine rw_takeP 15 rfl rfl (by kernel_rfl) (by kernel_rfl) (by kernel_rfl) (by kernel_rfl) rfl (yo_pure hT rfl) ?_)
              refine rw_one 16 rfl (by kernel_rfl) rfl (fun hcl => ?_)
              refine lw_store (size := 1) hT rfl rfl rfl (own_one m1) (hb214.ex hC20) (show (1 : Nat) < 2 by decide) ?_
              intro w21 hbz hxz hsz
              (repeat (refine lw_nil ?_))
              refine qw_rw (by repeat (first | with_reducible refine nop_then ?_ | with_reducible refine nop_block ?_ | with_reducible exact nop_body)) hcl (fun h => absurd h (by decide)) ?_
              refine rw_done (by kernel_rfl) ?_
              skip
              exact qw_cut u3 (by repeat (first | exact trivial | refine ⟨rfl, ?_⟩)) ⟨w20, hC20, m1, hxz, hbz⟩
          · refine lw_buildSlice sl26 rfl rfl rfl ?_
            intro e7 w16 he7 hbe7 hx16 hs16
            replace hbe7 : Blk w16 e7 (entF (x1, g1)) 98 := hbe7
            have hC16 := hx15.trans hx16
            (repeat (refine lw_nil ?_))
            refine qw_rw (by repeat (first | with_reducible refine nop_then ?_ | with_reducible refine nop_block ?_ | with_reducible exact nop_body)) hcl (fun _ => hC16) ?_
            refine rw_one 0 rfl (by kernel_rfl) rfl (fun hcl => ?_)
            refine lw_buildSlice sl26 rfl rfl rfl ?_
            intro e0 w17 he0 hbe0 hx17 hs17
            have hC17 := hC16.trans hx17
            have own17 : w17.ownsRow w14.heap.size 98 11 (.slice (some ⟨e0, 0, none⟩) 0 0) 0 [] := own_lit hbe0 (by have := hC16.size; omega) rfl (by decide)
            have be17 := hbe7.ex hx17
            (repeat (refine lw_nil ?_))
            refine qw_rw (by repeat (first | with_reducible refine nop_then ?_ | with_reducible refine nop_block ?_ | with_reducible exact nop_body)) hcl (fun _ => hC17) ?_
            refine rw_one 5 rfl (by kernel_rfl) rfl (fun hcl => ?_)
            refine lw_append_sl sl26 (by decide) rfl own17 rfl (hTk.ex hC17) hTk1 (by rw [hTkl]; unfold maxLen; omega) (by rw [hTkl]; omega) (by have := hC17.size; omega) ?_
            intro u1 w18 q1 q2 q3 q4
            have hC18 : Ex w14 w18 := hC17.up_new q2 (fun i h => by simp [Value.ownBlock] at h; have := hx15.size; have := hC16.size; omega)
            rw [Nat.zero_add, List.nil_append, hTkl] at q1
            have be18 := be17.ext q2 (by simp [Value.ownBlock]; have := hC17.size; omega)
            (repeat (refine lw_nil ?_))
            refine qw_rw (by repeat (first | with_reducible refine nop_then ?_ | with_reducible refine nop_block ?_ | with_reducible exact nop_body)) hcl (fun _ => hC18) ?_
            refine rw_one 8 rfl (by kernel_rfl) rfl (fun hcl => ?_)
            refine lw_append sl26 (by decide) rfl q1 rfl (be18.rd 0 11) rfl hx1one (by unfold maxLen; omega) (by omega) (by have := hC18.size; omega) ?_
            intro u2 w19 k1 k2 k3 k4
            have hC19 : Ex w14 w19 := hC18.up_new k2 (fun i h => (own_base q1 h.symm).1)
            (repeat (refine lw_nil ?_))
            refine qw_rw (by repeat (first | with_reducible refine nop_then ?_ | with_reducible refine nop_block ?_ | with_reducible exact nop_body)) hcl (fun _ => hC19) ?_
            refine rw_one 14 rfl (by kernel_rfl) rfl (fun hcl => ?_)
            refine lw_append_sl sl26 (by decide) rfl k1 rfl (hDr.ex hC19) hDr1 (by rw [hDrl]; unfold maxLen; omega) (by rw [hDrl]; omega) (by have := hC19.size; omega) ?_
            intro u3 w20 m1 m2 m3 m4
            have hC20 : Ex w14 w20 := hC19.up_new m2 (fun i h => (own_base k1 h.symm).1)
            rw [hDrl] at m1
            (repeat (refine lw_nil ?_))
            refine qw_rw (by repeat (first | with_reducible refine nop_then ?_ | with_reducible refine nop_block ?_ | with_reducible exact nop_body)) hcl (fun _ => hC20) ?_
            (refine rw_takeP 15 rfl rfl (by kernel_rfl) (by kernel_rfl) (by kernel_rfl) (by kernel_rfl) rfl (yo_pure hT rfl) ?_)
            refine rw_one 16 rfl (by kernel_rfl) rfl (fun hcl => ?_)
            refine lw_store (size := 1) hT rfl rfl rfl (own_one m1) (hb214.ex hC20) (show (1 : Nat) < 2 by decide) ?_
            intro w21 hbz hxz hsz
            (repeat (refine lw_nil ?_))
            refine qw_rw (by repeat (first | with_reducible refine nop_then ?_ | with_reducible refine nop_block ?_ | with_reducible exact nop_body)) hcl (fun h => absurd h (by decide)) ?_
            refine rw_done (by kernel_rfl) ?_
            skip
            exact qw_cut u3 (by repeat (first | exact trivial | refine ⟨rfl, ?_⟩)) ⟨w20, hC20, m1, hxz, hbz⟩
        rintro u w15 ⟨wa, hxa, how, hxb, hb215⟩
        unfold pB
        (repeat (first | refine cw_seq ?_ | refine cw_region ?_ | refine qw_then ?_))
        refine lw_load_agg hT rfl rfl rfl (vs := encR c u) (hb215.rd 0 2) ?_
        skip
        have hua := fun k (hk : Value.ownBlock u = some k) => own_base how hk
        have hla := hxa.size
        have hlb := hxb.size
        have hl514 := hx514.size
        have hb4w : Blk w15 b4 _ 28 := ((hb45.ex hx514).ex hxa).ext hxb (by omega)
        refine lw_store_agg hT rfl rfl rfl rfl (by intro v hv; simp [encR] at hv; rcases hv with rfl | rfl <;> first | rfl | exact own_one how) hb4w (show (2 : Nat) ≤ 2 by decide) ?_
        intro w16 hb16 hx16 hs16
        (repeat (first | refine lw_pure hT rfl ?_ | refine lw_nil ?_ | refine qw_then ?_ | refine cw_ret ?_))
        have hx0a : Ex w wa := (hx04.trans (hx5.trans hx514)).trans hxa
        have hx0b : Ex w w15 := hx0a.up_new hxb (fun i h => by omega)
        have hx0c : Ex w w16 := hx0b.up_new hx16 (fun i h => by omega)
        refine qw_ret_cell hT rfl rfl rfl rfl (vs := encR c u) (hb16.rd 0 2) rfl ⟨⟨u, gs.set i g1, rfl, ?_⟩, hx0c⟩
        have hnum : a.bill = x.bill.number := by
          have := List.find?_some hat
          rw [hxi]; exact of_decide_eq_true this
        have eupd : (RegD.upd ⟨c, l⟩ a.bill (·.after a)).l = l.set i x1 := by
          rw [upd_set' (r := ⟨c, l⟩) (i := i) (x := x) hx_ hnum hN, after_eq hk1 eI eN, hx1e]
        rw [eupd]
        have hs2 : Ext (fun k => k = b2 ∨ k = b4) wa w16 := (hxb.mono fun _ _ h => .inl h).trans (hx16.mono fun _ _ h => .inr h)
        refine FRep.changed hF.len hil (own_ext how hs2 (fun k hk e => by have := hua k hk; rcases e with e | e <;> omega)) (fun k hk => .inr (by have := hua k hk; omega)) ?_ ?_
        · intro j y v _ hy hv
          exact ((hF.ents j y v hy hv).ex hx0c).weaken fun b hb => .inl hb
        · exact ((hE1.ex hxa).ext hs2 (fun b hb e => by rcases e with e | e <;> simp_all)).weaken fun b hb => hb.1
end Go.Proofs.YtfbjpfgglgffgaaGreat
