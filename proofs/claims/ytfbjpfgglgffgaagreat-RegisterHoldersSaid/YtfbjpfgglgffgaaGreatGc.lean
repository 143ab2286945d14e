/- Contract of supercargolaw23.do: an act of both registers. -/
import Derived.Test.YtfbjpfgglgffgaaGreatFh
import Derived.Test.YtfbjpfgglgffgaaGreatGb
import Derived.Test.YtfbjpfgglgffgaaGreatRo
import Derived.Test.YtfbjpfgglgffgaaGreatRn
import Derived.Test.YtfbjpfgglgffgaaGreatRl
set_option linter.unusedVariables false
set_option linter.unusedSimpArgs false
set_option linter.unusedSectionVars false
set_option linter.unnecessarySimpa false
namespace Go.Proofs.YtfbjpfgglgffgaaGreat
open Go Go.SK

/-- What an act of both leaves: the two registers, apart, and whether they said the same. -/
structure DoneP (A : Nat → Prop) (w w' : World) (p m : Nat) (gs : List GhostE) (R M : RegD) (a : ActD) (v : Value) : Prop where
  is : ∃ gs' vL' fgs' b A', v = .tuple #[.agg ⟨encR M.carrier vL'⟩, .bool b] ∧ (R = M → b = true) ∧ Rep w' p (doA R a) m gs' ∧ (∀ x ∈ foot p m gs', x ∈ foot p m gs ∨ w.heap.size ≤ x) ∧
    FRep A' w' vL' (doA M a).l fgs' ∧ (∀ x, A' x → x ∉ foot p m gs') ∧ (∀ x, A' x → A x ∨ w.heap.size ≤ x)
  ext : Ext (· ∈ foot p m gs) w w'
set_option maxHeartbeats 4000000 in
theorem l23_do {A A0 : Nat → Prop} {w : World} {p m : Nat} {R M : RegD} {gs : List GhostE} {vL : Value} {fgs : List FG} {kR kM : Nat} (hR : Rep w p R m gs) (hgR : Good kR R) (hkR : kR ≤ 200) (hF : FRep A w vL M.l fgs) (hgM : Good kM M) (hkM : kM ≤ 200)
    (hdis : ∀ b, A b → b ∉ foot p m gs) {a : ActD} {vb vp : Value} (hat : ActAt A0 w a vb vp) (hk : 0 ≤ a.kind ∧ a.kind ≤ 5) :
    Ret Tryz.prog 18 [.pointer (some ⟨p, 0, none⟩), .agg ⟨encR M.carrier vL⟩, .agg ⟨encAct a vb vp⟩] w fun v w' => DoneP A w w' p m gs R M a v := by
  have hfl : ∀ b ∈ foot p m gs, b < w.heap.size := fun b hb => hR.foot_lt hb
  have hF0 := hF.lt
  refine ret_of Tryz.func18 Tryz.ntmps18 rfl rfl rfl ?_
  (repeat (first | refine cw_seq ?_ | refine cw_region ?_))
  refine lw_box rfl ?_
  intro b4 w1 hbb4 hb4 hx1 hs1
  replace hb4 : Blk w1 b4 (encR M.carrier vL) 28 := hb4
  skip
  refine lw_box rfl ?_
  intro b5 w2 hbb5 hb5 hx2 hs2
  replace hb5 : Blk w2 b5 (encAct a vb vp) 44 := hb5
  skip
  refine lw_alloc z28 ?_
  intro b6 w3 hbb6 hb6 hx3 hs3
  have hx03 := (hx1.trans hx2).trans hx3
  have hb53 := hb5.ex hx3
  (repeat (first | refine lw_pure hT rfl ?_ | refine lw_nil ?_ | refine cw_seq ?_ | refine cw_region ?_ | refine qw_then ?_))
  refine lw_load_agg hT rfl rfl rfl (vs := encR M.carrier vL) (((hb4.ex hx2).ex hx3).rd 0 2) ?_
  skip
  refine lw_load_agg hT rfl rfl rfl (vs := encAct a vb vp) (hb53.rd 0 15) ?_
  skip
  refine lw_call hT rfl rfl (r23_Do (A0 := A0) M.carrier (hF0.ex hx03) (by have := hgM.len; omega) hgM.nd (hgM.small (by omega)) a (hat.boxes.ex hx03) (hat.parents.ex hx03) hat.ok.b hat.cap hk hat.ok.to_) ?_
  rintro _ w5 ⟨⟨vL', fgs', rfl, hF'⟩, hx5⟩
  have hx05 := hx03.trans hx5
  have hl03 := hx03.size
  have hl5 := hx5.size
  (repeat (refine lw_pure hT rfl ?_))
  refine lw_alloc z28 ?_
  intro b8 w6 hbb8 hb8 hx6 hs6
  skip
  refine lw_store_agg hT rfl rfl rfl rfl (by intro v hv; simp [encR] at hv; rcases hv with rfl | rfl <;> first | rfl | exact Sl.one hF'.sl) hb8 (show (2 : Nat) ≤ 2 by decide) ?_
  intro w7 hb87 hx7 hs7
  replace hb87 : Blk w7 b8 (encR M.carrier vL') 28 := hb87
  have hx57 : Ex w5 w7 := hx6.up_new hx7 (fun i h => by omega)
  have hx07 := hx05.trans hx57
  have hR7 := hR.ex hx07
  have hl57 := hx57.size
  have hb57 := (hb53.ex hx5).ex hx57
  have hb67 : Blk w7 b6 _ 28 := (hb6.ex hx5).ex hx57
  have hF7 := hF'.lt.ex hx57
  have hat7 : ActAt A0 w7 a vb vp := hat.ex hx07
  have eM : actC ⟨M.carrier, M.l⟩ a = actC M a := rfl
  rw [eM]
  refine lw_pure hT rfl ?_
  refine lw_nil ?_
  refine qw_then ?_
  refine cw_seq ?_
  refine cw_region ?_
  refine lw_pure hT rfl ?_
  refine lw_nil ?_
  refine qw_then ?_
  refine cw_seq ?_
  have fin : ∀ (bb : Bool) (w8 w9 w10 : World), Mut w7 p m gs (doA R a) w8 → Ex w8 w9 → Ext (· = b6) w9 w10 → (R = M → bb = true) → DoneP A w w10 p m gs R M a (oneOr [.agg ⟨encR M.carrier vL'⟩, .bool bb]) := by
    intro bb w8 w9 w10 hm hx89 hx910 hbb
    obtain ⟨gs', hR', hft⟩ := hm.is
    have hb6f : b6 ∉ foot p m gs' := fun h => by
      rcases hft _ h with h | h
      · have := hfl _ h; omega
      · have := hb67.lt; omega
    have hex : Ext (fun b => b ∈ foot p m gs ∨ b = b6) w7 w10 := ((hm.ext.mono fun _ _ h => .inl h).trans (Ext.of_ex hx89)).trans (hx910.mono fun _ _ h => .inr h)
    refine ⟨⟨gs', vL', fgs', bb, _, rfl, hbb, (hR'.ex hx89).frame hx910 (fun b hb e => hb6f (e ▸ hb)), fun x hx => ?_, hF7.ext hex ?_, ?_, ?_⟩, ?_⟩
    · rcases hft x hx with h | h
      · exact .inl h
      · exact .inr (by have := hx07.size; omega)
    · rintro b ⟨hb | hb, hb'⟩ (h | h)
      · exact hdis b hb.1 h
      · have := hb.2; omega
      · have := hfl b h; omega
      · omega
    · rintro b ⟨hb | hb, hb'⟩ h <;> rcases hft b h with h | h
      · exact hdis b hb.1 h
      · omega
      · have := hfl b h; omega
      · omega
    · rintro b ⟨hb | hb, hb'⟩
      · exact .inl hb.1
      · exact .inr (by omega)
    · exact (((Ext.of_ex hx07).trans hm.ext).trans (Ext.of_ex hx89)).up_new hx910 (fun i h => by omega)
  refine cw_then_cut (α := Unit) (fun _ => [(6, pB b6), (8, pB b8), (9, .int .i64 (actC M a)), (10, .int .i64 (actC R a))]) (fun _ w' => ∃ w8, Mut w7 p m gs (doA R a) w8 ∧ Ex w8 w') ?_ ?_
  · unfold pB
    (repeat (first | refine lw_pure hT rfl ?_ | refine cw_seq ?_ | refine cw_region ?_))
    refine lw_load hT rfl rfl (v := .int .i64 a.kind) (hb57.cell 0) ?_
    (repeat (first | refine lw_pure hT rfl ?_ | refine lw_nil ?_ | refine cw_seq ?_ | refine cw_region ?_ | refine qw_then ?_ | refine cw_block ?_))
    refine cw_cond rfl (fun h0 => ?_) (fun h0 => ?_)
    · have h0 : a.kind = 0 := by simpa using h0
      have e1 : actC R a = issueC R a.b a.to_ := by unfold actC; rw [if_pos h0]
      have e2 : doA R a = issueD R a.b a.to_ := by unfold doA; rw [if_pos h0]
      (repeat (first | refine lw_pure hT rfl ?_ | refine cw_region ?_))
      refine lw_load_agg hT rfl rfl rfl (vs := encB a.b vb vp) (hb57.rd 6 9) ?_
      (repeat (refine lw_pure hT rfl ?_))
      refine lw_load hT rfl rfl (v := .string a.to_) (hb57.cell 5) ?_
      skip
      refine lw_call hT rfl rfl (reg_Issue hR7 hat7.boxes hat7.parents hat.ok.b a.to_ hat.ok.to_) ?_
      rintro _ w8 ⟨rfl, hm⟩
      rw [← e1]
      (repeat (first | refine lw_pure hT rfl ?_ | refine lw_nil ?_ | refine qw_block ?_))
      exact qw_cut () (by repeat (first | exact trivial | refine ⟨rfl, ?_⟩)) ⟨w8, by rw [e2]; exact hm, Ext.refl _ _⟩
    have h0 : ¬ a.kind = 0 := by simpa using h0
    (repeat (first | refine lw_pure hT rfl ?_ | refine lw_nil ?_ | refine cw_seq ?_ | refine cw_region ?_ | refine qw_then ?_))
    refine cw_cond rfl (fun h1 => ?_) (fun h1 => ?_)
    · have h1 : a.kind = 1 := by simpa using h1
      (repeat (first | refine lw_pure hT rfl ?_ | refine cw_region ?_))
      refine lw_load hT rfl rfl (v := .string a.bill) (hb57.cell 3) ?_
      (repeat (refine lw_pure hT rfl ?_))
      refine lw_load hT rfl rfl (v := .int .i64 a.index) (hb57.cell 1) ?_
      (repeat (refine lw_pure hT rfl ?_))
      refine lw_load hT rfl rfl (v := .string a.by_) (hb57.cell 4) ?_
      (repeat (refine lw_pure hT rfl ?_))
      refine lw_load hT rfl rfl (v := .string a.to_) (hb57.cell 5) ?_
      (repeat (refine lw_pure hT rfl ?_))
      refine lw_load hT rfl rfl (v := .int .i64 a.day) (hb57.cell 2) ?_
      skip
      refine lw_call hT rfl rfl (reg_Endorse hR7 hgR.nd (hgR.small (by omega)) hgR.inv a h1 hat.ok.to_) ?_
      rintro _ w8 ⟨rfl, hm⟩
      (repeat (first | refine lw_pure hT rfl ?_ | refine lw_nil ?_ | refine qw_block ?_))
      exact qw_cut () (by repeat (first | exact trivial | refine ⟨rfl, ?_⟩)) ⟨w8, hm, Ext.refl _ _⟩
    have h1 : ¬ a.kind = 1 := by simpa using h1
    (repeat (first | refine lw_pure hT rfl ?_ | refine lw_nil ?_ | refine cw_seq ?_ | refine cw_region ?_ | refine qw_then ?_))
    refine cw_cond rfl (fun h2 => ?_) (fun h2 => ?_)
    · have h2 : a.kind = 2 := by simpa using h2
      have hk1 : 1 ≤ a.kind ∧ a.kind ≤ 5 := by omega
      (repeat (first | refine lw_pure hT rfl ?_ | refine cw_seq ?_ | refine cw_region ?_))
      refine lw_load hT rfl rfl (v := .string a.bill) (hb57.cell 3) ?_
      (repeat (refine lw_pure hT rfl ?_))
      refine lw_load hT rfl rfl (v := .int .i64 a.index) (hb57.cell 1) ?_
      (repeat (refine lw_pure hT rfl ?_))
      refine lw_load hT rfl rfl (v := .string a.by_) (hb57.cell 4) ?_
      (repeat (refine lw_pure hT rfl ?_))
      refine lw_load hT rfl rfl (v := .int .i64 a.day) (hb57.cell 2) ?_
      skip
      refine lw_call hT rfl rfl (reg_Surrender hR7 hgR.nd (hgR.small (by omega)) a h2) ?_
      rintro _ w8 ⟨⟨u, rfl, hu0, hu1⟩, hm⟩
      have hb58 : Blk w8 b5 (encAct a vb vp) 44 := hb57.ext hm.ext (fun h => by have := hfl _ h; omega)
      have hb68 := hb67.ext hm.ext (fun h => by have := hfl _ h; omega)
      have hb88 := hb87.ext hm.ext (fun h => by have := hfl _ h; omega)
      have hF8 := hF7.ext hm.ext (fun b hb h => by rcases hb.1 with hb' | hb'; exact hdis b hb'.1 h; have := hfl _ h; omega)
      have hl8 := hm.ext.size
      (repeat (first | refine lw_pure hT rfl ?_ | refine lw_nil ?_ | refine cw_seq ?_ | refine cw_region ?_ | refine qw_then ?_))
      by_cases hf : actC R a = 0
      · by_cases hw : actC M a = 0
        · have hcM : askC M a.ask = 0 := by unfold actC at hw; rw [if_neg h0] at hw; exact hw
          have hcR : askC R a.ask = 0 := by unfold actC at hf; rw [if_neg h0] at hf; exact hf
          obtain ⟨x, hx, hx'⟩ := at_do hk1 hcM
          obtain ⟨y, hy, hy'⟩ := at_do hk1 hcR
          have how := hu1 y hf hy
          have hsl : SlS (fun _ => True) w8 u y.bill.boxes := sls_own how fun _ _ => trivial
          rcases fidx_cases (doA M a).l a.bill with ⟨_, hn⟩ | ⟨j, hj, hfi, hja⟩
          · exfalso
            have : (doA M a).at? a.bill = none := hn
            rw [hx'] at this; cases this
          have ejx : (doA M a).l[j] = x.after a := by
            have : (doA M a).at? a.bill = some (doA M a).l[j] := hja
            rw [hx'] at this; exact (Option.some.inj this).symm
          obtain ⟨x1, g1, bL, oL, cL, hx1, hg1, hv, hrd, hE⟩ := hF8.row hj
          have ex1 : x1 = x.after a := by rw [List.getElem?_eq_getElem hj, ejx] at hx1; exact (Option.some.inj hx1).symm
          have eb : x1.bill.boxes = x.bill.boxes := by rw [ex1, after_bill]
          have hEb := hE.boxes
          rw [eb] at hEb
          rw [hv] at hb88 hF8
          have hc5 := hrd 5 _ (show (entF (x1, g1))[5]? = some g1.vb from rfl)
          refine cw_draw hM (fun w' => Ex w8 w') [] rfl rfl (by repeat (first | with_reducible refine nop_then ?_ | with_reducible refine nop_block ?_ | with_reducible exact nop_body)) (fun w9 hx9 _ => ⟨hx9, ?_⟩)
          (refine rw_takeP 0 rfl rfl (by kernel_rfl) (by kernel_rfl) (by kernel_rfl) (by kernel_rfl) rfl (yo_pure hT rfl) ?_)
          rw [hf]
          (refine rw_takeP 1 rfl rfl (by kernel_rfl) (by kernel_rfl) (by kernel_rfl) (by kernel_rfl) rfl (yo_pure hT rfl) ?_; refine rw_takeP 2 rfl rfl (by kernel_rfl) (by kernel_rfl) (by kernel_rfl) (by kernel_rfl) rfl (yo_pure hT rfl) ?_)
          (refine rw_takeP 3 rfl rfl (by kernel_rfl) (by kernel_rfl) (by kernel_rfl) (by kernel_rfl) rfl (yo_off rfl rfl) ?_; refine rw_takeP 4 rfl rfl (by kernel_rfl) (by kernel_rfl) (by kernel_rfl) (by kernel_rfl) rfl (yo_off rfl rfl) ?_; refine rw_takeP 5 rfl rfl (by kernel_rfl) (by kernel_rfl) (by kernel_rfl) (by kernel_rfl) rfl (yo_off rfl rfl) ?_)
          (refine rw_takeP 6 rfl rfl (by kernel_rfl) (by kernel_rfl) (by kernel_rfl) (by kernel_rfl) rfl (yo_pure hT rfl) ?_; refine rw_takeP 7 rfl rfl (by kernel_rfl) (by kernel_rfl) (by kernel_rfl) (by kernel_rfl) rfl (yo_pure hT rfl) ?_)
          (refine rw_takeP 8 rfl rfl (by kernel_rfl) (by kernel_rfl) (by kernel_rfl) (by kernel_rfl) rfl (yo_on rfl rfl (yo_pure hT rfl)) ?_; refine rw_takeP 9 rfl rfl (by kernel_rfl) (by kernel_rfl) (by kernel_rfl) (by kernel_rfl) rfl (yo_on rfl rfl (yo_pure hT rfl)) ?_; refine rw_takeP 10 rfl rfl (by kernel_rfl) (by kernel_rfl) (by kernel_rfl) (by kernel_rfl) rfl (yo_on rfl rfl (yo_pure hT rfl)) ?_; refine rw_takeP 11 rfl rfl (by kernel_rfl) (by kernel_rfl) (by kernel_rfl) (by kernel_rfl) rfl (yo_on rfl rfl (yo_pure hT rfl)) ?_)
          rw [hw]
          (refine rw_takeP 12 rfl rfl (by kernel_rfl) (by kernel_rfl) (by kernel_rfl) (by kernel_rfl) rfl (yo_on rfl rfl (yo_pure hT rfl)) ?_; refine rw_takeP 13 rfl rfl (by kernel_rfl) (by kernel_rfl) (by kernel_rfl) (by kernel_rfl) rfl (yo_on rfl rfl (yo_pure hT rfl)) ?_; refine rw_takeP 14 rfl rfl (by kernel_rfl) (by kernel_rfl) (by kernel_rfl) (by kernel_rfl) rfl (yo_on rfl rfl (yo_pure hT rfl)) ?_; refine rw_takeP 15 rfl rfl (by kernel_rfl) (by kernel_rfl) (by kernel_rfl) (by kernel_rfl) rfl (yo_on rfl rfl (yo_pure hT rfl)) ?_; refine rw_takeP 16 rfl rfl (by kernel_rfl) (by kernel_rfl) (by kernel_rfl) (by kernel_rfl) rfl (yo_on rfl rfl (yo_pure hT rfl)) ?_)
          refine rw_take 17 rfl rfl (by kernel_rfl) (by kernel_rfl) (by kernel_rfl) (by kernel_rfl) rfl (yo_on rfl rfl (yo_load hT rfl rfl (v := .slice (some ⟨bL, oL, none⟩) (doA M a).l.length cL) (fun w' hS => Ex.cell hS (hb88.cell 1)))) ?_
          refine rw_take 18 rfl rfl (by kernel_rfl) (by kernel_rfl) (by kernel_rfl) (by kernel_rfl) rfl (yo_on rfl rfl (yo_load_agg hT rfl rfl rfl (vs := encR M.carrier (.slice (some ⟨bL, oL, none⟩) (doA M a).l.length cL)) (fun w' hS => (hb88.ex hS).rd 0 2))) ?_
          (refine rw_takeP 19 rfl rfl (by kernel_rfl) (by kernel_rfl) (by kernel_rfl) (by kernel_rfl) rfl (yo_on rfl rfl (yo_pure hT rfl)) ?_)
          refine rw_take 20 rfl rfl (by kernel_rfl) (by kernel_rfl) (by kernel_rfl) (by kernel_rfl) rfl (yo_on rfl rfl (yo_load hT rfl rfl (v := .string a.bill) (fun w' hS => Ex.cell hS (hb58.cell 3)))) ?_
          refine rw_one 21 rfl (by kernel_rfl) rfl (fun hcl => ?_)
          refine lw_gon_t rfl rfl ?_
          refine lw_call hT rfl rfl (r23_Find M.carrier a.bill (hF8.ex hx9)) ?_
          rintro _ w10 ⟨rfl, hx10⟩
          have hx810 := hx9.trans hx10
          rw [hfi]
          (repeat (refine lw_nil ?_))
          refine qw_rw (by repeat (first | with_reducible refine nop_then ?_ | with_reducible refine nop_block ?_ | with_reducible exact nop_body)) hcl (fun _ => hx810) ?_
          refine rw_takeP 22 rfl rfl (by kernel_rfl) (by kernel_rfl) (by kernel_rfl) (by kernel_rfl) rfl (yo_on rfl rfl (yo_index hT rfl rfl rfl j rfl hj)) ?_
          (refine rw_takeP 23 rfl rfl (by kernel_rfl) (by kernel_rfl) (by kernel_rfl) (by kernel_rfl) rfl (yo_on rfl rfl (yo_pure hT rfl)) ?_; refine rw_takeP 24 rfl rfl (by kernel_rfl) (by kernel_rfl) (by kernel_rfl) (by kernel_rfl) rfl (yo_on rfl rfl (yo_pure hT rfl)) ?_)
          refine rw_take 25 rfl rfl (by kernel_rfl) (by kernel_rfl) (by kernel_rfl) (by kernel_rfl) rfl (yo_on rfl rfl (yo_load hT rfl rfl (v := g1.vb) (fun w' hS => Ex.cell hS hc5))) ?_
          refine rw_one 26 rfl (by kernel_rfl) rfl (fun hcl => ?_)
          refine lw_gon_t rfl rfl ?_
          refine lw_call hT rfl rfl (r_Same w10 (hsl.ex hx810) (hEb.ex hx810)) ?_
          rintro _ w11 ⟨rfl, hx11⟩
          have hx811 := hx810.trans hx11
          (repeat (refine lw_nil ?_))
          refine qw_rw (by repeat (first | with_reducible refine nop_then ?_ | with_reducible refine nop_block ?_ | with_reducible exact nop_body)) hcl (fun _ => hx811) ?_
          (refine rw_takeP 27 rfl rfl (by kernel_rfl) (by kernel_rfl) (by kernel_rfl) (by kernel_rfl) rfl (yo_on rfl rfl (yo_pure hT rfl)) ?_; refine rw_takeP 28 rfl rfl (by kernel_rfl) (by kernel_rfl) (by kernel_rfl) (by kernel_rfl) rfl (yo_on rfl rfl (yo_pure hT rfl)) ?_)
          (refine rw_takeP 29 rfl rfl (by kernel_rfl) (by kernel_rfl) (by kernel_rfl) (by kernel_rfl) rfl (yo_pure hT rfl) ?_)
          refine rw_done (by kernel_rfl) ?_
          (repeat (refine qw_then ?_))
          refine cw_cond rfl (fun h => ?_) (fun h => ?_)
          · have hne : y.bill.boxes ≠ x.bill.boxes := by simpa using h
            (repeat (first | refine cw_seq ?_ | refine cw_region ?_))
            refine lw_load_agg hT rfl rfl rfl (vs := encR M.carrier vL') (by rw [hv]; exact (hb88.ex hx811).rd 0 2) ?_
            skip
            refine lw_store_agg hT rfl rfl rfl rfl (by intro v hv; simp [encR] at hv; rcases hv with rfl | rfl <;> first | rfl | exact Sl.one hF7.sl) (hb68.ex hx811) (show (2 : Nat) ≤ 2 by decide) ?_
            intro w12 hb612 hx12 hs12
            (repeat (first | refine lw_pure hT rfl ?_ | refine lw_nil ?_ | refine qw_then ?_ | refine cw_ret ?_ | refine qw_then_ret ?_ | refine qw_block_ret ?_))
            exact qw_ret_cell hT rfl rfl rfl rfl (vs := encR M.carrier vL') (hb612.rd 0 2) rfl (fin _ w8 w11 w12 hm hx811 hx12 (fun e => by subst e; rw [hx] at hy; cases hy; exact absurd rfl hne))
          · (repeat (first | refine cw_skip ?_ | refine qw_block ?_))
            exact qw_cut () (by repeat (first | exact trivial | refine ⟨rfl, ?_⟩)) ⟨w8, hm, hx811⟩
        · refine cw_draw hM (fun w' => Ex w8 w') [] rfl rfl (by repeat (first | with_reducible refine nop_then ?_ | with_reducible refine nop_block ?_ | with_reducible exact nop_body)) (fun w9 hx9 _ => ⟨hx9, ?_⟩)
          (refine rw_takeP 0 rfl rfl (by kernel_rfl) (by kernel_rfl) (by kernel_rfl) (by kernel_rfl) rfl (yo_pure hT rfl) ?_)
          rw [hf]
          (refine rw_takeP 1 rfl rfl (by kernel_rfl) (by kernel_rfl) (by kernel_rfl) (by kernel_rfl) rfl (yo_pure hT rfl) ?_; refine rw_takeP 2 rfl rfl (by kernel_rfl) (by kernel_rfl) (by kernel_rfl) (by kernel_rfl) rfl (yo_pure hT rfl) ?_)
          (refine rw_takeP 3 rfl rfl (by kernel_rfl) (by kernel_rfl) (by kernel_rfl) (by kernel_rfl) rfl (yo_off rfl rfl) ?_; refine rw_takeP 4 rfl rfl (by kernel_rfl) (by kernel_rfl) (by kernel_rfl) (by kernel_rfl) rfl (yo_off rfl rfl) ?_; refine rw_takeP 5 rfl rfl (by kernel_rfl) (by kernel_rfl) (by kernel_rfl) (by kernel_rfl) rfl (yo_off rfl rfl) ?_)
          (refine rw_takeP 6 rfl rfl (by kernel_rfl) (by kernel_rfl) (by kernel_rfl) (by kernel_rfl) rfl (yo_pure hT rfl) ?_; refine rw_takeP 7 rfl rfl (by kernel_rfl) (by kernel_rfl) (by kernel_rfl) (by kernel_rfl) rfl (yo_pure hT rfl) ?_)
          (refine rw_takeP 8 rfl rfl (by kernel_rfl) (by kernel_rfl) (by kernel_rfl) (by kernel_rfl) rfl (yo_on rfl rfl (yo_pure hT rfl)) ?_; refine rw_takeP 9 rfl rfl (by kernel_rfl) (by kernel_rfl) (by kernel_rfl) (by kernel_rfl) rfl (yo_on rfl rfl (yo_pure hT rfl)) ?_; refine rw_takeP 10 rfl rfl (by kernel_rfl) (by kernel_rfl) (by kernel_rfl) (by kernel_rfl) rfl (yo_on rfl rfl (yo_pure hT rfl)) ?_; refine rw_takeP 11 rfl rfl (by kernel_rfl) (by kernel_rfl) (by kernel_rfl) (by kernel_rfl) rfl (yo_on rfl rfl (yo_pure hT rfl)) ?_; refine rw_takeP 12 rfl rfl (by kernel_rfl) (by kernel_rfl) (by kernel_rfl) (by kernel_rfl) rfl (yo_on rfl rfl (yo_pure hT rfl)) ?_)
          refine rw_split (d := 72) rfl (fun h => absurd (of_decide_eq_true h) hw) (fun _ => ?_)
          (refine rw_takeP 13 rfl rfl (by kernel_rfl) (by kernel_rfl) (by kernel_rfl) (by kernel_rfl) rfl (yo_on rfl rfl (yo_pure hT rfl)) ?_; refine rw_takeP 14 rfl rfl (by kernel_rfl) (by kernel_rfl) (by kernel_rfl) (by kernel_rfl) rfl (yo_on rfl rfl (yo_pure hT rfl)) ?_)
          (refine rw_takeP 15 rfl rfl (by kernel_rfl) (by kernel_rfl) (by kernel_rfl) (by kernel_rfl) rfl (yo_off rfl rfl) ?_; refine rw_takeP 16 rfl rfl (by kernel_rfl) (by kernel_rfl) (by kernel_rfl) (by kernel_rfl) rfl (yo_off rfl rfl) ?_; refine rw_takeP 17 rfl rfl (by kernel_rfl) (by kernel_rfl) (by kernel_rfl) (by kernel_rfl) rfl (yo_off rfl rfl) ?_; refine rw_takeP 18 rfl rfl (by kernel_rfl) (by kernel_rfl) (by kernel_rfl) (by kernel_rfl) rfl (yo_off rfl rfl) ?_; refine rw_takeP 19 rfl rfl (by kernel_rfl) (by kernel_rfl) (by kernel_rfl) (by kernel_rfl) rfl (yo_off rfl rfl) ?_; refine rw_takeP 20 rfl rfl (by kernel_rfl) (by kernel_rfl) (by kernel_rfl) (by kernel_rfl) rfl (yo_off rfl rfl) ?_)
          refine rw_one 21 rfl (by kernel_rfl) rfl (fun hcl => ?_)
          (repeat (first | refine lw_nil ?_ | (refine lw_goff_f rfl ?_ ?_; focus (first | with_reducible rfl | with_reducible exact Bool.not_false | with_reducible exact Bool.not_true))))
          refine qw_rw (by repeat (first | with_reducible refine nop_then ?_ | with_reducible refine nop_block ?_ | with_reducible exact nop_body)) hcl (fun _ => hx9) ?_
          (refine rw_takeP 22 rfl rfl (by kernel_rfl) (by kernel_rfl) (by kernel_rfl) (by kernel_rfl) rfl (yo_off rfl rfl) ?_; refine rw_takeP 23 rfl rfl (by kernel_rfl) (by kernel_rfl) (by kernel_rfl) (by kernel_rfl) rfl (yo_off rfl rfl) ?_; refine rw_takeP 24 rfl rfl (by kernel_rfl) (by kernel_rfl) (by kernel_rfl) (by kernel_rfl) rfl (yo_off rfl rfl) ?_; refine rw_takeP 25 rfl rfl (by kernel_rfl) (by kernel_rfl) (by kernel_rfl) (by kernel_rfl) rfl (yo_off rfl rfl) ?_)
          refine rw_one 26 rfl (by kernel_rfl) rfl (fun hcl => ?_)
          (repeat (first | refine lw_nil ?_ | (refine lw_goff_f rfl ?_ ?_; focus (first | with_reducible rfl | with_reducible exact Bool.not_false | with_reducible exact Bool.not_true))))
          refine qw_rw (by repeat (first | with_reducible refine nop_then ?_ | with_reducible refine nop_block ?_ | with_reducible exact nop_body)) hcl (fun _ => hx9) ?_
          (refine rw_takeP 27 rfl rfl (by kernel_rfl) (by kernel_rfl) (by kernel_rfl) (by kernel_rfl) rfl (yo_off rfl rfl) ?_)
          (refine rw_takeP 28 rfl rfl (by kernel_rfl) (by kernel_rfl) (by kernel_rfl) (by kernel_rfl) rfl (yo_on rfl rfl (yo_pure hT rfl)) ?_)
          (refine rw_takeP 29 rfl rfl (by kernel_rfl) (by kernel_rfl) (by kernel_rfl) (by kernel_rfl) rfl (yo_pure hT rfl) ?_)
          refine rw_done (by kernel_rfl) ?_
          (repeat (first | refine qw_then ?_ | refine cw_skip ?_ | refine qw_block ?_ | (refine cw_cond_f rfl ?_ ?_; focus (first | with_reducible rfl | with_reducible exact Bool.not_false | with_reducible exact Bool.not_true))))
          exact qw_cut () (by repeat (first | exact trivial | refine ⟨rfl, ?_⟩)) ⟨w8, hm, hx9⟩
      · have hu := hu0 hf
        subst hu
        refine cw_draw hM (fun w' => Ex w8 w') [] rfl rfl (by repeat (first | with_reducible refine nop_then ?_ | with_reducible refine nop_block ?_ | with_reducible exact nop_body)) (fun w9 hx9 _ => ⟨hx9, ?_⟩)
        (refine rw_takeP 0 rfl rfl (by kernel_rfl) (by kernel_rfl) (by kernel_rfl) (by kernel_rfl) rfl (yo_pure hT rfl) ?_; refine rw_takeP 1 rfl rfl (by kernel_rfl) (by kernel_rfl) (by kernel_rfl) (by kernel_rfl) rfl (yo_pure hT rfl) ?_)
        refine rw_split (d := 61) rfl (fun _ => ?_) (fun h => absurd hf (of_decide_eq_false h))
        (refine rw_takeP 2 rfl rfl (by kernel_rfl) (by kernel_rfl) (by kernel_rfl) (by kernel_rfl) rfl (yo_pure hT rfl) ?_)
        (refine rw_takeP 3 rfl rfl (by kernel_rfl) (by kernel_rfl) (by kernel_rfl) (by kernel_rfl) rfl (yo_on rfl rfl (yo_pure hT rfl)) ?_; refine rw_takeP 4 rfl rfl (by kernel_rfl) (by kernel_rfl) (by kernel_rfl) (by kernel_rfl) rfl (yo_on rfl rfl (yo_pure hT rfl)) ?_; refine rw_takeP 5 rfl rfl (by kernel_rfl) (by kernel_rfl) (by kernel_rfl) (by kernel_rfl) rfl (yo_on rfl rfl (yo_pure hT rfl)) ?_)
        (refine rw_takeP 6 rfl rfl (by kernel_rfl) (by kernel_rfl) (by kernel_rfl) (by kernel_rfl) rfl (yo_pure hT rfl) ?_; refine rw_takeP 7 rfl rfl (by kernel_rfl) (by kernel_rfl) (by kernel_rfl) (by kernel_rfl) rfl (yo_pure hT rfl) ?_)
        (refine rw_takeP 8 rfl rfl (by kernel_rfl) (by kernel_rfl) (by kernel_rfl) (by kernel_rfl) rfl (yo_on rfl rfl (yo_pure hT rfl)) ?_; refine rw_takeP 9 rfl rfl (by kernel_rfl) (by kernel_rfl) (by kernel_rfl) (by kernel_rfl) rfl (yo_on rfl rfl (yo_pure hT rfl)) ?_)
        refine rw_split (d := 69) rfl (fun h => absurd (of_decide_eq_true h) hf) (fun _ => ?_)
        (refine rw_takeP 10 rfl rfl (by kernel_rfl) (by kernel_rfl) (by kernel_rfl) (by kernel_rfl) rfl (yo_on rfl rfl (yo_pure hT rfl)) ?_)
        (refine rw_takeP 11 rfl rfl (by kernel_rfl) (by kernel_rfl) (by kernel_rfl) (by kernel_rfl) rfl (yo_off rfl rfl) ?_; refine rw_takeP 12 rfl rfl (by kernel_rfl) (by kernel_rfl) (by kernel_rfl) (by kernel_rfl) rfl (yo_off rfl rfl) ?_)
        (refine rw_takeP 13 rfl rfl (by kernel_rfl) (by kernel_rfl) (by kernel_rfl) (by kernel_rfl) rfl (yo_on rfl rfl (yo_pure hT rfl)) ?_; refine rw_takeP 14 rfl rfl (by kernel_rfl) (by kernel_rfl) (by kernel_rfl) (by kernel_rfl) rfl (yo_on rfl rfl (yo_pure hT rfl)) ?_)
        (refine rw_takeP 15 rfl rfl (by kernel_rfl) (by kernel_rfl) (by kernel_rfl) (by kernel_rfl) rfl (yo_off rfl rfl) ?_; refine rw_takeP 16 rfl rfl (by kernel_rfl) (by kernel_rfl) (by kernel_rfl) (by kernel_rfl) rfl (yo_off rfl rfl) ?_; refine rw_takeP 17 rfl rfl (by kernel_rfl) (by kernel_rfl) (by kernel_rfl) (by kernel_rfl) rfl (yo_off rfl rfl) ?_; refine rw_takeP 18 rfl rfl (by kernel_rfl) (by kernel_rfl) (by kernel_rfl) (by kernel_rfl) rfl (yo_off rfl rfl) ?_; refine rw_takeP 19 rfl rfl (by kernel_rfl) (by kernel_rfl) (by kernel_rfl) (by kernel_rfl) rfl (yo_off rfl rfl) ?_; refine rw_takeP 20 rfl rfl (by kernel_rfl) (by kernel_rfl) (by kernel_rfl) (by kernel_rfl) rfl (yo_off rfl rfl) ?_)
        refine rw_one 21 rfl (by kernel_rfl) rfl (fun hcl => ?_)
        (repeat (first | refine lw_nil ?_ | (refine lw_goff_f rfl ?_ ?_; focus (first | with_reducible rfl | with_reducible exact Bool.not_false | with_reducible exact Bool.not_true))))
        refine qw_rw (by repeat (first | with_reducible refine nop_then ?_ | with_reducible refine nop_block ?_ | with_reducible exact nop_body)) hcl (fun _ => hx9) ?_
        (refine rw_takeP 22 rfl rfl (by kernel_rfl) (by kernel_rfl) (by kernel_rfl) (by kernel_rfl) rfl (yo_off rfl rfl) ?_; refine rw_takeP 23 rfl rfl (by kernel_rfl) (by kernel_rfl) (by kernel_rfl) (by kernel_rfl) rfl (yo_off rfl rfl) ?_; refine rw_takeP 24 rfl rfl (by kernel_rfl) (by kernel_rfl) (by kernel_rfl) (by kernel_rfl) rfl (yo_off rfl rfl) ?_; refine rw_takeP 25 rfl rfl (by kernel_rfl) (by kernel_rfl) (by kernel_rfl) (by kernel_rfl) rfl (yo_off rfl rfl) ?_)
        refine rw_one 26 rfl (by kernel_rfl) rfl (fun hcl => ?_)
        (repeat (first | refine lw_nil ?_ | (refine lw_goff_f rfl ?_ ?_; focus (first | with_reducible rfl | with_reducible exact Bool.not_false | with_reducible exact Bool.not_true))))
        refine qw_rw (by repeat (first | with_reducible refine nop_then ?_ | with_reducible refine nop_block ?_ | with_reducible exact nop_body)) hcl (fun _ => hx9) ?_
        (refine rw_takeP 27 rfl rfl (by kernel_rfl) (by kernel_rfl) (by kernel_rfl) (by kernel_rfl) rfl (yo_off rfl rfl) ?_)
        (refine rw_takeP 28 rfl rfl (by kernel_rfl) (by kernel_rfl) (by kernel_rfl) (by kernel_rfl) rfl (yo_on rfl rfl (yo_pure hT rfl)) ?_)
        (refine rw_takeP 29 rfl rfl (by kernel_rfl) (by kernel_rfl) (by kernel_rfl) (by kernel_rfl) rfl (yo_pure hT rfl) ?_)
        refine rw_done (by kernel_rfl) ?_
        (repeat (first | refine qw_then ?_ | refine cw_skip ?_ | refine qw_block ?_ | (refine cw_cond_f rfl ?_ ?_; focus (first | with_reducible rfl | with_reducible exact Bool.not_false | with_reducible exact Bool.not_true))))
        exact qw_cut () (by repeat (first | exact trivial | refine ⟨rfl, ?_⟩)) ⟨w8, hm, hx9⟩
    have h2 : ¬ a.kind = 2 := by simpa using h2
    (repeat (first | refine lw_pure hT rfl ?_ | refine lw_nil ?_ | refine cw_seq ?_ | refine cw_region ?_ | refine qw_then ?_))
    refine cw_cond rfl (fun h3 => ?_) (fun h3 => ?_)
    · have h3 : a.kind = 3 := by simpa using h3
      (repeat (first | refine lw_pure hT rfl ?_ | refine cw_region ?_))
      refine lw_load hT rfl rfl (v := .string a.bill) (hb57.cell 3) ?_
      (repeat (refine lw_pure hT rfl ?_))
      refine lw_load hT rfl rfl (v := .int .i64 a.index) (hb57.cell 1) ?_
      (repeat (refine lw_pure hT rfl ?_))
      refine lw_load hT rfl rfl (v := .string a.by_) (hb57.cell 4) ?_
      skip
      refine lw_call hT rfl rfl (reg_Lose hR7 hgR.nd a h3) ?_
      rintro _ w8 ⟨rfl, hm⟩
      (repeat (first | refine lw_pure hT rfl ?_ | refine lw_nil ?_ | refine qw_block ?_))
      exact qw_cut () (by repeat (first | exact trivial | refine ⟨rfl, ?_⟩)) ⟨w8, hm, Ext.refl _ _⟩
    have h3 : ¬ a.kind = 3 := by simpa using h3
    (repeat (first | refine lw_pure hT rfl ?_ | refine lw_nil ?_ | refine cw_seq ?_ | refine cw_region ?_ | refine qw_then ?_))
    refine cw_cond rfl (fun h4 => ?_) (fun h4 => ?_)
    · have h4 : a.kind = 4 := by simpa using h4
      (repeat (first | refine lw_pure hT rfl ?_ | refine cw_region ?_))
      refine lw_load hT rfl rfl (v := .string a.bill) (hb57.cell 3) ?_
      (repeat (refine lw_pure hT rfl ?_))
      refine lw_load hT rfl rfl (v := .int .i64 a.index) (hb57.cell 1) ?_
      (repeat (refine lw_pure hT rfl ?_))
      refine lw_load hT rfl rfl (v := .string a.by_) (hb57.cell 4) ?_
      (repeat (refine lw_pure hT rfl ?_))
      refine lw_load hT rfl rfl (v := .int .i64 a.day) (hb57.cell 2) ?_
      skip
      refine lw_call hT rfl rfl (reg_Replace hR7 hgR.nd a h4) ?_
      rintro _ w8 ⟨rfl, hm⟩
      (repeat (first | refine lw_pure hT rfl ?_ | refine lw_nil ?_ | refine qw_block ?_))
      exact qw_cut () (by repeat (first | exact trivial | refine ⟨rfl, ?_⟩)) ⟨w8, hm, Ext.refl _ _⟩
    have h4 : ¬ a.kind = 4 := by simpa using h4
    (repeat (first | refine lw_pure hT rfl ?_ | refine lw_nil ?_ | refine cw_seq ?_ | refine cw_region ?_ | refine qw_then ?_))
    refine cw_cond rfl (fun h5 => ?_) (fun h5 => ?_)
    · have h5 : a.kind = 5 := by simpa using h5
      (repeat (first | refine lw_pure hT rfl ?_ | refine cw_region ?_))
      refine lw_load hT rfl rfl (v := .string a.bill) (hb57.cell 3) ?_
      (repeat (refine lw_pure hT rfl ?_))
      refine lw_load hT rfl rfl (v := .string a.by_) (hb57.cell 4) ?_
      (repeat (refine lw_pure hT rfl ?_))
      refine lw_load hT rfl rfl (v := .int .i64 a.day) (hb57.cell 2) ?_
      skip
      refine lw_call hT rfl rfl (reg_Retire hR7 hgR.nd a h5) ?_
      rintro _ w8 ⟨rfl, hm⟩
      (repeat (first | refine lw_pure hT rfl ?_ | refine lw_nil ?_ | refine qw_block ?_))
      exact qw_cut () (by repeat (first | exact trivial | refine ⟨rfl, ?_⟩)) ⟨w8, hm, Ext.refl _ _⟩
    have h5 : ¬ a.kind = 5 := by simpa using h5
    exact absurd hk (by omega)
  · rintro _ w9 ⟨w8, hm, hx89⟩
    have hb88 := (hb87.ext hm.ext (fun h => by have := hfl _ h; omega)).ex hx89
    have hb68 := (hb67.ext hm.ext (fun h => by have := hfl _ h; omega)).ex hx89
    unfold pB
    (repeat (first | refine cw_seq ?_ | refine cw_region ?_ | refine qw_then ?_))
    refine lw_load_agg hT rfl rfl rfl (vs := encR M.carrier vL') (hb88.rd 0 2) ?_
    (repeat (refine lw_pure hT rfl ?_))
    refine lw_store_agg hT rfl rfl rfl rfl (by intro v hv; simp [encR] at hv; rcases hv with rfl | rfl <;> first | rfl | exact Sl.one hF7.sl) hb68 (show (2 : Nat) ≤ 2 by decide) ?_
    intro w10 hb610 hx10 hs10
    (repeat (first | refine lw_pure hT rfl ?_ | refine lw_nil ?_ | refine qw_then ?_ | refine cw_ret ?_))
    exact qw_ret_cell hT rfl rfl rfl rfl (vs := encR M.carrier vL') (hb610.rd 0 2) rfl (fin _ w8 w9 w10 hm hx89 hx10 (fun e => by rw [e]; simp))
end Go.Proofs.YtfbjpfgglgffgaaGreat
