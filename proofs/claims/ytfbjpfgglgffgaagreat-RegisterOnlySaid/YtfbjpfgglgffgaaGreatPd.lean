/- supercargolaw23.RegisterOnly, walked: it answers true, whatever it is given. -/
import Derived.Test.YtfbjpfgglgffgaaGreatHd
import Derived.Test.YtfbjpfgglgffgaaGreatGi
set_option linter.unusedVariables false
set_option linter.unusedSimpArgs false
set_option linter.unusedSectionVars false
set_option linter.unnecessarySimpa false
namespace Go.Proofs.YtfbjpfgglgffgaaGreat
open Go Go.SK

theorem Sl.any {A : Nat → Prop} {w : World} {v : Value} {size : Nat} {rows : List (List Value)} (h : Sl A w v size rows) : Sl (fun _ => True) w v size rows := by
  obtain ⟨a, cap, hv, hz, hr⟩ := h.is
  exact ⟨⟨a, cap, hv, hz, fun hne => by obtain ⟨b, o, ha, _, hrd⟩ := hr hne; exact ⟨b, o, ha, trivial, hrd⟩⟩, h.small⟩
/-- The rows of acts that are read. -/
theorem acts_rows {A : Nat → Prop} {w : World} {v : Value} {l : List ActD} (h : ActsAt A w v l) (hz : ∀ n c, v = .slice none n c → c = 0) :
    ∃ rows : List (List Value), rows.length = l.length ∧ Sl A w v 15 rows ∧ (∀ r ∈ rows, ∀ u ∈ r, u.oneCell' = true) ∧ ∀ i (hi : i < l.length), ∃ vb vp, rows[i]? = some (encAct l[i] vb vp) ∧ ActAt A w l[i] vb vp := by
  obtain ⟨p, cap, hv, hm, hr⟩ := h.is
  have each : ∀ i : Fin l.length, ∃ q : Value × Value, (∃ b o, p = some ⟨b, o, none⟩ ∧ A b ∧ Rd w b (o + i.1 * 15) (encAct l[i.1] q.1 q.2)) ∧ ActAt A w l[i.1] q.1 q.2 := fun i => by
    obtain ⟨b, o, vb, vp, h1, h2, h3, h4⟩ := hr i.1 i.2
    exact ⟨(vb, vp), ⟨b, o, h1, h2, h3⟩, h4⟩
  have ⟨f, hf⟩ : ∃ f : Fin l.length → Value × Value, ∀ i, (∃ b o, p = some ⟨b, o, none⟩ ∧ A b ∧ Rd w b (o + i.1 * 15) (encAct l[i.1] (f i).1 (f i).2)) ∧ ActAt A w l[i.1] (f i).1 (f i).2 := ⟨fun i => Classical.choose (each i), fun i => Classical.choose_spec (each i)⟩
  obtain ⟨rows, hrows⟩ : ∃ rows, rows = List.ofFn fun i : Fin l.length => encAct l[i.1] (f i).1 (f i).2 := ⟨_, rfl⟩
  have hlen : rows.length = l.length := by rw [hrows]; simp
  have hget : ∀ i (hi : i < l.length), rows[i]? = some (encAct l[i] (f ⟨i, hi⟩).1 (f ⟨i, hi⟩).2) := fun i hi => by
    rw [hrows, List.getElem?_eq_getElem (by simpa using hi), List.getElem_ofFn]
  have hmem : ∀ r ∈ rows, ∃ i, ∃ hi : i < l.length, r = encAct l[i] (f ⟨i, hi⟩).1 (f ⟨i, hi⟩).2 := fun r hr' => by
    obtain ⟨i, hi⟩ := List.getElem?_of_mem hr'
    have hil : i < l.length := by have := (List.getElem?_eq_some_iff.1 hi).1; omega
    rw [hget i hil] at hi
    exact ⟨i, hil, (Option.some.inj hi).symm⟩
  refine ⟨rows, hlen, ⟨⟨p, cap, by rw [hlen]; exact hv, fun e => hz _ _ (by rw [hv, e]), fun hne => ?_⟩, by omega⟩, fun r hr' => ?_, fun i hi => ⟨_, _, hget i hi, (hf ⟨i, hi⟩).2⟩⟩
  · have h0 : 0 < l.length := by
      rcases Nat.eq_zero_or_pos l.length with h0 | h0
      · exact absurd (List.eq_nil_of_length_eq_zero (by omega)) hne
      · exact h0
    obtain ⟨⟨b, o, hp, hA, _⟩, _⟩ := hf ⟨0, h0⟩
    refine ⟨b, o, hp, hA, fun i row hi => ?_⟩
    have hil : i < l.length := by have := (List.getElem?_eq_some_iff.1 hi).1; omega
    rw [hget i hil] at hi
    obtain ⟨⟨b', o', hp', _, hrd⟩, _⟩ := hf ⟨i, hil⟩
    rw [hp] at hp'
    simp only [Option.some.injEq, Addr.mk.injEq, and_true] at hp'
    obtain ⟨rfl, rfl⟩ := hp'
    cases hi
    exact ⟨rfl, hrd⟩
  · obtain ⟨i, hi, rfl⟩ := hmem r hr'
    exact encAct_one (hf ⟨i, hi⟩).2
theorem own_acts {A : Nat → Prop} {w w' : World} {l : List ActD} {rows : List (List Value)} {a : ActD} {vb vp u : Value} {base te n : Nat} {xs : List Value} (hl : rows.length = l.length) (hr : ∀ i (hi : i < l.length), ∃ vb vp, rows[i]? = some (encAct l[i] vb vp) ∧ ActAt A w l[i] vb vp) (ha : ActAt A w a vb vp)
    (ho : w'.ownsRow base te 15 u n xs) (hn : n = l.length + 1) (hxs : xs = rows.flatten ++ encAct a vb vp) (hx : Ex w w') (hm : l.length + 1 ≤ maxLen) : ActsAt (fun _ => True) w' u (l ++ [a]) := by
  subst hn hxs
  have hsl : Sl (fun _ => True) w' u 15 (rows ++ [encAct a vb vp]) := by
    refine own_sl (base := base) (e := te) (by rw [List.length_append, hl, List.flatten_append]; simpa using ho) (fun r hr' => ?_) (fun _ _ => trivial)
    rcases List.mem_append.1 hr' with h | h
    · obtain ⟨i, hi⟩ := List.getElem?_of_mem h
      have hil : i < l.length := by have := (List.getElem?_eq_some_iff.1 hi).1; omega
      obtain ⟨_, _, h1, _⟩ := hr i hil
      rw [h1] at hi; cases hi; rfl
    · rw [List.mem_singleton.1 h]; rfl
  obtain ⟨p, cap, hv, _, hrd⟩ := hsl.is
  obtain ⟨b, o, rfl, _, hrd⟩ := hrd (by simp)
  have mono : ∀ {x : ActD} {vb vp : Value}, ActAt A w x vb vp → ActAt (fun _ => True) w' x vb vp := fun h => ⟨Sl.any (h.boxes.ex hx), Sl.any (h.parents.ex hx), h.cap, h.ok⟩
  refine ⟨some ⟨b, o, none⟩, cap, by rw [hv]; simp [hl], by simpa using hm, fun i hi => ?_⟩
  by_cases hil : i < l.length
  · obtain ⟨vb', vp', h1, h2⟩ := hr i hil
    have e : (l ++ [a])[i] = l[i] := List.getElem_append_left hil
    rw [e]
    exact ⟨b, o, vb', vp', rfl, trivial, (hrd i _ (by rw [List.getElem?_append_left (by omega)]; exact h1)).2, mono h2⟩
  · have : i = l.length := by simp at hi; omega
    subst this
    have e : (l ++ [a])[l.length] = a := by simp
    rw [e]
    exact ⟨b, o, vb, vp, rfl, trivial, (hrd _ _ (by rw [← hl]; simp)).2, mono ha⟩
theorem ask_by (a : ActD) : a.ask.by_ = a.by_ ∧ (a.ask.state = 0 ∨ a.ask.state = 3) := by
  unfold ActD.ask
  repeat' split
  all_goals simp
/-- Who holds none of the originals does nothing to a bill. -/
theorem only_law {k : Nat} {r : RegD} (hG : Good k r) {a : ActD} (hk : 1 ≤ a.kind ∧ a.kind ≤ 5) (hno : ∀ i : Nat, i < 3 → r.holderOf a.bill (i : Int) ≠ some a.by_) : actC r a ≠ 0 ∧ doA r a = r := by
  cases hat : r.at? a.bill with
  | none =>
    obtain ⟨h1, h2⟩ := act_none hk hat
    exact ⟨by rw [h1]; decide, h2⟩
  | some x =>
    refine act_refused hk hat fun h0 => ?_
    rw [ask_iff] at h0
    obtain ⟨h1, h2, h3, _⟩ := h0
    obtain ⟨_, i, hxi⟩ := at_some hat
    have h33 := (hG.ent x (List.mem_of_getElem? hxi)).three
    obtain ⟨j, hj⟩ := List.exists_mem_of_ne_nil _ h1
    have hj3 := ixs_lt hj
    obtain ⟨h4, h5⟩ := h3 j hj
    obtain ⟨h6, h7⟩ := ask_by a
    refine hno j hj3 ?_
    rw [holder_of hat h33 hj3 h2 (by rw [h4]; exact h7), h5, h6]
set_option maxHeartbeats 8000000 in
theorem l23_Only {A1 A2 : Nat → Prop} {w : World} {v : Value} {l : List ActD} (h1 : ActsAt A1 w v l) (hz : ∀ n c, v = .slice none n c → c = 0) (hreach : l.length * 216 ≤ 140737488351232) {a : ActD} {vb vp : Value} (h2 : ActAt A2 w a vb vp) (box : ByteArray) (hbox : box.size ≤ maxLen) :
    Ret Tryz.prog 7 [v, .agg ⟨encAct a vb vp⟩, .string box] w fun v w' => v = .bool true ∧ Ex w w' := by
  replace h1 : ActsAt (fun _ => True) w v l := by
    obtain ⟨p, cap, e1, e2, e3⟩ := h1.is
    refine ⟨p, cap, e1, e2, fun i hi => ?_⟩
    obtain ⟨b, o, vb, vp, e4, e5, e6, e7⟩ := e3 i hi
    exact ⟨b, o, vb, vp, e4, trivial, e6, ⟨Sl.any e7.boxes, Sl.any e7.parents, e7.cap, e7.ok⟩⟩
  replace h2 : ActAt (fun _ => True) w a vb vp := ⟨Sl.any h2.boxes, Sl.any h2.parents, h2.cap, h2.ok⟩
  obtain ⟨rows, hrl, hrs, hr1, hrr⟩ := acts_rows h1 hz
  obtain ⟨pv_, cap, rfl, hm, _⟩ := h1.is
  unfold maxLen at hm
  refine ret_of Tryz.func7 Tryz.ntmps7 rfl rfl rfl ?_
  (repeat (first | refine cw_seq ?_ | refine cw_region ?_))
  refine lw_box rfl ?_
  intro b4 w1 hbb4 hb4 hx1 hs1
  replace hb4 : Blk w1 b4 (encAct a vb vp) 44 := hb4
  (repeat (first | refine lw_pure hT rfl ?_ | refine lw_nil ?_ | refine cw_seq ?_ | refine cw_region ?_ | refine qw_then ?_))
  refine lw_call hT rfl rfl (l23_awake w1) ?_
  rintro _ w2 ⟨rfl, hx2⟩
  (repeat (first | refine lw_pure hT rfl ?_ | refine lw_nil ?_ | refine cw_seq ?_ | refine qw_then ?_ | refine cw_skip ?_ | (refine cw_cond_f rfl ?_ ?_; focus (first | with_reducible rfl | with_reducible exact Bool.not_false | with_reducible exact Bool.not_true))))
  have hx02 := hx1.trans hx2
  have hb42 := hb4.ex hx2
  refine cw_then_cut (α := Bool) (fun u => [(0, .slice pv_ l.length cap), (2, .string box), (4, pB b4), (27, .bool u)]) (fun u w' => Ex w2 w' ∧ (u = false → RightP (l ++ [a]))) ?_ ?_
  · unfold pB
    refine cw_draw hM (fun w' => Ex w2 w') [] rfl rfl (by repeat (first | with_reducible refine nop_then ?_ | with_reducible refine nop_block ?_ | with_reducible exact nop_body)) (fun w3 hx3 _ => ⟨hx3, ?_⟩)
    have hl3 := hx3.size
    (refine rw_takeP 1 rfl rfl (by kernel_rfl) (by kernel_rfl) (by kernel_rfl) (by kernel_rfl) rfl (yo_pure hT rfl) ?_)
    refine rw_take 3 rfl rfl (by kernel_rfl) (by kernel_rfl) (by kernel_rfl) (by kernel_rfl) rfl (yo_load_agg hT rfl rfl rfl (vs := encAct a vb vp) (fun w' hS => (hb42.ex hS).rd 0 15)) ?_
    refine rw_two 0 4 rfl rfl (by kernel_rfl) rfl rfl (fun hcl => ?_) (fun hcl => ?_)
    · skip
      refine lw_buildSlice sl22 rfl rfl rfl ?_
      intro b10 wA hbb10 hb10 hxA hsA
      have hxa := hx3.trans hxA
      have hlA := hxa.size
      have own10 := own_lit (size := 15) (n := 0) (base := w2.heap.size) hb10 (by omega) rfl (by decide)
      (repeat (refine lw_nil ?_))
      refine qw_rw (by repeat (first | with_reducible refine nop_then ?_ | with_reducible refine nop_block ?_ | with_reducible exact nop_body)) hcl (fun _ => hxa) ?_
      refine rw_two 2 4 rfl rfl (by kernel_rfl) rfl rfl (fun hcl => ?_) (fun hcl => ?_)
      · skip
        refine lw_append_sl sl22 (by decide) rfl (own10) rfl (hrs.ex (hx02.trans hxa)) hr1 (by unfold maxLen; omega) (by omega) (by have := hxa.size; omega) ?_
        intro u5 wB k1 k2 k3 k4
        have hxb : Ex w2 wB := (hxa).up_new k2 (fun k hk => (own_base (own10) hk.symm).1)
        (repeat (refine lw_nil ?_))
        refine qw_rw (by repeat (first | with_reducible refine nop_then ?_ | with_reducible refine nop_block ?_ | with_reducible exact nop_body)) hcl (fun _ => hxb) ?_
        refine rw_one 4 rfl (by kernel_rfl) rfl (fun hcl => ?_)
        refine lw_buildSlice sl22 rfl rfl rfl ?_
        intro b11 wC hbb11 hb11 hxB hsB
        have hxc := hxb.trans hxB
        have hb11r := hb11.rd 0 15
        (repeat (refine lw_nil ?_))
        refine qw_rw (by repeat (first | with_reducible refine nop_then ?_ | with_reducible refine nop_block ?_ | with_reducible exact nop_body)) hcl (fun _ => hxc) ?_
        refine rw_one 5 rfl (by kernel_rfl) rfl (fun hcl => ?_)
        refine lw_append sl22 (by decide) rfl (own_ex k1 hxB) rfl (hb11r) rfl (encAct_one h2) (by unfold maxLen; omega) (by omega) (by have := hxc.size; omega) ?_
        intro u6 w7 j1 j2 j3 j4
        have hx7 : Ex w2 w7 := (hxc).up_new j2 (fun k hk => (own_base (own_ex k1 hxB) hk.symm).1)
        (repeat (refine lw_nil ?_))
        refine qw_rw (by repeat (first | with_reducible refine nop_then ?_ | with_reducible refine nop_block ?_ | with_reducible exact nop_body)) hcl (fun _ => hx7) ?_
        have hacts := own_acts hrl hrr h2 j1 (by omega) (by simp [encAct, encB]) (hx02.trans hx7) (by unfold maxLen; omega)
        refine rw_one 6 rfl (by kernel_rfl) rfl (fun hcl => ?_)
        refine lw_call hT rfl rfl (l23_right hacts) ?_
        rintro _ w8 ⟨⟨b1, rfl, hrt⟩, hx8⟩
        (repeat (refine lw_nil ?_))
        refine qw_rw (by repeat (first | with_reducible refine nop_then ?_ | with_reducible refine nop_block ?_ | with_reducible exact nop_body)) hcl (fun _ => hx7.trans hx8) ?_
        (refine rw_takeP 7 rfl rfl (by kernel_rfl) (by kernel_rfl) (by kernel_rfl) (by kernel_rfl) rfl (yo_pure hT rfl) ?_; refine rw_takeP 8 rfl rfl (by kernel_rfl) (by kernel_rfl) (by kernel_rfl) (by kernel_rfl) rfl (yo_pure hT rfl) ?_)
        refine rw_split (d := 23) rfl (fun hb => ?_) (fun hb => ?_)
        · (refine rw_takeP 9 rfl rfl (by kernel_rfl) (by kernel_rfl) (by kernel_rfl) (by kernel_rfl) rfl (yo_off rfl rfl) ?_; refine rw_takeP 10 rfl rfl (by kernel_rfl) (by kernel_rfl) (by kernel_rfl) (by kernel_rfl) rfl (yo_off rfl rfl) ?_; refine rw_takeP 11 rfl rfl (by kernel_rfl) (by kernel_rfl) (by kernel_rfl) (by kernel_rfl) rfl (yo_off rfl rfl) ?_)
          (refine rw_takeP 12 rfl rfl (by kernel_rfl) (by kernel_rfl) (by kernel_rfl) (by kernel_rfl) rfl (yo_pure hT rfl) ?_)
          refine rw_done (by kernel_rfl) ?_
          skip
          exact qw_cut true (by repeat (first | exact trivial | refine ⟨rfl, ?_⟩)) ⟨hx7.trans hx8, fun h => by cases h⟩
        · (refine rw_takeP 9 rfl rfl (by kernel_rfl) (by kernel_rfl) (by kernel_rfl) (by kernel_rfl) rfl (yo_on rfl rfl (yo_pure hT rfl)) ?_; refine rw_takeP 10 rfl rfl (by kernel_rfl) (by kernel_rfl) (by kernel_rfl) (by kernel_rfl) rfl (yo_on rfl rfl (yo_pure hT rfl)) ?_; refine rw_takeP 11 rfl rfl (by kernel_rfl) (by kernel_rfl) (by kernel_rfl) (by kernel_rfl) rfl (yo_on rfl rfl (yo_pure hT rfl)) ?_)
          (refine rw_takeP 12 rfl rfl (by kernel_rfl) (by kernel_rfl) (by kernel_rfl) (by kernel_rfl) rfl (yo_pure hT rfl) ?_)
          refine rw_done (by kernel_rfl) ?_
          skip
          exact qw_cut _ (by repeat (first | exact trivial | refine ⟨rfl, ?_⟩)) ⟨hx7.trans hx8, fun _ => hrt (by simpa using hb)⟩
      · skip
        refine lw_buildSlice sl22 rfl rfl rfl ?_
        intro b11 wB hbb11 hb11 hxB hsB
        have hxb := hxa.trans hxB
        have hb11r := hb11.rd 0 15
        (repeat (refine lw_nil ?_))
        refine qw_rw (by repeat (first | with_reducible refine nop_then ?_ | with_reducible refine nop_block ?_ | with_reducible exact nop_body)) hcl (fun _ => hxb) ?_
        refine rw_one 2 rfl (by kernel_rfl) rfl (fun hcl => ?_)
        refine lw_append_sl sl22 (by decide) rfl (own_ex own10 hxB) rfl (hrs.ex (hx02.trans hxb)) hr1 (by unfold maxLen; omega) (by omega) (by have := hxb.size; omega) ?_
        intro u5 wC k1 k2 k3 k4
        have hxc : Ex w2 wC := (hxb).up_new k2 (fun k hk => (own_base (own_ex own10 hxB) hk.symm).1)
        (repeat (refine lw_nil ?_))
        refine qw_rw (by repeat (first | with_reducible refine nop_then ?_ | with_reducible refine nop_block ?_ | with_reducible exact nop_body)) hcl (fun _ => hxc) ?_
        refine rw_one 5 rfl (by kernel_rfl) rfl (fun hcl => ?_)
        refine lw_append sl22 (by decide) rfl (k1) rfl (hb11r.ext k2 (fun h => by simp [Value.ownBlock] at h; omega)) rfl (encAct_one h2) (by unfold maxLen; omega) (by omega) (by have := hxc.size; omega) ?_
        intro u6 w7 j1 j2 j3 j4
        have hx7 : Ex w2 w7 := (hxc).up_new j2 (fun k hk => (own_base (k1) hk.symm).1)
        (repeat (refine lw_nil ?_))
        refine qw_rw (by repeat (first | with_reducible refine nop_then ?_ | with_reducible refine nop_block ?_ | with_reducible exact nop_body)) hcl (fun _ => hx7) ?_
        have hacts := own_acts hrl hrr h2 j1 (by omega) (by simp [encAct, encB]) (hx02.trans hx7) (by unfold maxLen; omega)
        refine rw_one 6 rfl (by kernel_rfl) rfl (fun hcl => ?_)
        refine lw_call hT rfl rfl (l23_right hacts) ?_
        rintro _ w8 ⟨⟨b1, rfl, hrt⟩, hx8⟩
        (repeat (refine lw_nil ?_))
        refine qw_rw (by repeat (first | with_reducible refine nop_then ?_ | with_reducible refine nop_block ?_ | with_reducible exact nop_body)) hcl (fun _ => hx7.trans hx8) ?_
        (refine rw_takeP 7 rfl rfl (by kernel_rfl) (by kernel_rfl) (by kernel_rfl) (by kernel_rfl) rfl (yo_pure hT rfl) ?_; refine rw_takeP 8 rfl rfl (by kernel_rfl) (by kernel_rfl) (by kernel_rfl) (by kernel_rfl) rfl (yo_pure hT rfl) ?_)
        refine rw_split (d := 23) rfl (fun hb => ?_) (fun hb => ?_)
        · (refine rw_takeP 9 rfl rfl (by kernel_rfl) (by kernel_rfl) (by kernel_rfl) (by kernel_rfl) rfl (yo_off rfl rfl) ?_; refine rw_takeP 10 rfl rfl (by kernel_rfl) (by kernel_rfl) (by kernel_rfl) (by kernel_rfl) rfl (yo_off rfl rfl) ?_; refine rw_takeP 11 rfl rfl (by kernel_rfl) (by kernel_rfl) (by kernel_rfl) (by kernel_rfl) rfl (yo_off rfl rfl) ?_)
          (refine rw_takeP 12 rfl rfl (by kernel_rfl) (by kernel_rfl) (by kernel_rfl) (by kernel_rfl) rfl (yo_pure hT rfl) ?_)
          refine rw_done (by kernel_rfl) ?_
          skip
          exact qw_cut true (by repeat (first | exact trivial | refine ⟨rfl, ?_⟩)) ⟨hx7.trans hx8, fun h => by cases h⟩
        · (refine rw_takeP 9 rfl rfl (by kernel_rfl) (by kernel_rfl) (by kernel_rfl) (by kernel_rfl) rfl (yo_on rfl rfl (yo_pure hT rfl)) ?_; refine rw_takeP 10 rfl rfl (by kernel_rfl) (by kernel_rfl) (by kernel_rfl) (by kernel_rfl) rfl (yo_on rfl rfl (yo_pure hT rfl)) ?_; refine rw_takeP 11 rfl rfl (by kernel_rfl) (by kernel_rfl) (by kernel_rfl) (by kernel_rfl) rfl (yo_on rfl rfl (yo_pure hT rfl)) ?_)
          (refine rw_takeP 12 rfl rfl (by kernel_rfl) (by kernel_rfl) (by kernel_rfl) (by kernel_rfl) rfl (yo_pure hT rfl) ?_)
          refine rw_done (by kernel_rfl) ?_
          skip
          exact qw_cut _ (by repeat (first | exact trivial | refine ⟨rfl, ?_⟩)) ⟨hx7.trans hx8, fun _ => hrt (by simpa using hb)⟩
    · skip
      refine lw_buildSlice sl22 rfl rfl rfl ?_
      intro b11 wA hbb11 hb11 hxB hsB
      have hxa := hx3.trans hxB
      have hb11r := hb11.rd 0 15
      (repeat (refine lw_nil ?_))
      refine qw_rw (by repeat (first | with_reducible refine nop_then ?_ | with_reducible refine nop_block ?_ | with_reducible exact nop_body)) hcl (fun _ => hxa) ?_
      refine rw_one 0 rfl (by kernel_rfl) rfl (fun hcl => ?_)
      refine lw_buildSlice sl22 rfl rfl rfl ?_
      intro b10 wB hbb10 hb10 hxA hsA
      have hxb := hxa.trans hxA
      have hlA := hxb.size
      have own10 := own_lit (size := 15) (n := 0) (base := w2.heap.size) hb10 (by omega) rfl (by decide)
      (repeat (refine lw_nil ?_))
      refine qw_rw (by repeat (first | with_reducible refine nop_then ?_ | with_reducible refine nop_block ?_ | with_reducible exact nop_body)) hcl (fun _ => hxb) ?_
      refine rw_one 2 rfl (by kernel_rfl) rfl (fun hcl => ?_)
      refine lw_append_sl sl22 (by decide) rfl (own10) rfl (hrs.ex (hx02.trans hxb)) hr1 (by unfold maxLen; omega) (by omega) (by have := hxb.size; omega) ?_
      intro u5 wC k1 k2 k3 k4
      have hxc : Ex w2 wC := (hxb).up_new k2 (fun k hk => (own_base (own10) hk.symm).1)
      (repeat (refine lw_nil ?_))
      refine qw_rw (by repeat (first | with_reducible refine nop_then ?_ | with_reducible refine nop_block ?_ | with_reducible exact nop_body)) hcl (fun _ => hxc) ?_
      refine rw_one 5 rfl (by kernel_rfl) rfl (fun hcl => ?_)
      refine lw_append sl22 (by decide) rfl (k1) rfl ((hb11r.ex hxA).ext k2 (fun h => by simp [Value.ownBlock] at h; omega)) rfl (encAct_one h2) (by unfold maxLen; omega) (by omega) (by have := hxc.size; omega) ?_
      intro u6 w7 j1 j2 j3 j4
      have hx7 : Ex w2 w7 := (hxc).up_new j2 (fun k hk => (own_base (k1) hk.symm).1)
      (repeat (refine lw_nil ?_))
      refine qw_rw (by repeat (first | with_reducible refine nop_then ?_ | with_reducible refine nop_block ?_ | with_reducible exact nop_body)) hcl (fun _ => hx7) ?_
      have hacts := own_acts hrl hrr h2 j1 (by omega) (by simp [encAct, encB]) (hx02.trans hx7) (by unfold maxLen; omega)
      refine rw_one 6 rfl (by kernel_rfl) rfl (fun hcl => ?_)
      refine lw_call hT rfl rfl (l23_right hacts) ?_
      rintro _ w8 ⟨⟨b1, rfl, hrt⟩, hx8⟩
      (repeat (refine lw_nil ?_))
      refine qw_rw (by repeat (first | with_reducible refine nop_then ?_ | with_reducible refine nop_block ?_ | with_reducible exact nop_body)) hcl (fun _ => hx7.trans hx8) ?_
      (refine rw_takeP 7 rfl rfl (by kernel_rfl) (by kernel_rfl) (by kernel_rfl) (by kernel_rfl) rfl (yo_pure hT rfl) ?_; refine rw_takeP 8 rfl rfl (by kernel_rfl) (by kernel_rfl) (by kernel_rfl) (by kernel_rfl) rfl (yo_pure hT rfl) ?_)
      refine rw_split (d := 23) rfl (fun hb => ?_) (fun hb => ?_)
      · (refine rw_takeP 9 rfl rfl (by kernel_rfl) (by kernel_rfl) (by kernel_rfl) (by kernel_rfl) rfl (yo_off rfl rfl) ?_; refine rw_takeP 10 rfl rfl (by kernel_rfl) (by kernel_rfl) (by kernel_rfl) (by kernel_rfl) rfl (yo_off rfl rfl) ?_; refine rw_takeP 11 rfl rfl (by kernel_rfl) (by kernel_rfl) (by kernel_rfl) (by kernel_rfl) rfl (yo_off rfl rfl) ?_)
        (refine rw_takeP 12 rfl rfl (by kernel_rfl) (by kernel_rfl) (by kernel_rfl) (by kernel_rfl) rfl (yo_pure hT rfl) ?_)
        refine rw_done (by kernel_rfl) ?_
        skip
        exact qw_cut true (by repeat (first | exact trivial | refine ⟨rfl, ?_⟩)) ⟨hx7.trans hx8, fun h => by cases h⟩
      · (refine rw_takeP 9 rfl rfl (by kernel_rfl) (by kernel_rfl) (by kernel_rfl) (by kernel_rfl) rfl (yo_on rfl rfl (yo_pure hT rfl)) ?_; refine rw_takeP 10 rfl rfl (by kernel_rfl) (by kernel_rfl) (by kernel_rfl) (by kernel_rfl) rfl (yo_on rfl rfl (yo_pure hT rfl)) ?_; refine rw_takeP 11 rfl rfl (by kernel_rfl) (by kernel_rfl) (by kernel_rfl) (by kernel_rfl) rfl (yo_on rfl rfl (yo_pure hT rfl)) ?_)
        (refine rw_takeP 12 rfl rfl (by kernel_rfl) (by kernel_rfl) (by kernel_rfl) (by kernel_rfl) rfl (yo_pure hT rfl) ?_)
        refine rw_done (by kernel_rfl) ?_
        skip
        exact qw_cut _ (by repeat (first | exact trivial | refine ⟨rfl, ?_⟩)) ⟨hx7.trans hx8, fun _ => hrt (by simpa using hb)⟩
  rintro u w4 ⟨hx4, hright⟩
  have hx04 := hx02.trans hx4
  unfold pB
  (repeat (refine qw_then ?_))
  refine cw_cond rfl (fun e => ?_) (fun e => ?_)
  · (repeat (first | refine lw_pure hT rfl ?_ | refine lw_nil ?_ | refine cw_seq ?_ | refine cw_region ?_ | refine qw_then ?_ | refine cw_ret ?_ | refine qw_then_ret ?_))
    exact qw_ret rfl ⟨rfl, hx04⟩
  replace hright := hright (by simpa using e)
  have hr1 : RightP l := ⟨⟨by have := hright.1.1; simp at this; omega, fun x hx => hright.1.2 x (List.mem_append_left _ hx)⟩, fun x hx => hright.2 x (List.mem_append_left _ hx)⟩
  have hka := hright.2 a (by simp)
  (repeat (first | refine lw_pure hT rfl ?_ | refine cw_seq ?_ | refine cw_region ?_ | refine qw_then ?_ | refine cw_skip ?_))
  refine lw_call hT rfl rfl (l23_play (h1.ex hx04) hr1) ?_
  rintro _ w5 ⟨⟨p, m, gs, vL, fgs, A', rfl, hP⟩, hx5⟩
  have hx05 := hx04.trans hx5
  have hgood := good_run (good_new ⟨#[99]⟩) h1.ok hr1.2
  rw [Nat.zero_add] at hgood
  replace hgood : Good l.length (runA regC l) := hgood
  have hlen := hr1.1.1
  have ec : (runA regC l).carrier = ⟨#[99]⟩ := runA_carrier _ _
  obtain ⟨r0, hr0⟩ : ∃ r0, r0 = runA regC l := ⟨_, rfl⟩
  rw [← hr0] at hgood hP ec
  (repeat (refine lw_pure hT rfl ?_))
  refine lw_alloc z28 ?_
  intro b8 w6 hbb8 hb8 hx6 hs6
  (repeat (refine lw_pure hT rfl ?_))
  refine lw_store_agg hT rfl rfl rfl rfl (by intro v hv; simp [encR] at hv; rcases hv with rfl | rfl <;> first | rfl | exact Sl.one hP.frep.sl) hb8 (show (2 : Nat) ≤ 2 by decide) ?_
  intro w7 hb87 hx7 hs7
  replace hb87 : Blk w7 b8 (encR ⟨#[99]⟩ vL) 28 := hb87
  have hx57 : Ex w5 w7 := hx6.up_new hx7 (fun i h => by omega)
  have hx07 := hx05.trans hx57
  have hR7 := hP.rep.ex hx57
  have hF7 := hP.frep.ex hx57
  have hb47 : Blk w7 b4 (encAct a vb vp) 44 := hb42.ex ((hx4.trans hx5).trans hx57)
  have hfl7 : ∀ b ∈ foot p m gs, b < w5.heap.size := fun b hb => hP.rep.foot_lt hb
  have hn8 : b8 ∉ foot p m gs := fun h => by have := hfl7 _ h; omega
  have hn4 : b4 ∉ foot p m gs := fun h => by
    have h1 := hP.new _ h
    have h2 := hb4.lt
    have h3 := hx2.size
    have h4 := hx4.size
    omega
  have hnew : ∀ b ∈ foot p m gs, w.heap.size ≤ b := fun b hb => by have := hP.new b hb; have := hx04.size; omega
  (repeat (first | refine lw_pure hT rfl ?_ | refine lw_nil ?_ | refine cw_seq ?_ | refine cw_region ?_ | refine qw_then ?_ | refine cw_skip ?_ | refine cw_block ?_ | (refine cw_cond_f rfl ?_ ?_; focus (first | with_reducible rfl | with_reducible exact Bool.not_false | with_reducible exact Bool.not_true)) | refine lw_eqp_some hT rfl rfl ?_))
  refine cw_loop (fun k : Nat => [(2, .string box), (4, pB b4), (7, pB p), (8, pB b8), (9, .int .i64 (k : Nat))]) (fun k w' => k ≤ 3 ∧ Ex w7 w' ∧ ∀ i : Nat, i < k → r0.holderOf a.bill (i : Int) ≠ some a.by_) (fun k => 3 - k) 0 (by repeat (first | exact trivial | refine ⟨rfl, ?_⟩)) ⟨Nat.zero_le _, Ext.refl _ _, fun i hi => by omega⟩ ?_
  rintro k w8 ⟨hk, hx8, hno⟩
  have hx08 := hx07.trans hx8
  unfold pB
  (repeat (first | refine lw_pure hT rfl ?_ | refine lw_nil ?_ | refine cw_seq ?_ | refine cw_region ?_ | refine qw_then ?_))
  refine cw_cond rfl (fun e => ?_) (fun e => ?_)
  · have hk3 : k < 3 := by have := of_decide_eq_true e; omega
    (repeat (first | refine lw_pure hT rfl ?_ | refine cw_seq ?_ | refine cw_region ?_ | refine qw_then ?_ | refine cw_skip ?_ | refine cw_block ?_))
    refine lw_load hT rfl rfl (v := .string a.bill) ((hb47.ex hx8).cell 3) ?_
    (repeat (refine lw_pure hT rfl ?_))
    refine lw_call hT rfl rfl (reg_Holder (hR7.ex hx8) a.bill k) ?_
    rintro _ w9 ⟨rfl, hx9⟩
    have step : r0.holderOf a.bill (k : Int) ≠ some a.by_ → ∀ i : Nat, i < k + 1 → r0.holderOf a.bill (i : Int) ≠ some a.by_ := fun h i hi => by
      rcases Nat.lt_or_ge i k with h' | h'
      · exact hno i h'
      · have : i = k := by omega
        subst this; exact h
    cases hh : r0.holderOf a.bill (k : Int) with
    | none =>
      simp only [Option.getD_none, Option.isSome_none]
      (repeat (first | (refine lw_add rfl rfl ?_ ?_ ?_; iterate 2 omega) | refine lw_pure hT rfl ?_ | refine lw_nil ?_ | refine cw_seq ?_ | refine cw_region ?_ | refine qw_then ?_ | refine cw_skip ?_ | (refine lw_goff_f rfl ?_ ?_; focus (first | with_reducible rfl | with_reducible exact Bool.not_false | with_reducible exact Bool.not_true)) | refine qw_block ?_ | (refine cw_cond_f rfl ?_ ?_; focus (first | with_reducible rfl | with_reducible exact Bool.not_false | with_reducible exact Bool.not_true))))
      exact qw_round (k + 1) (by repeat (first | exact trivial | refine ⟨rfl, ?_⟩)) ⟨hk3, hx8.trans hx9, step (by rw [hh]; simp)⟩ (by omega)
    | some h =>
      simp only [Option.getD_some, Option.isSome_some]
      (repeat (first | refine lw_pure hT rfl ?_ | refine lw_nil ?_ | refine cw_seq ?_ | refine cw_region ?_ | refine qw_then ?_ | (refine lw_gon_t rfl ?_ ?_; focus (first | with_reducible rfl | with_reducible exact Bool.not_false | with_reducible exact Bool.not_true))))
      refine lw_load hT rfl rfl (v := .string a.by_) (((hb47.ex hx8).ex hx9).cell 4) ?_
      (repeat (first | refine lw_pure hT rfl ?_ | refine lw_nil ?_ | refine qw_then ?_ | (refine lw_gon_t rfl ?_ ?_; focus (first | with_reducible rfl | with_reducible exact Bool.not_false | with_reducible exact Bool.not_true))))
      refine cw_cond rfl (fun e => ?_) (fun e => ?_)
      · (repeat (first | refine lw_pure hT rfl ?_ | refine lw_nil ?_ | refine cw_seq ?_ | refine cw_region ?_ | refine qw_then ?_ | refine cw_ret ?_ | refine qw_then_ret ?_ | refine qw_block_ret ?_))
        exact qw_ret rfl ⟨rfl, hx08.trans hx9⟩
      · (repeat (first | (refine lw_add rfl rfl ?_ ?_ ?_; iterate 2 omega) | refine lw_pure hT rfl ?_ | refine lw_nil ?_ | refine cw_region ?_ | refine qw_then ?_ | refine cw_skip ?_ | refine qw_block ?_))
        exact qw_round (k + 1) (by repeat (first | exact trivial | refine ⟨rfl, ?_⟩)) ⟨hk3, hx8.trans hx9, step (by rw [hh]; intro h'; cases h'; simp at e)⟩ (by omega)
  have hk3 : k = 3 := by have := of_decide_eq_false e; omega
  subst hk3
  have hR8 := hR7.ex hx8
  have hF8 := hF7.ex hx8
  have hb48 := hb47.ex hx8
  have hb88 := hb87.ex hx8
  have hGs := hgood.small (by omega)
  repeat (first | refine cw_exit ?_ | refine qw_then_exit ?_ | refine qw_block_exit ?_ | refine qw_block_other rfl ?_ | refine qw_block ?_)
  refine qw_then ?_
  refine cw_seq ?_
  refine cw_region ?_
  refine lw_pure hT rfl ?_
  refine lw_nil ?_
  refine qw_then ?_
  refine cw_seq ?_
  refine cw_then_cut (α := Int) (fun u => [(2, .string box), (4, pB b4), (7, pB p), (8, pB b8), (12, .int .i64 u)])
    (fun u w' => u ≠ 0 ∧ Mut w8 p m gs r0 w') ?_ ?_
  · unfold pB
    (repeat (first | refine lw_pure hT rfl ?_ | refine cw_seq ?_ | refine cw_region ?_))
    refine lw_load hT rfl rfl (v := .int .i64 a.kind) (hb48.cell 0) ?_
    (repeat (first | refine lw_pure hT rfl ?_ | refine lw_nil ?_ | refine cw_seq ?_ | refine cw_region ?_ | refine qw_then ?_ | refine cw_block ?_))
    refine cw_cond rfl (fun e1 => ?_) (fun e1 => ?_)
    · have e1 : a.kind = 1 := by simpa using e1
      obtain ⟨hne, hsame⟩ := only_law hgood (show 1 ≤ a.kind ∧ a.kind ≤ 5 by omega) hno
      (repeat (first | refine lw_pure hT rfl ?_ | refine cw_region ?_))
      refine lw_load hT rfl rfl (v := .string a.bill) (hb48.cell 3) ?_
      (repeat (refine lw_pure hT rfl ?_))
      refine lw_load hT rfl rfl (v := .int .i64 a.index) (hb48.cell 1) ?_
      (repeat (refine lw_pure hT rfl ?_))
      refine lw_load hT rfl rfl (v := .string a.by_) (hb48.cell 4) ?_
      (repeat (refine lw_pure hT rfl ?_))
      refine lw_load hT rfl rfl (v := .string a.to_) (hb48.cell 5) ?_
      (repeat (refine lw_pure hT rfl ?_))
      refine lw_load hT rfl rfl (v := .int .i64 a.day) (hb48.cell 2) ?_
      skip
      refine lw_call hT rfl rfl (reg_Endorse hR8 hgood.nd hGs hgood.inv a e1 h2.ok.to_) ?_
      rintro _ w9 ⟨rfl, hm⟩
      rw [hsame] at hm
      (repeat (first | refine lw_pure hT rfl ?_ | refine lw_nil ?_ | refine qw_block ?_))
      exact qw_cut (actC r0 a) (by repeat (first | exact trivial | refine ⟨rfl, ?_⟩)) ⟨hne, hm⟩
    (repeat (first | refine lw_pure hT rfl ?_ | refine lw_nil ?_ | refine cw_seq ?_ | refine cw_region ?_ | refine qw_then ?_))
    refine cw_cond rfl (fun e2 => ?_) (fun e2 => ?_)
    · have e2 : a.kind = 2 := by simpa using e2
      obtain ⟨hne, hsame⟩ := only_law hgood (show 1 ≤ a.kind ∧ a.kind ≤ 5 by omega) hno
      (repeat (first | refine lw_pure hT rfl ?_ | refine cw_region ?_))
      refine lw_load hT rfl rfl (v := .string a.bill) (hb48.cell 3) ?_
      (repeat (refine lw_pure hT rfl ?_))
      refine lw_load hT rfl rfl (v := .int .i64 a.index) (hb48.cell 1) ?_
      (repeat (refine lw_pure hT rfl ?_))
      refine lw_load hT rfl rfl (v := .string a.by_) (hb48.cell 4) ?_
      (repeat (refine lw_pure hT rfl ?_))
      refine lw_load hT rfl rfl (v := .int .i64 a.day) (hb48.cell 2) ?_
      skip
      refine lw_call hT rfl rfl (reg_Surrender hR8 hgood.nd hGs a e2) ?_
      rintro _ w9 ⟨⟨u, rfl, _, _⟩, hm⟩
      rw [hsame] at hm
      (repeat (first | refine lw_pure hT rfl ?_ | refine lw_nil ?_ | refine qw_block ?_))
      exact qw_cut (actC r0 a) (by repeat (first | exact trivial | refine ⟨rfl, ?_⟩)) ⟨hne, hm⟩
    (repeat (first | refine lw_pure hT rfl ?_ | refine lw_nil ?_ | refine cw_seq ?_ | refine cw_region ?_ | refine qw_then ?_))
    refine cw_cond rfl (fun e3 => ?_) (fun e3 => ?_)
    · have e3 : a.kind = 3 := by simpa using e3
      obtain ⟨hne, hsame⟩ := only_law hgood (show 1 ≤ a.kind ∧ a.kind ≤ 5 by omega) hno
      (repeat (first | refine lw_pure hT rfl ?_ | refine cw_region ?_))
      refine lw_load hT rfl rfl (v := .string a.bill) (hb48.cell 3) ?_
      (repeat (refine lw_pure hT rfl ?_))
      refine lw_load hT rfl rfl (v := .int .i64 a.index) (hb48.cell 1) ?_
      (repeat (refine lw_pure hT rfl ?_))
      refine lw_load hT rfl rfl (v := .string a.by_) (hb48.cell 4) ?_
      skip
      refine lw_call hT rfl rfl (reg_Lose hR8 hgood.nd a e3) ?_
      rintro _ w9 ⟨rfl, hm⟩
      rw [hsame] at hm
      (repeat (first | refine lw_pure hT rfl ?_ | refine lw_nil ?_ | refine qw_block ?_))
      exact qw_cut (actC r0 a) (by repeat (first | exact trivial | refine ⟨rfl, ?_⟩)) ⟨hne, hm⟩
    (repeat (first | refine lw_pure hT rfl ?_ | refine lw_nil ?_ | refine cw_seq ?_ | refine cw_region ?_ | refine qw_then ?_))
    refine cw_cond rfl (fun e4 => ?_) (fun e4 => ?_)
    · have e4 : a.kind = 4 := by simpa using e4
      obtain ⟨hne, hsame⟩ := only_law hgood (show 1 ≤ a.kind ∧ a.kind ≤ 5 by omega) hno
      (repeat (first | refine lw_pure hT rfl ?_ | refine cw_region ?_))
      refine lw_load hT rfl rfl (v := .string a.bill) (hb48.cell 3) ?_
      (repeat (refine lw_pure hT rfl ?_))
      refine lw_load hT rfl rfl (v := .int .i64 a.index) (hb48.cell 1) ?_
      (repeat (refine lw_pure hT rfl ?_))
      refine lw_load hT rfl rfl (v := .string a.by_) (hb48.cell 4) ?_
      (repeat (refine lw_pure hT rfl ?_))
      refine lw_load hT rfl rfl (v := .int .i64 a.day) (hb48.cell 2) ?_
      skip
      refine lw_call hT rfl rfl (reg_Replace hR8 hgood.nd a e4) ?_
      rintro _ w9 ⟨rfl, hm⟩
      rw [hsame] at hm
      (repeat (first | refine lw_pure hT rfl ?_ | refine lw_nil ?_ | refine qw_block ?_))
      exact qw_cut (actC r0 a) (by repeat (first | exact trivial | refine ⟨rfl, ?_⟩)) ⟨hne, hm⟩
    (repeat (first | refine lw_pure hT rfl ?_ | refine lw_nil ?_ | refine cw_seq ?_ | refine cw_region ?_ | refine qw_then ?_))
    refine cw_cond rfl (fun e5 => ?_) (fun e5 => ?_)
    · have e5 : a.kind = 5 := by simpa using e5
      obtain ⟨hne, hsame⟩ := only_law hgood (show 1 ≤ a.kind ∧ a.kind ≤ 5 by omega) hno
      (repeat (first | refine lw_pure hT rfl ?_ | refine cw_region ?_))
      refine lw_load hT rfl rfl (v := .string a.bill) (hb48.cell 3) ?_
      (repeat (refine lw_pure hT rfl ?_))
      refine lw_load hT rfl rfl (v := .string a.by_) (hb48.cell 4) ?_
      (repeat (refine lw_pure hT rfl ?_))
      refine lw_load hT rfl rfl (v := .int .i64 a.day) (hb48.cell 2) ?_
      skip
      refine lw_call hT rfl rfl (reg_Retire hR8 hgood.nd a e5) ?_
      rintro _ w9 ⟨rfl, hm⟩
      rw [hsame] at hm
      (repeat (first | refine lw_pure hT rfl ?_ | refine lw_nil ?_ | refine qw_block ?_))
      exact qw_cut (actC r0 a) (by repeat (first | exact trivial | refine ⟨rfl, ?_⟩)) ⟨hne, hm⟩
    · (repeat (first | refine cw_skip ?_ | refine qw_block ?_))
      exact qw_cut 8 (by repeat (first | exact trivial | refine ⟨rfl, ?_⟩)) ⟨by decide, Mut.of_ex hR8 (Ext.refl _ _)⟩
  rintro u w9 ⟨hne, hm⟩
  obtain ⟨gs', hR9, hf'⟩ := hm.is
  have hx09 : Ex w w9 := hx08.up_new hm.ext (fun b hb => hnew b hb)
  have hF9 : FRep A' w9 vL r0.l fgs := hF8.ext hm.ext (fun b hb h => hP.dis b hb h)
  have hb89 := hb88.ext hm.ext hn8
  have hb49 := hb48.ext hm.ext hn4
  have hU := l23_Unlike hR9 hgood (by omega) hF9 a.by_ box
  rw [ec] at hU
  unfold pB
  (repeat (first | refine lw_pure hT rfl ?_ | refine cw_seq ?_ | refine cw_region ?_ | refine qw_then ?_))
  refine lw_guard rfl (fun _ => ?_) (fun e => absurd (by simpa using e) hne)
  (repeat (first | refine lw_pure hT rfl ?_ | (refine lw_gon_t rfl ?_ ?_; focus (first | with_reducible rfl | with_reducible exact Bool.not_false | with_reducible exact Bool.not_true))))
  refine lw_load_agg hT rfl rfl rfl (vs := encR ⟨#[99]⟩ vL) (hb89.rd 0 2) ?_
  (repeat (first | refine lw_pure hT rfl ?_ | (refine lw_gon_t rfl ?_ ?_; focus (first | with_reducible rfl | with_reducible exact Bool.not_false | with_reducible exact Bool.not_true))))
  refine lw_load hT rfl rfl (v := .string a.by_) (hb49.cell 4) ?_
  (repeat (first | refine lw_pure hT rfl ?_ | (refine lw_gon_t rfl ?_ ?_; focus (first | with_reducible rfl | with_reducible exact Bool.not_false | with_reducible exact Bool.not_true))))
  refine lw_call hT rfl rfl hU ?_
  rintro _ w10 ⟨rfl, hx10⟩
  (repeat (first | refine lw_pure hT rfl ?_ | refine lw_nil ?_ | refine qw_then ?_ | refine cw_ret ?_ | (refine lw_gon_t rfl ?_ ?_; focus (first | with_reducible rfl | with_reducible exact Bool.not_false | with_reducible exact Bool.not_true))))
  exact qw_ret rfl ⟨rfl, hx09.trans hx10⟩
end Go.Proofs.YtfbjpfgglgffgaaGreat
