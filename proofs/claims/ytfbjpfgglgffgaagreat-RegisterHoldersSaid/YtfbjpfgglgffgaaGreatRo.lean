/- Contracts of package register, fifteenth part: Issue. -/
import Derived.Test.YtfbjpfgglgffgaaGreatRn
set_option linter.unusedVariables false
set_option linter.unusedSimpArgs false
set_option linter.unusedSectionVars false
set_option linter.unnecessarySimpa false
namespace Go.Proofs.YtfbjpfgglgffgaaGreat
open Go Go.SK

/-! ### An entry more -/
theorem at_none {r : RegD} {n : ByteArray} (h : r.at? n = none) : ∀ e ∈ r.l, n ≠ e.bill.number := by
  intro e he
  have := List.find?_eq_none.1 h e he
  simpa using this
theorem Rep.snoc {w w' : World} {p : Nat} {r : RegD} {m : Nat} {gs : List GhostE} {es : List (ByteArray × Value)} (h : Rep w p r m gs) (hpm : es.Perm (mapOf r.l gs)) {x : EntD} {g : GhostE} (hx : Ext (· = m) w w') (hm : Mp w' m (es ++ [(x.bill.number, .pointer (some ⟨g.e, 0, none⟩))]))
    (hnew : r.at? x.bill.number = none) (hE : EntOk w' x g) (hn : g.Nd) (hfp : ∀ b ∈ g.fp, w.heap.size ≤ b ∨ (b ∉ foot p m gs)) (hrd : ∀ b ∈ g.rd, w.heap.size ≤ b ∨ (b ∉ foot p m gs)) (hd : ∀ b ∈ g.fp, b ∉ g.rd) : Rep w' p { r with l := r.l ++ [x] } m (gs ++ [g]) := by
  have hfp' : ∀ b ∈ g.fp, b ∉ foot p m gs := fun b hb hf => (hfp b hb).elim (fun hl => by have := h.foot_lt hf; omega) (fun hn => hn hf)
  have hrd' : ∀ b ∈ g.rd, b ∉ foot p m gs := fun b hb hf => (hrd b hb).elim (fun hl => by have := h.foot_lt hf; omega) (fun hn => hn hf)
  have hset : ∀ {j : Nat} {k : GhostE}, (gs ++ [g])[j]? = some k → gs[j]? = some k ∨ (j = gs.length ∧ k = g) := by
    intro j k hk
    rw [List.getElem?_append] at hk
    split at hk
    · exact .inl hk
    · next hj =>
      right
      have : j - gs.length = 0 := by
        rcases Nat.eq_zero_or_pos (j - gs.length) with h0 | h0
        · exact h0
        · rw [List.getElem?_eq_none (by simp; omega)] at hk; cases hk
      rw [this] at hk
      exact ⟨by omega, by simpa using hk.symm⟩
  have hsetx : ∀ {j : Nat} {y : EntD}, (r.l ++ [x])[j]? = some y → r.l[j]? = some y ∨ (j = r.l.length ∧ y = x) := by
    intro j k hk
    rw [List.getElem?_append] at hk
    split at hk
    · exact .inl hk
    · next hj =>
      right
      have : j - r.l.length = 0 := by
        rcases Nat.eq_zero_or_pos (j - r.l.length) with h0 | h0
        · exact h0
        · rw [List.getElem?_eq_none (by simp; omega)] at hk; cases hk
      rw [this] at hk
      exact ⟨by omega, by simpa using hk.symm⟩
  have mem : ∀ {j : Nat} {k : GhostE} {b : Nat}, gs[j]? = some k → b ∈ k.fp ∨ b ∈ k.rd → b ∈ foot p m gs := fun hk hb => foot_mem.2 (.inr (.inr ⟨_, _, hk, hb⟩))
  have hnm := at_none hnew
  have hR := h.len
  refine ⟨h.blk.ext hx h.pm, ⟨_, hm, ?_⟩, ?_, by simp [h.len], ?_, ?_, ?_, ?_, h.pm⟩
  · have : mapOf (r.l ++ [x]) (gs ++ [g]) = mapOf r.l gs ++ [(x.bill.number, .pointer (some ⟨g.e, 0, none⟩))] := by
      unfold mapOf; rw [List.zip_append h.len]; simp
    show (es ++ _).Perm (mapOf (r.l ++ [x]) (gs ++ [g]))
    rw [this]
    exact hpm.append_right _
  · intro j j' y y' hy hy' he
    rcases hsetx hy with hy1 | ⟨e1, f1⟩ <;> rcases hsetx hy' with hy2 | ⟨e2, f2⟩
    · exact h.nd j j' y y' hy1 hy2 he
    · exact absurd (f2 ▸ he.symm) (hnm y (List.mem_of_getElem? hy1))
    · exact absurd (f1 ▸ he) (hnm y' (List.mem_of_getElem? hy2))
    · exact e1.trans e2.symm
  · intro j y k hy hk
    rcases hsetx hy with hy | ⟨rfl, rfl⟩ <;> rcases hset hk with hk | ⟨e, rfl⟩
    · have hf := h.fpn j k hk
      exact (h.ents j y k hy hk).ext hx (fun b hb e => hf.2.1 (e ▸ hb)) (fun b hb e => hf.2.2.1 (e ▸ hb))
    · have := (List.getElem?_eq_some_iff.1 hy).1; omega
    · have := (List.getElem?_eq_some_iff.1 hk).1; omega
    · exact hE
  · intro j k hk
    rcases hset hk with hk | ⟨_, rfl⟩
    · exact h.fpn j k hk
    · exact ⟨hn, fun hb => hfp' m hb (foot_mem.2 (.inr (.inl rfl))), fun hb => hrd' m hb (foot_mem.2 (.inr (.inl rfl))), fun hb => hfp' p hb (foot_mem.2 (.inl rfl)), fun hb => hrd' p hb (foot_mem.2 (.inl rfl))⟩
  · intro j j' k k' hne hk hk' b hb hb'
    rcases hset hk with hk1 | ⟨e1, rfl⟩ <;> rcases hset hk' with hk2 | ⟨e2, rfl⟩
    · exact h.disj j j' k k' hne hk1 hk2 b hb hb'
    · exact hfp' b hb' (mem hk1 (.inl hb))
    · exact hfp' b hb (mem hk2 (.inl hb'))
    · exact hne (e1.trans e2.symm)
  · intro j j' k k' hk hk' b hb hb'
    rcases hset hk with hk1 | ⟨e1, rfl⟩ <;> rcases hset hk' with hk2 | ⟨e2, rfl⟩
    · exact h.rdn j j' k k' hk1 hk2 b hb hb'
    · exact hrd' b hb' (mem hk1 (.inl hb))
    · exact hfp' b hb (mem hk2 (.inr hb'))
    · exact hd b hb hb'
theorem foot_snoc {p m : Nat} {gs : List GhostE} {g : GhostE} {N : Nat} (hfp : ∀ b ∈ g.fp, N ≤ b) (hrd : ∀ b ∈ g.rd, N ≤ b) : ∀ b ∈ foot p m (gs ++ [g]), b ∈ foot p m gs ∨ N ≤ b := by
  intro b hb
  simp only [foot, List.mem_cons, List.flatMap_append, List.mem_append, List.flatMap_singleton] at hb ⊢
  rcases hb with hb | hb | hb | hb | hb
  · exact .inl (.inl hb)
  · exact .inl (.inr (.inl hb))
  · exact .inl (.inr (.inr hb))
  · exact .inr (hfp b hb)
  · exact .inr (hrd b hb)

def zeroP : PapD := ⟨0, ⟨#[]⟩, []⟩
/-- A new entry, some of whose originals were written. -/
def fresh (b : BillD) (holder : ByteArray) (i : Nat) : EntD := ⟨b, 0, List.replicate i ⟨0, holder, []⟩ ++ List.replicate (3 - i) zeroP⟩
theorem set_fresh {b : BillD} {holder : ByteArray} {e : Nat} {vb vp : Value} {i : Nat} (hi : i < 3) :
    setMany (entCells (fresh b holder i) ⟨e, vb, vp, [.slice none 0 0, .slice none 0 0, .slice none 0 0]⟩) (10 + i * 3) [.int .i64 0, .string holder, .slice none 0 0] = entCells (fresh b holder (i + 1)) ⟨e, vb, vp, [.slice none 0 0, .slice none 0 0, .slice none 0 0]⟩ := by
  match i, hi with
  | 0, _ => rfl
  | 1, _ => rfl
  | 2, _ => rfl
section
variable {w : World} {p : Nat} {r : RegD} {m : Nat} {gs : List GhostE}
theorem reg_Issue1 (hR : Rep w p r m gs) (x : ByteArray) {b : Nat} (hb : w.cell? ⟨b, 0, none⟩ = some (.pointer (some ⟨p, 0, none⟩))) : Ret Tryz.prog 42 ([] ++ [.string x] ++ [.pointer (some ⟨b, 0, none⟩)]) w fun v w' => v = .bool (r.boxed x) ∧ Ex w w' := by
  refine ret_of Tryz.func42 Tryz.ntmps42 rfl rfl rfl ?_
  (repeat (first | refine lw_pure hT rfl ?_ | refine lw_nil ?_ | refine cw_seq ?_ | refine cw_region ?_ | refine qw_then ?_))
  refine lw_load hT rfl rfl (v := .pointer (some ⟨p, 0, none⟩)) hb ?_
  (repeat (refine lw_pure hT rfl ?_))
  refine lw_call hT rfl rfl (reg_Box hR x) ?_
  rintro v w1 ⟨hv, hx1⟩
  rcases hv with ⟨rfl, h⟩ | ⟨e, he, hh, rfl⟩
  · (repeat (first | refine lw_pure hT rfl ?_ | refine lw_nil ?_ | refine cw_seq ?_ | refine cw_region ?_ | refine qw_then ?_ | refine cw_ret ?_))
    exact qw_ret rfl ⟨by rw [h]; rfl, hx1⟩
  · (repeat (first | refine lw_pure hT rfl ?_ | refine lw_nil ?_ | refine cw_seq ?_ | refine cw_region ?_ | refine qw_then ?_ | refine cw_ret ?_))
    refine qw_ret rfl ⟨?_, hx1⟩
    have : r.boxed x = true := by unfold RegD.boxed; rw [List.any_eq_true]; exact ⟨e, he, hh⟩
    rw [this]; rfl
set_option maxHeartbeats 1000000 in
theorem reg_Issue {A : Nat → Prop} {b : BillD} {vb vp : Value} (hR : Rep w p r m gs) (hB : SlS A w vb b.boxes) (hP : SlS A w vp b.parents) (hok : b.Ok) (holder : ByteArray) (hh : holder.size ≤ maxLen) :
    Ret Tryz.prog 17 [.pointer (some ⟨p, 0, none⟩), .agg ⟨encB b vb vp⟩, .string holder] w fun v w' => v = .int .i64 (issueC r b holder) ∧ Mut w p m gs (issueD r b holder) w' := by
  obtain ⟨es, hmp, hpm⟩ := hR.map
  refine ret_of Tryz.func17 Tryz.ntmps17 rfl rfl rfl ?_
  (repeat (first | refine cw_seq ?_ | refine cw_region ?_))
  refine lw_box rfl ?_
  intro b3 w1 hbb3 hb3 hx1 hs1
  replace hb3 : Blk w1 b3 [.pointer (some ⟨p, 0, none⟩)] 25 := hb3
  skip
  refine lw_box rfl ?_
  intro b4 w2 hbb4 hb4 hx2 hs2
  replace hb4 : Blk w2 b4 (encB b vb vp) 35 := hb4
  have hx02 := hx1.trans hx2
  have hb32 := hb3.ex hx2
  have hR2 := hR.ex hx02
  have hmp2 := hmp.ex hx02
  (repeat (first | refine lw_pure hT rfl ?_ | refine lw_nil ?_ | refine cw_seq ?_ | refine qw_then ?_))
  refine cw_draw hM (fun w' => Ex w2 w') [] rfl rfl (by repeat (first | with_reducible refine nop_then ?_ | with_reducible refine nop_block ?_ | with_reducible exact nop_body)) (fun w3 hx3 _ => ⟨hx3, ?_⟩)
  refine rw_take 0 rfl rfl (by kernel_rfl) (by kernel_rfl) (by kernel_rfl) (by kernel_rfl) rfl (yo_load hT rfl rfl (fun w' hS => Ex.cell hS (hb32.cell 0))) ?_
  (refine rw_takeP 1 rfl rfl (by kernel_rfl) (by kernel_rfl) (by kernel_rfl) (by kernel_rfl) rfl (yo_pure hT rfl) ?_; refine rw_takeP 2 rfl rfl (by kernel_rfl) (by kernel_rfl) (by kernel_rfl) (by kernel_rfl) rfl (yo_pure hT rfl) ?_)
  refine rw_take 3 rfl rfl (by kernel_rfl) (by kernel_rfl) (by kernel_rfl) (by kernel_rfl) rfl (yo_load hT rfl rfl (fun w' hS => Ex.cell hS (hR2.blk.cell 1))) ?_
  (refine rw_takeP 4 rfl rfl (by kernel_rfl) (by kernel_rfl) (by kernel_rfl) (by kernel_rfl) rfl (yo_pure hT rfl) ?_)
  refine rw_take 5 rfl rfl (by kernel_rfl) (by kernel_rfl) (by kernel_rfl) (by kernel_rfl) rfl (yo_load hT rfl rfl (fun w' hS => Ex.cell hS (hb4.cell 0))) ?_
  refine rw_take 6 rfl rfl (by kernel_rfl) (by kernel_rfl) (by kernel_rfl) (by kernel_rfl) rfl (yo_lookup_ok mp78 rfl rfl (fun w' hS => hmp2.ex hS)) ?_
  (refine rw_takeP 7 rfl rfl (by kernel_rfl) (by kernel_rfl) (by kernel_rfl) (by kernel_rfl) rfl (yo_pure hT rfl) ?_; refine rw_takeP 8 rfl rfl (by kernel_rfl) (by kernel_rfl) (by kernel_rfl) (by kernel_rfl) rfl (yo_pure hT rfl) ?_; refine rw_takeP 9 rfl rfl (by kernel_rfl) (by kernel_rfl) (by kernel_rfl) (by kernel_rfl) rfl (yo_pure hT rfl) ?_; refine rw_takeP 10 rfl rfl (by kernel_rfl) (by kernel_rfl) (by kernel_rfl) (by kernel_rfl) rfl (yo_pure hT rfl) ?_; refine rw_takeP 11 rfl rfl (by kernel_rfl) (by kernel_rfl) (by kernel_rfl) (by kernel_rfl) rfl (yo_pure hT rfl) ?_)
  refine rw_done (by kernel_rfl) ?_
  have hR3 := hR2.ex hx3
  have hb33 := hb32.ex hx3
  have hb43 := hb4.ex hx3
  have hx03 := hx02.trans hx3
  have there : (mget es b.number).isSome = (r.at? b.number).isSome := by
    rw [hR.get hpm]
    rcases hR.at b.number with ⟨h1, h2⟩ | ⟨i, x, g, hA⟩
    · rw [h1, h2]; rfl
    · rw [hA.at_, hA.get]; rfl
  have refuse : issueC r b holder ≠ 0 → ∀ w', Ex w w' → Mut w p m gs (issueD r b holder) w' := by
    intro h w' hx
    have : issueD r b holder = r := by simp [issueD, h]
    rw [this]; exact Mut.of_ex hR hx
  (repeat (first | refine cw_seq ?_ | refine cw_region ?_ | refine qw_then ?_ | refine cw_block ?_))
  refine lw_load hT rfl rfl (v := .pointer (some ⟨p, 0, none⟩)) (hb33.cell 0) ?_
  skip
  refine lw_load_agg hT rfl rfl rfl (vs := encB b vb vp) (hb43.rd 0 9) ?_
  skip
  refine lw_call hT rfl rfl (reg_may w3 b vb vp hR3.blk (hB.ex hx03) (hP.ex hx03) hok) ?_
  rintro _ w4 ⟨rfl, hx4⟩
  (repeat (refine lw_pure hT rfl ?_))
  have bad : (!mayB r.carrier b || !nameB holder) = true → issueC r b holder = 1 := fun h => by unfold issueC; rw [if_pos h]
  refine lw_guard rfl (fun h1 => ?_) (fun h1 => ?_)
  · have hc := bad (by rw [h1]; rfl)
    (repeat (first | refine lw_pure hT rfl ?_ | refine lw_nil ?_ | refine cw_seq ?_ | refine cw_region ?_ | refine qw_then ?_ | refine cw_ret ?_ | refine qw_then_ret ?_ | (refine lw_goff_t rfl ?_ ?_; focus (first | with_reducible rfl | with_reducible exact Bool.not_false | with_reducible exact Bool.not_true)) | refine qw_block_ret ?_ | (refine cw_cond_t rfl ?_ ?_; focus (first | with_reducible rfl | with_reducible exact Bool.not_false | with_reducible exact Bool.not_true))))
    exact qw_ret rfl ⟨by rw [hc]; rfl, refuse (by rw [hc]; decide) _ (hx03.trans hx4)⟩
  · (repeat (first | refine lw_pure hT rfl ?_ | (refine lw_gon_f rfl ?_ ?_; focus (first | with_reducible rfl | with_reducible exact Bool.not_false | with_reducible exact Bool.not_true))))
    refine lw_call hT rfl rfl (mark_Name holder w4 hh) ?_
    rintro _ _ ⟨rfl, rfl⟩
    (repeat (first | refine lw_pure hT rfl ?_ | refine lw_nil ?_ | refine qw_then ?_ | (refine lw_gon_f rfl ?_ ?_; focus (first | with_reducible rfl | with_reducible exact Bool.not_false | with_reducible exact Bool.not_true))))
    refine cw_cond rfl (fun h2 => ?_) (fun h2 => ?_)
    · have hc := bad (by rw [h2]; simp)
      (repeat (first | refine lw_pure hT rfl ?_ | refine lw_nil ?_ | refine cw_seq ?_ | refine cw_region ?_ | refine qw_then ?_ | refine cw_ret ?_ | refine qw_then_ret ?_ | refine qw_block_ret ?_))
      exact qw_ret rfl ⟨by rw [hc]; rfl, refuse (by rw [hc]; decide) _ (hx03.trans hx4)⟩
    · have hgood : ¬ (!mayB r.carrier b || !nameB holder) = true := by rw [h1, h2]; decide
      (repeat (first | refine lw_pure hT rfl ?_ | refine lw_nil ?_ | refine cw_seq ?_ | refine cw_region ?_ | refine qw_then ?_))
      rw [there]
      refine cw_cond rfl (fun h3 => ?_) (fun h3 => ?_)
      · have hc : issueC r b holder = 5 := by unfold issueC; rw [if_neg hgood, if_pos h3]
        (repeat (first | refine lw_pure hT rfl ?_ | refine lw_nil ?_ | refine cw_seq ?_ | refine cw_region ?_ | refine qw_then ?_ | refine cw_ret ?_ | refine qw_then_ret ?_ | refine qw_block_ret ?_))
        exact qw_ret rfl ⟨by rw [hc]; rfl, refuse (by rw [hc]; decide) _ (hx03.trans hx4)⟩
      · have h3' : ¬ (r.at? b.number).isSome = true := by rw [h3]; decide
        have hR4 := hR3.ex hx4
        (repeat (first | refine lw_pure hT rfl ?_ | refine cw_seq ?_ | refine cw_region ?_))
        refine lw_load hT rfl rfl (v := vb) ((hb43.ex hx4).cell 5) ?_
        (repeat (refine lw_pure hT rfl ?_))
        refine lw_call hT rfl rfl (cnf_str (fun s => [Value.string s]) Value.string (fun _ => rfl) r.boxed (fi := []) (cp := [.pointer (some ⟨b3, 0, none⟩)]) w4 (hB.ex (hx03.trans hx4)) rfl (fun s hm w' hx => reg_Issue1 (hR4.ex hx) s (((hb33.ex hx4).ex hx).cell 0))) ?_
        rintro _ w5 ⟨rfl, hx5⟩
        have hx05 := (hx03.trans hx4).trans hx5
        have hx35 := hx4.trans hx5
        have hR5 := hR4.ex hx5
        (repeat (first | refine lw_pure hT rfl ?_ | refine lw_nil ?_ | refine qw_then ?_))
        refine cw_cond rfl (fun h4 => ?_) (fun h4 => ?_)
        · have hc : issueC r b holder = 9 := by unfold issueC; rw [if_neg hgood, if_neg h3', if_pos h4]
          (repeat (first | refine lw_pure hT rfl ?_ | refine lw_nil ?_ | refine cw_seq ?_ | refine cw_region ?_ | refine qw_then ?_ | refine cw_ret ?_ | refine qw_then_ret ?_ | refine qw_block_ret ?_))
          exact qw_ret rfl ⟨by rw [hc]; rfl, refuse (by rw [hc]; decide) _ hx05⟩
        · have h4' : ¬ (b.boxes.any r.boxed) = true := by rw [h4]; decide
          have heslen : es.length = r.l.length := by rw [hpm.length_eq, mapOf_length hR.len]
          (repeat (first | refine cw_seq ?_ | refine cw_region ?_))
          refine lw_load hT rfl rfl (v := .pointer (some ⟨p, 0, none⟩)) ((hb33.ex hx35).cell 0) ?_
          (repeat (refine lw_pure hT rfl ?_))
          refine lw_load hT rfl rfl (v := .map (some m)) (hR5.blk.cell 1) ?_
          skip
          refine lw_maplen mp78 rfl (hmp.ex hx05) ?_
          rw [heslen]
          (repeat (first | refine lw_pure hT rfl ?_ | refine lw_nil ?_ | refine qw_then ?_))
          refine cw_cond rfl (fun h5 => ?_) (fun h5 => ?_)
          · have h5 : r.l.length = 256 := by simp at h5; omega
            have hc : issueC r b holder = 7 := by unfold issueC; rw [if_neg hgood, if_neg h3', if_neg h4', if_pos h5]
            (repeat (first | refine lw_pure hT rfl ?_ | refine lw_nil ?_ | refine cw_seq ?_ | refine cw_region ?_ | refine qw_then ?_ | refine cw_ret ?_ | refine qw_then_ret ?_ | refine qw_block_ret ?_))
            exact qw_ret rfl ⟨by rw [hc]; rfl, refuse (by rw [hc]; decide) _ hx05⟩
          · have h5 : ¬ r.l.length = 256 := by simp at h5; omega
            have hc : issueC r b holder = 0 := by unfold issueC; rw [if_neg hgood, if_neg h3', if_neg h4', if_neg h5]
            have hD : issueD r b holder = { r with l := r.l ++ [newEnt b holder] } := by unfold issueD; rw [if_pos hc]
            have hmay : mayB r.carrier b = true := by simpa using h1
            have hlen : b.boxes.length ≤ 64 ∧ b.parents.length ≤ 64 := by
              simp only [mayB, Bool.and_eq_true, decide_eq_true_eq] at hmay
              exact ⟨hmay.2.2.1.2.2, hmay.2.2.2.1⟩
            have hb45 := hb43.ex hx35
            (repeat (first | refine cw_seq ?_ | refine cw_region ?_ | refine qw_then ?_ | refine cw_skip ?_ | refine qw_block ?_))
            refine lw_load_agg hT rfl rfl rfl (vs := encB b vb vp) (hb45.rd 0 9) ?_
            skip
            refine lw_call hT rfl rfl (reg_own w5 (hB.ex hx05) (hP.ex hx05) (by omega) (by omega)) ?_
            rintro _ w6 ⟨ub, up, rfl, hub, hup, hx6⟩
            skip
            refine lw_build bt88 rfl ?_
            skip
            refine lw_box rfl ?_
            intro be w7 hbbe hbe hx7 hs7
            replace hbe : Blk w7 be (entCells (fresh b holder 0) ⟨be, ub, up, [.slice none 0 0, .slice none 0 0, .slice none 0 0]⟩) 88 := hbe
            have hl5 := hx05.size
            have hl6 := hx6.size
            (repeat (first | refine lw_pure hT rfl ?_ | refine lw_nil ?_ | refine cw_seq ?_ | refine cw_region ?_ | refine qw_then ?_ | refine cw_block ?_))
            refine cw_loop (fun i : Nat => [(2, .string holder), (3, .pointer (some ⟨b3, 0, none⟩)), (4, .pointer (some ⟨b4, 0, none⟩)), (9, .pointer (some ⟨be, 0, none⟩)), (49, .int .i64 (i : Nat))])
              (fun i w' => i ≤ 3 ∧ Ext (· = be) w7 w' ∧ Blk w' be (entCells (fresh b holder i) ⟨be, ub, up, [.slice none 0 0, .slice none 0 0, .slice none 0 0]⟩) 88) (fun i => 3 - i) 0 (by repeat (first | exact trivial | refine ⟨rfl, ?_⟩)) ⟨by omega, Ext.refl _ _, hbe⟩ ?_
            rintro i w8 ⟨hi, hx8, hb8⟩
            (repeat (first | refine lw_pure hT rfl ?_ | refine lw_nil ?_ | refine cw_seq ?_ | refine cw_region ?_ | refine qw_then ?_))
            refine cw_cond rfl (fun h => ?_) (fun h => ?_)
            · have hlt : i < 3 := by simp at h; omega
              (repeat (first | refine lw_pure hT rfl ?_ | refine lw_nil ?_ | refine cw_seq ?_ | refine cw_region ?_ | refine qw_then ?_ | refine cw_skip ?_ | refine cw_block ?_))
              refine lw_build bt85 rfl ?_
              (repeat (refine lw_pure hT rfl ?_))
              refine lw_index_arr hT rfl rfl rfl i rfl hlt ?_
              skip
              refine lw_store_agg hT rfl rfl rfl rfl (by intro v hv; simp at hv; rcases hv with rfl | rfl | rfl <;> rfl) hb8 (show 10 + i * 3 + 3 ≤ (entCells (fresh b holder i) _).length by rw [entCells_len (by simp [fresh]; omega) rfl]; omega) ?_
              intro w9 hb9 hx9 hs9
              replace hb9 : Blk w9 be (setMany (entCells (fresh b holder i) ⟨be, ub, up, [.slice none 0 0, .slice none 0 0, .slice none 0 0]⟩) (10 + i * 3) [.int .i64 0, .string holder, .slice none 0 0]) 88 := hb9
              rw [set_fresh hlt] at hb9
              (repeat (first | (refine lw_add rfl rfl ?_ ?_ ?_; iterate 2 omega) | refine lw_pure hT rfl ?_ | refine lw_nil ?_ | refine cw_region ?_ | refine qw_then ?_ | refine qw_block ?_))
              exact qw_round (i + 1) (by repeat (first | exact trivial | refine ⟨rfl, ?_⟩)) ⟨hlt, hx8.trans hx9, hb9⟩ (by omega)
            · have : i = 3 := by simp at h; omega
              subst this
              have hx08 : Ex w w8 := ((hx05.trans hx6).trans hx7).up_new hx8 (fun i hi => by omega)
              have hx38 : Ex w3 w8 := ((hx35.trans hx6).trans hx7).up_new hx8 (fun i hi => by have := hx35.size; omega)
              have hR8 := hR.ex hx08
              have hb38 := hb33.ex hx38
              have hb48 := hb43.ex hx38
              (repeat (first | refine cw_seq ?_ | refine qw_then ?_ | refine cw_exit ?_ | refine qw_block_exit ?_ | refine qw_then_exit ?_))
              refine cw_draw hM (fun w' => Ex w8 w') [7] rfl rfl (by repeat (first | with_reducible refine nop_then ?_ | with_reducible refine nop_block ?_ | with_reducible exact nop_body)) (fun w9 hx9 _ => ⟨hx9, ?_⟩)
              refine rw_take 0 rfl rfl (by kernel_rfl) (by kernel_rfl) (by kernel_rfl) (by kernel_rfl) rfl (yo_load hT rfl rfl (fun w' hS => Ex.cell hS (hb38.cell 0))) ?_
              (refine rw_takeP 1 rfl rfl (by kernel_rfl) (by kernel_rfl) (by kernel_rfl) (by kernel_rfl) rfl (yo_pure hT rfl) ?_; refine rw_takeP 2 rfl rfl (by kernel_rfl) (by kernel_rfl) (by kernel_rfl) (by kernel_rfl) rfl (yo_pure hT rfl) ?_)
              refine rw_take 3 rfl rfl (by kernel_rfl) (by kernel_rfl) (by kernel_rfl) (by kernel_rfl) rfl (yo_load hT rfl rfl (fun w' hS => Ex.cell hS (hR8.blk.cell 1))) ?_
              (refine rw_takeP 4 rfl rfl (by kernel_rfl) (by kernel_rfl) (by kernel_rfl) (by kernel_rfl) rfl (yo_pure hT rfl) ?_)
              refine rw_take 5 rfl rfl (by kernel_rfl) (by kernel_rfl) (by kernel_rfl) (by kernel_rfl) rfl (yo_load hT rfl rfl (fun w' hS => Ex.cell hS (hb48.cell 0))) ?_
              (refine rw_takeP 6 rfl rfl (by kernel_rfl) (by kernel_rfl) (by kernel_rfl) (by kernel_rfl) rfl (yo_pure hT rfl) ?_)
              refine rw_one 7 rfl (by kernel_rfl) rfl (fun hcl => ?_)
              skip
              have hnone : r.at? b.number = none := by cases h : r.at? b.number with
                | none => rfl
                | some x => rw [h] at h3; cases h3
              refine lw_mapUpdate mp78 rfl rfl rfl ((hmp.ex hx08).ex hx9) (by
                rw [hR.get hpm]
                rcases hR.at b.number with ⟨_, h2⟩ | ⟨i, x, g, hA⟩
                · exact h2
                · rw [hA.at_] at hnone; cases hnone) ?_
              intro w10 hm10 hx10 hs10
              (repeat (refine lw_nil ?_))
              refine qw_rw (by repeat (first | with_reducible refine nop_then ?_ | with_reducible refine nop_block ?_ | with_reducible exact nop_body)) hcl (fun h => absurd h (by decide)) ?_
              refine rw_done (by kernel_rfl) ?_
              (repeat (first | refine lw_pure hT rfl ?_ | refine lw_nil ?_ | refine cw_seq ?_ | refine cw_region ?_ | refine qw_then ?_ | refine cw_ret ?_))
              refine qw_ret rfl ⟨by rw [hc]; rfl, ?_⟩
              rw [hD]
              have hml := hmp.lt
              have hl9 := hx08.size
              have hx910 : Ext (fun k => k = m) w9 w10 := hx10
              have hub10 := own_ext (own_ex (own_ext (own_ex hub hx7) hx8 (fun k hk e => by have := own_base hub hk; omega)) hx9) hx910 (fun k hk e => by have := own_base hub hk; omega)
              have hup10 := own_ext (own_ex (own_ext (own_ex hup hx7) hx8 (fun k hk e => by have := own_base hup hk; omega)) hx9) hx910 (fun k hk e => by have := own_base hup hk; omega)
              have hb10 := (hb8.ex hx9).ext hx910 (by omega)
              have fpb : ∀ k ∈ (⟨be, ub, up, [.slice none 0 0, .slice none 0 0, .slice none 0 0]⟩ : GhostE).fp, k = be := by
                intro k hk
                rcases GhostE.fp_mem.1 hk with h | ⟨j, u, hu, hb⟩
                · exact h
                · exfalso
                  have : u = .slice none 0 0 := by
                    match j, hu with
                    | 0, hu => simpa using hu.symm
                    | 1, hu => simpa using hu.symm
                    | 2, hu => simpa using hu.symm
                    | _ + 3, hu => simp at hu
                  subst this; simp [Value.ownBlock] at hb
              have rdb : ∀ k ∈ (⟨be, ub, up, [.slice none 0 0, .slice none 0 0, .slice none 0 0]⟩ : GhostE).rd, w5.heap.size ≤ k ∧ k < be := by
                intro k hk
                rcases GhostE.rd_mem.1 hk with h | h
                · have := own_base hub h; omega
                · have := own_base hup h; omega
              have vcs0 : ∀ (j : Nat) (u : Value), ([.slice none 0 0, .slice none 0 0, .slice none 0 0] : List Value)[j]? = some u → u = .slice none 0 0 := by
                intro j u hu
                match j, hu with
                | 0, hu => simpa using hu.symm
                | 1, hu => simpa using hu.symm
                | 2, hu => simpa using hu.symm
                | _ + 3, hu => simp at hu
              have hE10 : EntOk w10 (newEnt b holder) ⟨be, ub, up, [.slice none 0 0, .slice none 0 0, .slice none 0 0]⟩ := by
                refine ⟨hb10, own_mono hub10 (Nat.zero_le _), own_mono hup10 (Nat.zero_le _), rfl, rfl, ?_⟩
                intro j q u hq hu
                have := vcs0 j u hu
                subst this
                have hq' : q.chain = [] := by
                  match j, hq with
                  | 0, hq => simp [newEnt] at hq; subst hq; rfl
                  | 1, hq => simp [newEnt] at hq; subst hq; rfl
                  | 2, hq => simp [newEnt] at hq; subst hq; rfl
                  | _ + 3, hq => simp [newEnt] at hq
                unfold ChainOk
                rw [hq']
                exact World.ownsRow_nil _ _ _ _
              have hx09 := hx08.trans hx9
              have hU := Rep.snoc (hR.ex hx09) hpm (x := newEnt b holder) (g := ⟨be, ub, up, [.slice none 0 0, .slice none 0 0, .slice none 0 0]⟩) hx910 hm10 hnone hE10 ⟨?_, ?_⟩ ?_ ?_ ?_
              refine ⟨⟨_, hU, foot_snoc (N := w.heap.size) (fun k hk => by have := fpb k hk; omega) (fun k hk => by have := rdb k hk; omega)⟩, ?_⟩
              · exact (Ext.of_ex hx09).trans' hx910 (fun _ _ h => h) (fun k _ h => foot_mem.2 (.inr (.inl h)))
              · intro j u hu e; have := vcs0 j u hu; subst this; simp [Value.ownBlock] at e
              · intro i j v u k _ hv _ hb; have := vcs0 i v hv; subst this; simp [Value.ownBlock] at hb
              · intro k hk
                right
                intro hf
                have := hR.foot_lt hf
                have := fpb k hk
                omega
              · intro k hk
                right
                intro hf
                have := hR.foot_lt hf
                have := rdb k hk
                omega
              · intro k hk hk'
                have := fpb k hk
                have := rdb k hk'
                omega
end
end Go.Proofs.YtfbjpfgglgffgaaGreat
