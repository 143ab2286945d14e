import Derived.Test.YtnglkhnfmbnfeaaGreatMCs2
set_option linter.unusedVariables false
set_option linter.unusedSimpArgs false
set_option linter.unusedSectionVars false
set_option linter.unnecessarySimpa false
namespace Go.Proofs.YtnglkhnfmbnfeaaGreat
open Go Go.SK
theorem upd_set {r : RegD} {gs : List GhostE} {n : ByteArray} {i : Nat} {x : EntD} {g : GhostE} (hA : At r gs n i x g) (hN : r.Nd) (f : EntD → EntD) : (r.upd n f).l = r.l.set i (f x) := by
  apply List.ext_getElem?
  intro j
  simp only [RegD.upd, List.getElem?_map, List.getElem?_set]
  by_cases e : i = j
  · subst e
    have hlt := (List.getElem?_eq_some_iff.1 hA.l).1
    have e : r.l[i] = x := by have := hA.l; rw [List.getElem?_eq_getElem hlt] at this; exact Option.some.inj this
    simp [hlt, hA.num, e]
  · rw [if_neg e]
    cases hj : r.l[j]? with
    | none => rfl
    | some y =>
      have : n ≠ y.bill.number := fun h => e (hN i j x y hA.l hj (hA.num ▸ h))
      simp [this]
theorem Rep.upd {F : Nat → Prop} {w w' : World} {p : Nat} {r : RegD} {m : Nat} {gs : List GhostE} (h : Rep w p r m gs) {i : Nat} {x x' : EntD} {g g' : GhostE} (hi : r.l[i]? = some x) (hg : gs[i]? = some g) (hx : Ext F w w')
    (hF : ∀ b, b < w.heap.size → F b → b ∈ g.fp) (hb : x'.bill.number = x.bill.number) (he : g'.e = g.e) (hrd : g'.rd = g.rd) (hE : EntOk w' x' g') (hfp : ∀ b ∈ g'.fp, b ∈ g.fp ∨ w.heap.size ≤ b) (hn : g'.Nd) :
    Rep w' p { r with l := r.l.set i x' } m (gs.set i g') := by
  have hF' : ∀ b, b < w.heap.size → b ∉ g.fp → ¬ F b := fun b hb hn hf => hn (hF b hb hf)
  have hil := (List.getElem?_eq_some_iff.1 hi).1
  have hgl := (List.getElem?_eq_some_iff.1 hg).1
  have hf := h.fpn i g hg
  have hmap : mapOf (r.l.set i x') (gs.set i g') = mapOf r.l gs := by
    apply List.ext_getElem?
    intro j
    by_cases e : i = j
    · subst e
      simp only [mapOf, List.getElem?_map]
      have e1 : ((r.l.set i x').zip (gs.set i g'))[i]? = some (x', g') := by rw [List.getElem?_zip_eq_some]; simp [hil, hgl]
      have e2 : (r.l.zip gs)[i]? = some (x, g) := by rw [List.getElem?_zip_eq_some]; exact ⟨hi, hg⟩
      rw [e1, e2]; simp [hb, he]
    · simp only [mapOf, List.getElem?_map]
      congr 1
      rw [Option.ext_iff]
      rintro ⟨y, k⟩
      rw [List.getElem?_zip_eq_some, List.getElem?_zip_eq_some]
      simp only [List.getElem?_set, if_neg e]
  have hset : ∀ {j : Nat} {k : GhostE}, (gs.set i g')[j]? = some k → (j = i ∧ k = g') ∨ (j ≠ i ∧ gs[j]? = some k) := by
    intro j k hk
    rw [List.getElem?_set] at hk
    by_cases e : i = j
    · subst e; rw [if_pos rfl, if_pos hgl] at hk; exact .inl ⟨rfl, (Option.some.inj hk).symm⟩
    · rw [if_neg e] at hk; exact .inr ⟨fun e' => e e'.symm, hk⟩
  have hold : ∀ {j : Nat} {k : GhostE}, gs[j]? = some k → ∀ b, b ∈ k.fp ∨ b ∈ k.rd → b < w.heap.size := fun hk b hb => h.foot_lt (foot_mem.2 (.inr (.inr ⟨_, _, hk, hb⟩)))
  have hpl := h.blk.lt
  obtain ⟨es, hmp, hpm⟩ := h.map
  have hml := hmp.lt
  have hnum : ∀ {j : Nat} {y : EntD}, (r.l.set i x')[j]? = some y → ∃ y0, r.l[j]? = some y0 ∧ y.bill.number = y0.bill.number := by
    intro j y hy
    rw [List.getElem?_set] at hy
    by_cases e : i = j
    · subst e; rw [if_pos rfl, if_pos hil] at hy; cases hy; exact ⟨x, hi, hb⟩
    · rw [if_neg e] at hy; exact ⟨y, hy, rfl⟩
  refine ⟨h.blk.ext hx (hF' p hpl hf.2.2.2.1), ?_, ?_, by simp [h.len], ?_, ?_, ?_, ?_, h.pm⟩
  · exact ⟨es, hmp.ext hx (hF' m hml hf.2.1), by rw [hmap]; exact hpm⟩
  · intro j j' y y' hy hy' he
    obtain ⟨y0, h1, h2⟩ := hnum hy
    obtain ⟨y1, h3, h4⟩ := hnum hy'
    exact h.nd j j' y0 y1 h1 h3 (by rw [← h2, ← h4, he])
  · intro j y k hy hk
    rcases hset hk with ⟨rfl, rfl⟩ | ⟨e, hk'⟩
    · simp only [List.getElem?_set, if_true, hil] at hy
      cases hy; exact hE
    · simp only [List.getElem?_set, if_neg (Ne.symm e)] at hy
      have hEj := h.ents j y k hy hk'
      refine hEj.ext hx (fun b hb => hF' b (hold hk' b (.inl hb)) (fun h' => h.disj i j g k (Ne.symm e) hg hk' b h' hb)) (fun b hb => hF' b (hold hk' b (.inr hb)) (fun h' => h.rdn i j g k hg hk' b h' hb))
  · intro j k hk
    rcases hset hk with ⟨rfl, rfl⟩ | ⟨e, hk'⟩
    · refine ⟨hn, fun hb => ?_, by rw [hrd]; exact hf.2.2.1, fun hb => ?_, by rw [hrd]; exact hf.2.2.2.2⟩
      · rcases hfp m hb with hb | hb
        · exact hf.2.1 hb
        · omega
      · rcases hfp p hb with hb | hb
        · exact hf.2.2.2.1 hb
        · omega
    · exact h.fpn j k hk'
  · intro j j' k k' hne hk hk' b hb hb'
    rcases hset hk with ⟨rfl, rfl⟩ | ⟨e, hk1⟩ <;> rcases hset hk' with ⟨rfl, rfl⟩ | ⟨e', hk2⟩
    · exact hne rfl
    · rcases hfp b hb with hb | hb
      · exact h.disj j j' g k' hne hg hk2 b hb hb'
      · have := hold hk2 b (.inl hb'); omega
    · rcases hfp b hb' with hb' | hb'
      · exact h.disj j' j g k (Ne.symm hne) hg hk1 b hb' hb
      · have := hold hk1 b (.inl hb); omega
    · exact h.disj j j' k k' hne hk1 hk2 b hb hb'
  · intro j j' k k' hk hk' b hb hb'
    have key : ∀ (j' : Nat) (k' : GhostE), gs[j']? = some k' → b ∈ k'.rd → False := by
      intro j' k' hk2 hb2
      rcases hset hk with ⟨rfl, rfl⟩ | ⟨e, hk1⟩
      · rcases hfp b hb with hb | hb
        · exact h.rdn j j' g k' hg hk2 b hb hb2
        · have := hold hk2 b (.inr hb2); omega
      · exact h.rdn j j' k k' hk1 hk2 b hb hb2
    rcases hset hk' with ⟨rfl, rfl⟩ | ⟨e', hk2⟩
    · rw [hrd] at hb'; exact key _ _ hg hb'
    · exact key _ _ hk2 hb'
theorem EntOk.same {w w' : World} {x x' : EntD} {g : GhostE} (h : EntOk w x g) (hx : Ext (· = g.e) w w') (hn : g.Nd) (hr : g.e ∉ g.rd) (hb : x'.bill = x.bill) (h3 : x'.ps.length = 3)
    (hc : ∀ (i : Nat) (q q' : PapD), x.ps[i]? = some q → x'.ps[i]? = some q' → q'.chain = q.chain) (hblk : Blk w' g.e (entCells x' g) 87) : EntOk w' x' g := by
  refine ⟨hblk, ?_, ?_, h3, h.three', ?_⟩
  · rw [hb]; exact own_ext h.boxesO hx (fun b hb e => hr (GhostE.rd_mem.2 (.inl (e ▸ hb))))
  · rw [hb]; exact own_ext h.parentsO hx (fun b hb e => hr (GhostE.rd_mem.2 (.inr (e ▸ hb))))
  · intro i q' vc h1 h2
    have hi : i < x.ps.length := by have := (List.getElem?_eq_some_iff.1 h1).1; rw [h3] at this; rw [h.three]; exact this
    have hq : x.ps[i]? = some x.ps[i] := List.getElem?_eq_getElem hi
    rw [hc i _ _ hq h1]
    refine own_ext (h.chains i _ vc hq h2) hx (fun b hb e => ?_)
    subst e
    exact hn.e i vc h2 hb
theorem foot_upd {p m : Nat} {gs : List GhostE} {i : Nat} {g g' : GhostE} {N : Nat} (hg : gs[i]? = some g) (hfp : ∀ b ∈ g'.fp, b ∈ g.fp ∨ N ≤ b) (hrd : g'.rd = g.rd) : ∀ b ∈ foot p m (gs.set i g'), b ∈ foot p m gs ∨ N ≤ b := by
  intro b hb
  have hgl := (List.getElem?_eq_some_iff.1 hg).1
  rcases foot_mem.1 hb with rfl | rfl | ⟨j, k, hk, hb⟩
  · exact .inl (foot_mem.2 (.inl rfl))
  · exact .inl (foot_mem.2 (.inr (.inl rfl)))
  · rw [List.getElem?_set] at hk
    by_cases e : i = j
    · subst e; rw [if_pos rfl, if_pos hgl] at hk; cases hk
      rcases hb with hb | hb
      · rcases hfp b hb with hb | hb
        · exact .inl (foot_mem.2 (.inr (.inr ⟨i, g, hg, .inl hb⟩)))
        · exact .inr hb
      · exact .inl (foot_mem.2 (.inr (.inr ⟨i, g, hg, .inr (hrd ▸ hb)⟩)))
    · rw [if_neg e] at hk
      exact .inl (foot_mem.2 (.inr (.inr ⟨j, k, hk, hb⟩)))
theorem Mut.same {w0 w w' w2 : World} {p : Nat} {r : RegD} {m : Nat} {gs : List GhostE} (hR0 : Rep w0 p r m gs) (hx0 : Ex w0 w) {n : ByteArray} {i : Nat} {x : EntD} {g : GhostE} (hA : At r gs n i x g) (hN : r.Nd) (f : EntD → EntD) (hx : Ext (· = g.e) w w') (hb : (f x).bill = x.bill) (h3 : (f x).ps.length = 3)
    (hc : ∀ (i : Nat) (q q' : PapD), x.ps[i]? = some q → (f x).ps[i]? = some q' → q'.chain = q.chain) (hblk : Blk w' g.e (entCells (f x) g) 87) (hx2 : Ex w' w2) : Mut w0 p m gs (r.upd n f) w2 := by
  have hR := hR0.ex hx0
  have hf := hR.fpn i g hA.gi
  have he : g.e ∈ g.fp := GhostE.fp_mem.2 (.inl rfl)
  have hE := (hR.ents i x g hA.l hA.gi).same hx hf.1 (fun h => hR.rdn i i g g hA.gi hA.gi _ he h) hb h3 hc hblk
  have hU := hR.upd hA.l hA.gi hx (fun b _ e => e ▸ he) (by rw [hb]) rfl rfl hE (fun b hb => .inl hb) hf.1
  have e : ({ r with l := r.l.set i (f x) } : RegD) = r.upd n f := by
    have := upd_set hA hN f
    unfold RegD.upd at *
    simp only at this
    rw [this]
  rw [e] at hU
  have hl := hx0.size
  refine ⟨⟨_, hU.ex hx2, fun b hb => (foot_upd (N := w0.heap.size) hA.gi (fun b hb => .inl hb) rfl b hb)⟩, ?_⟩
  refine ((Ext.of_ex hx0).trans' hx (G := (· = g.e)) (fun _ _ f => f) (fun b _ e => ?_)).up hx2
  exact foot_mem.2 (.inr (.inr ⟨i, g, hA.gi, .inl (e ▸ he)⟩))
theorem ask_ok {x : EntD} {a : AskD} (h : askE x a = 0) : ixs a.index ≠ [] ∧ x.state = 0 ∧ (∀ k ∈ ixs a.index, (papAt x k).state = a.state ∧ (papAt x k).holder = a.by_) ∧ (a.dated = true → dayB a.day = true ∧ ∀ k ∈ ixs a.index, untilD x.bill (papAt x k) ≤ a.day) ∧ (a.given = true → nameB a.to_ = true ∧ a.to_ ≠ a.by_) := by
  rw [askE_eq] at h
  cases h0 : asks x a 0 <;> cases h1 : asks x a 1 <;> cases h2 : asks x a 2 <;> cases h3 : asks x a 3 <;> cases h4 : asks x a 4 <;> simp [h0, h1, h2, h3, h4] at h
  simp only [asks, decide_eq_false_iff_not, Bool.or_eq_false_iff, List.any_eq_false, decide_eq_true_eq, Bool.and_eq_false_iff, Bool.not_eq_false', ne_eq, Decidable.not_not] at h0 h1 h2 h3 h4
  refine ⟨fun e => h0 (by rw [e]; rfl), h2.1, fun k hk => ⟨by simpa using h2.2 k hk, by simpa using h3 k hk⟩, fun hd => ⟨?_, fun k hk => ?_⟩, fun hg => ?_⟩
  · rcases h1.1 with h | h
    · rw [hd] at h; cases h
    · exact h
  · rcases h4 with h | h
    · rw [hd] at h; cases h
    · have := h k hk; simp at this; omega
  · rcases h1.2 with h | h
    · rw [hg] at h; cases h
    · exact ⟨by simpa using h.1, by simpa using h.2⟩
theorem ixs_one {index : Int} (h : ixs (oneI index) ≠ []) : ∃ k : Nat, k < 3 ∧ ixs (oneI index) = [k] ∧ ixs index = [k] := by
  unfold oneI at *
  by_cases e : index = -1
  · subst e; exact absurd rfl h
  · rw [if_neg e] at *
    unfold ixs at *
    rw [if_neg e] at *
    by_cases h0 : index = 0
    · subst h0; exact ⟨0, by omega, rfl, rfl⟩
    · by_cases h1 : index = 1
      · subst h1; exact ⟨1, by omega, rfl, rfl⟩
      · by_cases h2 : index = 2
        · subst h2; exact ⟨2, by omega, rfl, rfl⟩
        · simp [h0, h1, h2] at h
theorem set_state {x : EntD} {g : GhostE} (h1 : x.ps.length = 3) (h2 : g.vcs.length = 3) {k : Nat} (hk : k < 3) (s : Int) : (entCells x g).set (10 + k * 3) (.int .i64 s) = entCells { x with ps := onIx [k] (stateP s) x.ps } g := by
  obtain ⟨a, b, c, ha⟩ := three_cases h1
  obtain ⟨u, v, y, hu⟩ := three_cases h2
  unfold entCells
  rw [ha, hu]
  match k, hk with
  | 0, _ => rfl
  | 1, _ => rfl
  | 2, _ => rfl
theorem entCells_len {x : EntD} {g : GhostE} (h1 : x.ps.length = 3) (h2 : g.vcs.length = 3) : (entCells x g).length = 19 := by
  obtain ⟨a, b, c, ha⟩ := three_cases h1
  obtain ⟨u, v, y, hu⟩ := three_cases h2
  unfold entCells
  rw [ha, hu]; rfl
theorem onIx_len (l : List Nat) (f : PapD → PapD) (ps : List PapD) : (onIx l f ps).length = ps.length := by simp [onIx]
theorem onIx_get {l : List Nat} {f : PapD → PapD} {ps : List PapD} {i : Nat} {q : PapD} (h : ps[i]? = some q) : (onIx l f ps)[i]? = some (if l.contains i then f q else q) := by
  simp [onIx, h]
section
variable {w : World} {p : Nat} {r : RegD} {m : Nat} {gs : List GhostE}
theorem reg_one (i : Int) (w : World) : Ret Tryz.prog 125 [.int .i64 i] w fun v w' => v = .int .i64 (oneI i) ∧ w = w' := by
  refine ret_of Tryz.func125 Tryz.ntmps125 rfl rfl rfl ?_
  (repeat (first | refine lw_pure hT rfl ?_ | refine lw_nil ?_ | refine cw_seq ?_ | refine cw_region ?_ | refine qw_then ?_))
  refine cw_cond rfl (fun h => ?_) (fun h => ?_)
  · (repeat (first | refine lw_pure hT rfl ?_ | refine lw_nil ?_ | refine cw_seq ?_ | refine cw_region ?_ | refine qw_then ?_ | refine cw_ret ?_ | refine qw_then_ret ?_))
    refine qw_ret rfl ⟨?_, rfl⟩
    simp at h; simp [oneOr, oneI, h]
  · (repeat (first | refine lw_pure hT rfl ?_ | refine lw_nil ?_ | refine cw_seq ?_ | refine cw_region ?_ | refine qw_then ?_ | refine cw_ret ?_ | refine cw_skip ?_))
    refine qw_ret rfl ⟨?_, rfl⟩
    simp at h; simp [oneOr, oneI, h]
theorem row_at {w : World} {base e : Nat} {vl : Value} {g : Nat} {k : Nat} (h : w.ownsRow base e 1 vl 1 [ptrP g k]) : ∃ b cap, vl = .slice (some ⟨b, 0, none⟩) 1 cap ∧ w.cell? ⟨b, 0, none⟩ = some (ptrP g k) := by
  rcases h.2 with ⟨rfl, h0⟩ | ⟨b, cap, cur, rfl, h2, h3, h4, h5, h6, h7⟩
  · cases h0
  · refine ⟨b, cap, rfl, ?_⟩
    have := h.cells (g := b) rfl 0 (ptrP g k) rfl
    exact this
theorem state_mut {w0 w w' : World} (hR0 : Rep w0 p r m gs) (hx0 : Ex w0 w) {n : ByteArray} {i : Nat} {x : EntD} {g : GhostE} (hA : At r gs n i x g) (hN : r.Nd) {k : Nat} (hk : k < 3) (s : Int) (f : EntD → EntD) (hf : f x = { x with ps := onIx [k] (stateP s) x.ps })
    (hx : Ext (· = g.e) w w') (hblk : Blk w' g.e ((entCells x g).set (10 + k * 3) (.int .i64 s)) 87) : Mut w0 p m gs (r.upd n f) w' := by
  have hE := hR0.ents i x g hA.l hA.gi
  refine Mut.same hR0 hx0 hA hN f hx (by rw [hf]) (by rw [hf]; simp [onIx_len, hE.three]) ?_ ?_ (Ext.refl _ _)
  · intro j q q' h1 h2
    rw [hf] at h2
    simp only [onIx_get h1, Option.some.injEq] at h2
    subst h2; split <;> rfl
  · rw [hf, ← set_state hE.three hE.three' hk]; exact hblk
theorem reg_Lose (hR : Rep w p r m gs) (hN : r.Nd) (a : ActD) (hk : a.kind = 3) : Ret Tryz.prog 75 [.pointer (some ⟨p, 0, none⟩), .string a.bill, .int .i64 a.index, .string a.by_] w fun v w' =>
    v = .int .i64 (actC r a) ∧ Mut w p m gs (doA r a) w' := by
  have ha : a.ask = ⟨a.bill, a.by_, oneI a.index, 0, false, 0, ⟨#[]⟩, false⟩ := by simp [ActD.ask, hk]
  have hc : actC r a = askC r a.ask := by simp [actC, hk]
  refine ret_of Tryz.func75 Tryz.ntmps75 rfl rfl rfl ?_
  (repeat (first | refine lw_pure hT rfl ?_ | refine lw_nil ?_ | refine cw_seq ?_ | refine cw_region ?_ | refine qw_then ?_))
  refine lw_call hT rfl rfl (reg_one a.index w) ?_
  rintro _ _ ⟨rfl, rfl⟩
  skip
  refine lw_build bt136 rfl ?_
  skip
  refine lw_call hT rfl rfl (reg_find hR ⟨a.bill, a.by_, oneI a.index, 0, false, 0, ⟨#[]⟩, false⟩ (show (0 : Nat) ≤ maxLen by decide)) ?_
  rw [← ha]
  rintro v w1 ⟨hv, hx1⟩
  rcases hv with ⟨h0, rfl⟩ | ⟨i, x, g, vl, h0, h1, hA, rfl, hrow⟩
  · (repeat (first | refine lw_pure hT rfl ?_ | refine lw_nil ?_ | refine cw_seq ?_ | refine cw_region ?_ | refine qw_then ?_))
    refine cw_cond rfl (fun h => ?_) (fun h => ?_)
    · (repeat (first | refine lw_pure hT rfl ?_ | refine lw_nil ?_ | refine cw_seq ?_ | refine cw_region ?_ | refine qw_then ?_ | refine cw_ret ?_ | refine qw_then_ret ?_))
      refine qw_ret rfl ⟨by rw [hc]; rfl, ?_⟩
      have : doA r a = r := by simp [doA, hk, h0]
      rw [this]; exact Mut.of_ex hR hx1
    · simp at h; exact absurd h h0
  · obtain ⟨g1, g2, g3, g4, g5⟩ := ask_ok h1
    rw [ha] at g1 hA
    obtain ⟨k, hk3, e1, e2⟩ := ixs_one g1
    rw [ha] at hrow; simp only [e1] at hrow
    obtain ⟨b, cap, rfl, hcell⟩ := row_at hrow
    have hE := hR.ents i x g hA.l hA.gi
    (repeat (first | refine lw_pure hT rfl ?_ | refine lw_nil ?_ | refine cw_seq ?_ | refine cw_region ?_ | refine qw_then ?_))
    refine cw_cond_f rfl (by decide) ?_
    (repeat (first | refine lw_pure hT rfl ?_ | refine cw_seq ?_ | refine cw_region ?_ | refine qw_then ?_ | refine cw_skip ?_))
    refine lw_index hT rfl rfl rfl 0 rfl (show (0 : Nat) < 1 by decide) ?_
    skip
    refine lw_load hT rfl rfl (v := ptrP g.e k) hcell ?_
    unfold ptrP
    (repeat (refine lw_pure hT rfl ?_))
    refine lw_store (size := 1) hT rfl rfl rfl rfl (hE.blk.ex hx1) (show 10 + k * 3 + 0 < (entCells x g).length by rw [entCells_len hE.three hE.three']; omega) ?_
    intro w2 hb2 hx2 hs2
    (repeat (first | refine lw_pure hT rfl ?_ | refine lw_nil ?_ | refine cw_seq ?_ | refine cw_region ?_ | refine qw_then ?_ | refine cw_ret ?_))
    refine qw_ret rfl ⟨by rw [hc, h0]; rfl, ?_⟩
    have : doA r a = r.upd a.bill (·.after a) := by simp [doA, hk, h0]
    rw [this]
    exact state_mut hR hx1 hA hN hk3 3 (·.after a) (by simp [EntD.after, hk, e2]) hx2 hb2
theorem reg_Replace (hR : Rep w p r m gs) (hN : r.Nd) (a : ActD) (hk : a.kind = 4) : Ret Tryz.prog 76 [.pointer (some ⟨p, 0, none⟩), .string a.bill, .int .i64 a.index, .string a.by_, .int .i64 a.day] w fun v w' =>
    v = .int .i64 (actC r a) ∧ Mut w p m gs (doA r a) w' := by
  have ha : a.ask = ⟨a.bill, a.by_, oneI a.index, 3, true, a.day, ⟨#[]⟩, false⟩ := by simp [ActD.ask, hk]
  have hc : actC r a = askC r a.ask := by simp [actC, hk]
  refine ret_of Tryz.func76 Tryz.ntmps76 rfl rfl rfl ?_
  (repeat (first | refine lw_pure hT rfl ?_ | refine lw_nil ?_ | refine cw_seq ?_ | refine cw_region ?_ | refine qw_then ?_))
  refine lw_call hT rfl rfl (reg_one a.index w) ?_
  rintro _ _ ⟨rfl, rfl⟩
  (repeat (refine lw_pure hT rfl ?_))
  refine lw_build bt136 rfl ?_
  skip
  refine lw_call hT rfl rfl (reg_find hR ⟨a.bill, a.by_, oneI a.index, 3, true, a.day, ⟨#[]⟩, false⟩ (show (0 : Nat) ≤ maxLen by decide)) ?_
  rw [← ha]
  rintro v w1 ⟨hv, hx1⟩
  rcases hv with ⟨h0, rfl⟩ | ⟨i, x, g, vl, h0, h1, hA, rfl, hrow⟩
  · (repeat (first | refine lw_pure hT rfl ?_ | refine lw_nil ?_ | refine cw_seq ?_ | refine cw_region ?_ | refine qw_then ?_))
    refine cw_cond rfl (fun h => ?_) (fun h => ?_)
    · (repeat (first | refine lw_pure hT rfl ?_ | refine lw_nil ?_ | refine cw_seq ?_ | refine cw_region ?_ | refine qw_then ?_ | refine cw_ret ?_ | refine qw_then_ret ?_))
      refine qw_ret rfl ⟨by rw [hc]; rfl, ?_⟩
      have : doA r a = r := by simp [doA, hk, h0]
      rw [this]; exact Mut.of_ex hR hx1
    · simp at h; exact absurd h h0
  · obtain ⟨g1, g2, g3, g4, g5⟩ := ask_ok h1
    rw [ha] at g1 hA
    obtain ⟨k, hk3, e1, e2⟩ := ixs_one g1
    rw [ha] at hrow; simp only [e1] at hrow
    obtain ⟨b, cap, rfl, hcell⟩ := row_at hrow
    have hE := hR.ents i x g hA.l hA.gi
    (repeat (first | refine lw_pure hT rfl ?_ | refine lw_nil ?_ | refine cw_seq ?_ | refine cw_region ?_ | refine qw_then ?_))
    refine cw_cond_f rfl (by decide) ?_
    (repeat (first | refine lw_pure hT rfl ?_ | refine cw_seq ?_ | refine cw_region ?_ | refine qw_then ?_ | refine cw_skip ?_))
    refine lw_index hT rfl rfl rfl 0 rfl (show (0 : Nat) < 1 by decide) ?_
    skip
    refine lw_load hT rfl rfl (v := ptrP g.e k) hcell ?_
    unfold ptrP
    (repeat (refine lw_pure hT rfl ?_))
    refine lw_store (size := 1) hT rfl rfl rfl rfl (hE.blk.ex hx1) (show 10 + k * 3 + 0 < (entCells x g).length by rw [entCells_len hE.three hE.three']; omega) ?_
    intro w2 hb2 hx2 hs2
    (repeat (first | refine lw_pure hT rfl ?_ | refine lw_nil ?_ | refine cw_seq ?_ | refine cw_region ?_ | refine qw_then ?_ | refine cw_ret ?_))
    refine qw_ret rfl ⟨by rw [hc, h0]; rfl, ?_⟩
    have : doA r a = r.upd a.bill (·.after a) := by simp [doA, hk, h0]
    rw [this]
    exact state_mut hR hx1 hA hN hk3 0 (·.after a) (by simp [EntD.after, hk, e2]) hx2 hb2
end
end Go.Proofs.YtnglkhnfmbnfeaaGreat
namespace Go.Proofs.YtnglkhnfmbnfeaaGreat
open Go Go.SK
def ended (x : EntD) (s t : Int) (i : Nat) : EntD := { x with state := s, ps := (x.ps.take i).map (stateP t) ++ x.ps.drop i }
theorem set_9 (x : EntD) (g : GhostE) (s t : Int) : (entCells x g).set 9 (.int .i64 s) = entCells (ended x s t 0) g := by
  simp [ended, entCells, encB]
theorem set_ended {x : EntD} {g : GhostE} (h1 : x.ps.length = 3) (h2 : g.vcs.length = 3) {k : Nat} (hk : k < 3) (s t : Int) : (entCells (ended x s t k) g).set (10 + k * 3) (.int .i64 t) = entCells (ended x s t (k + 1)) g := by
  obtain ⟨a, b, c, ha⟩ := three_cases h1
  obtain ⟨u, v, y, hu⟩ := three_cases h2
  unfold entCells ended
  rw [ha, hu]
  match k, hk with
  | 0, _ => rfl
  | 1, _ => rfl
  | 2, _ => rfl
theorem ended_3 {x : EntD} (h1 : x.ps.length = 3) (s t : Int) : ended x s t 3 = { x with state := s, ps := x.ps.map (stateP t) } := by
  obtain ⟨a, b, c, ha⟩ := three_cases h1
  unfold ended; rw [ha]; rfl
theorem ended_len {x : EntD} (h1 : x.ps.length = 3) (s t : Int) (i : Nat) : (ended x s t i).ps.length = 3 := by
  simp [ended]; omega
theorem reg_end {w : World} {x : EntD} {g : GhostE} (h1 : x.ps.length = 3) (h2 : g.vcs.length = 3) (hb : Blk w g.e (entCells x g) 87) (s t : Int) : Ret Tryz.prog 126 [.pointer (some ⟨g.e, 0, none⟩), .int .i64 s, .int .i64 t] w fun _ w' =>
    Blk w' g.e (entCells { x with state := s, ps := x.ps.map (stateP t) } g) 87 ∧ Ext (· = g.e) w w' := by
  refine ret_of Tryz.func126 Tryz.ntmps126 rfl rfl rfl ?_
  (repeat (first | refine lw_pure hT rfl ?_ | refine cw_seq ?_ | refine cw_region ?_))
  refine lw_store (size := 1) hT rfl rfl rfl rfl hb (show 0 + 9 < (entCells x g).length by rw [entCells_len h1 h2]; omega) ?_
  intro w1 hb1 hx1 hs1
  replace hb1 : Blk w1 g.e ((entCells x g).set 9 (.int .i64 s)) 87 := hb1
  rw [set_9 x g s t] at hb1
  (repeat (first | refine lw_pure hT rfl ?_ | refine lw_nil ?_ | refine cw_seq ?_ | refine cw_region ?_ | refine qw_then ?_ | refine cw_block ?_))
  refine cw_loop (fun i : Nat => [(0, .pointer (some ⟨g.e, 0, none⟩)), (2, .int .i64 t), (11, .int .i64 (i : Nat))]) (fun i w' => Ext (· = g.e) w w' ∧ i ≤ 3 ∧ Blk w' g.e (entCells (ended x s t i) g) 87) (fun i => 3 - i) 0 (by repeat (first | exact trivial | refine ⟨rfl, ?_⟩)) ⟨hx1, by omega, hb1⟩ ?_
  rintro i w2 ⟨hx2, hi, hb2⟩
  (repeat (first | refine lw_pure hT rfl ?_ | refine lw_nil ?_ | refine cw_seq ?_ | refine cw_region ?_ | refine qw_then ?_))
  refine cw_cond rfl (fun h => ?_) (fun h => ?_)
  · have hlt : i < 3 := by simp at h; omega
    (repeat (first | refine lw_pure hT rfl ?_ | refine lw_nil ?_ | refine cw_seq ?_ | refine cw_region ?_ | refine qw_then ?_ | refine cw_skip ?_ | refine cw_block ?_))
    refine lw_index_arr hT rfl rfl rfl i rfl hlt ?_
    (repeat (refine lw_pure hT rfl ?_))
    refine lw_store (size := 1) hT rfl rfl rfl rfl hb2 (show 10 + i * 3 + 0 < (entCells (ended x s t i) g).length by rw [entCells_len (ended_len h1 s t i) h2]; omega) ?_
    intro w3 hb3 hx3 hs3
    replace hb3 : Blk w3 g.e ((entCells (ended x s t i) g).set (10 + i * 3) (.int .i64 t)) 87 := hb3
    rw [set_ended h1 h2 hlt] at hb3
    (repeat (first | (refine lw_add rfl rfl ?_ ?_ ?_; iterate 2 omega) | refine lw_pure hT rfl ?_ | refine lw_nil ?_ | refine cw_region ?_ | refine qw_then ?_ | refine qw_block ?_))
    exact qw_round (i + 1) (by repeat (first | exact trivial | refine ⟨rfl, ?_⟩)) ⟨hx2.trans hx3, by omega, hb3⟩ (by omega)
  · have : i = 3 := by simp at h; omega
    subst this
    rw [ended_3 h1] at hb2
    (repeat (first | refine cw_exit ?_ | refine qw_block_exit ?_ | refine qw_then_exit ?_))
    exact qw_end rfl ⟨hb2, hx2⟩
section
variable {w : World} {p : Nat} {r : RegD} {m : Nat} {gs : List GhostE}
theorem reg_Retire (hR : Rep w p r m gs) (hN : r.Nd) (a : ActD) (hk : a.kind = 5) : Ret Tryz.prog 77 [.pointer (some ⟨p, 0, none⟩), .string a.bill, .string a.by_, .int .i64 a.day] w fun v w' =>
    v = .int .i64 (actC r a) ∧ Mut w p m gs (doA r a) w' := by
  have ha : a.ask = ⟨a.bill, a.by_, -1, 0, true, a.day, ⟨#[]⟩, false⟩ := by simp [ActD.ask, hk]
  have hc : actC r a = askC r a.ask := by simp [actC, hk]
  refine ret_of Tryz.func77 Tryz.ntmps77 rfl rfl rfl ?_
  (repeat (first | refine lw_pure hT rfl ?_ | refine lw_nil ?_ | refine cw_seq ?_ | refine cw_region ?_ | refine qw_then ?_))
  refine lw_build bt136 rfl ?_
  skip
  refine lw_call hT rfl rfl (reg_find hR ⟨a.bill, a.by_, -1, 0, true, a.day, ⟨#[]⟩, false⟩ (show (0 : Nat) ≤ maxLen by decide)) ?_
  rw [← ha]
  rintro v w1 ⟨hv, hx1⟩
  rcases hv with ⟨h0, rfl⟩ | ⟨i, x, g, vl, h0, h1, hA, rfl, hrow⟩
  · (repeat (first | refine lw_pure hT rfl ?_ | refine lw_nil ?_ | refine cw_seq ?_ | refine cw_region ?_ | refine qw_then ?_))
    refine cw_cond rfl (fun h => ?_) (fun h => ?_)
    · (repeat (first | refine lw_pure hT rfl ?_ | refine lw_nil ?_ | refine cw_seq ?_ | refine cw_region ?_ | refine qw_then ?_ | refine cw_ret ?_ | refine qw_then_ret ?_))
      refine qw_ret rfl ⟨by rw [hc]; rfl, ?_⟩
      have : doA r a = r := by simp [doA, hk, h0]
      rw [this]; exact Mut.of_ex hR hx1
    · simp at h; exact absurd h h0
  · rw [ha] at hA
    have hE := hR.ents i x g hA.l hA.gi
    (repeat (first | refine lw_pure hT rfl ?_ | refine lw_nil ?_ | refine cw_seq ?_ | refine cw_region ?_ | refine qw_then ?_))
    refine cw_cond_f rfl (by decide) ?_
    (repeat (first | refine lw_pure hT rfl ?_ | refine cw_seq ?_ | refine cw_region ?_ | refine qw_then ?_ | refine cw_skip ?_))
    refine lw_call hT rfl rfl (reg_end hE.three hE.three' (hE.blk.ex hx1) 4 2) ?_
    rintro v w2 ⟨hb2, hx2⟩
    (repeat (first | refine lw_pure hT rfl ?_ | refine lw_nil ?_ | refine cw_seq ?_ | refine cw_region ?_ | refine qw_then ?_ | refine cw_ret ?_))
    refine qw_ret rfl ⟨by rw [hc, h0]; rfl, ?_⟩
    have : doA r a = r.upd a.bill (·.after a) := by simp [doA, hk, h0]
    rw [this]
    have ea : x.after a = { x with state := 4, ps := x.ps.map (stateP 2) } := by simp [EntD.after, hk]
    refine Mut.same hR hx1 hA hN (·.after a) hx2 (by simp only [ea]) (by simp only [ea]; simp [hE.three]) ?_ (by simp only [ea]; exact hb2) (Ext.refl _ _)
    intro j q q' k1 k2
    simp only [ea, List.getElem?_map, k1, Option.map_some, Option.some.injEq] at k2
    subst k2; rfl
theorem reg_Surrender (hR : Rep w p r m gs) (hN : r.Nd) (hsm : r.Small) (a : ActD) (hk : a.kind = 2) : Ret Tryz.prog 74 [.pointer (some ⟨p, 0, none⟩), .string a.bill, .int .i64 a.index, .string a.by_, .int .i64 a.day] w fun v w' =>
    (∃ u, v = .tuple #[u, .int .i64 (actC r a)] ∧ (actC r a ≠ 0 → u = .slice none 0 0) ∧ ∀ x, actC r a = 0 → r.at? a.bill = some x → w'.ownsRow w.heap.size 9 1 u x.bill.boxes.length (x.bill.boxes.map Value.string)) ∧ Mut w p m gs (doA r a) w' := by
  have ha : a.ask = ⟨a.bill, a.by_, oneI a.index, 0, true, a.day, ⟨#[]⟩, false⟩ := by simp [ActD.ask, hk]
  have hc : actC r a = askC r a.ask := by simp [actC, hk]
  refine ret_of Tryz.func74 Tryz.ntmps74 rfl rfl rfl ?_
  (repeat (first | refine lw_pure hT rfl ?_ | refine lw_nil ?_ | refine cw_seq ?_ | refine cw_region ?_ | refine qw_then ?_))
  refine lw_call hT rfl rfl (reg_one a.index w) ?_
  rintro _ _ ⟨rfl, rfl⟩
  (repeat (refine lw_pure hT rfl ?_))
  refine lw_build bt136 rfl ?_
  skip
  refine lw_call hT rfl rfl (reg_find hR ⟨a.bill, a.by_, oneI a.index, 0, true, a.day, ⟨#[]⟩, false⟩ (show (0 : Nat) ≤ maxLen by decide)) ?_
  rw [← ha]
  rintro v w1 ⟨hv, hx1⟩
  rcases hv with ⟨h0, rfl⟩ | ⟨i, x, g, vl, h0, h1, hA, rfl, hrow⟩
  · (repeat (first | refine lw_pure hT rfl ?_ | refine lw_nil ?_ | refine cw_seq ?_ | refine cw_region ?_ | refine qw_then ?_))
    refine cw_cond rfl (fun h => ?_) (fun h => ?_)
    · (repeat (first | refine lw_pure hT rfl ?_ | refine lw_nil ?_ | refine cw_seq ?_ | refine cw_region ?_ | refine qw_then ?_ | refine cw_ret ?_ | refine qw_then_ret ?_))
      refine qw_ret rfl ⟨⟨_, by rw [hc]; rfl, fun _ => rfl, fun y hy => by rw [hc] at hy; exact absurd hy h0⟩, ?_⟩
      have : doA r a = r := by simp [doA, hk, h0]
      rw [this]; exact Mut.of_ex hR hx1
    · simp at h; exact absurd h h0
  · obtain ⟨g1, g2, g3, g4, g5⟩ := ask_ok h1
    rw [ha] at g1 hA
    obtain ⟨k, hk3, e1, e2⟩ := ixs_one g1
    rw [ha] at hrow; simp only [e1] at hrow
    obtain ⟨b, cap, rfl, hcell⟩ := row_at hrow
    have hE := hR.ents i x g hA.l hA.gi
    have hf := hR.fpn i g hA.gi
    have he : g.e ∈ g.fp := GhostE.fp_mem.2 (.inl rfl)
    have heg : g.e < w.heap.size := hE.blk.lt
    have hbb : w.heap.size ≤ b := (own_base hrow rfl).1
    have hl1 := hx1.size
    (repeat (first | refine lw_pure hT rfl ?_ | refine lw_nil ?_ | refine cw_seq ?_ | refine cw_region ?_ | refine qw_then ?_))
    refine cw_cond_f rfl (by decide) ?_
    (repeat (first | refine lw_pure hT rfl ?_ | refine cw_seq ?_ | refine cw_region ?_ | refine qw_then ?_ | refine cw_skip ?_))
    refine lw_call hT rfl rfl (reg_end hE.three hE.three' (hE.blk.ex hx1) 1 2) ?_
    rintro v w2 ⟨hb2, hx2⟩
    (repeat (first | refine lw_pure hT rfl ?_ | refine lw_nil ?_ | refine cw_seq ?_ | refine cw_region ?_ | refine qw_then ?_))
    refine lw_index hT rfl rfl rfl 0 rfl (show (0 : Nat) < 1 by decide) ?_
    skip
    refine lw_load hT rfl rfl (v := ptrP g.e k) (hx2.cell hcell (by omega)) ?_
    unfold ptrP
    (repeat (refine lw_pure hT rfl ?_))
    have h3' : ({ x with state := 1, ps := x.ps.map (stateP 2) } : EntD).ps.length = 3 := by simp [hE.three]
    refine lw_store (size := 1) hT rfl rfl rfl rfl hb2 (show 10 + k * 3 + 0 < (entCells _ g).length by rw [entCells_len h3' hE.three']; omega) ?_
    intro w3 hb3 hx3 hs3
    replace hb3 : Blk w3 g.e ((entCells { x with state := 1, ps := x.ps.map (stateP 2) } g).set (10 + k * 3) (.int .i64 1)) 87 := hb3
    rw [set_state h3' hE.three' hk3] at hb3
    have hx13 : Ext (· = g.e) w1 w3 := hx2.trans hx3
    (repeat (first | refine lw_pure hT rfl ?_ | refine lw_nil ?_ | refine cw_seq ?_ | refine cw_region ?_ | refine qw_then ?_))
    have hbx := own_ext (own_ex hE.boxesO hx1) hx13 (fun b hb e => hR.rdn i i g g hA.gi hA.gi _ he (GhostE.rd_mem.2 (.inl (e ▸ hb))))
    refine lw_load hT rfl rfl (v := g.vb) (hb3.cell 5) ?_
    skip
    refine lw_call hT rfl rfl (clone_str w3 (sls_own (A := fun _ => True) hbx fun _ _ => trivial) (hsm x (List.mem_of_getElem? hA.l)).2.1) ?_
    rintro u w4 ⟨hu, hx4⟩
    (repeat (first | refine lw_pure hT rfl ?_ | refine lw_nil ?_ | refine qw_then ?_ | refine cw_ret ?_))
    have hl3 := hx13.size
    refine qw_ret rfl ⟨⟨u, by rw [hc, h0]; rfl, fun h => by rw [hc] at h; exact absurd h0 h, fun y _ hy => ?_⟩, ?_⟩
    · have := hA.at_; rw [hy] at this; cases this
      exact own_mono hu (by omega)
    · have : doA r a = r.upd a.bill (·.after a) := by simp [doA, hk, h0]
      rw [this]
      have ea : x.after a = { x with state := 1, ps := onIx [k] (stateP 1) (x.ps.map (stateP 2)) } := by simp [EntD.after, hk, e2]
      refine Mut.same hR hx1 hA hN (·.after a) hx13 (by simp only [ea]) (by simp only [ea]; simp [onIx_len, hE.three]) ?_ (by simp only [ea]; exact hb3) hx4
      intro j q q' k1 k2
      have k1' : (x.ps.map (stateP 2))[j]? = some (stateP 2 q) := by simp [k1]
      simp only [ea, onIx_get k1', Option.some.injEq] at k2
      subst k2; split <;> rfl
end
end Go.Proofs.YtnglkhnfmbnfeaaGreat
namespace Go.SK
open Go
attribute [local semireducible] CW LW QW Ret Kn
section
variable {P : Program} {n : Nat} {fr : Fr} {w : World} {Q : Exit → Act → World → Prop}
theorem cw_mono {c : Code} {Q' : Exit → Act → World → Prop} (h : CW P c Q n fr w) (hq : ∀ e a w, Q e a w → Q' e a w) : CW P c Q' n fr w := fun a hk b k cs =>
  let ⟨e, a', w', h1, h2⟩ := h a hk b k cs
  ⟨e, a', w', hq _ _ _ h1, h2⟩
theorem cw_label {l : Nat} (h : QW Q .normal n fr w) : CW P (.label l) Q n fr w := fun a hk => wp_label (h a hk)
theorem cw_goto {l : Nat} (h : QW Q (.goto l) n fr w) : CW P (.goto l) Q n fr w := fun a hk => wp_goto (h a hk)
theorem qw_jump_ret {l : Nat} {J : Act → World → Prop} (h : QW Q .ret n fr w) : QW (Exit.jump l J Q) .ret n fr w := h
theorem nop_jump {l : Nat} {J : Act → World → Prop} (h : NoP Q) : NoP (Exit.jump l J Q) := h
theorem qw_jump_go {α : Type} {l : Nat} {F : α → Fr} {I : α → World → Prop} {μ : α → Nat} {x : α} (y : α) (hs : subB (F y) fr) (hI : I y w) (hlt : μ y < μ x) :
    QW (Exit.jump l (fun a w2 => ∃ y, Kn n (F y) a ∧ I y w2 ∧ μ y < μ x) Q) (.goto l) n fr w := fun _ hk => ⟨rfl, y, hk.sub (sub_of hs), hI, hlt⟩
theorem cw_scope {α : Type} {c B : Code} (l : Nat) (F : α → Fr) (I : α → World → Prop) (μ : α → Nat) (hf : findLabel c l = some (.seq .skip B))
    (pass : ∀ x w', I x w' → CW P B (Exit.jump l (fun a w2 => ∃ y, Kn n (F y) a ∧ I y w2 ∧ μ y < μ x) Q) n (F x) w')
    (first : (∀ x fr' w', subB (F x) fr' → I x w' → CW P B (Exit.jump l (fun a w2 => ∃ y, Kn n (F y) a ∧ I y w2) Q) n fr' w') → CW P c (Exit.jump l (fun a w2 => ∃ y, Kn n (F y) a ∧ I y w2) Q) n fr w) :
    CW P (.scope c) Q n fr w := by
  have pass' : ∀ x w', I x w' → CW P (.seq .skip B) (Exit.jump l (fun a w2 => ∃ y, Kn n (F y) a ∧ I y w2 ∧ μ y < μ x) Q) n (F x) w' := fun x w' h => cw_seq (cw_skip (qw_then (pass x w' h)))
  have first' := first (fun x fr' w' hs hI => cw_sub hs (cw_mono (pass x w' hI) (fun e a w h => by
    cases e with
    | goto l' => obtain ⟨h1, y, h2, h3, _⟩ := h; exact ⟨h1, y, h2, h3⟩
    | _ => exact h)))
  intro a hk b k cs
  have hg : gotoIn l (.inScope c :: k) = some (.code (.seq .skip B) :: .inScope c :: k) := by simp [gotoIn, hf]
  have key : ∀ (m : Nat) (x : α) (a : Act) (w : World), μ x = m → Kn n (F x) a → I x w → ∃ e a' w', Q e a' w' ∧ Arrives P (lone (b.at a (.code (.seq .skip B) :: .inScope c :: k)) cs w) b k cs e a' w' := by
    intro m
    induction m using Nat.strongRecOn with
    | _ m ih =>
      intro x a w hm hk hI
      obtain ⟨e, a₁, w₁, hq, harr⟩ := pass' x w hI a hk b (.inScope c :: k) cs
      cases e with
      | normal => exact ⟨.normal, a₁, w₁, hq, Steps.trans harr (.one step_inScope)⟩
      | exit id => exact ⟨.exit id, a₁, w₁, hq, fun k' hk => harr k' (by simp [exitTo, hk])⟩
      | goto l' =>
        obtain ⟨rfl, y, hk1, hI1, hlt⟩ := hq
        obtain ⟨e₂, a₂, w₂, hq₂, harr₂⟩ := ih _ (by omega) y a₁ w₁ rfl hk1 hI1
        exact ⟨e₂, a₂, w₂, hq₂, .of_steps (harr _ hg) harr₂⟩
      | ret => exact ⟨_, a₁, w₁, hq, harr⟩
      | panic ch => exact ⟨_, a₁, w₁, hq, harr⟩
      | outgrown => exact ⟨_, a₁, w₁, hq, harr⟩
  obtain ⟨e, a₁, w₁, hq, harr⟩ := first' a hk b (.inScope c :: k) cs
  cases e with
  | normal => exact ⟨.normal, a₁, w₁, hq, .head step_scope (Steps.trans harr (.one step_inScope))⟩
  | exit id => exact ⟨.exit id, a₁, w₁, hq, fun k' hk => .head step_scope (harr k' (by simp [exitTo, hk]))⟩
  | goto l' =>
    obtain ⟨rfl, y, hk1, hI1⟩ := hq
    obtain ⟨e₂, a₂, w₂, hq₂, harr₂⟩ := key _ y a₁ w₁ rfl hk1 hI1
    exact ⟨e₂, a₂, w₂, hq₂, .of_steps (.head step_scope (harr _ hg)) harr₂⟩
  | ret => exact ⟨_, a₁, w₁, hq, .of_steps (.one step_scope) harr⟩
  | panic ch => exact ⟨_, a₁, w₁, hq, .of_steps (.one step_scope) harr⟩
  | outgrown => exact ⟨_, a₁, w₁, hq, .of_steps (.one step_scope) harr⟩
end
end Go.SK
namespace Go.Proofs.YtnglkhnfmbnfeaaGreat
open Go Go.SK
structure ChD where
  holder : ByteArray
  blank : Bool
  ended : Bool
  day : Int
def endB (x : EndD) : Bool :=
  nameB x.frm && (decide (0 ≤ x.day) && decide (x.day ≤ 1048576)) && (if x.kind = 0 ∨ x.kind = 2 then nameB x.to_ && decide (x.to_ ≠ x.frm) else decide (x.kind = 1) && decide (x.to_ = ⟨#[]⟩))
def wrongC (c : ChD) (x : EndD) : Int := if !endB x then 2 else if c.ended then 9 else if !c.blank && decide (x.frm ≠ c.holder) then 8 else if x.day < c.day then 6 else 0
def onC (x : EndD) : ChD := ⟨x.to_, decide (x.kind = 1), decide (x.kind = 2), x.day⟩
def zeroC : ChD := ⟨⟨#[]⟩, false, false, 0⟩
def goC (c : ChD) (at_ : Nat) : List EndD → ChD × Nat × Int
  | [] => (c, at_, 0)
  | x :: l => if wrongC c x ≠ 0 then (zeroC, at_, wrongC c x) else goC (onC x) (at_ + 1) l
def followC (first : ByteArray) (l : List EndD) : ChD × Nat × Int := if nameB first then goC ⟨first, false, false, 0⟩ 0 l else (zeroC, 0, 1)
def encC (c : ChD) : List Value := [.string c.holder, .bool c.blank, .bool c.ended, .int .i64 c.day]
structure EndD.Ok (x : EndD) : Prop where
  frm : x.frm.size ≤ maxLen
  to_ : x.to_.size ≤ maxLen
theorem end_right (x : EndD) (w : World) (hx : x.Ok) : Ret Tryz.prog 170 [.agg ⟨encE x⟩] w fun v w' => v = .bool (endB x) ∧ Ex w w' := by
  refine ret_of Tryz.func170 Tryz.ntmps170 rfl rfl rfl ?_
  (repeat (first | refine cw_seq ?_ | refine cw_region ?_))
  refine lw_box rfl ?_
  intro b w1 hbb hb hx1 hs1
  replace hb : Blk w1 b (encE x) 139 := hb
  (repeat (first | refine lw_pure hT rfl ?_ | refine lw_nil ?_ | refine cw_seq ?_ | refine cw_region ?_ | refine qw_then ?_))
  refine lw_load hT rfl rfl (v := .string x.frm) (hb.cell 0) ?_
  skip
  refine lw_call hT rfl rfl (mark_Name _ w1 hx.frm) ?_
  rintro _ _ ⟨rfl, rfl⟩
  (repeat (refine lw_pure hT rfl ?_))
  refine lw_guard rfl (fun h1 => ?_) (fun h1 => ?_)
  · (repeat (first | refine lw_pure hT rfl ?_ | refine lw_nil ?_ | refine cw_seq ?_ | refine cw_region ?_ | refine qw_then ?_ | refine cw_ret ?_ | refine qw_then_ret ?_ | (refine lw_goff_t rfl ?_ ?_; focus with_reducible (first | rfl | exact Bool.not_false | exact Bool.not_true)) | (refine cw_cond_t rfl ?_ ?_; focus with_reducible (first | rfl | exact Bool.not_false | exact Bool.not_true))))
    rw [Bool.not_eq_true'] at h1
    exact qw_ret rfl ⟨by simp [oneOr, endB, h1], hx1⟩
  · rw [Bool.not_eq_false'] at h1
    (repeat (first | refine lw_pure hT rfl ?_ | (refine lw_gon_f rfl ?_ ?_; focus with_reducible (first | rfl | exact Bool.not_false | exact Bool.not_true))))
    refine lw_load hT rfl rfl (v := .int .i64 x.day) (hb.cell 3) ?_
    (repeat (first | refine lw_pure hT rfl ?_ | (refine lw_gon_f rfl ?_ ?_; focus with_reducible (first | rfl | exact Bool.not_false | exact Bool.not_true))))
    refine lw_guard rfl (fun h2 => ?_) (fun h2 => ?_)
    · (repeat (first | refine lw_pure hT rfl ?_ | refine lw_nil ?_ | refine cw_seq ?_ | refine cw_region ?_ | refine qw_then ?_ | refine cw_ret ?_ | refine qw_then_ret ?_ | (refine lw_goff_t rfl ?_ ?_; focus with_reducible (first | rfl | exact Bool.not_false | exact Bool.not_true)) | (refine cw_cond_t rfl ?_ ?_; focus with_reducible (first | rfl | exact Bool.not_false | exact Bool.not_true))))
      refine qw_ret rfl ⟨?_, hx1⟩
      simp at h2
      have : ¬ 0 ≤ x.day := by omega
      simp [oneOr, endB, this]
    · (repeat (first | refine lw_pure hT rfl ?_ | (refine lw_gon_f rfl ?_ ?_; focus with_reducible (first | rfl | exact Bool.not_false | exact Bool.not_true))))
      refine lw_load hT rfl rfl (v := .int .i64 x.day) (hb.cell 3) ?_
      (repeat (first | refine lw_pure hT rfl ?_ | refine lw_nil ?_ | refine qw_then ?_ | (refine lw_gon_f rfl ?_ ?_; focus with_reducible (first | rfl | exact Bool.not_false | exact Bool.not_true))))
      refine cw_cond rfl (fun h3 => ?_) (fun h3 => ?_)
      · (repeat (first | refine lw_pure hT rfl ?_ | refine lw_nil ?_ | refine cw_seq ?_ | refine cw_region ?_ | refine qw_then ?_ | refine cw_ret ?_ | refine qw_then_ret ?_))
        refine qw_ret rfl ⟨?_, hx1⟩
        simp at h3
        have : ¬ x.day ≤ 1048576 := by omega
        simp [oneOr, endB, this]
      · have hd : (decide (0 ≤ x.day) && decide (x.day ≤ 1048576)) = true := by simp at h2 h3 ⊢; omega
        (repeat (first | refine lw_pure hT rfl ?_ | refine cw_seq ?_ | refine cw_region ?_ | refine qw_then ?_ | refine cw_skip ?_))
        refine lw_load hT rfl rfl (v := .int .i64 x.kind) (hb.cell 2) ?_
        have hfd : (nameB x.frm && (decide (0 ≤ x.day) && decide (x.day ≤ 1048576))) = true := by rw [h1, hd]; rfl
        have order : (x.kind = 0 ∨ x.kind = 2) → endB x = (nameB x.to_ && decide (x.to_ ≠ x.frm)) := fun h => by unfold endB; rw [hfd, if_pos h]; rfl
        have other : ¬ (x.kind = 0 ∨ x.kind = 2) → endB x = (decide (x.kind = 1) && decide (x.to_ = ⟨#[]⟩)) := fun h => by unfold endB; rw [hfd, if_neg h]; rfl
        (repeat (first | refine lw_pure hT rfl ?_ | refine lw_nil ?_ | refine cw_seq ?_ | refine cw_region ?_ | refine qw_then ?_ | refine cw_block ?_))
        refine cw_cond rfl (fun h40 => ?_) (fun h40 => ?_)
        · have h4 : x.kind = 0 ∨ x.kind = 2 := by simp at h40; exact .inl h40
          (repeat (first | refine qw_then ?_ | refine cw_skip ?_))
          refine cw_cond_t rfl h40 ?_
          (repeat (first | refine lw_pure hT rfl ?_ | refine cw_seq ?_ | refine cw_region ?_))
          refine lw_load hT rfl rfl (v := .string x.to_) (hb.cell 1) ?_
          skip
          refine lw_call hT rfl rfl (mark_Name _ w1 hx.to_) ?_
          rintro _ _ ⟨rfl, rfl⟩
          (repeat (refine lw_pure hT rfl ?_))
          refine lw_guard rfl (fun h5 => ?_) (fun h5 => ?_)
          · (repeat (first | refine lw_pure hT rfl ?_ | (refine lw_gon_t rfl ?_ ?_; focus with_reducible (first | rfl | exact Bool.not_false | exact Bool.not_true))))
            refine lw_load hT rfl rfl (v := .string x.to_) (hb.cell 1) ?_
            (repeat (first | refine lw_pure hT rfl ?_ | (refine lw_gon_t rfl ?_ ?_; focus with_reducible (first | rfl | exact Bool.not_false | exact Bool.not_true))))
            refine lw_load hT rfl rfl (v := .string x.frm) (hb.cell 0) ?_
            (repeat (first | refine lw_pure hT rfl ?_ | refine lw_nil ?_ | refine qw_then ?_ | refine cw_ret ?_ | refine qw_then_ret ?_ | (refine lw_gon_t rfl ?_ ?_; focus with_reducible (first | rfl | exact Bool.not_false | exact Bool.not_true)) | refine qw_block_ret ?_))
            exact qw_ret rfl ⟨by rw [order h4, h5]; rfl, hx1⟩
          · (repeat (first | refine lw_pure hT rfl ?_ | refine lw_nil ?_ | refine qw_then ?_ | refine cw_ret ?_ | refine qw_then_ret ?_ | (refine lw_goff_f rfl ?_ ?_; focus with_reducible (first | rfl | exact Bool.not_false | exact Bool.not_true)) | refine qw_block_ret ?_))
            exact qw_ret rfl ⟨by rw [order h4, h5]; rfl, hx1⟩
        · (repeat (first | refine lw_pure hT rfl ?_ | refine lw_nil ?_ | refine cw_region ?_ | refine qw_then ?_))
          refine cw_cond rfl (fun h4' => ?_) (fun h4' => ?_)
          · have h4 : x.kind = 0 ∨ x.kind = 2 := by simp at h4'; exact .inr h4'
            (repeat (first | refine lw_pure hT rfl ?_ | refine cw_seq ?_ | refine cw_region ?_))
            refine lw_load hT rfl rfl (v := .string x.to_) (hb.cell 1) ?_
            skip
            refine lw_call hT rfl rfl (mark_Name _ w1 hx.to_) ?_
            rintro _ _ ⟨rfl, rfl⟩
            (repeat (refine lw_pure hT rfl ?_))
            refine lw_guard rfl (fun h5 => ?_) (fun h5 => ?_)
            · (repeat (first | refine lw_pure hT rfl ?_ | (refine lw_gon_t rfl ?_ ?_; focus with_reducible (first | rfl | exact Bool.not_false | exact Bool.not_true))))
              refine lw_load hT rfl rfl (v := .string x.to_) (hb.cell 1) ?_
              (repeat (first | refine lw_pure hT rfl ?_ | (refine lw_gon_t rfl ?_ ?_; focus with_reducible (first | rfl | exact Bool.not_false | exact Bool.not_true))))
              refine lw_load hT rfl rfl (v := .string x.frm) (hb.cell 0) ?_
              (repeat (first | refine lw_pure hT rfl ?_ | refine lw_nil ?_ | refine qw_then ?_ | refine cw_ret ?_ | refine qw_then_ret ?_ | (refine lw_gon_t rfl ?_ ?_; focus with_reducible (first | rfl | exact Bool.not_false | exact Bool.not_true)) | refine qw_block_ret ?_))
              exact qw_ret rfl ⟨by rw [order h4, h5]; rfl, hx1⟩
            · (repeat (first | refine lw_pure hT rfl ?_ | refine lw_nil ?_ | refine qw_then ?_ | refine cw_ret ?_ | refine qw_then_ret ?_ | (refine lw_goff_f rfl ?_ ?_; focus with_reducible (first | rfl | exact Bool.not_false | exact Bool.not_true)) | refine qw_block_ret ?_))
              exact qw_ret rfl ⟨by rw [order h4, h5]; rfl, hx1⟩
          · have h4 : ¬ (x.kind = 0 ∨ x.kind = 2) := by simp at h40 h4'; omega
            (repeat (first | refine lw_pure hT rfl ?_ | refine lw_nil ?_ | refine cw_seq ?_ | refine cw_region ?_ | refine qw_then ?_))
            refine cw_cond rfl (fun h5 => ?_) (fun h5 => ?_)
            · (repeat (first | refine lw_pure hT rfl ?_ | refine cw_seq ?_ | refine cw_region ?_))
              refine lw_load hT rfl rfl (v := .string x.to_) (hb.cell 1) ?_
              (repeat (first | refine lw_pure hT rfl ?_ | refine lw_nil ?_ | refine qw_then ?_ | refine cw_ret ?_ | refine qw_then_ret ?_ | refine qw_block_ret ?_))
              exact qw_ret rfl ⟨by rw [other h4, h5]; rfl, hx1⟩
            · (repeat (first | refine lw_pure hT rfl ?_ | refine lw_nil ?_ | refine cw_seq ?_ | refine cw_region ?_ | refine qw_then ?_ | refine cw_ret ?_ | refine cw_skip ?_ | refine qw_block ?_))
              exact qw_ret rfl ⟨by rw [other h4, h5]; rfl, hx1⟩
theorem end_wrong (c : ChD) (x : EndD) (w : World) (hx : x.Ok) : Ret Tryz.prog 158 [.agg ⟨encC c⟩, .agg ⟨encE x⟩] w fun v w' => v = .int .i64 (wrongC c x) ∧ Ex w w' := by
  refine ret_of Tryz.func158 Tryz.ntmps158 rfl rfl rfl ?_
  (repeat (first | refine cw_seq ?_ | refine cw_region ?_))
  refine lw_box rfl ?_
  intro bc w1 hbc hb1 hx1 hs1
  replace hb1 : Blk w1 bc (encC c) 189 := hb1
  skip
  refine lw_box rfl ?_
  intro bx w2 hbx hb2 hx2 hs2
  replace hb2 : Blk w2 bx (encE x) 139 := hb2
  have hc2 := hb1.ex hx2
  (repeat (first | refine lw_pure hT rfl ?_ | refine lw_nil ?_ | refine cw_seq ?_ | refine cw_region ?_ | refine qw_then ?_ | refine cw_block ?_))
  refine lw_load_agg hT rfl rfl rfl (vs := encE x) (hb2.rd 0 4) ?_
  skip
  refine lw_call hT rfl rfl (end_right x w2 hx) ?_
  rintro _ w3 ⟨rfl, hx3⟩
  have hx13 := (hx1.trans hx2).trans hx3
  have hc3 := hc2.ex hx3
  have hb3 := hb2.ex hx3
  (repeat (first | refine lw_pure hT rfl ?_ | refine lw_nil ?_ | refine qw_then ?_))
  refine cw_cond rfl (fun h1 => ?_) (fun h1 => ?_)
  · (repeat (first | refine lw_pure hT rfl ?_ | refine lw_nil ?_ | refine cw_seq ?_ | refine cw_region ?_ | refine qw_then ?_ | refine cw_ret ?_ | refine qw_then_ret ?_ | refine qw_block_ret ?_))
    exact qw_ret rfl ⟨by simp only [wrongC, h1]; rfl, hx13⟩
  · (repeat (first | refine lw_pure hT rfl ?_ | refine cw_seq ?_ | refine cw_region ?_))
    refine lw_load hT rfl rfl (v := .bool c.ended) (hc3.cell 2) ?_
    (repeat (first | refine lw_pure hT rfl ?_ | refine lw_nil ?_ | refine qw_then ?_))
    refine cw_cond rfl (fun h2 => ?_) (fun h2 => ?_)
    · (repeat (first | refine lw_pure hT rfl ?_ | refine lw_nil ?_ | refine cw_seq ?_ | refine cw_region ?_ | refine qw_then ?_ | refine cw_ret ?_ | refine qw_then_ret ?_ | refine qw_block_ret ?_))
      exact qw_ret rfl ⟨by simp only [wrongC, h1, h2]; rfl, hx13⟩
    · (repeat (first | refine lw_pure hT rfl ?_ | refine cw_seq ?_ | refine cw_region ?_))
      refine lw_load hT rfl rfl (v := .bool c.blank) (hc3.cell 1) ?_
      (repeat (refine lw_pure hT rfl ?_))
      have last : ∀ (hh : (!c.blank && decide (x.frm ≠ c.holder)) = false), wrongC c x = if x.day < c.day then 6 else 0 := fun hh => by simp only [wrongC, h1, h2, hh]; rfl
      refine lw_guard rfl (fun h3 => ?_) (fun h3 => ?_)
      · (repeat (first | refine lw_pure hT rfl ?_ | (refine lw_gon_t rfl ?_ ?_; focus with_reducible (first | rfl | exact Bool.not_false | exact Bool.not_true))))
        refine lw_load hT rfl rfl (v := .string x.frm) (hb3.cell 0) ?_
        (repeat (first | refine lw_pure hT rfl ?_ | (refine lw_gon_t rfl ?_ ?_; focus with_reducible (first | rfl | exact Bool.not_false | exact Bool.not_true))))
        refine lw_load hT rfl rfl (v := .string c.holder) (hc3.cell 0) ?_
        (repeat (first | refine lw_pure hT rfl ?_ | refine lw_nil ?_ | refine qw_then ?_ | (refine lw_gon_t rfl ?_ ?_; focus with_reducible (first | rfl | exact Bool.not_false | exact Bool.not_true))))
        refine cw_cond rfl (fun h4 => ?_) (fun h4 => ?_)
        · (repeat (first | refine lw_pure hT rfl ?_ | refine lw_nil ?_ | refine cw_seq ?_ | refine cw_region ?_ | refine qw_then ?_ | refine cw_ret ?_ | refine qw_then_ret ?_ | refine qw_block_ret ?_))
          exact qw_ret rfl ⟨by simp only [wrongC, h1, h2, h3, h4]; rfl, hx13⟩
        · have l := last (by rw [h3, h4]; rfl)
          (repeat (first | refine lw_pure hT rfl ?_ | refine cw_seq ?_ | refine cw_region ?_))
          refine lw_load hT rfl rfl (v := .int .i64 x.day) (hb3.cell 3) ?_
          (repeat (refine lw_pure hT rfl ?_))
          refine lw_load hT rfl rfl (v := .int .i64 c.day) (hc3.cell 3) ?_
          (repeat (first | refine lw_pure hT rfl ?_ | refine lw_nil ?_ | refine qw_then ?_))
          refine cw_cond rfl (fun h5 => ?_) (fun h5 => ?_)
          · (repeat (first | refine lw_pure hT rfl ?_ | refine lw_nil ?_ | refine cw_seq ?_ | refine cw_region ?_ | refine qw_then ?_ | refine cw_ret ?_ | refine qw_then_ret ?_ | refine qw_block_ret ?_))
            exact qw_ret rfl ⟨by rw [l, if_pos (by simpa using h5)]; rfl, hx13⟩
          · (repeat (first | refine lw_pure hT rfl ?_ | refine lw_nil ?_ | refine cw_seq ?_ | refine cw_region ?_ | refine qw_then ?_ | refine cw_ret ?_ | refine cw_skip ?_ | refine qw_block ?_))
            exact qw_ret rfl ⟨by rw [l, if_neg (by simpa using h5)]; rfl, hx13⟩
      · have l := last (by rw [h3]; rfl)
        (repeat (first | refine lw_pure hT rfl ?_ | refine lw_nil ?_ | refine cw_seq ?_ | refine cw_region ?_ | refine qw_then ?_ | (refine lw_goff_f rfl ?_ ?_; focus with_reducible (first | rfl | exact Bool.not_false | exact Bool.not_true)) | (refine cw_cond_f rfl ?_ ?_; focus with_reducible (first | rfl | exact Bool.not_false | exact Bool.not_true))))
        refine lw_load hT rfl rfl (v := .int .i64 x.day) (hb3.cell 3) ?_
        (repeat (refine lw_pure hT rfl ?_))
        refine lw_load hT rfl rfl (v := .int .i64 c.day) (hc3.cell 3) ?_
        (repeat (first | refine lw_pure hT rfl ?_ | refine lw_nil ?_ | refine qw_then ?_))
        refine cw_cond rfl (fun h5 => ?_) (fun h5 => ?_)
        · (repeat (first | refine lw_pure hT rfl ?_ | refine lw_nil ?_ | refine cw_seq ?_ | refine cw_region ?_ | refine qw_then ?_ | refine cw_ret ?_ | refine qw_then_ret ?_ | refine qw_block_ret ?_))
          exact qw_ret rfl ⟨by rw [l, if_pos (by simpa using h5)]; rfl, hx13⟩
        · (repeat (first | refine lw_pure hT rfl ?_ | refine lw_nil ?_ | refine cw_seq ?_ | refine cw_region ?_ | refine qw_then ?_ | refine cw_ret ?_ | refine cw_skip ?_ | refine qw_block ?_))
          exact qw_ret rfl ⟨by rw [l, if_neg (by simpa using h5)]; rfl, hx13⟩
theorem end_on (x : EndD) (w : World) : Ret Tryz.prog 159 [.agg ⟨encE x⟩] w fun v w' => v = .agg ⟨encC (onC x)⟩ ∧ Ex w w' := by
  refine ret_of Tryz.func159 Tryz.ntmps159 rfl rfl rfl ?_
  (repeat (first | refine cw_seq ?_ | refine cw_region ?_))
  refine lw_box rfl ?_
  intro bx w1 hbx hb1 hx1 hs1
  replace hb1 : Blk w1 bx (encE x) 139 := hb1
  skip
  refine lw_alloc z189 ?_
  intro bc w2 hbc hb2 hx2 hs2
  have hb := hb1.ex hx2
  (repeat (first | refine lw_pure hT rfl ?_ | refine lw_nil ?_ | refine cw_seq ?_ | refine cw_region ?_ | refine qw_then ?_))
  refine lw_load hT rfl rfl (v := .string x.to_) (hb.cell 1) ?_
  (repeat (refine lw_pure hT rfl ?_))
  refine lw_load hT rfl rfl (v := .int .i64 x.kind) (hb.cell 2) ?_
  (repeat (refine lw_pure hT rfl ?_))
  refine lw_load hT rfl rfl (v := .int .i64 x.kind) (hb.cell 2) ?_
  (repeat (refine lw_pure hT rfl ?_))
  refine lw_load hT rfl rfl (v := .int .i64 x.day) (hb.cell 3) ?_
  skip
  refine lw_build bt189 rfl ?_
  skip
  refine lw_store_agg hT rfl rfl rfl rfl (by intro v hv; simp at hv; rcases hv with rfl | rfl | rfl | rfl <;> rfl) hb2 (show (4 : Nat) ≤ 4 by decide) ?_
  intro w3 hb3 hx3 hs3
  (repeat (first | refine lw_nil ?_ | refine qw_then ?_ | refine cw_ret ?_))
  exact qw_ret_cell hT rfl rfl rfl rfl (vs := encC (onC x)) (hb3.rd 0 4) rfl ⟨rfl, (hx1.trans hx2).up_new hx3 (fun i hi => by omega)⟩
end Go.Proofs.YtnglkhnfmbnfeaaGreat
namespace Go.Proofs.YtnglkhnfmbnfeaaGreat
open Go Go.SK
theorem goC_step {c : ChD} {l : List EndD} {i : Nat} (hi : i < l.length) : goC c i (l.drop i) = if wrongC c l[i] ≠ 0 then (zeroC, i, wrongC c l[i]) else goC (onC l[i]) (i + 1) (l.drop (i + 1)) := by
  rw [List.drop_eq_getElem_cons hi]; rfl
def follV (x : ChD × Nat × Int) : Value := .tuple #[.agg ⟨encC x.1⟩, .int .i64 (x.2.1 : Nat), .int .i64 x.2.2]
theorem end_follow {A : Nat → Prop} {v : Value} {l : List EndD} (first : ByteArray) (w : World) (hS : SlE A w v l) (hf : first.size ≤ maxLen) (hl : ∀ x ∈ l, x.Ok) : Ret Tryz.prog 142 [.string first, v] w fun u w' => u = follV (followC first l) ∧ Ex w w' := by
  have hm := hS.small
  obtain ⟨a, cap, rfl, hz, hr⟩ := hS.is
  simp only [List.length_map] at *
  unfold maxLen at hm
  refine ret_of Tryz.func142 Tryz.ntmps142 rfl rfl rfl ?_
  (repeat (first | refine cw_seq ?_ | refine cw_region ?_))
  refine lw_alloc z189 ?_
  intro b4 w0 hbb4 hb40 hx0 hs0
  replace hb40 : Blk w0 b4 (encC zeroC) 189 := hb40
  (repeat (first | refine lw_pure hT rfl ?_ | refine lw_nil ?_ | refine qw_then ?_))
  refine cw_scope (α := Nat × ChD × Nat) 0 (fun s => [(1, .slice a l.length cap), (4, .pointer (some ⟨b4, 0, none⟩)), (7, .pointer (some ⟨s.2.2, 0, none⟩)), (8, .int .i64 (s.1 : Nat))])
    (fun s w' => nameB first = true ∧ Ex w w' ∧ Blk w' s.2.2 (encC s.2.1) 189 ∧ Blk w' b4 (encC zeroC) 189 ∧ w.heap.size < s.2.2 ∧ s.1 ≤ l.length ∧ goC s.2.1 s.1 (l.drop s.1) = goC ⟨first, false, false, 0⟩ 0 l) (fun s => l.length - s.1) rfl ?_ ?_
  · rintro ⟨i, c, b7⟩ w1 ⟨hn, hx1, hb7, hb4, hl7, hi, hgo⟩
    dsimp only at hb7 hb4 hl7 hi hgo
    have fl : followC first l = goC ⟨first, false, false, 0⟩ 0 l := by unfold followC; rw [if_pos hn]
    have hl1 := hx1.size
    (repeat (first | refine lw_pure hT rfl ?_ | refine lw_nil ?_ | refine cw_seq ?_ | refine cw_region ?_ | refine qw_then ?_))
    refine cw_cond rfl (fun h => ?_) (fun h => ?_)
    · have : i = l.length := by simp at h; omega
      subst this
      (repeat (first | refine cw_seq ?_ | refine cw_region ?_))
      refine lw_load_agg hT rfl rfl rfl (vs := encC c) (hb7.rd 0 4) ?_
      (repeat (refine lw_pure hT rfl ?_))
      refine lw_store_agg hT rfl rfl rfl rfl (by intro v hv; simp [encC] at hv; rcases hv with rfl | rfl | rfl | rfl <;> rfl) hb4 (show (4 : Nat) ≤ 4 by decide) ?_
      intro w2 hb4' hx2 hs2
      (repeat (first | refine lw_pure hT rfl ?_ | refine lw_nil ?_ | refine qw_then ?_ | refine cw_ret ?_ | refine qw_then_ret ?_))
      refine qw_jump_ret ?_
      refine qw_ret_cell hT rfl rfl rfl rfl (vs := encC c) (hb4'.rd 0 4) rfl ⟨?_, hx1.up_new hx2 (fun i hi => by omega)⟩
      rw [fl, ← hgo, List.drop_length]; rfl
    · have hlt : i < l.length := by simp at h; omega
      have hx := hl _ (List.getElem_mem hlt)
      have hgo' := hgo
      rw [goC_step hlt] at hgo'
      have hne' : l.map encE ≠ [] := by intro e; simp at e; subst e; simp at hlt
      obtain ⟨b, o, rfl, hA, hrd⟩ := hr hne'
      obtain ⟨hlen, hrd⟩ := hrd i (encE l[i]) (by simp [hlt])
      (repeat (first | refine cw_seq ?_ | refine qw_then ?_ | refine cw_skip ?_))
      refine cw_draw hM (fun w' => Ex w1 w') [] rfl rfl (by repeat (first | exact nop_body | refine nop_then ?_ | refine nop_block ?_ | refine nop_jump ?_)) (fun w2 hx2 _ => ⟨hx2, ?_⟩)
      refine rw_take 0 rfl rfl (by kernel_rfl) (by kernel_rfl) (by kernel_rfl) (by kernel_rfl) rfl (yo_load_agg hT rfl rfl rfl (vs := encC c) (fun w' hS => (hb7.ex hS).rd 0 4)) ?_
      (refine rw_takeP 1 rfl rfl (by kernel_rfl) (by kernel_rfl) (by kernel_rfl) (by kernel_rfl) rfl (yo_pure hT rfl) ?_; refine rw_takeP 2 rfl rfl (by kernel_rfl) (by kernel_rfl) (by kernel_rfl) (by kernel_rfl) rfl (yo_pure hT rfl) ?_)
      refine rw_takeP 3 rfl rfl (by kernel_rfl) (by kernel_rfl) (by kernel_rfl) (by kernel_rfl) rfl (yo_index hT rfl rfl rfl i rfl hlt) ?_
      refine rw_take 4 rfl rfl (by kernel_rfl) (by kernel_rfl) (by kernel_rfl) (by kernel_rfl) rfl (yo_load_agg hT rfl rfl rfl (vs := encE l[i]) (fun w' hS => (hrd.ex hx1).ex hS)) ?_
      refine rw_one 5 rfl (by kernel_rfl) rfl (fun hcl => ?_)
      skip
      refine lw_call hT rfl rfl (end_wrong c l[i] w2 hx) ?_
      rintro _ w3 ⟨rfl, hx3⟩
      have hx13 := hx2.trans hx3
      (repeat (refine lw_nil ?_))
      refine qw_rw (by repeat (first | exact nop_body | refine nop_then ?_ | refine nop_block ?_ | refine nop_jump ?_)) hcl (fun _ => hx13) ?_
      (refine rw_takeP 6 rfl rfl (by kernel_rfl) (by kernel_rfl) (by kernel_rfl) (by kernel_rfl) rfl (yo_pure hT rfl) ?_)
      refine rw_done (by kernel_rfl) ?_
      (repeat (first | refine lw_pure hT rfl ?_ | refine lw_nil ?_ | refine cw_seq ?_ | refine cw_region ?_ | refine qw_then ?_))
      refine cw_cond rfl (fun h' => ?_) (fun h' => ?_)
      · have h' : wrongC c l[i] ≠ 0 := by simpa using h'
        (repeat (first | refine cw_seq ?_ | refine cw_region ?_))
        refine lw_build bt189 rfl ?_
        (repeat (refine lw_pure hT rfl ?_))
        refine lw_store_agg hT rfl rfl rfl rfl (by intro v hv; simp at hv; rcases hv with rfl | rfl | rfl <;> rfl) (hb4.ex hx13) (show (4 : Nat) ≤ 4 by decide) ?_
        intro w4 hb4' hx4 hs4
        (repeat (first | refine lw_pure hT rfl ?_ | refine lw_nil ?_ | refine qw_then ?_ | refine cw_ret ?_ | refine qw_then_ret ?_))
        refine qw_jump_ret ?_
        refine qw_ret_cell hT rfl rfl rfl rfl (vs := encC zeroC) (hb4'.rd 0 4) rfl ⟨?_, (hx1.trans hx13).up_new hx4 (fun i hi => by omega)⟩
        rw [fl, ← hgo', if_pos h']; rfl
      · have h' : wrongC c l[i] = 0 := by simpa using h'
        rw [if_neg (by simpa using h')] at hgo'
        (repeat (first | refine lw_pure hT rfl ?_ | refine cw_seq ?_ | refine cw_region ?_ | refine qw_then ?_ | refine cw_skip ?_))
        refine lw_index hT rfl rfl rfl i rfl hlt ?_
        skip
        refine lw_load_agg hT rfl rfl rfl (vs := encE l[i]) ((hrd.ex hx1).ex hx13) ?_
        skip
        refine lw_call hT rfl rfl (end_on l[i] w3) ?_
        rintro _ w4 ⟨rfl, hx4⟩
        have hx14 := hx13.trans hx4
        skip
        refine lw_store_agg hT rfl rfl rfl rfl (by intro v hv; simp [encC] at hv; rcases hv with rfl | rfl | rfl | rfl <;> rfl) (hb7.ex hx14) (show (4 : Nat) ≤ 4 by decide) ?_
        intro w5 hb5 hx5 hs5
        (repeat (first | (refine lw_add rfl rfl ?_ ?_ ?_; iterate 2 omega) | refine lw_pure hT rfl ?_ | refine lw_nil ?_ | refine cw_seq ?_ | refine cw_region ?_ | refine qw_then ?_))
        refine cw_goto ?_
        refine qw_jump_go (i + 1, onC l[i], b7) (by repeat (first | exact trivial | refine ⟨rfl, ?_⟩)) ⟨hn, (hx1.trans hx14).up_new hx5 (fun i hi => by have : i = b7 := hi; omega), hb5, (hb4.ex hx14).ext hx5 (by show b4 ≠ b7; omega), hl7, hlt, hgo'⟩ (by simp; omega)
  · intro go
    (repeat (first | refine lw_pure hT rfl ?_ | refine cw_seq ?_ | refine cw_region ?_))
    refine lw_build bt189 rfl ?_
    skip
    refine lw_alloc z189 ?_
    intro b7 w1 hbb7 hb7 hx1 hs1
    skip
    refine lw_store_agg hT rfl rfl rfl rfl (by intro v hv; simp at hv; rcases hv with rfl | rfl | rfl <;> rfl) hb7 (show (4 : Nat) ≤ 4 by decide) ?_
    intro w2 hb7' hx2 hs2
    replace hb7' : Blk w2 b7 (encC ⟨first, false, false, 0⟩) 189 := hb7'
    (repeat (first | refine lw_pure hT rfl ?_ | refine lw_nil ?_ | refine cw_seq ?_ | refine cw_region ?_ | refine qw_then ?_))
    have hx02 : Ex w w2 := (hx0.trans hx1).up_new hx2 (fun i hi => by omega)
    refine lw_call hT rfl rfl (mark_Name first w2 hf) ?_
    rintro _ _ ⟨rfl, rfl⟩
    have hb4 := (hb40.ex hx1).ext hx2 (by omega)
    (repeat (first | refine lw_pure hT rfl ?_ | refine lw_nil ?_ | refine qw_then ?_))
    refine cw_cond rfl (fun h => ?_) (fun h => ?_)
    · rw [Bool.not_eq_true'] at h
      (repeat (first | refine cw_seq ?_ | refine cw_region ?_))
      refine lw_build bt189 rfl ?_
      skip
      refine lw_store_agg hT rfl rfl rfl rfl (by intro v hv; simp at hv; rcases hv with rfl | rfl | rfl <;> rfl) hb4 (show (4 : Nat) ≤ 4 by decide) ?_
      intro w4 hb4' hx4 hs4
      (repeat (first | refine lw_pure hT rfl ?_ | refine lw_nil ?_ | refine qw_then ?_ | refine cw_ret ?_ | refine qw_then_ret ?_))
      refine qw_jump_ret ?_
      refine qw_ret_cell hT rfl rfl rfl rfl (vs := encC zeroC) (hb4'.rd 0 4) rfl ⟨?_, hx02.up_new hx4 (fun i hi => by omega)⟩
      unfold followC; rw [h]; rfl
    · rw [Bool.not_eq_false'] at h
      (repeat (first | refine cw_seq ?_ | refine qw_then ?_ | refine cw_skip ?_))
      refine cw_label ?_
      refine qw_then ?_
      exact go (0, ⟨first, false, false, 0⟩, b7) _ _ (by repeat (first | exact trivial | refine ⟨rfl, ?_⟩)) ⟨h, hx02, hb7', hb4, by simp; omega, Nat.zero_le _, rfl⟩
theorem end_Check {A : Nat → Prop} {v : Value} {l : List EndD} (first : ByteArray) (w : World) (hS : SlE A w v l) (hf : first.size ≤ maxLen) (hl : ∀ x ∈ l, x.Ok) : Ret Tryz.prog 122 [.string first, v] w fun u w' =>
    u = .tuple #[.string (followC first l).1.holder, .int .i64 ((followC first l).2.1 : Nat), .int .i64 (followC first l).2.2] ∧ Ex w w' := by
  refine ret_of Tryz.func122 Tryz.ntmps122 rfl rfl rfl ?_
  (repeat (first | refine lw_pure hT rfl ?_ | refine lw_nil ?_ | refine cw_seq ?_ | refine cw_region ?_ | refine qw_then ?_))
  refine lw_call hT rfl rfl (end_follow first w hS hf hl) ?_
  rintro _ w1 ⟨rfl, hx1⟩
  unfold follV
  (repeat (refine lw_pure hT rfl ?_))
  refine lw_alloc z189 ?_
  intro b w2 hbb hb hx2 hs2
  skip
  refine lw_store_agg hT rfl rfl rfl rfl (by intro v hv; simp [encC] at hv; rcases hv with rfl | rfl | rfl | rfl <;> rfl) hb (show (4 : Nat) ≤ 4 by decide) ?_
  intro w3 hb3 hx3 hs3
  have hl1 := hx1.size
  (repeat (first | refine lw_pure hT rfl ?_ | refine lw_nil ?_ | refine cw_seq ?_ | refine cw_region ?_ | refine qw_then ?_))
  refine lw_load hT rfl rfl (v := .string (followC first l).1.holder) (hb3.cell 0) ?_
  (repeat (first | refine lw_pure hT rfl ?_ | refine lw_nil ?_ | refine qw_then ?_ | refine cw_ret ?_))
  exact qw_ret rfl ⟨rfl, (hx1.trans hx2).up_new hx3 (fun i hi => by omega)⟩
theorem end_Holder {A : Nat → Prop} {v : Value} {l : List EndD} (first : ByteArray) (w : World) (hS : SlE A w v l) (hf : first.size ≤ maxLen) (hl : ∀ x ∈ l, x.Ok) : Ret Tryz.prog 71 [.string first, v] w fun u w' => u = .string (followC first l).1.holder ∧ Ex w w' := by
  refine ret_of Tryz.func71 Tryz.ntmps71 rfl rfl rfl ?_
  (repeat (first | refine lw_pure hT rfl ?_ | refine lw_nil ?_ | refine cw_seq ?_ | refine cw_region ?_ | refine qw_then ?_))
  refine lw_call hT rfl rfl (end_Check first w hS hf hl) ?_
  rintro _ w1 ⟨rfl, hx1⟩
  (repeat (first | refine lw_pure hT rfl ?_ | refine lw_nil ?_ | refine cw_seq ?_ | refine cw_region ?_ | refine qw_then ?_ | refine cw_ret ?_))
  exact qw_ret rfl ⟨rfl, hx1⟩
end Go.Proofs.YtnglkhnfmbnfeaaGreat
namespace Go.Proofs.YtnglkhnfmbnfeaaGreat
open Go Go.SK
theorem goC_snoc {x : EndD} : ∀ {l : List EndD} {c c' : ChD} {i i' : Nat}, goC c i l = (c', i', 0) → wrongC c' x = 0 → goC c i (l ++ [x]) = (onC x, i' + 1, 0)
  | [], c, c', i, i', h, hx => by
    simp only [goC, Prod.mk.injEq] at h
    obtain ⟨rfl, rfl, _⟩ := h
    simp [goC, hx]
  | y :: l, c, c', i, i', h, hx => by
    simp only [goC, List.cons_append] at h ⊢
    by_cases e : wrongC c y ≠ 0
    · rw [if_pos e] at h
      simp only [Prod.mk.injEq] at h
      exact absurd h.2.2 e
    · rw [if_neg e] at h ⊢
      exact goC_snoc h hx
def firstOf (q : PapD) : ByteArray := match q.chain with
  | [] => q.holder
  | x :: _ => x.frm
def lastOf (q : PapD) : Int := match q.chain.getLast? with
  | some x => x.day
  | none => 0
structure PapInv (q : PapD) : Prop where
  name : nameB q.holder = true
  size : q.holder.size ≤ maxLen
  ok : ∀ x ∈ q.chain, x.Ok
  go : goC ⟨firstOf q, false, false, 0⟩ 0 q.chain = (⟨q.holder, false, false, lastOf q⟩, q.chain.length, 0)
  fname : nameB (firstOf q) = true
  fsize : (firstOf q).size ≤ maxLen
def newE (by_ to_ : ByteArray) (day : Int) : EndD := ⟨by_, to_, 0, day⟩
theorem endorse_inv {q : PapD} {b : BillD} {by_ to_ : ByteArray} {day : Int} (h : PapInv q) (hb : by_ = q.holder) (hn : nameB to_ = true) (hne : to_ ≠ by_) (hd : dayB day = true) (hu : untilD b q ≤ day) (hs : to_.size ≤ maxLen) :
    PapInv (endorseP by_ to_ day q) ∧ firstOf (endorseP by_ to_ day q) = firstOf q := by
  subst hb
  have hd' : 0 ≤ day ∧ day ≤ 1048576 := by simpa [dayB] using hd
  have hlast : lastOf q ≤ day := by
    unfold lastOf
    unfold untilD at hu
    cases hc : q.chain.getLast? with
    | none => exact hd'.1
    | some x => rw [hc] at hu; exact hu
  have hend : endB (newE q.holder to_ day) = true := by simp [endB, newE, h.name, hd', hn, hne]
  have hw : wrongC ⟨q.holder, false, false, lastOf q⟩ (newE q.holder to_ day) = 0 := by
    simp only [wrongC, hend]
    simp [newE]; omega
  have hf : firstOf (endorseP q.holder to_ day q) = firstOf q := by
    cases hc : q.chain <;> simp [firstOf, endorseP, hc]
  refine ⟨⟨hn, hs, ?_, ?_, by rw [hf]; exact h.fname, by rw [hf]; exact h.fsize⟩, hf⟩
  · intro x hx
    simp only [endorseP, List.mem_append, List.mem_singleton] at hx
    rcases hx with hx | rfl
    · exact h.ok x hx
    · exact ⟨h.size, hs⟩
  · rw [hf]
    have := goC_snoc (x := newE q.holder to_ day) h.go hw
    simp only [endorseP]
    rw [show (⟨q.holder, to_, 0, day⟩ : EndD) = newE q.holder to_ day from rfl, this]
    simp [onC, newE, lastOf]
theorem PapInv.tells {q : PapD} (h : PapInv q) {f : ByteArray} (hf : f = firstOf q) : (followC f q.chain).1.holder = q.holder := by
  subst hf; unfold followC; rw [if_pos h.fname, h.go]
theorem onIx_step {index : Int} {i k : Nat} (f : PapD → PapD) {ps : List PapD} (h3 : ps.length = 3) (hk : (ixs index)[i]? = some k) :
    onIx ((ixs index).take (i + 1)) f ps = onIx [k] f (onIx ((ixs index).take i) f ps) ∧ (onIx ((ixs index).take i) f ps)[k]? = ps[k]? := by
  obtain ⟨a, b, c, rfl⟩ := three_cases h3
  unfold ixs at *
  by_cases h0 : index = -1
  · simp only [if_pos h0] at *
    match i, hk with
    | 0, hk => simp at hk; subst hk; exact ⟨rfl, rfl⟩
    | 1, hk => simp at hk; subst hk; exact ⟨rfl, rfl⟩
    | 2, hk => simp at hk; subst hk; exact ⟨rfl, rfl⟩
    | _ + 3, hk => simp at hk
  · simp only [if_neg h0] at *
    have one : ∀ j : Nat, j < 3 → [j][i]? = some k → onIx ([j].take (i + 1)) f [a, b, c] = onIx [k] f (onIx ([j].take i) f [a, b, c]) ∧ (onIx ([j].take i) f [a, b, c])[k]? = [a, b, c][k]? := by
      intro j hj hk
      match i, hk with
      | 0, hk => simp at hk; subst hk; exact ⟨by simp [onIx], by simp [onIx]⟩
      | _ + 1, hk => simp at hk
    split at hk
    · next h1 => simp only [if_pos h1]; exact one 0 (by omega) hk
    · next h1 =>
      simp only [if_neg h1]
      split at hk
      · next h2 => simp only [if_pos h2]; exact one 1 (by omega) hk
      · next h2 =>
        simp only [if_neg h2]
        split at hk
        · next h3 => simp only [if_pos h3]; exact one 2 (by omega) hk
        · simp at hk
theorem set_pap {x : EntD} {g : GhostE} (h1 : x.ps.length = 3) (h2 : g.vcs.length = 3) {k : Nat} (hk : k < 3) (by_ to_ : ByteArray) (day : Int) (v : Value) :
    ((entCells x g).set (10 + k * 3 + 2) v).set (10 + k * 3 + 1) (.string to_) = entCells { x with ps := onIx [k] (endorseP by_ to_ day) x.ps } { g with vcs := g.vcs.set k v } := by
  obtain ⟨a, b, c, ha⟩ := three_cases h1
  obtain ⟨u, y, z, hu⟩ := three_cases h2
  unfold entCells
  simp only [ha, hu]
  match k, hk with
  | 0, _ => rfl
  | 1, _ => rfl
  | 2, _ => rfl
end Go.Proofs.YtnglkhnfmbnfeaaGreat
namespace Go.Proofs.YtnglkhnfmbnfeaaGreat
open Go Go.SK
def given (x : EntD) (index : Int) (by_ to_ : ByteArray) (day : Int) (i : Nat) : EntD := { x with ps := onIx ((ixs index).take i) (endorseP by_ to_ day) x.ps }
structure Given (w1 w' : World) (x : EntD) (g : GhostE) (index : Int) (by_ to_ : ByteArray) (day : Int) (i : Nat) : Prop where
  is : ∃ g' : GhostE, g'.e = g.e ∧ g'.rd = g.rd ∧ EntOk w' (given x index by_ to_ day i) g' ∧ g'.Nd ∧ (∀ b ∈ g'.fp, b ∈ g.fp ∨ w1.heap.size ≤ b) ∧ (∀ b ∈ g'.fp, b ∉ g.rd)
  ext : Ext (· ∈ g.fp) w1 w'
theorem given_len {x : EntD} (h : x.ps.length = 3) (index : Int) (by_ to_ : ByteArray) (day : Int) (i : Nat) : (given x index by_ to_ day i).ps.length = 3 := by
  simp [given, onIx_len, h]
section
variable {w : World} {p : Nat} {r : RegD} {m : Nat} {gs : List GhostE}
set_option maxHeartbeats 1000000 in
theorem reg_Endorse (hR : Rep w p r m gs) (hN : r.Nd) (hsm : r.Small) (hinv : ∀ e ∈ r.l, ∀ q ∈ e.ps, PapInv q) (a : ActD) (hk : a.kind = 1) (hto : a.to_.size ≤ maxLen) :
    Ret Tryz.prog 30 [.pointer (some ⟨p, 0, none⟩), .string a.bill, .int .i64 a.index, .string a.by_, .string a.to_, .int .i64 a.day] w fun v w' =>
    v = .int .i64 (actC r a) ∧ Mut w p m gs (doA r a) w' := by
  have ha : a.ask = ⟨a.bill, a.by_, a.index, 0, true, a.day, a.to_, true⟩ := by simp [ActD.ask, hk]
  have hc : actC r a = askC r a.ask := by simp [actC, hk]
  refine ret_of Tryz.func30 Tryz.ntmps30 rfl rfl rfl ?_
  (repeat (first | refine lw_pure hT rfl ?_ | refine lw_nil ?_ | refine cw_seq ?_ | refine cw_region ?_ | refine qw_then ?_))
  refine lw_build bt136 rfl ?_
  skip
  refine lw_call hT rfl rfl (reg_find hR ⟨a.bill, a.by_, a.index, 0, true, a.day, a.to_, true⟩ hto) ?_
  rw [← ha]
  rintro v w1 ⟨hv, hx1⟩
  rcases hv with ⟨h0, rfl⟩ | ⟨i0, x, g, vl, h0, h1, hA, rfl, hrow⟩
  · (repeat (first | refine lw_pure hT rfl ?_ | refine lw_nil ?_ | refine cw_seq ?_ | refine cw_region ?_ | refine qw_then ?_))
    refine cw_cond rfl (fun h => ?_) (fun h => ?_)
    · (repeat (first | refine lw_pure hT rfl ?_ | refine lw_nil ?_ | refine cw_seq ?_ | refine cw_region ?_ | refine qw_then ?_ | refine cw_ret ?_ | refine qw_then_ret ?_))
      refine qw_ret rfl ⟨by rw [hc]; rfl, ?_⟩
      have : doA r a = r := by simp [doA, hk, h0]
      rw [this]; exact Mut.of_ex hR hx1
    · simp at h; exact absurd h h0
  · obtain ⟨g1, g2, g3, g4, g5⟩ := ask_ok h1
    rw [ha] at hA hrow g1 g3 g4 g5
    dsimp only at hrow g1 g3 g4 g5
    obtain ⟨hdb, hdu⟩ := g4 rfl
    obtain ⟨hnt, hne⟩ := g5 rfl
    have hR1 := hR.ex hx1
    have hE := hR1.ents i0 x g hA.l hA.gi
    have hf := hR.fpn i0 g hA.gi
    have hmem := List.mem_of_getElem? hA.l
    have hl1 := hx1.size
    have hfl : ∀ b ∈ g.fp, b < w1.heap.size := fun b hb => hE.lt (.inl hb)
    have hrl : ∀ b ∈ g.rd, b < w1.heap.size := fun b hb => hE.lt (.inr hb)
    have hrl0 : ∀ b ∈ g.fp, b < w.heap.size := fun b hb => (hR.ents i0 x g hA.l hA.gi).lt (.inl hb)
    have hSl : Sl (fun b => w.heap.size ≤ b) w1 vl 1 ((ixs a.index).map fun k => [ptrP g.e k]) := own_sl (by
      rw [List.length_map]
      have e : ((ixs a.index).map fun k => [ptrP g.e k]).flatten = (ixs a.index).map (ptrP g.e) := flat_single _ _
      rw [e]; exact hrow) (by simp) (fun b hb => (own_base hrow hb).1)
    have hvm := hSl.small
    obtain ⟨va, vcap, rfl, hvz, hvr⟩ := hSl.is
    simp only [List.length_map] at *
    unfold maxLen at hvm
    have hdo : doA r a = r.upd a.bill (·.after a) := by simp [doA, hk, h0]
    have h3 : (ixs a.index).length ≤ 3 := by rw [← ixs_eq]; exact Nat.le_trans (List.length_filter_le _ _) (by simp)
    (repeat (first | refine lw_pure hT rfl ?_ | refine lw_nil ?_ | refine cw_seq ?_ | refine cw_region ?_ | refine qw_then ?_))
    refine cw_cond_f rfl (by decide) ?_
    (repeat (first | refine lw_pure hT rfl ?_ | refine lw_nil ?_ | refine cw_seq ?_ | refine cw_region ?_ | refine qw_then ?_ | refine cw_skip ?_ | refine cw_block ?_))
    refine cw_loop (fun i : Nat => [(3, .string a.by_), (4, .string a.to_), (5, .int .i64 a.day), (33, .slice va (ixs a.index).length vcap), (34, .int .i64 ((ixs a.index).length : Nat)), (35, .int .i64 (i : Nat))])
      (fun i w' => i ≤ (ixs a.index).length ∧ Given w1 w' x g a.index a.by_ a.to_ a.day i) (fun i => (ixs a.index).length - i) 0 (by repeat (first | exact trivial | refine ⟨rfl, ?_⟩)) ⟨Nat.zero_le _, ⟨g, rfl, rfl, ?_, hf.1, fun b hb => .inl hb, fun b hb => hR.rdn i0 i0 g g hA.gi hA.gi b hb⟩, Ext.refl _ _⟩ ?_
    · have : given x a.index a.by_ a.to_ a.day 0 = x := by
        obtain ⟨q0, q1, q2, hq⟩ := three_cases hE.three
        cases x; simp only [given] at *; subst hq; rfl
      rw [this]; exact hE
    · rintro i w2 ⟨hi, hG⟩
      obtain ⟨⟨g', he', hrd', hE', hN', hfp', hfr'⟩, hx2⟩ := hG
      have hl2 := hx2.size
      (repeat (first | refine lw_pure hT rfl ?_ | refine lw_nil ?_ | refine cw_seq ?_ | refine cw_region ?_ | refine qw_then ?_))
      refine cw_cond rfl (fun h => ?_) (fun h => ?_)
      · have hlt : i < (ixs a.index).length := by simp at h; omega
        obtain ⟨k, hkk⟩ : ∃ k, (ixs a.index)[i]? = some k := ⟨_, List.getElem?_eq_getElem hlt⟩
        have hkm := List.mem_of_getElem? hkk
        have hk3 := ixs_lt hkm
        have hne' : ((ixs a.index).map fun k => [ptrP g.e k]) ≠ [] := by intro e; simp at e; rw [e] at hlt; simp at hlt
        obtain ⟨b, o, rfl, hbA, hrd⟩ := hvr hne'
        obtain ⟨_, hrd⟩ := hrd i [ptrP g.e k] (by simp [hkk])
        obtain ⟨st1, st2⟩ := onIx_step (endorseP a.by_ a.to_ a.day) hE.three hkk
        have h3' := given_len hE.three a.index a.by_ a.to_ a.day i
        obtain ⟨q, vc, p1, p2, p3, p4, p5⟩ := entCells_paper h3' hE'.three' hk3
        have hq0 : x.ps[k]? = some q := by rw [← st2]; exact p1
        have hqa : papAt x k = q := by have := papAt_get hE.three hk3; rw [hq0] at this; exact (Option.some.inj this).symm
        have hqm := List.mem_of_getElem? hq0
        have hqi := hinv x hmem q hqm
        have hqs := (hsm x hmem).1 q hqm
        obtain ⟨k1, k2⟩ := g3 k hkm
        rw [hqa] at k1 k2
        have hdu' := hdu k hkm
        rw [hqa] at hdu'
        obtain ⟨hinv', hfirst⟩ := endorse_inv (b := x.bill) hqi k2.symm hnt hne hdb hdu' hto
        have hch := hE'.chains k q vc p1 p2
        have heb : g.e ∈ g.fp := GhostE.fp_mem.2 (.inl rfl)
        have hebl := hfl _ heb
        (repeat (first | refine cw_seq ?_ | refine cw_region ?_ | refine qw_then ?_ | refine cw_skip ?_ | refine cw_block ?_))
        refine lw_index hT rfl rfl rfl i rfl hlt ?_
        skip
        refine lw_load hT rfl rfl (v := ptrP g.e k) (hx2.cell (hrd 0 _ rfl) (fun hb => by have := hrl0 b hb; omega)) ?_
        unfold ptrP
        (repeat (first | refine lw_pure hT rfl ?_ | refine lw_nil ?_ | refine cw_seq ?_ | refine cw_region ?_ | refine qw_then ?_))
        have hblk2 : Blk w2 g.e (entCells (given x a.index a.by_ a.to_ a.day i) g') 87 := he' ▸ hE'.blk
        refine lw_load hT rfl rfl (v := vc) ((hblk2.cell _).trans p5) ?_
        (repeat (refine lw_pure hT rfl ?_))
        refine lw_build bt139 rfl ?_
        skip
        refine lw_buildSlice sl82 rfl rfl rfl ?_
        intro bo w4 hbo hb4 hx4 hs4
        replace hb4 : Blk w4 bo (encE (newE a.by_ a.to_ a.day)) 139 := hb4
        skip
        have hch4 := own_ex hch hx4
        refine lw_append sl82 (by decide) rfl hch4 rfl (hb4.rd 0 4) rfl (by intro u hu; simp [encE] at hu; rcases hu with rfl | rfl | rfl | rfl <;> rfl) (by unfold maxLen; omega) (by omega) (by omega) ?_
        intro v' w5 m1 m2 m3 m4
        have hl5 := m2.size
        have hvce : vc.ownBlock ≠ some g.e := he' ▸ hN'.e k vc p2
        have hv'e : v'.ownBlock ≠ some g.e := by
          rcases m4 with m4 | m4 <;> rw [m4]
          · exact hvce
          · intro e; have := Option.some.inj e; omega
        have hblk5 : Blk w5 g.e (entCells (given x a.index a.by_ a.to_ a.day i) g') 87 := (hblk2.ex hx4).ext m2 (fun e => hvce e.symm)
        (repeat (refine lw_pure hT rfl ?_))
        refine lw_store (size := 1) hT rfl rfl rfl (own_one m1) hblk5 (show 10 + k * 3 + 2 < (entCells (given x a.index a.by_ a.to_ a.day i) g').length by rw [entCells_len h3' hE'.three']; omega) ?_
        intro w6 hb6 hx6 hs6
        have hlen6 : ((entCells (given x a.index a.by_ a.to_ a.day i) g').set (10 + k * 3 + 2) v').length = 19 := by rw [List.length_set, entCells_len h3' hE'.three']
        have hcs : ((entCells (given x a.index a.by_ a.to_ a.day i) g').set (10 + k * 3 + 2) v')[10 + k * 3 + 2]? = some v' := by
          rw [List.getElem?_set]; simp [entCells_len h3' hE'.three']; omega
        have hown6 : w6.ownsRow 0 139 4 v' (endorseP a.by_ a.to_ a.day q).chain.length ((endorseP a.by_ a.to_ a.day q).chain.map encE).flatten := by
          have := own_ext m1 hx6 (fun b hb e => hv'e (by rw [hb, e]))
          simp only [endorseP, List.length_append, List.length_singleton, List.map_append, List.flatten_append]
          exact this
        have hSle := ChainOk.sl (A := fun _ => True) hown6 (fun _ _ => trivial)
        have hcne : ∃ y l, (endorseP a.by_ a.to_ a.day q).chain = y :: l ∧ y.frm = firstOf (endorseP a.by_ a.to_ a.day q) := by
          cases hc : (endorseP a.by_ a.to_ a.day q).chain with
          | nil => simp [endorseP] at hc
          | cons y l => exact ⟨y, l, rfl, by simp [firstOf, hc]⟩
        obtain ⟨y, l, hyl, hyf⟩ := hcne
        obtain ⟨cb, co, ccap, hcv, _, hclt, _, hcrd⟩ := hSle.at (i := 0) (row := encE y) (by rw [hyl]; rfl)
        rw [List.length_map] at hcv hclt
        have hSle' := hSle
        have hcs2 := hcs.trans (congrArg some hcv)
        rw [hcv] at hSle'
        (repeat (first | refine lw_nil ?_ | refine qw_then ?_))
        refine cw_draw hM (fun w' => Ex w6 w') [15] rfl rfl (by repeat with_reducible (first | refine nop_then ?_ | refine nop_block ?_ | exact nop_body)) (fun w7 hx7 _ => ⟨hx7, ?_⟩)
        (refine rw_takeP 0 rfl rfl (by kernel_rfl) (by kernel_rfl) (by kernel_rfl) (by kernel_rfl) rfl (yo_pure hT rfl) ?_; refine rw_takeP 1 rfl rfl (by kernel_rfl) (by kernel_rfl) (by kernel_rfl) (by kernel_rfl) rfl (yo_pure hT rfl) ?_; refine rw_takeP 2 rfl rfl (by kernel_rfl) (by kernel_rfl) (by kernel_rfl) (by kernel_rfl) rfl (yo_pure hT rfl) ?_; refine rw_takeP 3 rfl rfl (by kernel_rfl) (by kernel_rfl) (by kernel_rfl) (by kernel_rfl) rfl (yo_pure hT rfl) ?_)
        refine rw_take 4 rfl rfl (by kernel_rfl) (by kernel_rfl) (by kernel_rfl) (by kernel_rfl) rfl (yo_load hT rfl rfl (fun w' hS => Ex.cell hS ((hb6.cell _).trans hcs2))) ?_
        refine rw_takeP 5 rfl rfl (by kernel_rfl) (by kernel_rfl) (by kernel_rfl) (by kernel_rfl) rfl (yo_index hT rfl rfl rfl 0 rfl hclt) ?_
        (refine rw_takeP 6 rfl rfl (by kernel_rfl) (by kernel_rfl) (by kernel_rfl) (by kernel_rfl) rfl (yo_pure hT rfl) ?_)
        refine rw_take 7 rfl rfl (by kernel_rfl) (by kernel_rfl) (by kernel_rfl) (by kernel_rfl) rfl (yo_load hT rfl rfl (v := .string y.frm) (fun w' hS => Ex.cell hS (hcrd 0 _ rfl))) ?_
        (refine rw_takeP 8 rfl rfl (by kernel_rfl) (by kernel_rfl) (by kernel_rfl) (by kernel_rfl) rfl (yo_pure hT rfl) ?_; refine rw_takeP 9 rfl rfl (by kernel_rfl) (by kernel_rfl) (by kernel_rfl) (by kernel_rfl) rfl (yo_pure hT rfl) ?_; refine rw_takeP 10 rfl rfl (by kernel_rfl) (by kernel_rfl) (by kernel_rfl) (by kernel_rfl) rfl (yo_pure hT rfl) ?_)
        refine rw_take 11 rfl rfl (by kernel_rfl) (by kernel_rfl) (by kernel_rfl) (by kernel_rfl) rfl (yo_load hT rfl rfl (fun w' hS => Ex.cell hS ((hb6.cell _).trans hcs2))) ?_
        refine rw_one 12 rfl (by kernel_rfl) rfl (fun hcl => ?_)
        skip
        refine lw_call hT rfl rfl (end_Holder y.frm w7 (hSle'.ex hx7) (by rw [hyf]; exact hinv'.fsize) hinv'.ok) ?_
        rintro _ w8 ⟨rfl, hx8⟩
        rw [hinv'.tells hyf]
        have hx68 := hx7.trans hx8
        (repeat (refine lw_nil ?_))
        refine qw_rw (by repeat with_reducible (first | refine nop_then ?_ | refine nop_block ?_ | exact nop_body)) hcl (fun _ => hx68) ?_
        (refine rw_takeP 13 rfl rfl (by kernel_rfl) (by kernel_rfl) (by kernel_rfl) (by kernel_rfl) rfl (yo_pure hT rfl) ?_; refine rw_takeP 14 rfl rfl (by kernel_rfl) (by kernel_rfl) (by kernel_rfl) (by kernel_rfl) rfl (yo_pure hT rfl) ?_)
        refine rw_one 15 rfl (by kernel_rfl) rfl (fun hcl => ?_)
        skip
        refine lw_store (size := 1) hT rfl rfl rfl rfl (hb6.ex hx68) (show 10 + k * 3 + 1 < _ by rw [hlen6]; omega) ?_
        intro w9 hb9 hx9 hs9
        replace hb9 : Blk w9 g.e ((((entCells (given x a.index a.by_ a.to_ a.day i) g').set (10 + k * 3 + 2) v').set (10 + k * 3 + 1) (.string a.to_))) 87 := hb9
        rw [set_pap h3' hE'.three' hk3 a.by_ a.to_ a.day v'] at hb9
        (repeat (refine lw_nil ?_))
        refine qw_rw (by repeat with_reducible (first | refine nop_then ?_ | refine nop_block ?_ | exact nop_body)) hcl (fun h => absurd h (by decide)) ?_
        refine rw_done (by kernel_rfl) ?_
        (repeat (first | (refine lw_add rfl rfl ?_ ?_ ?_; iterate 2 omega) | refine lw_pure hT rfl ?_ | refine lw_nil ?_ | refine cw_region ?_ | refine qw_then ?_ | refine qw_block ?_))
        have hl8 := hx68.size
        have est : given x a.index a.by_ a.to_ a.day (i + 1) = { given x a.index a.by_ a.to_ a.day i with ps := onIx [k] (endorseP a.by_ a.to_ a.day) (given x a.index a.by_ a.to_ a.day i).ps } := by simp only [given]; rw [st1]
        have hx29 : Ext (fun b => some b = vc.ownBlock ∨ b = g.e) w2 w9 :=
          ((((Ext.of_ex hx4).trans (m2.mono fun _ _ h => .inl h)).trans (hx6.mono fun _ _ h => .inr h)).trans (Ext.of_ex hx68)).trans (hx9.mono fun _ _ h => .inr h)
        have hvfp : ∀ b, some b = vc.ownBlock → b ∈ g'.fp := fun b hb => GhostE.fp_mem.2 (.inr ⟨k, vc, p2, hb.symm⟩)
        have hefp : g.e ∈ g'.fp := GhostE.fp_mem.2 (.inl he'.symm)
        have hkl : k < g'.vcs.length := by rw [hE'.three']; exact hk3
        have hset : ∀ {j : Nat} {u : Value}, (g'.vcs.set k v')[j]? = some u → (j = k ∧ u = v') ∨ (j ≠ k ∧ g'.vcs[j]? = some u) := by
          intro j u hu
          rw [List.getElem?_set] at hu
          by_cases e : k = j
          · subst e; rw [if_pos rfl, if_pos hkl] at hu; exact .inl ⟨rfl, (Option.some.inj hu).symm⟩
          · rw [if_neg e] at hu; exact .inr ⟨fun e' => e e'.symm, hu⟩
        have hv'b : ∀ b, v'.ownBlock = some b → vc.ownBlock = some b ∨ b = w4.heap.size := by
          intro b hb
          rcases m4 with m4 | m4
          · exact .inl (m4 ▸ hb)
          · exact .inr (Option.some.inj (hb.symm.trans m4))
        have hold : ∀ (j : Nat) (u : Value) (b : Nat), g'.vcs[j]? = some u → u.ownBlock = some b → b < w2.heap.size := fun j u b hu hb => hE'.lt (.inl (GhostE.fp_mem.2 (.inr ⟨j, u, hu, hb⟩)))
        have hl4 := hx4.size
        have hfp9 : ∀ b ∈ ({ g' with vcs := g'.vcs.set k v' } : GhostE).fp, b ∈ g'.fp ∨ b = w4.heap.size := by
          intro b hb
          rcases GhostE.fp_mem.1 hb with rfl | ⟨j, u, hu, hbu⟩
          · exact .inl (GhostE.fp_mem.2 (.inl rfl))
          · rcases hset hu with ⟨rfl, e⟩ | ⟨_, hu'⟩
            · rcases hv'b b (e ▸ hbu) with h | h
              · exact .inl (hvfp b h.symm)
              · exact .inr h
            · exact .inl (GhostE.fp_mem.2 (.inr ⟨j, u, hu', hbu⟩))
        refine qw_round (i + 1) (by repeat (first | exact trivial | refine ⟨rfl, ?_⟩)) ⟨hlt, ⟨{ g' with vcs := g'.vcs.set k v' }, he', hrd', ?_, ⟨?_, ?_⟩, ?_, ?_⟩, ?_⟩ (by omega)
        · rw [est]
          refine ⟨by simp only [he']; exact hb9, ?_, ?_, by simp [onIx_len, h3'], by simp [hE'.three'], ?_⟩
          · exact own_ext hE'.boxesO hx29 (fun b hb h => by
              have hbr : b ∈ g.rd := hrd' ▸ GhostE.rd_mem.2 (.inl hb)
              rcases h with h | h
              · exact hfr' b (hvfp b h) hbr
              · exact hfr' b (h ▸ hefp) hbr)
          · exact own_ext hE'.parentsO hx29 (fun b hb h => by
              have hbr : b ∈ g.rd := hrd' ▸ GhostE.rd_mem.2 (.inr hb)
              rcases h with h | h
              · exact hfr' b (hvfp b h) hbr
              · exact hfr' b (h ▸ hefp) hbr)
          · intro j q' u hq' hu
            rcases hset hu with ⟨rfl, rfl⟩ | ⟨hjk, hu⟩
            · rw [onIx_get p1] at hq'
              simp only [List.contains_cons, BEq.rfl, Bool.true_or, if_true, Option.some.injEq] at hq'
              subst hq'
              exact own_ext (own_ex hown6 hx68) hx9 (fun b hb e => hv'e (by rw [hb, e]))
            · have hjl : j < (given x a.index a.by_ a.to_ a.day i).ps.length := by have := (List.getElem?_eq_some_iff.1 hq').1; simpa [onIx_len] using this
              have hqj : (given x a.index a.by_ a.to_ a.day i).ps[j]? = some (given x a.index a.by_ a.to_ a.day i).ps[j] := List.getElem?_eq_getElem hjl
              rw [onIx_get hqj] at hq'
              have hcj : ([k] : List Nat).contains j = false := by simp; exact hjk
              rw [hcj] at hq'
              simp only [Bool.false_eq_true, if_false, Option.some.injEq] at hq'
              subst hq'
              refine own_ext (hE'.chains j _ u hqj hu) hx29 (fun b hb h => ?_)
              rcases h with h | h
              · exact hN'.vcs k j vc u b (Ne.symm hjk) p2 hu h.symm hb
              · exact hN'.e j u hu (by rw [hb, h, he'])
        · intro j u hu
          rcases hset hu with ⟨rfl, rfl⟩ | ⟨_, hu⟩
          · simp only [he']; exact hv'e
          · exact hN'.e j u hu
        · intro j1 j2 u1 u2 b hj hu1 hu2 hb1 hb2
          rcases hset hu1 with ⟨e1, f1⟩ | ⟨e1, hu1'⟩ <;> rcases hset hu2 with ⟨e2, f2⟩ | ⟨e2, hu2'⟩
          · exact hj (e1.trans e2.symm)
          · rcases hv'b b (f1 ▸ hb1) with h | h
            · exact hN'.vcs k j2 vc u2 b (fun e => e2 e.symm) p2 hu2' h hb2
            · have := hold j2 u2 b hu2' hb2; omega
          · rcases hv'b b (f2 ▸ hb2) with h | h
            · exact hN'.vcs k j1 vc u1 b (fun e => e1 e.symm) p2 hu1' h hb1
            · have := hold j1 u1 b hu1' hb1; omega
          · exact hN'.vcs j1 j2 u1 u2 b hj hu1' hu2' hb1 hb2
        · intro b hb
          rcases hfp9 b hb with h | h
          · exact hfp' b h
          · right; omega
        · intro b hb hbr
          rcases hfp9 b hb with h | h
          · exact hfr' b h hbr
          · have := hrl b hbr; omega
        · refine hx2.trans' hx29 (fun _ _ h => h) (fun b hbl h => ?_)
          have : b ∈ g'.fp := by
            rcases h with h | h
            · exact hvfp b h
            · exact h ▸ hefp
          rcases hfp' b this with h | h
          · exact h
          · omega
      · have : i = (ixs a.index).length := by simp at h; omega
        subst this
        (repeat (first | refine lw_pure hT rfl ?_ | refine lw_nil ?_ | refine cw_seq ?_ | refine cw_region ?_ | refine qw_then ?_ | refine cw_ret ?_ | refine cw_exit ?_ | refine qw_block_exit ?_ | refine qw_then_exit ?_))
        refine qw_ret rfl ⟨by rw [hc, h0]; rfl, ?_⟩
        rw [hdo]
        have eaf : given x a.index a.by_ a.to_ a.day (ixs a.index).length = x.after a := by simp [given, EntD.after, hk, List.take_length]
        rw [eaf] at hE'
        have hU := hR1.upd hA.l hA.gi hx2 (fun b _ h => h) (by simp [EntD.after, hk]) he' hrd' hE' hfp' hN'
        have e : ({ r with l := r.l.set i0 (x.after a) } : RegD) = r.upd a.bill (·.after a) := by
          have := upd_set hA hN (·.after a)
          unfold RegD.upd at *
          simp only at this
          rw [this]
        rw [e] at hU
        refine ⟨⟨_, hU, fun b hb => ?_⟩, ?_⟩
        · rcases foot_upd (N := w1.heap.size) hA.gi hfp' hrd' b hb with h | h
          · exact .inl h
          · right; omega
        · exact (Ext.of_ex hx1).trans (hx2.mono fun b _ hb => foot_mem.2 (.inr (.inr ⟨i0, g, hA.gi, .inl hb⟩)))
end
end Go.Proofs.YtnglkhnfmbnfeaaGreat
namespace Go.Proofs.YtnglkhnfmbnfeaaGreat
open Go Go.SK
theorem at_none {r : RegD} {n : ByteArray} (h : r.at? n = none) : ∀ e ∈ r.l, n ≠ e.bill.number := by
  intro e he
  have := List.find?_eq_none.1 h e he
  simpa using this
theorem Rep.snoc {w w' : World} {p : Nat} {r : RegD} {m : Nat} {gs : List GhostE} {es : List (ByteArray × Value)} (h : Rep w p r m gs) (hpm : es.Perm (mapOf r.l gs)) {x : EntD} {g : GhostE} (hx : Ext (· = m) w w') (hm : Mp w' m (es ++ [(x.bill.number, .pointer (some ⟨g.e, 0, none⟩))]))
    (hnew : r.at? x.bill.number = none) (hE : EntOk w' x g) (hn : g.Nd) (hfp : ∀ b ∈ g.fp, w.heap.size ≤ b ∨ (b ∉ foot p m gs)) (hrd : ∀ b ∈ g.rd, w.heap.size ≤ b ∨ (b ∉ foot p m gs)) (hd : ∀ b ∈ g.fp, b ∉ g.rd) : Rep w' p { r with l := r.l ++ [x] } m (gs ++ [g]) := by
  have hfp' : ∀ b ∈ g.fp, b ∉ foot p m gs := fun b hb hf => (hfp b hb).elim (fun hl => by have := h.foot_lt hf; omega) (fun hn => hn hf)
  have hrd' : ∀ b ∈ g.rd, b ∉ foot p m gs := fun b hb hf => (hrd b hb).elim (fun hl => by have := h.foot_lt hf; omega) (fun hn => hn hf)
  have hset : ∀ {j : Nat} {k : GhostE}, (gs ++ [g])[j]? = some k → gs[j]? = some k ∨ (j = gs.length ∧ k = g) := by
    intro j k hk
    rw [List.getElem?_append] at hk
    split at hk
    · exact .inl hk
    · next hj =>
      right
      have : j - gs.length = 0 := by
        rcases Nat.eq_zero_or_pos (j - gs.length) with h0 | h0
        · exact h0
        · rw [List.getElem?_eq_none (by simp; omega)] at hk; cases hk
      rw [this] at hk
      exact ⟨by omega, by simpa using hk.symm⟩
  have hsetx : ∀ {j : Nat} {y : EntD}, (r.l ++ [x])[j]? = some y → r.l[j]? = some y ∨ (j = r.l.length ∧ y = x) := by
    intro j k hk
    rw [List.getElem?_append] at hk
    split at hk
    · exact .inl hk
    · next hj =>
      right
      have : j - r.l.length = 0 := by
        rcases Nat.eq_zero_or_pos (j - r.l.length) with h0 | h0
        · exact h0
        · rw [List.getElem?_eq_none (by simp; omega)] at hk; cases hk
      rw [this] at hk
      exact ⟨by omega, by simpa using hk.symm⟩
  have mem : ∀ {j : Nat} {k : GhostE} {b : Nat}, gs[j]? = some k → b ∈ k.fp ∨ b ∈ k.rd → b ∈ foot p m gs := fun hk hb => foot_mem.2 (.inr (.inr ⟨_, _, hk, hb⟩))
  have hnm := at_none hnew
  have hR := h.len
  refine ⟨h.blk.ext hx h.pm, ⟨_, hm, ?_⟩, ?_, by simp [h.len], ?_, ?_, ?_, ?_, h.pm⟩
  · have : mapOf (r.l ++ [x]) (gs ++ [g]) = mapOf r.l gs ++ [(x.bill.number, .pointer (some ⟨g.e, 0, none⟩))] := by
      unfold mapOf; rw [List.zip_append h.len]; simp
    show (es ++ _).Perm (mapOf (r.l ++ [x]) (gs ++ [g]))
    rw [this]
    exact hpm.append_right _
  · intro j j' y y' hy hy' he
    rcases hsetx hy with hy1 | ⟨e1, f1⟩ <;> rcases hsetx hy' with hy2 | ⟨e2, f2⟩
    · exact h.nd j j' y y' hy1 hy2 he
    · exact absurd (f2 ▸ he.symm) (hnm y (List.mem_of_getElem? hy1))
    · exact absurd (f1 ▸ he) (hnm y' (List.mem_of_getElem? hy2))
    · exact e1.trans e2.symm
  · intro j y k hy hk
    rcases hsetx hy with hy | ⟨rfl, rfl⟩ <;> rcases hset hk with hk | ⟨e, rfl⟩
    · have hf := h.fpn j k hk
      exact (h.ents j y k hy hk).ext hx (fun b hb e => hf.2.1 (e ▸ hb)) (fun b hb e => hf.2.2.1 (e ▸ hb))
    · have := (List.getElem?_eq_some_iff.1 hy).1; omega
    · have := (List.getElem?_eq_some_iff.1 hk).1; omega
    · exact hE
  · intro j k hk
    rcases hset hk with hk | ⟨_, rfl⟩
    · exact h.fpn j k hk
    · exact ⟨hn, fun hb => hfp' m hb (foot_mem.2 (.inr (.inl rfl))), fun hb => hrd' m hb (foot_mem.2 (.inr (.inl rfl))), fun hb => hfp' p hb (foot_mem.2 (.inl rfl)), fun hb => hrd' p hb (foot_mem.2 (.inl rfl))⟩
  · intro j j' k k' hne hk hk' b hb hb'
    rcases hset hk with hk1 | ⟨e1, rfl⟩ <;> rcases hset hk' with hk2 | ⟨e2, rfl⟩
    · exact h.disj j j' k k' hne hk1 hk2 b hb hb'
    · exact hfp' b hb' (mem hk1 (.inl hb))
    · exact hfp' b hb (mem hk2 (.inl hb'))
    · exact hne (e1.trans e2.symm)
  · intro j j' k k' hk hk' b hb hb'
    rcases hset hk with hk1 | ⟨e1, rfl⟩ <;> rcases hset hk' with hk2 | ⟨e2, rfl⟩
    · exact h.rdn j j' k k' hk1 hk2 b hb hb'
    · exact hrd' b hb' (mem hk1 (.inl hb))
    · exact hfp' b hb (mem hk2 (.inr hb'))
    · exact hd b hb hb'
theorem foot_snoc {p m : Nat} {gs : List GhostE} {g : GhostE} {N : Nat} (hfp : ∀ b ∈ g.fp, N ≤ b) (hrd : ∀ b ∈ g.rd, N ≤ b) : ∀ b ∈ foot p m (gs ++ [g]), b ∈ foot p m gs ∨ N ≤ b := by
  intro b hb
  simp only [foot, List.mem_cons, List.flatMap_append, List.mem_append, List.flatMap_singleton] at hb ⊢
  rcases hb with hb | hb | hb | hb | hb
  · exact .inl (.inl hb)
  · exact .inl (.inr (.inl hb))
  · exact .inl (.inr (.inr hb))
  · exact .inr (hfp b hb)
  · exact .inr (hrd b hb)
def zeroP : PapD := ⟨0, ⟨#[]⟩, []⟩
def fresh (b : BillD) (holder : ByteArray) (i : Nat) : EntD := ⟨b, 0, List.replicate i ⟨0, holder, []⟩ ++ List.replicate (3 - i) zeroP⟩
theorem set_fresh {b : BillD} {holder : ByteArray} {e : Nat} {vb vp : Value} {i : Nat} (hi : i < 3) :
    setMany (entCells (fresh b holder i) ⟨e, vb, vp, [.slice none 0 0, .slice none 0 0, .slice none 0 0]⟩) (10 + i * 3) [.int .i64 0, .string holder, .slice none 0 0] = entCells (fresh b holder (i + 1)) ⟨e, vb, vp, [.slice none 0 0, .slice none 0 0, .slice none 0 0]⟩ := by
  match i, hi with
  | 0, _ => rfl
  | 1, _ => rfl
  | 2, _ => rfl
section
variable {w : World} {p : Nat} {r : RegD} {m : Nat} {gs : List GhostE}
theorem reg_Issue1 (hR : Rep w p r m gs) (x : ByteArray) {b : Nat} (hb : w.cell? ⟨b, 0, none⟩ = some (.pointer (some ⟨p, 0, none⟩))) : Ret Tryz.prog 73 ([] ++ [.string x] ++ [.pointer (some ⟨b, 0, none⟩)]) w fun v w' => v = .bool (r.boxed x) ∧ Ex w w' := by
  refine ret_of Tryz.func73 Tryz.ntmps73 rfl rfl rfl ?_
  (repeat (first | refine lw_pure hT rfl ?_ | refine lw_nil ?_ | refine cw_seq ?_ | refine cw_region ?_ | refine qw_then ?_))
  refine lw_load hT rfl rfl (v := .pointer (some ⟨p, 0, none⟩)) hb ?_
  (repeat (refine lw_pure hT rfl ?_))
  refine lw_call hT rfl rfl (reg_Box hR x) ?_
  rintro v w1 ⟨hv, hx1⟩
  rcases hv with ⟨rfl, h⟩ | ⟨e, he, hh, rfl⟩
  · (repeat (first | refine lw_pure hT rfl ?_ | refine lw_nil ?_ | refine cw_seq ?_ | refine cw_region ?_ | refine qw_then ?_ | refine cw_ret ?_))
    exact qw_ret rfl ⟨by rw [h]; rfl, hx1⟩
  · (repeat (first | refine lw_pure hT rfl ?_ | refine lw_nil ?_ | refine cw_seq ?_ | refine cw_region ?_ | refine qw_then ?_ | refine cw_ret ?_))
    refine qw_ret rfl ⟨?_, hx1⟩
    have : r.boxed x = true := by unfold RegD.boxed; rw [List.any_eq_true]; exact ⟨e, he, hh⟩
    rw [this]; rfl
set_option maxHeartbeats 1000000 in
theorem reg_Issue {A : Nat → Prop} {b : BillD} {vb vp : Value} (hR : Rep w p r m gs) (hB : SlS A w vb b.boxes) (hP : SlS A w vp b.parents) (hok : b.Ok) (holder : ByteArray) (hh : holder.size ≤ maxLen) :
    Ret Tryz.prog 32 [.pointer (some ⟨p, 0, none⟩), .agg ⟨encB b vb vp⟩, .string holder] w fun v w' => v = .int .i64 (issueC r b holder) ∧ Mut w p m gs (issueD r b holder) w' := by
  obtain ⟨es, hmp, hpm⟩ := hR.map
  refine ret_of Tryz.func32 Tryz.ntmps32 rfl rfl rfl ?_
  (repeat (first | refine cw_seq ?_ | refine cw_region ?_))
  refine lw_box rfl ?_
  intro b3 w1 hbb3 hb3 hx1 hs1
  replace hb3 : Blk w1 b3 [.pointer (some ⟨p, 0, none⟩)] 25 := hb3
  skip
  refine lw_box rfl ?_
  intro b4 w2 hbb4 hb4 hx2 hs2
  replace hb4 : Blk w2 b4 (encB b vb vp) 33 := hb4
  have hx02 := hx1.trans hx2
  have hb32 := hb3.ex hx2
  have hR2 := hR.ex hx02
  have hmp2 := hmp.ex hx02
  (repeat (first | refine lw_pure hT rfl ?_ | refine lw_nil ?_ | refine cw_seq ?_ | refine qw_then ?_))
  refine cw_draw hM (fun w' => Ex w2 w') [] rfl rfl (by repeat with_reducible (first | refine nop_then ?_ | refine nop_block ?_ | exact nop_body)) (fun w3 hx3 _ => ⟨hx3, ?_⟩)
  refine rw_take 0 rfl rfl (by kernel_rfl) (by kernel_rfl) (by kernel_rfl) (by kernel_rfl) rfl (yo_load hT rfl rfl (fun w' hS => Ex.cell hS (hb32.cell 0))) ?_
  (refine rw_takeP 1 rfl rfl (by kernel_rfl) (by kernel_rfl) (by kernel_rfl) (by kernel_rfl) rfl (yo_pure hT rfl) ?_; refine rw_takeP 2 rfl rfl (by kernel_rfl) (by kernel_rfl) (by kernel_rfl) (by kernel_rfl) rfl (yo_pure hT rfl) ?_)
  refine rw_take 3 rfl rfl (by kernel_rfl) (by kernel_rfl) (by kernel_rfl) (by kernel_rfl) rfl (yo_load hT rfl rfl (fun w' hS => Ex.cell hS (hR2.blk.cell 1))) ?_
  (refine rw_takeP 4 rfl rfl (by kernel_rfl) (by kernel_rfl) (by kernel_rfl) (by kernel_rfl) rfl (yo_pure hT rfl) ?_)
  refine rw_take 5 rfl rfl (by kernel_rfl) (by kernel_rfl) (by kernel_rfl) (by kernel_rfl) rfl (yo_load hT rfl rfl (fun w' hS => Ex.cell hS (hb4.cell 0))) ?_
  refine rw_take 6 rfl rfl (by kernel_rfl) (by kernel_rfl) (by kernel_rfl) (by kernel_rfl) rfl (yo_lookup_ok mp78 rfl rfl (fun w' hS => hmp2.ex hS)) ?_
  (refine rw_takeP 7 rfl rfl (by kernel_rfl) (by kernel_rfl) (by kernel_rfl) (by kernel_rfl) rfl (yo_pure hT rfl) ?_; refine rw_takeP 8 rfl rfl (by kernel_rfl) (by kernel_rfl) (by kernel_rfl) (by kernel_rfl) rfl (yo_pure hT rfl) ?_; refine rw_takeP 9 rfl rfl (by kernel_rfl) (by kernel_rfl) (by kernel_rfl) (by kernel_rfl) rfl (yo_pure hT rfl) ?_; refine rw_takeP 10 rfl rfl (by kernel_rfl) (by kernel_rfl) (by kernel_rfl) (by kernel_rfl) rfl (yo_pure hT rfl) ?_; refine rw_takeP 11 rfl rfl (by kernel_rfl) (by kernel_rfl) (by kernel_rfl) (by kernel_rfl) rfl (yo_pure hT rfl) ?_)
  refine rw_done (by kernel_rfl) ?_
  have hR3 := hR2.ex hx3
  have hb33 := hb32.ex hx3
  have hb43 := hb4.ex hx3
  have hx03 := hx02.trans hx3
  have there : (mget es b.number).isSome = (r.at? b.number).isSome := by
    rw [hR.get hpm]
    rcases hR.at b.number with ⟨h1, h2⟩ | ⟨i, x, g, hA⟩
    · rw [h1, h2]; rfl
    · rw [hA.at_, hA.get]; rfl
  have refuse : issueC r b holder ≠ 0 → ∀ w', Ex w w' → Mut w p m gs (issueD r b holder) w' := by
    intro h w' hx
    have : issueD r b holder = r := by simp [issueD, h]
    rw [this]; exact Mut.of_ex hR hx
  (repeat (first | refine cw_seq ?_ | refine cw_region ?_ | refine qw_then ?_ | refine cw_block ?_))
  refine lw_load hT rfl rfl (v := .pointer (some ⟨p, 0, none⟩)) (hb33.cell 0) ?_
  skip
  refine lw_load_agg hT rfl rfl rfl (vs := encB b vb vp) (hb43.rd 0 9) ?_
  skip
  refine lw_call hT rfl rfl (reg_may w3 b vb vp hR3.blk (hB.ex hx03) (hP.ex hx03) hok) ?_
  rintro _ w4 ⟨rfl, hx4⟩
  (repeat (refine lw_pure hT rfl ?_))
  have bad : (!mayB r.carrier b || !nameB holder) = true → issueC r b holder = 1 := fun h => by unfold issueC; rw [if_pos h]
  refine lw_guard rfl (fun h1 => ?_) (fun h1 => ?_)
  · have hc := bad (by rw [h1]; rfl)
    (repeat (first | refine lw_pure hT rfl ?_ | refine lw_nil ?_ | refine cw_seq ?_ | refine cw_region ?_ | refine qw_then ?_ | refine cw_ret ?_ | refine qw_then_ret ?_ | (refine lw_goff_t rfl ?_ ?_; focus with_reducible (first | rfl | exact Bool.not_false | exact Bool.not_true)) | refine qw_block_ret ?_ | (refine cw_cond_t rfl ?_ ?_; focus with_reducible (first | rfl | exact Bool.not_false | exact Bool.not_true))))
    exact qw_ret rfl ⟨by rw [hc]; rfl, refuse (by rw [hc]; decide) _ (hx03.trans hx4)⟩
  · (repeat (first | refine lw_pure hT rfl ?_ | (refine lw_gon_f rfl ?_ ?_; focus with_reducible (first | rfl | exact Bool.not_false | exact Bool.not_true))))
    refine lw_call hT rfl rfl (mark_Name holder w4 hh) ?_
    rintro _ _ ⟨rfl, rfl⟩
    (repeat (first | refine lw_pure hT rfl ?_ | refine lw_nil ?_ | refine qw_then ?_ | (refine lw_gon_f rfl ?_ ?_; focus with_reducible (first | rfl | exact Bool.not_false | exact Bool.not_true))))
    refine cw_cond rfl (fun h2 => ?_) (fun h2 => ?_)
    · have hc := bad (by rw [h2]; simp)
      (repeat (first | refine lw_pure hT rfl ?_ | refine lw_nil ?_ | refine cw_seq ?_ | refine cw_region ?_ | refine qw_then ?_ | refine cw_ret ?_ | refine qw_then_ret ?_ | refine qw_block_ret ?_))
      exact qw_ret rfl ⟨by rw [hc]; rfl, refuse (by rw [hc]; decide) _ (hx03.trans hx4)⟩
    · have hgood : ¬ (!mayB r.carrier b || !nameB holder) = true := by rw [h1, h2]; decide
      (repeat (first | refine lw_pure hT rfl ?_ | refine lw_nil ?_ | refine cw_seq ?_ | refine cw_region ?_ | refine qw_then ?_))
      rw [there]
      refine cw_cond rfl (fun h3 => ?_) (fun h3 => ?_)
      · have hc : issueC r b holder = 5 := by unfold issueC; rw [if_neg hgood, if_pos h3]
        (repeat (first | refine lw_pure hT rfl ?_ | refine lw_nil ?_ | refine cw_seq ?_ | refine cw_region ?_ | refine qw_then ?_ | refine cw_ret ?_ | refine qw_then_ret ?_ | refine qw_block_ret ?_))
        exact qw_ret rfl ⟨by rw [hc]; rfl, refuse (by rw [hc]; decide) _ (hx03.trans hx4)⟩
      · have h3' : ¬ (r.at? b.number).isSome = true := by rw [h3]; decide
        have hR4 := hR3.ex hx4
        (repeat (first | refine lw_pure hT rfl ?_ | refine cw_seq ?_ | refine cw_region ?_))
        refine lw_load hT rfl rfl (v := vb) ((hb43.ex hx4).cell 5) ?_
        (repeat (refine lw_pure hT rfl ?_))
        refine lw_call hT rfl rfl (cnf_str (fun s => [Value.string s]) Value.string (fun _ => rfl) r.boxed (fi := []) (cp := [.pointer (some ⟨b3, 0, none⟩)]) w4 (hB.ex (hx03.trans hx4)) rfl (fun s hm w' hx => reg_Issue1 (hR4.ex hx) s (((hb33.ex hx4).ex hx).cell 0))) ?_
        rintro _ w5 ⟨rfl, hx5⟩
        have hx05 := (hx03.trans hx4).trans hx5
        have hx35 := hx4.trans hx5
        have hR5 := hR4.ex hx5
        (repeat (first | refine lw_pure hT rfl ?_ | refine lw_nil ?_ | refine qw_then ?_))
        refine cw_cond rfl (fun h4 => ?_) (fun h4 => ?_)
        · have hc : issueC r b holder = 9 := by unfold issueC; rw [if_neg hgood, if_neg h3', if_pos h4]
          (repeat (first | refine lw_pure hT rfl ?_ | refine lw_nil ?_ | refine cw_seq ?_ | refine cw_region ?_ | refine qw_then ?_ | refine cw_ret ?_ | refine qw_then_ret ?_ | refine qw_block_ret ?_))
          exact qw_ret rfl ⟨by rw [hc]; rfl, refuse (by rw [hc]; decide) _ hx05⟩
        · have h4' : ¬ (b.boxes.any r.boxed) = true := by rw [h4]; decide
          have heslen : es.length = r.l.length := by rw [hpm.length_eq, mapOf_length hR.len]
          (repeat (first | refine cw_seq ?_ | refine cw_region ?_))
          refine lw_load hT rfl rfl (v := .pointer (some ⟨p, 0, none⟩)) ((hb33.ex hx35).cell 0) ?_
          (repeat (refine lw_pure hT rfl ?_))
          refine lw_load hT rfl rfl (v := .map (some m)) (hR5.blk.cell 1) ?_
          skip
          refine lw_maplen mp78 rfl (hmp.ex hx05) ?_
          rw [heslen]
          (repeat (first | refine lw_pure hT rfl ?_ | refine lw_nil ?_ | refine qw_then ?_))
          refine cw_cond rfl (fun h5 => ?_) (fun h5 => ?_)
          · have h5 : r.l.length = 256 := by simp at h5; omega
            have hc : issueC r b holder = 7 := by unfold issueC; rw [if_neg hgood, if_neg h3', if_neg h4', if_pos h5]
            (repeat (first | refine lw_pure hT rfl ?_ | refine lw_nil ?_ | refine cw_seq ?_ | refine cw_region ?_ | refine qw_then ?_ | refine cw_ret ?_ | refine qw_then_ret ?_ | refine qw_block_ret ?_))
            exact qw_ret rfl ⟨by rw [hc]; rfl, refuse (by rw [hc]; decide) _ hx05⟩
          · have h5 : ¬ r.l.length = 256 := by simp at h5; omega
            have hc : issueC r b holder = 0 := by unfold issueC; rw [if_neg hgood, if_neg h3', if_neg h4', if_neg h5]
            have hD : issueD r b holder = { r with l := r.l ++ [newEnt b holder] } := by unfold issueD; rw [if_pos hc]
            have hmay : mayB r.carrier b = true := by simpa using h1
            have hlen : b.boxes.length ≤ 64 ∧ b.parents.length ≤ 64 := by
              simp only [mayB, Bool.and_eq_true, decide_eq_true_eq] at hmay
              exact ⟨hmay.2.2.1.2.2, hmay.2.2.2.1⟩
            have hb45 := hb43.ex hx35
            (repeat (first | refine cw_seq ?_ | refine cw_region ?_ | refine qw_then ?_ | refine cw_skip ?_ | refine qw_block ?_))
            refine lw_load_agg hT rfl rfl rfl (vs := encB b vb vp) (hb45.rd 0 9) ?_
            skip
            refine lw_call hT rfl rfl (reg_own w5 (hB.ex hx05) (hP.ex hx05) (by omega) (by omega)) ?_
            rintro _ w6 ⟨ub, up, rfl, hub, hup, hx6⟩
            skip
            refine lw_build bt87 rfl ?_
            skip
            refine lw_box rfl ?_
            intro be w7 hbbe hbe hx7 hs7
            replace hbe : Blk w7 be (entCells (fresh b holder 0) ⟨be, ub, up, [.slice none 0 0, .slice none 0 0, .slice none 0 0]⟩) 87 := hbe
            have hl5 := hx05.size
            have hl6 := hx6.size
            (repeat (first | refine lw_pure hT rfl ?_ | refine lw_nil ?_ | refine cw_seq ?_ | refine cw_region ?_ | refine qw_then ?_ | refine cw_block ?_))
            refine cw_loop (fun i : Nat => [(2, .string holder), (3, .pointer (some ⟨b3, 0, none⟩)), (4, .pointer (some ⟨b4, 0, none⟩)), (9, .pointer (some ⟨be, 0, none⟩)), (49, .int .i64 (i : Nat))])
              (fun i w' => i ≤ 3 ∧ Ext (· = be) w7 w' ∧ Blk w' be (entCells (fresh b holder i) ⟨be, ub, up, [.slice none 0 0, .slice none 0 0, .slice none 0 0]⟩) 87) (fun i => 3 - i) 0 (by repeat (first | exact trivial | refine ⟨rfl, ?_⟩)) ⟨by omega, Ext.refl _ _, hbe⟩ ?_
            rintro i w8 ⟨hi, hx8, hb8⟩
            (repeat (first | refine lw_pure hT rfl ?_ | refine lw_nil ?_ | refine cw_seq ?_ | refine cw_region ?_ | refine qw_then ?_))
            refine cw_cond rfl (fun h => ?_) (fun h => ?_)
            · have hlt : i < 3 := by simp at h; omega
              (repeat (first | refine lw_pure hT rfl ?_ | refine lw_nil ?_ | refine cw_seq ?_ | refine cw_region ?_ | refine qw_then ?_ | refine cw_skip ?_ | refine cw_block ?_))
              refine lw_build bt84 rfl ?_
              (repeat (refine lw_pure hT rfl ?_))
              refine lw_index_arr hT rfl rfl rfl i rfl hlt ?_
              skip
              refine lw_store_agg hT rfl rfl rfl rfl (by intro v hv; simp at hv; rcases hv with rfl | rfl | rfl <;> rfl) hb8 (show 10 + i * 3 + 3 ≤ (entCells (fresh b holder i) _).length by rw [entCells_len (by simp [fresh]; omega) rfl]; omega) ?_
              intro w9 hb9 hx9 hs9
              replace hb9 : Blk w9 be (setMany (entCells (fresh b holder i) ⟨be, ub, up, [.slice none 0 0, .slice none 0 0, .slice none 0 0]⟩) (10 + i * 3) [.int .i64 0, .string holder, .slice none 0 0]) 87 := hb9
              rw [set_fresh hlt] at hb9
              (repeat (first | (refine lw_add rfl rfl ?_ ?_ ?_; iterate 2 omega) | refine lw_pure hT rfl ?_ | refine lw_nil ?_ | refine cw_region ?_ | refine qw_then ?_ | refine qw_block ?_))
              exact qw_round (i + 1) (by repeat (first | exact trivial | refine ⟨rfl, ?_⟩)) ⟨hlt, hx8.trans hx9, hb9⟩ (by omega)
            · have : i = 3 := by simp at h; omega
              subst this
              have hx08 : Ex w w8 := ((hx05.trans hx6).trans hx7).up_new hx8 (fun i hi => by omega)
              have hx38 : Ex w3 w8 := ((hx35.trans hx6).trans hx7).up_new hx8 (fun i hi => by have := hx35.size; omega)
              have hR8 := hR.ex hx08
              have hb38 := hb33.ex hx38
              have hb48 := hb43.ex hx38
              (repeat (first | refine cw_seq ?_ | refine qw_then ?_ | refine cw_exit ?_ | refine qw_block_exit ?_ | refine qw_then_exit ?_))
              refine cw_draw hM (fun w' => Ex w8 w') [7] rfl rfl (by repeat with_reducible (first | refine nop_then ?_ | refine nop_block ?_ | exact nop_body)) (fun w9 hx9 _ => ⟨hx9, ?_⟩)
              refine rw_take 0 rfl rfl (by kernel_rfl) (by kernel_rfl) (by kernel_rfl) (by kernel_rfl) rfl (yo_load hT rfl rfl (fun w' hS => Ex.cell hS (hb38.cell 0))) ?_
              (refine rw_takeP 1 rfl rfl (by kernel_rfl) (by kernel_rfl) (by kernel_rfl) (by kernel_rfl) rfl (yo_pure hT rfl) ?_; refine rw_takeP 2 rfl rfl (by kernel_rfl) (by kernel_rfl) (by kernel_rfl) (by kernel_rfl) rfl (yo_pure hT rfl) ?_)
              refine rw_take 3 rfl rfl (by kernel_rfl) (by kernel_rfl) (by kernel_rfl) (by kernel_rfl) rfl (yo_load hT rfl rfl (fun w' hS => Ex.cell hS (hR8.blk.cell 1))) ?_
              (refine rw_takeP 4 rfl rfl (by kernel_rfl) (by kernel_rfl) (by kernel_rfl) (by kernel_rfl) rfl (yo_pure hT rfl) ?_)
              refine rw_take 5 rfl rfl (by kernel_rfl) (by kernel_rfl) (by kernel_rfl) (by kernel_rfl) rfl (yo_load hT rfl rfl (fun w' hS => Ex.cell hS (hb48.cell 0))) ?_
              (refine rw_takeP 6 rfl rfl (by kernel_rfl) (by kernel_rfl) (by kernel_rfl) (by kernel_rfl) rfl (yo_pure hT rfl) ?_)
              refine rw_one 7 rfl (by kernel_rfl) rfl (fun hcl => ?_)
              skip
              have hnone : r.at? b.number = none := by cases h : r.at? b.number with
                | none => rfl
                | some x => rw [h] at h3; cases h3
              refine lw_mapUpdate mp78 rfl rfl rfl ((hmp.ex hx08).ex hx9) (by
                rw [hR.get hpm]
                rcases hR.at b.number with ⟨_, h2⟩ | ⟨i, x, g, hA⟩
                · exact h2
                · rw [hA.at_] at hnone; cases hnone) ?_
              intro w10 hm10 hx10 hs10
              (repeat (refine lw_nil ?_))
              refine qw_rw (by repeat with_reducible (first | refine nop_then ?_ | refine nop_block ?_ | exact nop_body)) hcl (fun h => absurd h (by decide)) ?_
              refine rw_done (by kernel_rfl) ?_
              (repeat (first | refine lw_pure hT rfl ?_ | refine lw_nil ?_ | refine cw_seq ?_ | refine cw_region ?_ | refine qw_then ?_ | refine cw_ret ?_))
              refine qw_ret rfl ⟨by rw [hc]; rfl, ?_⟩
              rw [hD]
              have hml := hmp.lt
              have hl9 := hx08.size
              have hx910 : Ext (fun k => k = m) w9 w10 := hx10
              have hub10 := own_ext (own_ex (own_ext (own_ex hub hx7) hx8 (fun k hk e => by have := own_base hub hk; omega)) hx9) hx910 (fun k hk e => by have := own_base hub hk; omega)
              have hup10 := own_ext (own_ex (own_ext (own_ex hup hx7) hx8 (fun k hk e => by have := own_base hup hk; omega)) hx9) hx910 (fun k hk e => by have := own_base hup hk; omega)
              have hb10 := (hb8.ex hx9).ext hx910 (by omega)
              have fpb : ∀ k ∈ (⟨be, ub, up, [.slice none 0 0, .slice none 0 0, .slice none 0 0]⟩ : GhostE).fp, k = be := by
                intro k hk
                rcases GhostE.fp_mem.1 hk with h | ⟨j, u, hu, hb⟩
                · exact h
                · exfalso
                  have : u = .slice none 0 0 := by
                    match j, hu with
                    | 0, hu => simpa using hu.symm
                    | 1, hu => simpa using hu.symm
                    | 2, hu => simpa using hu.symm
                    | _ + 3, hu => simp at hu
                  subst this; simp [Value.ownBlock] at hb
              have rdb : ∀ k ∈ (⟨be, ub, up, [.slice none 0 0, .slice none 0 0, .slice none 0 0]⟩ : GhostE).rd, w5.heap.size ≤ k ∧ k < be := by
                intro k hk
                rcases GhostE.rd_mem.1 hk with h | h
                · have := own_base hub h; omega
                · have := own_base hup h; omega
              have vcs0 : ∀ (j : Nat) (u : Value), ([.slice none 0 0, .slice none 0 0, .slice none 0 0] : List Value)[j]? = some u → u = .slice none 0 0 := by
                intro j u hu
                match j, hu with
                | 0, hu => simpa using hu.symm
                | 1, hu => simpa using hu.symm
                | 2, hu => simpa using hu.symm
                | _ + 3, hu => simp at hu
              have hE10 : EntOk w10 (newEnt b holder) ⟨be, ub, up, [.slice none 0 0, .slice none 0 0, .slice none 0 0]⟩ := by
                refine ⟨hb10, own_mono hub10 (Nat.zero_le _), own_mono hup10 (Nat.zero_le _), rfl, rfl, ?_⟩
                intro j q u hq hu
                have := vcs0 j u hu
                subst this
                have hq' : q.chain = [] := by
                  match j, hq with
                  | 0, hq => simp [newEnt] at hq; subst hq; rfl
                  | 1, hq => simp [newEnt] at hq; subst hq; rfl
                  | 2, hq => simp [newEnt] at hq; subst hq; rfl
                  | _ + 3, hq => simp [newEnt] at hq
                unfold ChainOk
                rw [hq']
                exact World.ownsRow_nil _ _ _ _
              have hx09 := hx08.trans hx9
              have hU := Rep.snoc (hR.ex hx09) hpm (x := newEnt b holder) (g := ⟨be, ub, up, [.slice none 0 0, .slice none 0 0, .slice none 0 0]⟩) hx910 hm10 hnone hE10 ⟨?_, ?_⟩ ?_ ?_ ?_
              refine ⟨⟨_, hU, foot_snoc (N := w.heap.size) (fun k hk => by have := fpb k hk; omega) (fun k hk => by have := rdb k hk; omega)⟩, ?_⟩
              · exact (Ext.of_ex hx09).trans' hx910 (fun _ _ h => h) (fun k _ h => foot_mem.2 (.inr (.inl h)))
              · intro j u hu e; have := vcs0 j u hu; subst this; simp [Value.ownBlock] at e
              · intro i j v u k _ hv _ hb; have := vcs0 i v hv; subst this; simp [Value.ownBlock] at hb
              · intro k hk
                right
                intro hf
                have := hR.foot_lt hf
                have := fpb k hk
                omega
              · intro k hk
                right
                intro hf
                have := hR.foot_lt hf
                have := rdb k hk
                omega
              · intro k hk hk'
                have := fpb k hk
                have := rdb k hk'
                omega
end
end Go.Proofs.YtnglkhnfmbnfeaaGreat
namespace Go.Proofs.YtnglkhnfmbnfeaaGreat
open Go Go.SK
structure FG where
  vb : Value
  vp : Value
  vP : Value
  vcs : List Value
instance : Inhabited FG := ⟨⟨undef, undef, undef, []⟩⟩
def entF (x : EntD × FG) : List Value := encB x.1.bill x.2.vb x.2.vp ++ [.int .i64 x.1.state, x.2.vP]
structure FEnt (A : Nat → Prop) (w : World) (x : EntD) (g : FG) : Prop where
  boxes : SlS A w g.vb x.bill.boxes
  parents : SlS A w g.vp x.bill.parents
  three : x.ps.length = 3
  three' : g.vcs.length = 3
  papers : Sl A w g.vP 3 ((x.ps.zip g.vcs).map papRow)
  chains : ∀ (i : Nat) (q : PapD) (vc : Value), x.ps[i]? = some q → g.vcs[i]? = some vc → SlE A w vc q.chain
  bcap : ∀ a n c, g.vb = .slice a n c → n ≤ c
structure FRep (A : Nat → Prop) (w : World) (vL : Value) (l : List EntD) (gs : List FG) : Prop where
  len : l.length = gs.length
  cap : ∀ a n c, vL = .slice a n c → n ≤ c
  sl : Sl A w vL 11 ((l.zip gs).map entF)
  ents : ∀ (i : Nat) (x : EntD) (g : FG), l[i]? = some x → gs[i]? = some g → FEnt A w x g
section
variable {A F : Nat → Prop} {w w' : World} {vL : Value} {l : List EntD} {gs : List FG}
theorem FEnt.ext {x : EntD} {g : FG} (h : FEnt A w x g) (hx : Ext F w w') (hn : ∀ b, A b → ¬ F b) : FEnt A w' x g :=
  ⟨h.boxes.ext hx hn, h.parents.ext hx hn, h.three, h.three', h.papers.ext hx hn, fun i q vc h1 h2 => (h.chains i q vc h1 h2).ext hx hn, h.bcap⟩
theorem FRep.ext (h : FRep A w vL l gs) (hx : Ext F w w') (hn : ∀ b, A b → ¬ F b) : FRep A w' vL l gs :=
  ⟨h.len, h.cap, h.sl.ext hx hn, fun i x g h1 h2 => (h.ents i x g h1 h2).ext hx hn⟩
theorem FRep.ex (h : FRep A w vL l gs) (hx : Ex w w') : FRep A w' vL l gs := h.ext hx fun _ _ f => f
theorem FEnt.ex {x : EntD} {g : FG} (h : FEnt A w x g) (hx : Ex w w') : FEnt A w' x g := h.ext hx fun _ _ f => f
theorem FEnt.weaken {B : Nat → Prop} {x : EntD} {g : FG} (h : FEnt A w x g) (hn : ∀ b, A b → B b) : FEnt B w x g :=
  ⟨h.boxes.weaken hn, h.parents.weaken hn, h.three, h.three', h.papers.weaken hn, fun i q vc h1 h2 => (h.chains i q vc h1 h2).weaken hn, h.bcap⟩
theorem FRep.weaken {B : Nat → Prop} (h : FRep A w vL l gs) (hn : ∀ b, A b → B b) : FRep B w vL l gs :=
  ⟨h.len, h.cap, h.sl.weaken hn, fun i x g h1 h2 => (h.ents i x g h1 h2).weaken hn⟩
theorem FRep.row (h : FRep A w vL l gs) {i : Nat} (hi : i < l.length) : ∃ x g b o cap, l[i]? = some x ∧ gs[i]? = some g ∧ vL = .slice (some ⟨b, o, none⟩) l.length cap ∧ Rd w b (o + i * 11) (entF (x, g)) ∧ FEnt A w x g := by
  have hx : l[i]? = some l[i] := List.getElem?_eq_getElem hi
  have hig : i < gs.length := h.len ▸ hi
  have hg : gs[i]? = some gs[i] := List.getElem?_eq_getElem hig
  have hz : (l.zip gs)[i]? = some (l[i], gs[i]) := by rw [List.getElem?_zip_eq_some]; exact ⟨hx, hg⟩
  obtain ⟨b, o, cap, hv, _, _, _, hrd⟩ := h.sl.at (i := i) (row := entF (l[i], gs[i])) (by rw [List.getElem?_map, hz]; rfl)
  have hlen : ((l.zip gs).map entF).length = l.length := by simp [h.len]
  rw [hlen] at hv
  exact ⟨_, _, b, o, cap, hx, hg, hv, hrd, h.ents i _ _ hx hg⟩
theorem FRep.slice (h : FRep A w vL l gs) : ∃ a cap, vL = .slice a l.length cap ∧ l.length ≤ maxLen := by
  obtain ⟨a, cap, hv, _⟩ := h.sl.is
  have hlen : ((l.zip gs).map entF).length = l.length := by simp [h.len]
  have := h.sl.small
  rw [hlen] at hv this
  exact ⟨a, cap, hv, this⟩
end
def encR (c : ByteArray) (vL : Value) : List Value := [.string c, vL]
theorem r23_in {A : Nat → Prop} {v : Value} {l : List ByteArray} (s : ByteArray) (w : World) (hS : SlS A w v l) : Ret Tryz.prog 104 [v, .string s] w fun u w' => u = .bool (l.any fun y => decide (y = s)) ∧ w = w' := by
  have hm := hS.small
  obtain ⟨a, cap, rfl, hz, hr⟩ := hS.is
  simp only [List.length_map] at *
  unfold maxLen at hm
  refine ret_of Tryz.func104 Tryz.ntmps104 rfl rfl rfl ?_
  (repeat (first | refine lw_pure hT rfl ?_ | refine lw_nil ?_ | refine cw_seq ?_ | refine cw_region ?_ | refine qw_then ?_ | refine cw_block ?_))
  refine cw_loop (fun i : Nat => [(0, .slice a l.length cap), (1, .string s), (5, .int .i64 (i : Nat))]) (fun i w' => w = w' ∧ i ≤ l.length ∧ ∀ j (hj : j < l.length), j < i → decide (l[j] = s) = false) (fun i => l.length - i) 0 (by repeat (first | exact trivial | refine ⟨rfl, ?_⟩)) ⟨rfl, Nat.zero_le _, fun j _ hj => by omega⟩ ?_
  rintro i _ ⟨rfl, hi, hb⟩
  (repeat (first | refine lw_pure hT rfl ?_ | refine lw_nil ?_ | refine cw_seq ?_ | refine cw_region ?_ | refine qw_then ?_))
  refine cw_cond rfl (fun h => ?_) (fun h => ?_)
  · have hlt : i < l.length := by simp at h; omega
    have hne : l.map (fun s => [Value.string s]) ≠ [] := by intro e; simp at e; subst e; simp at hlt
    obtain ⟨b, o, rfl, hA, hrd⟩ := hr hne
    obtain ⟨hlen, hrd⟩ := hrd i [.string l[i]] (by simp [hlt])
    (repeat (first | refine lw_pure hT rfl ?_ | refine cw_seq ?_ | refine cw_region ?_ | refine qw_then ?_ | refine cw_skip ?_ | refine cw_block ?_))
    refine lw_index hT rfl rfl rfl i rfl hlt ?_
    skip
    refine lw_load hT rfl rfl (v := .string l[i]) (hrd 0 _ rfl) ?_
    (repeat (first | refine lw_pure hT rfl ?_ | refine lw_nil ?_ | refine qw_then ?_))
    refine cw_cond rfl (fun h' => ?_) (fun h' => ?_)
    · (repeat (first | refine lw_pure hT rfl ?_ | refine lw_nil ?_ | refine cw_seq ?_ | refine cw_region ?_ | refine qw_then ?_ | refine cw_ret ?_ | refine qw_then_ret ?_ | refine qw_block_ret ?_))
      refine qw_ret rfl ⟨?_, rfl⟩
      have : (l.any fun y => decide (y = s)) = true := by rw [List.any_eq_true]; exact ⟨l[i], List.getElem_mem hlt, h'⟩
      rw [this]; rfl
    · (repeat (first | (refine lw_add rfl rfl ?_ ?_ ?_; iterate 2 omega) | refine lw_pure hT rfl ?_ | refine lw_nil ?_ | refine cw_region ?_ | refine qw_then ?_ | refine cw_skip ?_ | refine qw_block ?_))
      refine qw_round (i + 1) (by repeat (first | exact trivial | refine ⟨rfl, ?_⟩)) ⟨rfl, hlt, fun j hj hji => ?_⟩ (by omega)
      by_cases e : j = i
      · subst e; exact h'
      · exact hb j hj (by omega)
  · have : i = l.length := by simp at h; omega
    subst this
    (repeat (first | refine lw_pure hT rfl ?_ | refine lw_nil ?_ | refine cw_seq ?_ | refine cw_region ?_ | refine qw_then ?_ | refine cw_ret ?_ | refine cw_exit ?_ | refine qw_block_exit ?_ | refine qw_then_exit ?_))
    refine qw_ret rfl ⟨?_, rfl⟩
    have : (l.any fun y => decide (y = s)) = false := by
      rw [List.any_eq_false]
      intro y hy
      obtain ⟨j, hj, rfl⟩ := List.getElem_of_mem hy
      rw [hb j hj hj]; decide
    rw [this]; rfl
theorem r23_names {A : Nat → Prop} {v : Value} {l : List ByteArray} (w : World) (hS : SlS A w v l) (hs : ∀ s ∈ l, s.size ≤ maxLen) : Ret Tryz.prog 145 [v] w fun u w' => u = .bool (l.all nameB) ∧ w = w' := by
  have hm := hS.small
  obtain ⟨a, cap, rfl, hz, hr⟩ := hS.is
  simp only [List.length_map] at *
  unfold maxLen at hm
  refine ret_of Tryz.func145 Tryz.ntmps145 rfl rfl rfl ?_
  (repeat (first | refine lw_pure hT rfl ?_ | refine lw_nil ?_ | refine cw_seq ?_ | refine cw_region ?_ | refine qw_then ?_ | refine cw_block ?_))
  refine cw_loop (fun i : Nat => [(0, .slice a l.length cap), (3, .int .i64 (i : Nat))]) (fun i w' => w = w' ∧ i ≤ l.length ∧ ∀ j (hj : j < l.length), j < i → nameB l[j] = true) (fun i => l.length - i) 0 (by repeat (first | exact trivial | refine ⟨rfl, ?_⟩)) ⟨rfl, Nat.zero_le _, fun j _ hj => by omega⟩ ?_
  rintro i _ ⟨rfl, hi, hb⟩
  (repeat (first | refine lw_pure hT rfl ?_ | refine lw_nil ?_ | refine cw_seq ?_ | refine cw_region ?_ | refine qw_then ?_))
  refine cw_cond rfl (fun h => ?_) (fun h => ?_)
  · have hlt : i < l.length := by simp at h; omega
    have hne : l.map (fun s => [Value.string s]) ≠ [] := by intro e; simp at e; subst e; simp at hlt
    obtain ⟨b, o, rfl, hA, hrd⟩ := hr hne
    obtain ⟨hlen, hrd⟩ := hrd i [.string l[i]] (by simp [hlt])
    (repeat (first | refine lw_pure hT rfl ?_ | refine cw_seq ?_ | refine cw_region ?_ | refine qw_then ?_ | refine cw_skip ?_ | refine cw_block ?_))
    refine lw_index hT rfl rfl rfl i rfl hlt ?_
    skip
    refine lw_load hT rfl rfl (v := .string l[i]) (hrd 0 _ rfl) ?_
    skip
    refine lw_call hT rfl rfl (r_Name l[i] w (hs _ (List.getElem_mem hlt))) ?_
    rintro _ _ ⟨rfl, rfl⟩
    (repeat (first | refine lw_pure hT rfl ?_ | refine lw_nil ?_ | refine qw_then ?_))
    refine cw_cond rfl (fun h' => ?_) (fun h' => ?_)
    · rw [Bool.not_eq_true'] at h'
      (repeat (first | refine lw_pure hT rfl ?_ | refine lw_nil ?_ | refine cw_seq ?_ | refine cw_region ?_ | refine qw_then ?_ | refine cw_ret ?_ | refine qw_then_ret ?_ | refine qw_block_ret ?_))
      refine qw_ret rfl ⟨?_, rfl⟩
      have : l.all nameB = false := by rw [List.all_eq_false]; exact ⟨l[i], List.getElem_mem hlt, by rw [h']; decide⟩
      rw [this]; rfl
    · rw [Bool.not_eq_false'] at h'
      (repeat (first | (refine lw_add rfl rfl ?_ ?_ ?_; iterate 2 omega) | refine lw_pure hT rfl ?_ | refine lw_nil ?_ | refine cw_region ?_ | refine qw_then ?_ | refine cw_skip ?_ | refine qw_block ?_))
      refine qw_round (i + 1) (by repeat (first | exact trivial | refine ⟨rfl, ?_⟩)) ⟨rfl, hlt, fun j hj hji => ?_⟩ (by omega)
      by_cases e : j = i
      · subst e; exact h'
      · exact hb j hj (by omega)
  · have : i = l.length := by simp at h; omega
    subst this
    (repeat (first | refine lw_pure hT rfl ?_ | refine lw_nil ?_ | refine cw_seq ?_ | refine cw_region ?_ | refine qw_then ?_ | refine cw_ret ?_ | refine cw_exit ?_ | refine qw_block_exit ?_ | refine qw_then_exit ?_))
    refine qw_ret rfl ⟨?_, rfl⟩
    have : l.all nameB = true := by
      rw [List.all_eq_true]
      intro y hy
      obtain ⟨j, hj, rfl⟩ := List.getElem_of_mem hy
      exact hb j hj hj
    rw [this]; rfl
theorem r23_Day (n : Int) (w : World) : Ret Tryz.prog 129 [.int .i64 n] w fun v w' => v = .bool (dayB n) ∧ w = w' := by
  refine ret_of Tryz.func129 Tryz.ntmps129 rfl rfl rfl ?_
  (repeat (first | refine lw_pure hT rfl ?_ | refine lw_nil ?_ | refine cw_seq ?_ | refine cw_region ?_ | refine qw_then ?_))
  refine lw_guard rfl (fun h => ?_) (fun h => ?_)
  · (repeat (first | refine lw_pure hT rfl ?_ | refine lw_nil ?_ | refine qw_then ?_ | refine cw_ret ?_ | (refine lw_gon_t rfl ?_ ?_; focus with_reducible (first | rfl | exact Bool.not_false | exact Bool.not_true))))
    exact qw_ret rfl ⟨by simp only [oneOr, dayB]; simp at h; simp [h], rfl⟩
  · (repeat (first | refine lw_pure hT rfl ?_ | refine lw_nil ?_ | refine qw_then ?_ | refine cw_ret ?_ | (refine lw_goff_f rfl ?_ ?_; focus with_reducible (first | rfl | exact Bool.not_false | exact Bool.not_true))))
    exact qw_ret rfl ⟨by simp only [oneOr, dayB]; simp at h; simp; omega, rfl⟩
section
variable {A : Nat → Prop} {w : World} {vL : Value} {l : List EntD} {gs : List FG}
theorem r23_Find (c n : ByteArray) (hF : FRep A w vL l gs) : Ret Tryz.prog 55 [.agg ⟨encR c vL⟩, .string n] w fun v w' => v = .int .i64 (fidx (fun e => decide (e.bill.number = n)) l) ∧ Ex w w' := by
  obtain ⟨a, cap, rfl, hm⟩ := hF.slice
  unfold maxLen at hm
  refine ret_of Tryz.func55 Tryz.ntmps55 rfl rfl rfl ?_
  (repeat (first | refine cw_seq ?_ | refine cw_region ?_))
  refine lw_box rfl ?_
  intro b2 w1 hbb hb2 hx1 hs1
  replace hb2 : Blk w1 b2 (encR c (.slice a l.length cap)) 28 := hb2
  have hF1 := hF.ex hx1
  (repeat (first | refine lw_pure hT rfl ?_ | refine lw_nil ?_ | refine cw_seq ?_ | refine cw_region ?_ | refine qw_then ?_ | refine cw_block ?_))
  refine cw_loop (fun i : Nat => [(1, .string n), (2, .pointer (some ⟨b2, 0, none⟩)), (5, .int .i64 (i : Nat))]) (fun i w' => w1 = w' ∧ i ≤ l.length ∧ ∀ j (hj : j < l.length), j < i → decide (l[j].bill.number = n) = false) (fun i => l.length - i) 0 (by repeat (first | exact trivial | refine ⟨rfl, ?_⟩)) ⟨rfl, Nat.zero_le _, fun j _ hj => by omega⟩ ?_
  rintro i _ ⟨rfl, hi, hb⟩
  (repeat (first | refine lw_pure hT rfl ?_ | refine cw_seq ?_ | refine cw_region ?_))
  refine lw_load hT rfl rfl (v := .slice a l.length cap) (hb2.cell 1) ?_
  (repeat (first | refine lw_pure hT rfl ?_ | refine lw_nil ?_ | refine qw_then ?_))
  refine cw_cond rfl (fun h => ?_) (fun h => ?_)
  · have hlt : i < l.length := by simp at h; omega
    obtain ⟨x, g, b, o, cap', h1, h2, hv, hrd, hE⟩ := hF1.row hlt
    cases hv
    have hxi : x = l[i] := by rw [List.getElem?_eq_getElem hlt] at h1; exact (Option.some.inj h1).symm
    (repeat (first | refine lw_pure hT rfl ?_ | refine cw_seq ?_ | refine cw_region ?_ | refine qw_then ?_ | refine cw_skip ?_ | refine cw_block ?_))
    refine lw_load hT rfl rfl (v := .slice (some ⟨b, o, none⟩) l.length cap) (hb2.cell 1) ?_
    (repeat (refine lw_pure hT rfl ?_))
    refine lw_index hT rfl rfl rfl i rfl hlt ?_
    (repeat (refine lw_pure hT rfl ?_))
    refine lw_load hT rfl rfl (v := .string x.bill.number) (hrd 0 _ rfl) ?_
    (repeat (first | refine lw_pure hT rfl ?_ | refine lw_nil ?_ | refine qw_then ?_))
    refine cw_cond rfl (fun h' => ?_) (fun h' => ?_)
    · (repeat (first | refine lw_pure hT rfl ?_ | refine lw_nil ?_ | refine cw_seq ?_ | refine cw_region ?_ | refine qw_then ?_ | refine cw_ret ?_ | refine qw_then_ret ?_ | refine qw_block_ret ?_))
      exact qw_ret rfl ⟨by rw [fidx_at hlt (hxi ▸ h') fun j hj => hb j (by omega) hj]; rfl, hx1⟩
    · (repeat (first | (refine lw_add rfl rfl ?_ ?_ ?_; iterate 2 omega) | refine lw_pure hT rfl ?_ | refine lw_nil ?_ | refine cw_region ?_ | refine qw_then ?_ | refine cw_skip ?_ | refine qw_block ?_))
      refine qw_round (i + 1) (by repeat (first | exact trivial | refine ⟨rfl, ?_⟩)) ⟨rfl, hlt, fun j hj hji => ?_⟩ (by omega)
      by_cases e : j = i
      · subst e; rw [← hxi]; exact h'
      · exact hb j hj (by omega)
  · have : i = l.length := by simp at h; omega
    subst this
    (repeat (first | refine lw_pure hT rfl ?_ | refine lw_nil ?_ | refine cw_seq ?_ | refine cw_region ?_ | refine qw_then ?_ | refine cw_ret ?_ | refine cw_exit ?_ | refine qw_block_exit ?_ | refine qw_then_exit ?_))
    exact qw_ret rfl ⟨by rw [fidx_none fun j hj => hb j hj hj]; rfl, hx1⟩
def EntD.hasF (e : EntD) (x : ByteArray) : Bool := decide (e.state = 0) && e.bill.boxes.any fun y => decide (y = x)
theorem hasF_eq (e : EntD) (x : ByteArray) : e.hasF x = e.has x := by
  unfold EntD.hasF EntD.has
  congr 1
  apply List.any_congr rfl
  intro y; simp [eq_comm]
theorem r23_Box (c n : ByteArray) (hF : FRep A w vL l gs) : Ret Tryz.prog 60 [.agg ⟨encR c vL⟩, .string n] w fun v w' => v = .int .i64 (fidx (fun e => e.hasF n) l) ∧ Ex w w' := by
  obtain ⟨a, cap, rfl, hm⟩ := hF.slice
  unfold maxLen at hm
  refine ret_of Tryz.func60 Tryz.ntmps60 rfl rfl rfl ?_
  (repeat (first | refine cw_seq ?_ | refine cw_region ?_))
  refine lw_box rfl ?_
  intro b2 w1 hbb hb2 hx1 hs1
  replace hb2 : Blk w1 b2 (encR c (.slice a l.length cap)) 28 := hb2
  have hF1 := hF.ex hx1
  (repeat (first | refine lw_pure hT rfl ?_ | refine lw_nil ?_ | refine cw_seq ?_ | refine cw_region ?_ | refine qw_then ?_ | refine cw_block ?_))
  refine cw_loop (fun i : Nat => [(1, .string n), (2, .pointer (some ⟨b2, 0, none⟩)), (5, .int .i64 (i : Nat))]) (fun i w' => w1 = w' ∧ i ≤ l.length ∧ ∀ j (hj : j < l.length), j < i → l[j].hasF n = false) (fun i => l.length - i) 0 (by repeat (first | exact trivial | refine ⟨rfl, ?_⟩)) ⟨rfl, Nat.zero_le _, fun j _ hj => by omega⟩ ?_
  rintro i _ ⟨rfl, hi, hb⟩
  (repeat (first | refine lw_pure hT rfl ?_ | refine cw_seq ?_ | refine cw_region ?_))
  refine lw_load hT rfl rfl (v := .slice a l.length cap) (hb2.cell 1) ?_
  (repeat (first | refine lw_pure hT rfl ?_ | refine lw_nil ?_ | refine qw_then ?_))
  refine cw_cond rfl (fun h => ?_) (fun h => ?_)
  · have hlt : i < l.length := by simp at h; omega
    obtain ⟨x, g, b, o, cap', h1, h2, hv, hrd, hE⟩ := hF1.row hlt
    cases hv
    have hxi : x = l[i] := by rw [List.getElem?_eq_getElem hlt] at h1; exact (Option.some.inj h1).symm
    have next : l[i].hasF n = false → ∀ j (hj : j < l.length), j < i + 1 → l[j].hasF n = false := by
      intro h' j hj hji
      by_cases e : j = i
      · subst e; exact h'
      · exact hb j hj (by omega)
    (repeat (first | refine lw_pure hT rfl ?_ | refine cw_seq ?_ | refine cw_region ?_ | refine qw_then ?_ | refine cw_skip ?_ | refine cw_block ?_))
    refine lw_load hT rfl rfl (v := .slice (some ⟨b, o, none⟩) l.length cap) (hb2.cell 1) ?_
    (repeat (refine lw_pure hT rfl ?_))
    refine lw_index hT rfl rfl rfl i rfl hlt ?_
    (repeat (refine lw_pure hT rfl ?_))
    refine lw_load hT rfl rfl (v := .int .i64 x.state) (hrd 9 _ rfl) ?_
    (repeat (refine lw_pure hT rfl ?_))
    refine lw_guard rfl (fun h3 => ?_) (fun h3 => ?_)
    · (repeat (first | refine lw_pure hT rfl ?_ | (refine lw_gon_t rfl ?_ ?_; focus with_reducible (first | rfl | exact Bool.not_false | exact Bool.not_true))))
      refine lw_load hT rfl rfl (v := .slice (some ⟨b, o, none⟩) l.length cap) (hb2.cell 1) ?_
      (repeat (first | refine lw_pure hT rfl ?_ | (refine lw_gon_t rfl ?_ ?_; focus with_reducible (first | rfl | exact Bool.not_false | exact Bool.not_true))))
      refine lw_index hT rfl rfl rfl i rfl hlt ?_
      (repeat (first | refine lw_pure hT rfl ?_ | (refine lw_gon_t rfl ?_ ?_; focus with_reducible (first | rfl | exact Bool.not_false | exact Bool.not_true))))
      refine lw_load hT rfl rfl (v := g.vb) (hrd 5 _ rfl) ?_
      (repeat (first | refine lw_pure hT rfl ?_ | (refine lw_gon_t rfl ?_ ?_; focus with_reducible (first | rfl | exact Bool.not_false | exact Bool.not_true))))
      refine lw_call hT rfl rfl (r23_in n w1 hE.boxes) ?_
      rintro _ _ ⟨rfl, rfl⟩
      (repeat (first | refine lw_pure hT rfl ?_ | refine lw_nil ?_ | refine qw_then ?_))
      refine cw_cond rfl (fun h' => ?_) (fun h' => ?_)
      · (repeat (first | refine lw_pure hT rfl ?_ | refine lw_nil ?_ | refine cw_seq ?_ | refine cw_region ?_ | refine qw_then ?_ | refine cw_ret ?_ | refine qw_then_ret ?_ | refine qw_block_ret ?_))
        exact qw_ret rfl ⟨by rw [fidx_at hlt (by rw [← hxi]; simp only [EntD.hasF, h3, h', Bool.true_and]) fun j hj => hb j (by omega) hj]; rfl, hx1⟩
      · (repeat (first | (refine lw_add rfl rfl ?_ ?_ ?_; iterate 2 omega) | refine lw_pure hT rfl ?_ | refine lw_nil ?_ | refine cw_region ?_ | refine qw_then ?_ | refine cw_skip ?_ | refine qw_block ?_))
        exact qw_round (i + 1) (by repeat (first | exact trivial | refine ⟨rfl, ?_⟩)) ⟨rfl, hlt, next (by rw [← hxi]; simp only [EntD.hasF, h', Bool.and_false])⟩ (by omega)
    · (repeat (first | (refine lw_add rfl rfl ?_ ?_ ?_; iterate 2 omega) | refine lw_pure hT rfl ?_ | refine lw_nil ?_ | refine cw_region ?_ | refine qw_then ?_ | refine cw_skip ?_ | (refine lw_goff_f rfl ?_ ?_; focus with_reducible (first | rfl | exact Bool.not_false | exact Bool.not_true)) | refine qw_block ?_ | (refine cw_cond_f rfl ?_ ?_; focus with_reducible (first | rfl | exact Bool.not_false | exact Bool.not_true))))
      exact qw_round (i + 1) (by repeat (first | exact trivial | refine ⟨rfl, ?_⟩)) ⟨rfl, hlt, next (by rw [← hxi]; simp only [EntD.hasF, h3, Bool.false_and])⟩ (by omega)
  · have : i = l.length := by simp at h; omega
    subst this
    (repeat (first | refine lw_pure hT rfl ?_ | refine lw_nil ?_ | refine cw_seq ?_ | refine cw_region ?_ | refine qw_then ?_ | refine cw_ret ?_ | refine cw_exit ?_ | refine qw_block_exit ?_ | refine qw_then_exit ?_))
    exact qw_ret rfl ⟨by rw [fidx_none fun j hj => hb j hj hj]; rfl, hx1⟩
end
end Go.Proofs.YtnglkhnfmbnfeaaGreat
namespace Go.Proofs.YtnglkhnfmbnfeaaGreat
open Go Go.SK
def mayF (c : ByteArray) (b : BillD) : Bool :=
  (nameB b.number && nameB b.shipper && nameB b.frm && nameB b.to_) && decide (b.carrier = c) && decide (1 ≤ b.boxes.length) && decide (b.boxes.length ≤ 64) && decide (b.parents.length ≤ 64) && b.parents.all nameB && dayB b.issued && (b.boxes.all rightB && onceB b.boxes)
theorem mayF_eq (c : ByteArray) (b : BillD) : mayF c b = mayB c b := by
  unfold mayF mayB
  cases (nameB b.number && nameB b.shipper && nameB b.frm && nameB b.to_) <;> cases decide (b.carrier = c) <;> cases decide (1 ≤ b.boxes.length) <;> cases decide (b.boxes.length ≤ 64) <;> cases decide (b.parents.length ≤ 64) <;> cases (b.parents.all nameB) <;> cases dayB b.issued <;> cases b.boxes.all rightB <;> cases onceB b.boxes <;> rfl
set_option maxHeartbeats 2000000 in
theorem r23_May {A : Nat → Prop} (w : World) (c : ByteArray) (b : BillD) (vb vp : Value) (hB : SlS A w vb b.boxes) (hP : SlS A w vp b.parents) (hok : b.Ok) (hcap : ∀ a n c, vb = .slice a n c → n ≤ c) :
    Ret Tryz.prog 127 [.string c, .agg ⟨encB b vb vp⟩] w fun v w' => v = .bool (mayF c b) ∧ Ex w w' := by
  have hBm := hB.small
  have hPm := hP.small
  obtain ⟨ab, cb, rfl, hzb, hrb⟩ := hB.is
  obtain ⟨ap, cp, rfl, hzp, hrp⟩ := hP.is
  simp only [List.length_map] at *
  unfold maxLen at hBm hPm
  refine ret_of Tryz.func127 Tryz.ntmps127 rfl rfl rfl ?_
  (repeat (first | refine cw_seq ?_ | refine cw_region ?_))
  refine lw_box rfl ?_
  intro b3 w1 hbb hb3 hx1 hs1
  replace hb3 : Blk w1 b3 (encB b (.slice ab b.boxes.length cb) (.slice ap b.parents.length cp)) 33 := hb3
  (repeat (first | refine lw_pure hT rfl ?_ | refine lw_nil ?_ | refine cw_seq ?_ | refine cw_region ?_ | refine qw_then ?_))
  refine lw_load hT rfl rfl (v := .string b.number) (hb3.cell 0) ?_
  (repeat (refine lw_pure hT rfl ?_))
  refine lw_load hT rfl rfl (v := .string b.shipper) (hb3.cell 2) ?_
  (repeat (refine lw_pure hT rfl ?_))
  refine lw_load hT rfl rfl (v := .string b.frm) (hb3.cell 3) ?_
  (repeat (refine lw_pure hT rfl ?_))
  refine lw_load hT rfl rfl (v := .string b.to_) (hb3.cell 4) ?_
  skip
  refine lw_buildSlice sl31 rfl rfl rfl ?_
  intro bn w3 hbn hn3 hx3 hs3
  have hb33 := hb3.ex hx3
  have hx03 := hx1.trans hx3
  have hB3 := hB.ex hx03
  have hP3 := hP.ex hx03
  skip
  refine lw_call hT rfl rfl (r23_names w3 (l := [b.number, b.shipper, b.frm, b.to_]) (sls_of_blk (l := [b.number, b.shipper, b.frm, b.to_]) hn3 (by simp [maxLen])) (by
    intro s hs
    simp only [List.mem_cons, List.not_mem_nil, or_false] at hs
    rcases hs with rfl | rfl | rfl | rfl
    · exact hok.number
    · exact hok.shipper
    · exact hok.frm
    · exact hok.to_)) ?_
  rintro _ _ ⟨rfl, rfl⟩
  have e0 : [b.number, b.shipper, b.frm, b.to_].all nameB = (nameB b.number && nameB b.shipper && nameB b.frm && nameB b.to_) := by simp [Bool.and_assoc]
  rw [e0]
  (repeat (refine lw_pure hT rfl ?_))
  have no : ∀ (v : Bool), mayF c b = v → QW (bodyPost Tryz.prog Tryz.f127 fun e w' => ∃ v, e = .returned v ∧ v = .bool (mayF c b) ∧ Ex w w') .ret 79 [(4, .bool v)] w3 := fun v hv => by
    subst hv
    exact qw_ret rfl ⟨rfl, hx03⟩
  refine lw_guard rfl (fun h1 => ?_) (fun h1 => ?_)
  · rw [Bool.not_eq_true'] at h1
    (repeat (first | refine lw_pure hT rfl ?_ | refine lw_nil ?_ | refine cw_seq ?_ | refine cw_region ?_ | refine qw_then ?_ | refine cw_ret ?_ | refine qw_then_ret ?_ | (refine lw_goff_t rfl ?_ ?_; focus with_reducible (first | rfl | exact Bool.not_false | exact Bool.not_true)) | (refine cw_cond_t rfl ?_ ?_; focus with_reducible (first | rfl | exact Bool.not_false | exact Bool.not_true))))
    exact qw_sub (by repeat (first | exact trivial | refine ⟨rfl, ?_⟩)) (no false (by simp only [mayF, h1]; rfl))
  · rw [Bool.not_eq_false'] at h1
    (repeat (first | refine lw_pure hT rfl ?_ | (refine lw_gon_f rfl ?_ ?_; focus with_reducible (first | rfl | exact Bool.not_false | exact Bool.not_true))))
    refine lw_load hT rfl rfl (v := .string b.carrier) (hb33.cell 1) ?_
    (repeat (first | refine lw_pure hT rfl ?_ | (refine lw_gon_f rfl ?_ ?_; focus with_reducible (first | rfl | exact Bool.not_false | exact Bool.not_true))))
    refine lw_guard rfl (fun h2 => ?_) (fun h2 => ?_)
    · have h2 : decide (b.carrier = c) = false := by simpa using h2
      (repeat (first | refine lw_pure hT rfl ?_ | refine lw_nil ?_ | refine cw_seq ?_ | refine cw_region ?_ | refine qw_then ?_ | refine cw_ret ?_ | refine qw_then_ret ?_ | (refine lw_goff_t rfl ?_ ?_; focus with_reducible (first | rfl | exact Bool.not_false | exact Bool.not_true)) | (refine cw_cond_t rfl ?_ ?_; focus with_reducible (first | rfl | exact Bool.not_false | exact Bool.not_true))))
      exact qw_sub (by repeat (first | exact trivial | refine ⟨rfl, ?_⟩)) (no false (by simp only [mayF, h2]; simp))
    · have h2 : decide (b.carrier = c) = true := by simpa using h2
      (repeat (first | refine lw_pure hT rfl ?_ | (refine lw_gon_f rfl ?_ ?_; focus with_reducible (first | rfl | exact Bool.not_false | exact Bool.not_true))))
      refine lw_load hT rfl rfl (v := .slice ab b.boxes.length cb) (hb33.cell 5) ?_
      (repeat (first | refine lw_pure hT rfl ?_ | (refine lw_gon_f rfl ?_ ?_; focus with_reducible (first | rfl | exact Bool.not_false | exact Bool.not_true))))
      refine lw_guard rfl (fun h3 => ?_) (fun h3 => ?_)
      · have h3 : decide (1 ≤ b.boxes.length) = false := by have := of_decide_eq_true h3; exact decide_eq_false (by omega)
        (repeat (first | refine lw_pure hT rfl ?_ | refine lw_nil ?_ | refine cw_seq ?_ | refine cw_region ?_ | refine qw_then ?_ | refine cw_ret ?_ | refine qw_then_ret ?_ | (refine lw_goff_t rfl ?_ ?_; focus with_reducible (first | rfl | exact Bool.not_false | exact Bool.not_true)) | (refine cw_cond_t rfl ?_ ?_; focus with_reducible (first | rfl | exact Bool.not_false | exact Bool.not_true))))
        exact qw_sub (by repeat (first | exact trivial | refine ⟨rfl, ?_⟩)) (no false (by simp only [mayF, h3]; simp))
      · have h3 : decide (1 ≤ b.boxes.length) = true := by have := of_decide_eq_false h3; exact decide_eq_true (by omega)
        (repeat (first | refine lw_pure hT rfl ?_ | (refine lw_gon_f rfl ?_ ?_; focus with_reducible (first | rfl | exact Bool.not_false | exact Bool.not_true))))
        refine lw_load hT rfl rfl (v := .slice ab b.boxes.length cb) (hb33.cell 5) ?_
        (repeat (first | refine lw_pure hT rfl ?_ | (refine lw_gon_f rfl ?_ ?_; focus with_reducible (first | rfl | exact Bool.not_false | exact Bool.not_true))))
        refine lw_guard rfl (fun h4 => ?_) (fun h4 => ?_)
        · have h4 : decide (b.boxes.length ≤ 64) = false := by have := of_decide_eq_true h4; exact decide_eq_false (by omega)
          (repeat (first | refine lw_pure hT rfl ?_ | refine lw_nil ?_ | refine cw_seq ?_ | refine cw_region ?_ | refine qw_then ?_ | refine cw_ret ?_ | refine qw_then_ret ?_ | (refine lw_goff_t rfl ?_ ?_; focus with_reducible (first | rfl | exact Bool.not_false | exact Bool.not_true)) | (refine cw_cond_t rfl ?_ ?_; focus with_reducible (first | rfl | exact Bool.not_false | exact Bool.not_true))))
          exact qw_sub (by repeat (first | exact trivial | refine ⟨rfl, ?_⟩)) (no false (by simp only [mayF, h4]; simp))
        · have h4 : decide (b.boxes.length ≤ 64) = true := by have := of_decide_eq_false h4; exact decide_eq_true (by omega)
          (repeat (first | refine lw_pure hT rfl ?_ | (refine lw_gon_f rfl ?_ ?_; focus with_reducible (first | rfl | exact Bool.not_false | exact Bool.not_true))))
          refine lw_load hT rfl rfl (v := .slice ap b.parents.length cp) (hb33.cell 6) ?_
          (repeat (first | refine lw_pure hT rfl ?_ | (refine lw_gon_f rfl ?_ ?_; focus with_reducible (first | rfl | exact Bool.not_false | exact Bool.not_true))))
          refine lw_guard rfl (fun h5 => ?_) (fun h5 => ?_)
          · have h5 : decide (b.parents.length ≤ 64) = false := by have := of_decide_eq_true h5; exact decide_eq_false (by omega)
            (repeat (first | refine lw_pure hT rfl ?_ | refine lw_nil ?_ | refine cw_seq ?_ | refine cw_region ?_ | refine qw_then ?_ | refine cw_ret ?_ | refine qw_then_ret ?_ | (refine lw_goff_t rfl ?_ ?_; focus with_reducible (first | rfl | exact Bool.not_false | exact Bool.not_true)) | (refine cw_cond_t rfl ?_ ?_; focus with_reducible (first | rfl | exact Bool.not_false | exact Bool.not_true))))
            exact qw_sub (by repeat (first | exact trivial | refine ⟨rfl, ?_⟩)) (no false (by simp only [mayF, h5]; simp))
          · have h5 : decide (b.parents.length ≤ 64) = true := by have := of_decide_eq_false h5; exact decide_eq_true (by omega)
            (repeat (first | refine lw_pure hT rfl ?_ | (refine lw_gon_f rfl ?_ ?_; focus with_reducible (first | rfl | exact Bool.not_false | exact Bool.not_true))))
            refine lw_load hT rfl rfl (v := .slice ap b.parents.length cp) (hb33.cell 6) ?_
            (repeat (refine lw_gon_f rfl ?_ ?_; focus with_reducible (first | rfl | exact Bool.not_false | exact Bool.not_true)))
            refine lw_call hT rfl rfl (r23_names w3 hP3 hok.parents) ?_
            rintro _ _ ⟨rfl, rfl⟩
            (repeat (first | refine lw_pure hT rfl ?_ | (refine lw_gon_f rfl ?_ ?_; focus with_reducible (first | rfl | exact Bool.not_false | exact Bool.not_true))))
            refine lw_guard rfl (fun h6 => ?_) (fun h6 => ?_)
            · rw [Bool.not_eq_true'] at h6
              (repeat (first | refine lw_pure hT rfl ?_ | refine lw_nil ?_ | refine cw_seq ?_ | refine cw_region ?_ | refine qw_then ?_ | refine cw_ret ?_ | refine qw_then_ret ?_ | (refine lw_goff_t rfl ?_ ?_; focus with_reducible (first | rfl | exact Bool.not_false | exact Bool.not_true)) | (refine cw_cond_t rfl ?_ ?_; focus with_reducible (first | rfl | exact Bool.not_false | exact Bool.not_true))))
              exact qw_sub (by repeat (first | exact trivial | refine ⟨rfl, ?_⟩)) (no false (by simp only [mayF, h6]; simp))
            · rw [Bool.not_eq_false'] at h6
              (repeat (first | refine lw_pure hT rfl ?_ | (refine lw_gon_f rfl ?_ ?_; focus with_reducible (first | rfl | exact Bool.not_false | exact Bool.not_true))))
              refine lw_load hT rfl rfl (v := .int .i64 b.issued) (hb33.cell 7) ?_
              (repeat (refine lw_gon_f rfl ?_ ?_; focus with_reducible (first | rfl | exact Bool.not_false | exact Bool.not_true)))
              refine lw_call hT rfl rfl (r23_Day _ w3) ?_
              rintro _ _ ⟨rfl, rfl⟩
              (repeat (first | refine lw_pure hT rfl ?_ | refine lw_nil ?_ | refine qw_then ?_ | (refine lw_gon_f rfl ?_ ?_; focus with_reducible (first | rfl | exact Bool.not_false | exact Bool.not_true))))
              refine cw_cond rfl (fun h7 => ?_) (fun h7 => ?_)
              · rw [Bool.not_eq_true'] at h7
                (repeat (first | refine lw_pure hT rfl ?_ | refine lw_nil ?_ | refine cw_seq ?_ | refine cw_region ?_ | refine qw_then ?_ | refine cw_ret ?_ | refine qw_then_ret ?_))
                exact qw_sub (by repeat (first | exact trivial | refine ⟨rfl, ?_⟩)) (no false (by simp only [mayF, h7]; simp))
              · rw [Bool.not_eq_false'] at h7
                have e : mayF c b = (b.boxes.all rightB && onceB b.boxes) := by simp only [mayF, h1, h2, h3, h4, h5, h6, h7, Bool.true_and]
                (repeat (first | refine lw_pure hT rfl ?_ | refine lw_nil ?_ | refine cw_seq ?_ | refine cw_region ?_ | refine qw_then ?_ | refine cw_skip ?_ | refine cw_block ?_))
                refine cw_loop (fun i : Nat => [(3, .pointer (some ⟨b3, 0, none⟩)), (5, .int .i64 (i : Nat))])
                  (fun i w' => Ex w3 w' ∧ i ≤ b.boxes.length ∧ ((b.boxes.take i).all rightB && onceB (b.boxes.take i)) = true) (fun i => b.boxes.length - i) 0 (by repeat (first | exact trivial | refine ⟨rfl, ?_⟩)) ⟨Ext.refl _ _, Nat.zero_le _, by simp [onceB]⟩ ?_
                rintro i w4 ⟨hx4, hi, ha⟩
                have hb34 := hb33.ex hx4
                (repeat (first | refine lw_pure hT rfl ?_ | refine cw_seq ?_ | refine cw_region ?_))
                refine lw_load hT rfl rfl (v := .slice ab b.boxes.length cb) (hb34.cell 5) ?_
                (repeat (first | refine lw_pure hT rfl ?_ | refine lw_nil ?_ | refine qw_then ?_))
                refine cw_cond rfl (fun h => ?_) (fun h => ?_)
                · have hlt : i < b.boxes.length := by simp at h; omega
                  have hg : b.boxes[i]? = some b.boxes[i] := List.getElem?_eq_getElem hlt
                  have hne : b.boxes.map (fun s => [Value.string s]) ≠ [] := by intro e; simp at e; rw [e] at hlt; simp at hlt
                  obtain ⟨bb, o, rfl, hA, hrd⟩ := hrb hne
                  have hrd' := hrd
                  obtain ⟨hlen, hrd⟩ := hrd i [.string b.boxes[i]] (by simp [hlt])
                  have hrd3 := hrd.ex hx03
                  simp only [Bool.and_eq_true] at ha
                  have hcb : b.boxes.length ≤ cb := hcap _ _ _ rfl
                  (repeat (first | refine cw_seq ?_ | refine qw_then ?_ | refine cw_skip ?_ | refine cw_block ?_))
                  refine cw_draw hM (fun w' => Ex w3 w') [] rfl rfl (by repeat with_reducible (first | refine nop_then ?_ | refine nop_block ?_ | exact nop_body)) (fun w5 hx5 _ => ⟨hx4.trans hx5, ?_⟩)
                  (refine rw_takeP 0 rfl rfl (by kernel_rfl) (by kernel_rfl) (by kernel_rfl) (by kernel_rfl) rfl (yo_pure hT rfl) ?_)
                  refine rw_take 1 rfl rfl (by kernel_rfl) (by kernel_rfl) (by kernel_rfl) (by kernel_rfl) rfl (yo_load hT rfl rfl (fun w' hS => Ex.cell hS (hb33.cell 5))) ?_
                  (refine rw_takeP 2 rfl rfl (by kernel_rfl) (by kernel_rfl) (by kernel_rfl) (by kernel_rfl) rfl (yo_pure hT rfl) ?_)
                  refine rw_takeP 3 rfl rfl (by kernel_rfl) (by kernel_rfl) (by kernel_rfl) (by kernel_rfl) rfl (yo_index hT rfl rfl rfl i rfl hlt) ?_
                  refine rw_take 4 rfl rfl (by kernel_rfl) (by kernel_rfl) (by kernel_rfl) (by kernel_rfl) rfl (yo_load hT rfl rfl (v := .string b.boxes[i]) (fun w' hS => Ex.cell hS (hrd3 0 _ rfl))) ?_
                  refine rw_one 5 rfl (by kernel_rfl) rfl (fun hcl => ?_)
                  skip
                  refine lw_call hT rfl rfl (r_Right b.boxes[i] w5 (hok.boxes _ (List.getElem_mem hlt))) ?_
                  rintro _ w6 ⟨rfl, hx6⟩
                  have hx36 := (hx4.trans hx5).trans hx6
                  (repeat (refine lw_nil ?_))
                  refine qw_rw (by repeat with_reducible (first | refine nop_then ?_ | refine nop_block ?_ | exact nop_body)) hcl (fun _ => hx36) ?_
                  (refine rw_takeP 6 rfl rfl (by kernel_rfl) (by kernel_rfl) (by kernel_rfl) (by kernel_rfl) rfl (yo_pure hT rfl) ?_; refine rw_takeP 7 rfl rfl (by kernel_rfl) (by kernel_rfl) (by kernel_rfl) (by kernel_rfl) rfl (yo_pure hT rfl) ?_)
                  refine rw_split (d := 67) rfl (fun h8 => ?_) (fun h8 => ?_)
                  · rw [Bool.not_eq_true'] at h8
                    (refine rw_takeP 8 rfl rfl (by kernel_rfl) (by kernel_rfl) (by kernel_rfl) (by kernel_rfl) rfl (yo_off rfl rfl) ?_; refine rw_takeP 9 rfl rfl (by kernel_rfl) (by kernel_rfl) (by kernel_rfl) (by kernel_rfl) rfl (yo_off rfl rfl) ?_; refine rw_takeP 10 rfl rfl (by kernel_rfl) (by kernel_rfl) (by kernel_rfl) (by kernel_rfl) rfl (yo_off rfl rfl) ?_; refine rw_takeP 11 rfl rfl (by kernel_rfl) (by kernel_rfl) (by kernel_rfl) (by kernel_rfl) rfl (yo_off rfl rfl) ?_; refine rw_takeP 12 rfl rfl (by kernel_rfl) (by kernel_rfl) (by kernel_rfl) (by kernel_rfl) rfl (yo_off rfl rfl) ?_; refine rw_takeP 13 rfl rfl (by kernel_rfl) (by kernel_rfl) (by kernel_rfl) (by kernel_rfl) rfl (yo_off rfl rfl) ?_; refine rw_takeP 14 rfl rfl (by kernel_rfl) (by kernel_rfl) (by kernel_rfl) (by kernel_rfl) rfl (yo_off rfl rfl) ?_; refine rw_takeP 15 rfl rfl (by kernel_rfl) (by kernel_rfl) (by kernel_rfl) (by kernel_rfl) rfl (yo_off rfl rfl) ?_; refine rw_takeP 16 rfl rfl (by kernel_rfl) (by kernel_rfl) (by kernel_rfl) (by kernel_rfl) rfl (yo_off rfl rfl) ?_; refine rw_takeP 17 rfl rfl (by kernel_rfl) (by kernel_rfl) (by kernel_rfl) (by kernel_rfl) rfl (yo_off rfl rfl) ?_)
                    (refine rw_takeP 18 rfl rfl (by kernel_rfl) (by kernel_rfl) (by kernel_rfl) (by kernel_rfl) rfl (yo_pure hT rfl) ?_)
                    refine rw_done (by kernel_rfl) ?_
                    (repeat (first | refine lw_pure hT rfl ?_ | refine lw_nil ?_ | refine cw_seq ?_ | refine cw_region ?_ | refine qw_then ?_ | refine cw_ret ?_ | refine qw_then_ret ?_ | refine qw_block_ret ?_ | (refine cw_cond_t rfl ?_ ?_; focus with_reducible (first | rfl | exact Bool.not_false | exact Bool.not_true))))
                    refine qw_ret rfl ⟨?_, hx03.trans hx36⟩
                    rw [e, once_bad hg (.inl h8)]; rfl
                  · rw [Bool.not_eq_false'] at h8
                    (refine rw_takeP 8 rfl rfl (by kernel_rfl) (by kernel_rfl) (by kernel_rfl) (by kernel_rfl) rfl (yo_on rfl rfl (yo_pure hT rfl)) ?_)
                    refine rw_take 9 rfl rfl (by kernel_rfl) (by kernel_rfl) (by kernel_rfl) (by kernel_rfl) rfl (yo_on rfl rfl (yo_load hT rfl rfl (fun w' hS => Ex.cell hS (hb33.cell 5)))) ?_
                    (refine rw_takeP 10 rfl rfl (by kernel_rfl) (by kernel_rfl) (by kernel_rfl) (by kernel_rfl) rfl (yo_on rfl rfl (yo_pure hT rfl)) ?_)
                    refine rw_takeP 11 rfl rfl (by kernel_rfl) (by kernel_rfl) (by kernel_rfl) (by kernel_rfl) rfl (yo_on rfl rfl (yo_slice_sl hT rfl rfl rfl rfl 0 i rfl rfl (Nat.zero_le _) (by omega))) ?_
                    (refine rw_takeP 12 rfl rfl (by kernel_rfl) (by kernel_rfl) (by kernel_rfl) (by kernel_rfl) rfl (yo_on rfl rfl (yo_pure hT rfl)) ?_)
                    refine rw_take 13 rfl rfl (by kernel_rfl) (by kernel_rfl) (by kernel_rfl) (by kernel_rfl) rfl (yo_on rfl rfl (yo_load hT rfl rfl (fun w' hS => Ex.cell hS (hb33.cell 5)))) ?_
                    (refine rw_takeP 14 rfl rfl (by kernel_rfl) (by kernel_rfl) (by kernel_rfl) (by kernel_rfl) rfl (yo_on rfl rfl (yo_pure hT rfl)) ?_)
                    refine rw_takeP 15 rfl rfl (by kernel_rfl) (by kernel_rfl) (by kernel_rfl) (by kernel_rfl) rfl (yo_on rfl rfl (yo_index hT rfl rfl rfl i rfl hlt)) ?_
                    refine rw_take 16 rfl rfl (by kernel_rfl) (by kernel_rfl) (by kernel_rfl) (by kernel_rfl) rfl (yo_on rfl rfl (yo_load hT rfl rfl (v := .string b.boxes[i]) (fun w' hS => Ex.cell hS (hrd3 0 _ rfl)))) ?_
                    refine rw_one 17 rfl (by kernel_rfl) rfl (fun hcl => ?_)
                    (repeat (refine lw_gon_f rfl ?_ ?_; focus with_reducible (first | rfl | exact Bool.not_false | exact Bool.not_true)))
                    have hsub : SlS A w6 (.slice (if cb = 0 then some ⟨bb, o, none⟩ else (some (⟨bb, o, none⟩ : Addr)).map (·.add (0 * 1))) (i - 0) (cb - 0)) (b.boxes.take i) := by
                      have e1 : (if cb = 0 then some (⟨bb, o, none⟩ : Addr) else (some (⟨bb, o, none⟩ : Addr)).map (·.add (0 * 1))) = some ⟨bb, o, none⟩ := by
                        rw [if_neg (by omega)]; rfl
                      rw [e1]
                      refine ⟨⟨_, cb - 0, by simp [Nat.min_eq_left hi], (fun h => by cases h), fun _ => ⟨bb, o, rfl, hA, fun j row hj => ?_⟩⟩, by simp [maxLen]; omega⟩
                      have hj' : (b.boxes.map fun s => [Value.string s])[j]? = some row := by
                        rw [List.getElem?_map, List.getElem?_take] at hj
                        split at hj
                        · rw [List.getElem?_map]; exact hj
                        · simp at hj
                      exact ⟨(hrd' j row hj').1, (hrd' j row hj').2.ex (hx03.trans hx36)⟩
                    refine lw_call hT rfl rfl (r23_in b.boxes[i] w6 hsub) ?_
                    rintro _ _ ⟨rfl, rfl⟩
                    have eq : ((b.boxes.take i).any fun y => decide (y = b.boxes[i])) = ((b.boxes.take i).any fun y => decide (b.boxes[i] = y)) := List.any_congr rfl fun y => by simp [eq_comm]
                    (repeat (refine lw_nil ?_))
                    refine qw_rw (by repeat with_reducible (first | refine nop_then ?_ | refine nop_block ?_ | exact nop_body)) hcl (fun _ => hx36) ?_
                    (refine rw_takeP 18 rfl rfl (by kernel_rfl) (by kernel_rfl) (by kernel_rfl) (by kernel_rfl) rfl (yo_pure hT rfl) ?_)
                    refine rw_done (by kernel_rfl) ?_
                    (repeat (refine qw_then ?_))
                    refine cw_cond rfl (fun h9 => ?_) (fun h9 => ?_)
                    · (repeat (first | refine lw_pure hT rfl ?_ | refine lw_nil ?_ | refine cw_seq ?_ | refine cw_region ?_ | refine qw_then ?_ | refine cw_ret ?_ | refine qw_then_ret ?_ | refine qw_block_ret ?_))
                      refine qw_ret rfl ⟨?_, hx03.trans hx36⟩
                      rw [e, once_bad hg (.inr (eq ▸ h9))]; rfl
                    · (repeat (first | (refine lw_add rfl rfl ?_ ?_ ?_; iterate 2 omega) | refine lw_pure hT rfl ?_ | refine lw_nil ?_ | refine cw_region ?_ | refine qw_then ?_ | refine cw_skip ?_ | refine qw_block ?_))
                      refine qw_round (i + 1) (by repeat (first | exact trivial | refine ⟨rfl, ?_⟩)) ⟨hx36, hlt, ?_⟩ (by omega)
                      rw [List.take_add_one, hg]
                      simp only [Option.toList_some]
                      rw [once_snoc, List.all_append, ← eq, h9, ha.1, ha.2]
                      simp [h8]
                · have : i = b.boxes.length := by simp at h; omega
                  subst this
                  rw [List.take_length] at ha
                  (repeat (first | refine lw_pure hT rfl ?_ | refine lw_nil ?_ | refine cw_seq ?_ | refine cw_region ?_ | refine qw_then ?_ | refine cw_ret ?_ | refine cw_exit ?_ | refine qw_block_exit ?_ | refine qw_then_exit ?_))
                  refine qw_ret rfl ⟨?_, hx03.trans hx4⟩
                  rw [e, ha]; rfl
end Go.Proofs.YtnglkhnfmbnfeaaGreat
namespace Go.Proofs.YtnglkhnfmbnfeaaGreat
open Go Go.SK
def encAct (a : ActD) (vb vp : Value) : List Value := [.int .i64 a.kind, .int .i64 a.index, .int .i64 a.day, .string a.bill, .string a.by_, .string a.to_] ++ encB a.b vb vp
def whichD (a : ActD) : List Int := if a.kind = 5 ∨ (a.kind = 1 ∧ a.index = -1) then [0, 1, 2] else [a.index]
abbrev SlI (A : Nat → Prop) (w : World) (v : Value) (l : List Int) : Prop := Sl A w v 1 (l.map fun i => [Value.int .i64 i])
theorem r23_which (a : ActD) (vb vp : Value) (w : World) : Ret Tryz.prog 80 [.agg ⟨encAct a vb vp⟩] w fun v w' => SlI (fun b => w.heap.size ≤ b ∧ b < w'.heap.size) w' v (whichD a) ∧ Ex w w' := by
  refine ret_of Tryz.func80 Tryz.ntmps80 rfl rfl rfl ?_
  (repeat (first | refine cw_seq ?_ | refine cw_region ?_))
  refine lw_box rfl ?_
  intro b1 w1 hbb hb1 hx1 hs1
  replace hb1 : Blk w1 b1 (encAct a vb vp) 73 := hb1
  have all : (a.kind = 5 ∨ (a.kind = 1 ∧ a.index = -1)) → ∀ {b w'}, w1.heap.size ≤ b → Blk w' b [.int .i64 0, .int .i64 1, .int .i64 2] 3 → SlI (fun b => w.heap.size ≤ b ∧ b < w'.heap.size) w' (.slice (some ⟨b, 0, none⟩) 3 3) (whichD a) := by
    intro h b w' hb hblk
    unfold whichD; rw [if_pos h]
    exact Sl.of_rd (A := fun b => w.heap.size ≤ b ∧ b < w'.heap.size) (o := 0) (rows := [[.int .i64 0], [.int .i64 1], [.int .i64 2]]) ⟨by omega, hblk.lt⟩ (by simp) (hblk.rd 0 3) (by simp [maxLen])
  have one : ¬ (a.kind = 5 ∨ (a.kind = 1 ∧ a.index = -1)) → ∀ {b w'}, w1.heap.size ≤ b → Blk w' b [.int .i64 a.index] 3 → SlI (fun b => w.heap.size ≤ b ∧ b < w'.heap.size) w' (.slice (some ⟨b, 0, none⟩) 1 1) (whichD a) := by
    intro h b w' hb hblk
    unfold whichD; rw [if_neg h]
    exact Sl.of_rd (A := fun b => w.heap.size ≤ b ∧ b < w'.heap.size) (o := 0) (rows := [[.int .i64 a.index]]) ⟨by omega, hblk.lt⟩ (by simp) (hblk.rd 0 1) (by simp [maxLen])
  (repeat (first | refine lw_pure hT rfl ?_ | refine lw_nil ?_ | refine cw_seq ?_ | refine cw_region ?_ | refine qw_then ?_))
  refine lw_load hT rfl rfl (v := .int .i64 a.kind) (hb1.cell 0) ?_
  (repeat (refine lw_pure hT rfl ?_))
  refine lw_guard rfl (fun h1 => ?_) (fun h1 => ?_)
  · have h1 : a.kind = 5 := by simpa using h1
    (repeat (first | refine lw_pure hT rfl ?_ | refine lw_nil ?_ | refine cw_seq ?_ | refine cw_region ?_ | refine qw_then ?_ | refine lw_goff_u rfl ?_ | (refine lw_goff_t rfl ?_ ?_; focus with_reducible (first | rfl | exact Bool.not_false | exact Bool.not_true)) | (refine cw_cond_t rfl ?_ ?_; focus with_reducible (first | rfl | exact Bool.not_false | exact Bool.not_true))))
    refine lw_buildSlice sl149 rfl rfl rfl ?_
    intro b w2 hb hblk hx2 hs2
    (repeat (first | refine lw_pure hT rfl ?_ | refine lw_nil ?_ | refine qw_then ?_ | refine cw_ret ?_ | refine qw_then_ret ?_))
    exact qw_ret rfl ⟨all (.inl h1) (by omega) hblk, hx1.trans hx2⟩
  · have h1 : ¬ a.kind = 5 := by simpa using h1
    (repeat (first | refine lw_pure hT rfl ?_ | (refine lw_gon_f rfl ?_ ?_; focus with_reducible (first | rfl | exact Bool.not_false | exact Bool.not_true))))
    refine lw_load hT rfl rfl (v := .int .i64 a.kind) (hb1.cell 0) ?_
    (repeat (first | refine lw_pure hT rfl ?_ | (refine lw_gon_f rfl ?_ ?_; focus with_reducible (first | rfl | exact Bool.not_false | exact Bool.not_true))))
    refine lw_guard rfl (fun h2 => ?_) (fun h2 => ?_)
    · have h2 : a.kind = 1 := by simpa using h2
      (repeat (first | refine lw_pure hT rfl ?_ | (refine lw_gon_t rfl ?_ ?_; focus with_reducible (first | rfl | exact Bool.not_false | exact Bool.not_true))))
      refine lw_load hT rfl rfl (v := .int .i64 a.index) (hb1.cell 1) ?_
      (repeat (first | refine lw_pure hT rfl ?_ | refine lw_nil ?_ | refine qw_then ?_ | (refine lw_gon_t rfl ?_ ?_; focus with_reducible (first | rfl | exact Bool.not_false | exact Bool.not_true)) | (refine lw_gon_f rfl ?_ ?_; focus with_reducible (first | rfl | exact Bool.not_false | exact Bool.not_true))))
      refine cw_cond rfl (fun h3 => ?_) (fun h3 => ?_)
      · have h3 : a.index = -1 := by simpa using h3
        (repeat (first | refine cw_seq ?_ | refine cw_region ?_))
        refine lw_buildSlice sl149 rfl rfl rfl ?_
        intro b w2 hb hblk hx2 hs2
        (repeat (first | refine lw_pure hT rfl ?_ | refine lw_nil ?_ | refine qw_then ?_ | refine cw_ret ?_ | refine qw_then_ret ?_))
        exact qw_ret rfl ⟨all (.inr ⟨h2, h3⟩) (by omega) hblk, hx1.trans hx2⟩
      · have h3 : ¬ a.index = -1 := by simpa using h3
        (repeat (first | refine lw_pure hT rfl ?_ | refine cw_seq ?_ | refine cw_region ?_ | refine qw_then ?_ | refine cw_skip ?_))
        refine lw_load hT rfl rfl (v := .int .i64 a.index) (hb1.cell 1) ?_
        skip
        refine lw_buildSlice sl149 rfl rfl rfl ?_
        intro b w2 hb hblk hx2 hs2
        (repeat (first | refine lw_pure hT rfl ?_ | refine lw_nil ?_ | refine qw_then ?_ | refine cw_ret ?_))
        exact qw_ret rfl ⟨one (by simp [h1, h3]) (by omega) hblk, hx1.trans hx2⟩
    · have h2 : ¬ a.kind = 1 := by simpa using h2
      (repeat (first | refine lw_pure hT rfl ?_ | refine lw_nil ?_ | refine cw_seq ?_ | refine cw_region ?_ | refine qw_then ?_ | refine cw_skip ?_ | (refine lw_goff_f rfl ?_ ?_; focus with_reducible (first | rfl | exact Bool.not_false | exact Bool.not_true)) | (refine lw_gon_f rfl ?_ ?_; focus with_reducible (first | rfl | exact Bool.not_false | exact Bool.not_true)) | (refine cw_cond_f rfl ?_ ?_; focus with_reducible (first | rfl | exact Bool.not_false | exact Bool.not_true))))
      refine lw_load hT rfl rfl (v := .int .i64 a.index) (hb1.cell 1) ?_
      skip
      refine lw_buildSlice sl149 rfl rfl rfl ?_
      intro b w2 hb hblk hx2 hs2
      (repeat (first | refine lw_pure hT rfl ?_ | refine lw_nil ?_ | refine qw_then ?_ | refine cw_ret ?_))
      exact qw_ret rfl ⟨one (by simp [h1, h2]) (by omega) hblk, hx1.trans hx2⟩
section
variable {A : Nat → Prop} {w : World}
theorem FEnt.paper {x : EntD} {g : FG} (h : FEnt A w x g) {k : Nat} (hk : k < 3) : ∃ vc b o cap, g.vP = .slice (some ⟨b, o, none⟩) 3 cap ∧ A b ∧ Rd w b (o + k * 3) [.int .i64 (papAt x k).state, .string (papAt x k).holder, vc] ∧ g.vcs[k]? = some vc ∧ SlE A w vc (papAt x k).chain := by
  have h1 : x.ps[k]? = some (papAt x k) := papAt_get h.three hk
  have hkl : k < g.vcs.length := by rw [h.three']; exact hk
  have h2 : g.vcs[k]? = some g.vcs[k] := List.getElem?_eq_getElem hkl
  have hz : (x.ps.zip g.vcs)[k]? = some (papAt x k, g.vcs[k]) := by rw [List.getElem?_zip_eq_some]; exact ⟨h1, h2⟩
  obtain ⟨b, o, cap, hv, hA, _, _, hrd⟩ := h.papers.at (i := k) (row := papRow (papAt x k, g.vcs[k])) (by rw [List.getElem?_map, hz]; rfl)
  have hl : ((x.ps.zip g.vcs).map papRow).length = 3 := by simp [h.three, h.three']
  rw [hl] at hv
  exact ⟨_, b, o, cap, hv, hA, hrd, h2, h.chains k _ _ h1 h2⟩
theorem r23_until {x : EntD} {g : FG} (hE : FEnt A w x g) {k : Nat} (hk : k < 3) : Ret Tryz.prog 130 [.agg ⟨entF (x, g)⟩, .int .i64 (k : Nat)] w fun v w' => v = .int .i64 (untilD x.bill (papAt x k)) ∧ Ex w w' := by
  obtain ⟨vc, b, o, cap, hv, hA, hrd, hvc, hch⟩ := hE.paper hk
  have hcm := hch.small
  obtain ⟨ca, ccap, rfl, hz, hr⟩ := hch.is
  simp only [List.length_map] at *
  unfold maxLen at hcm
  refine ret_of Tryz.func130 Tryz.ntmps130 rfl rfl rfl ?_
  (repeat (first | refine cw_seq ?_ | refine cw_region ?_))
  refine lw_box rfl ?_
  intro b1 w1 hbb hb1 hx1 hs1
  replace hb1 : Blk w1 b1 (entF (x, g)) 56 := hb1
  have hc : w1.cell? ⟨b1, 10, none⟩ = some (.slice (some ⟨b, o, none⟩) 3 cap) := by rw [hb1.cell, ← hv]; rfl
  have hrd1 := hrd.ex hx1
  (repeat (first | refine lw_pure hT rfl ?_ | refine lw_nil ?_ | refine cw_seq ?_ | refine cw_region ?_ | refine qw_then ?_))
  refine lw_load hT rfl rfl hc ?_
  (repeat (refine lw_pure hT rfl ?_))
  refine lw_index hT rfl rfl rfl k rfl hk ?_
  (repeat (refine lw_pure hT rfl ?_))
  refine lw_load hT rfl rfl (hrd1 2 _ rfl) ?_
  (repeat (first | refine lw_pure hT rfl ?_ | refine lw_nil ?_ | refine cw_seq ?_ | refine cw_region ?_ | refine qw_then ?_))
  refine cw_cond rfl (fun h => ?_) (fun h => ?_)
  · have h0 : 0 < (papAt x k).chain.length := by have := of_decide_eq_true h; omega
    have hne : (papAt x k).chain.map encE ≠ [] := by intro e; simp at e; rw [e] at h0; simp at h0
    obtain ⟨cb, co, rfl, _, hcrd⟩ := hr hne
    have hlt : (papAt x k).chain.length - 1 < (papAt x k).chain.length := by omega
    obtain ⟨_, hcrd⟩ := hcrd ((papAt x k).chain.length - 1) (encE (papAt x k).chain[(papAt x k).chain.length - 1]) (by simp [hlt])
    (repeat (first | refine lw_pure hT rfl ?_ | refine cw_seq ?_ | refine cw_region ?_))
    refine lw_load hT rfl rfl hc ?_
    (repeat (refine lw_pure hT rfl ?_))
    refine lw_index hT rfl rfl rfl k rfl hk ?_
    (repeat (refine lw_pure hT rfl ?_))
    refine lw_load hT rfl rfl (hrd1 2 _ rfl) ?_
    (repeat (first | (refine lw_sub rfl rfl ?_ ?_ ?_; iterate 2 omega) | refine lw_pure hT rfl ?_))
    refine lw_index hT rfl rfl rfl ((papAt x k).chain.length - 1) (by omega) hlt ?_
    (repeat (refine lw_pure hT rfl ?_))
    refine lw_load hT rfl rfl (v := .int .i64 (papAt x k).chain[(papAt x k).chain.length - 1].day) (Ex.cell hx1 (hcrd 3 _ rfl)) ?_
    (repeat (first | refine lw_pure hT rfl ?_ | refine lw_nil ?_ | refine qw_then ?_ | refine cw_ret ?_ | refine qw_then_ret ?_))
    refine qw_ret rfl ⟨?_, hx1⟩
    simp only [untilD, oneOr, List.getLast?_eq_getElem?, List.getElem?_eq_getElem hlt]
  · have h0 : (papAt x k).chain = [] := by have := of_decide_eq_false h; exact List.eq_nil_of_length_eq_zero (by omega)
    (repeat (first | refine lw_pure hT rfl ?_ | refine cw_seq ?_ | refine cw_region ?_ | refine qw_then ?_ | refine cw_skip ?_))
    refine lw_load hT rfl rfl (v := .int .i64 x.bill.issued) (hb1.cell 7) ?_
    (repeat (first | refine lw_pure hT rfl ?_ | refine lw_nil ?_ | refine qw_then ?_ | refine cw_ret ?_))
    refine qw_ret rfl ⟨?_, hx1⟩
    simp only [untilD, oneOr, h0]; rfl
end
theorem r23_Copy {A : Nat → Prop} {b : BillD} {vb vp : Value} (w : World) (hB : SlS A w vb b.boxes) (hP : SlS A w vp b.parents) (h1 : b.boxes.length ≤ 1000000) (h2 : b.parents.length ≤ 1000000) :
    Ret Tryz.prog 128 [.agg ⟨encB b vb vp⟩] w fun v w' => ∃ ub up, v = .agg ⟨encB b ub up⟩ ∧ w'.ownsRow w.heap.size 9 1 ub b.boxes.length (b.boxes.map Value.string) ∧
      w'.ownsRow w.heap.size 9 1 up b.parents.length (b.parents.map Value.string) ∧ Ex w w' := by
  refine ret_of Tryz.func128 Tryz.ntmps128 rfl rfl rfl ?_
  (repeat (first | refine cw_seq ?_ | refine cw_region ?_))
  refine lw_box rfl ?_
  intro bb w1 hbb hb1 hx1 hs1
  replace hb1 : Blk w1 bb (encB b vb vp) 33 := hb1
  skip
  refine lw_alloc z33 ?_
  intro bc w2 hbc hb2 hx2 hs2
  (repeat (first | refine lw_nil ?_ | refine cw_seq ?_ | refine cw_region ?_ | refine qw_then ?_))
  refine lw_buildSlice sl31 rfl rfl rfl ?_
  intro e1 w3 he1 hb3 hx3 hs3
  have hb13 := (hb1.ex hx2).ex hx3
  have hx03 := (hx1.trans hx2).trans hx3
  (repeat (refine lw_pure hT rfl ?_))
  refine lw_load hT rfl rfl (v := vb) (hb13.cell 5) ?_
  skip
  have hown1 : w3.ownsRow w2.heap.size 9 1 (.slice (some ⟨e1, 0, none⟩) 0 0) 0 [] := own_lit hb3 (by omega) rfl (by decide)
  refine lw_append_sl sl31 (by decide) rfl hown1 rfl (hB.ex hx03) (by simp [Value.oneCell']) (by simp [maxLen]; omega) (by simp; omega) (by omega) ?_
  intro ub w4 g1 g2 g3 g4
  have hl4 := g2.size
  rw [flat4] at g1
  simp only [List.length_map, Nat.zero_add, List.nil_append] at g1
  have hb14 := hb13.ext g2 (by simp [Value.ownBlock]; omega)
  (repeat (refine lw_pure hT rfl ?_))
  refine lw_store (size := 1) hT rfl rfl rfl (own_one g1) hb14 (show (5 : Nat) < 9 by decide) ?_
  intro w5 hb5 hx5 hs5
  have hub5 := own_ext g1 hx5 (fun k hk e => by have := own_base g1 hk; omega)
  (repeat (first | refine lw_nil ?_ | refine cw_seq ?_ | refine cw_region ?_ | refine qw_then ?_))
  refine lw_buildSlice sl31 rfl rfl rfl ?_
  intro e2 w6 he2 hb6 hx6 hs6
  have hb56 := hb5.ex hx6
  (repeat (refine lw_pure hT rfl ?_))
  refine lw_load hT rfl rfl (v := vp) (hb56.cell 6) ?_
  skip
  have hx04 : Ex w w4 := hx03.up_new g2 (fun i h => by simp [Value.ownBlock] at h; omega)
  have hx05 : Ex w w5 := hx04.up_new hx5 (fun i h => by omega)
  have hx06 := hx05.trans hx6
  have hown2 : w6.ownsRow w5.heap.size 9 1 (.slice (some ⟨e2, 0, none⟩) 0 0) 0 [] := own_lit hb6 (by omega) rfl (by decide)
  refine lw_append_sl sl31 (by decide) rfl hown2 rfl (hP.ex hx06) (by simp [Value.oneCell']) (by simp [maxLen]; omega) (by simp; omega) (by omega) ?_
  intro up w7 k1 k2 k3 k4
  rw [flat4] at k1
  simp only [List.length_map, Nat.zero_add, List.nil_append] at k1
  have hl5 := hx05.size
  have hb7 := hb56.ext k2 (by simp [Value.ownBlock]; omega)
  have hl7 := k2.size
  (repeat (refine lw_pure hT rfl ?_))
  refine lw_store (size := 1) hT rfl rfl rfl (own_one k1) hb7 (show (6 : Nat) < 9 by decide) ?_
  intro w8 hb8 hx8 hs8
  replace hb8 : Blk w8 bb (encB b ub up) 33 := hb8
  have hx07 : Ex w w7 := hx06.up_new k2 (fun i h => by simp [Value.ownBlock] at h; omega)
  have hx08 : Ex w w8 := hx07.up_new hx8 (fun i h => by omega)
  have hub6 := own_ex hub5 hx6
  have hub7 := own_ext hub6 k2 (fun k hk h => by have := own_base hub5 hk; simp [Value.ownBlock] at h; omega)
  have hub8 := own_ext hub7 hx8 (fun k hk e => by have := own_base g1 hk; omega)
  have hup8 := own_ext k1 hx8 (fun k hk e => by have := own_base k1 hk; omega)
  have hc2 : Blk w8 bc _ 33 := (((((hb2.ex hx3).ext g2 (by simp [Value.ownBlock]; omega)).ext hx5 (by omega)).ex hx6).ext k2 (by simp [Value.ownBlock]; omega)).ext hx8 (by omega)
  (repeat (first | refine lw_nil ?_ | refine cw_seq ?_ | refine cw_region ?_ | refine qw_then ?_))
  refine lw_load_agg hT rfl rfl rfl (vs := encB b ub up) ((hb8.rd 0 9)) ?_
  skip
  refine lw_store_agg hT rfl rfl rfl rfl ?_ hc2 (show (9 : Nat) ≤ 9 by decide) ?_
  · intro v hv
    simp [encB] at hv
    have := own_one g1
    have := own_one k1
    rcases hv with rfl | rfl | rfl | rfl | rfl | rfl | rfl | rfl | rfl <;> first | rfl | assumption
  intro w9 hb9 hx9 hs9
  (repeat (first | refine lw_nil ?_ | refine qw_then ?_ | refine cw_ret ?_))
  refine qw_ret_cell hT rfl rfl rfl rfl (vs := encB b ub up) (hb9.rd 0 9) rfl ⟨ub, up, rfl, ?_, ?_, ?_⟩
  · exact own_mono (own_ext hub8 hx9 (fun k hk e => by have := own_base g1 hk; omega)) (by omega)
  · exact own_mono (own_ext hup8 hx9 (fun k hk e => by have := own_base k1 hk; omega)) (by omega)
  · exact hx08.up_new hx9 (fun i h => by omega)
end Go.Proofs.YtnglkhnfmbnfeaaGreat
namespace Go.Proofs.YtnglkhnfmbnfeaaGreat
open Go Go.SK
theorem Sl.one {A : Nat → Prop} {w : World} {v : Value} {size : Nat} {rows : List (List Value)} (h : Sl A w v size rows) : v.oneCell' = true := by
  obtain ⟨a, cap, rfl, _⟩ := h.is; rfl
theorem entF_one {A : Nat → Prop} {w : World} {x : EntD} {g : FG} (h : FEnt A w x g) : ∀ u ∈ entF (x, g), u.oneCell' = true := by
  intro u hu
  simp [entF, encB] at hu
  rcases hu with rfl | rfl | rfl | rfl | rfl | rfl | rfl | rfl | rfl | rfl | rfl <;> first | rfl | exact Sl.one h.boxes | exact Sl.one h.parents | exact Sl.one h.papers
theorem FRep.one {A : Nat → Prop} {w : World} {vL : Value} {l : List EntD} {gs : List FG} (h : FRep A w vL l gs) : ∀ r ∈ (l.zip gs).map entF, ∀ u ∈ r, u.oneCell' = true := by
  intro r hr
  obtain ⟨⟨x, g⟩, hz, rfl⟩ := List.mem_map.1 hr
  obtain ⟨i, hi⟩ := List.getElem?_of_mem hz
  rw [List.getElem?_zip_eq_some] at hi
  exact entF_one (h.ents i x g hi.1 hi.2)
theorem FRep.len11 {l : List EntD} {gs : List FG} : ∀ r ∈ (l.zip gs).map entF, r.length = 11 := by
  intro r hr; obtain ⟨x, _, rfl⟩ := List.mem_map.1 hr; rfl
theorem own_cap {w : World} {base e size n : Nat} {v : Value} {xs : List Value} (h : w.ownsRow base e size v n xs) : ∀ a n c, v = .slice a n c → n ≤ c := by
  rcases h.2 with ⟨rfl, _⟩ | ⟨g, cap, cur, rfl, _, _, hc, _⟩ <;> intro a n c h <;> cases h
  · exact Nat.le_refl _
  · exact hc
theorem FRep.append {A : Nat → Prop} {w : World} {vL v1 v2 : Value} {l1 l2 : List EntD} {gs1 gs2 : List FG} (h1 : FRep A w v1 l1 gs1) (h2 : FRep A w v2 l2 gs2) {base te : Nat} (ho : w.ownsRow base te 11 vL (l1.length + l2.length) (((l1.zip gs1).map entF).flatten ++ ((l2.zip gs2).map entF).flatten)) (hA : ∀ b, vL.ownBlock = some b → A b) :
    FRep A w vL (l1 ++ l2) (gs1 ++ gs2) := by
  refine ⟨by simp [h1.len, h2.len], own_cap ho, ?_, ?_⟩
  · have e : ((l1 ++ l2).zip (gs1 ++ gs2)).map entF = (l1.zip gs1).map entF ++ (l2.zip gs2).map entF := by rw [List.zip_append h1.len, List.map_append]
    rw [e]
    refine own_sl (base := base) (e := te) (rows := (l1.zip gs1).map entF ++ (l2.zip gs2).map entF) ?_ ?_ hA
    · rw [List.flatten_append, List.length_append, List.length_map, List.length_map, List.length_zip, List.length_zip, ← h1.len, ← h2.len, Nat.min_self, Nat.min_self]; exact ho
    · intro r hr
      rcases List.mem_append.1 hr with hr | hr <;> exact FRep.len11 r hr
  · intro i x g hx hg
    rw [List.getElem?_append] at hx hg
    rw [← h1.len] at hg
    split at hx
    · next hlt => rw [if_pos hlt] at hg; exact h1.ents i x g hx hg
    · next hlt => rw [if_neg hlt] at hg; exact h2.ents _ x g hx hg
theorem find_isSome {l : List EntD} {n : ByteArray} : (l.find? fun e => decide (n = e.bill.number)).isSome = l.any fun e => decide (e.bill.number = n) := by
  rw [Bool.eq_iff_iff, List.find?_isSome]
  simp only [List.any_eq_true, decide_eq_true_eq]
  constructor <;> (rintro ⟨e, h1, h2⟩; exact ⟨e, h1, h2.symm⟩)
def issueF (c : ByteArray) (l : List EntD) (b : BillD) (holder : ByteArray) : Int :=
  if (!mayF c b || !nameB holder) = true then 1 else if (l.any fun e => decide (e.bill.number = b.number)) = true then 5 else if (b.boxes.any fun x => l.any fun e => e.hasF x) = true then 9 else if l.length ≥ 256 then 7 else 0
theorem issueF_eq {c : ByteArray} {l : List EntD} {b : BillD} {holder : ByteArray} (hl : l.length ≤ 256) : issueF c l b holder = issueC ⟨c, l⟩ b holder := by
  unfold issueF issueC
  rw [mayF_eq]
  have e1 : (b.boxes.any fun x => l.any fun e => e.hasF x) = b.boxes.any (RegD.boxed ⟨c, l⟩) := by
    apply List.any_congr rfl; intro x; unfold RegD.boxed; apply List.any_congr rfl; intro e; exact hasF_eq e x
  rw [e1]
  unfold RegD.at?
  rw [find_isSome]
  have e2 : (l.length ≥ 256) = (l.length = 256) := by apply propext; omega
  simp only [e2]
set_option maxHeartbeats 2000000 in
theorem r23_Issue {A A0 : Nat → Prop} {w : World} {vL : Value} {l : List EntD} {gs : List FG} {b : BillD} {vb vp : Value} (c : ByteArray) (hF : FRep A w vL l gs) (hl : l.length ≤ 256) (hB : SlS A0 w vb b.boxes) (hP : SlS A0 w vp b.parents) (hok : b.Ok) (hcap : ∀ a n c, vb = .slice a n c → n ≤ c)
    (holder : ByteArray) (hh : holder.size ≤ maxLen) :
    Ret Tryz.prog 78 [.agg ⟨encR c vL⟩, .agg ⟨encB b vb vp⟩, .string holder] w fun v w' =>
      (∃ vL' gs', v = .tuple #[.agg ⟨encR c vL'⟩, .int .i64 (issueC ⟨c, l⟩ b holder)] ∧ FRep (fun b => A b ∨ w.heap.size ≤ b) w' vL' (issueD ⟨c, l⟩ b holder).l gs') ∧ Ex w w' := by
  rw [← issueF_eq hl]
  have hD : issueF c l b holder ≠ 0 → (issueD ⟨c, l⟩ b holder).l = l := fun h => by unfold issueD; rw [← issueF_eq hl, if_neg h]
  have hBm := hB.small
  have hB0 := hB
  obtain ⟨ab, cb, hvb, hzb, hrb⟩ := hB.is
  subst hvb
  obtain ⟨aL, cL, hvL, hLm⟩ := hF.slice
  subst hvL
  simp only [List.length_map] at *
  unfold maxLen at hBm hLm
  refine ret_of Tryz.func78 Tryz.ntmps78 rfl rfl rfl ?_
  (repeat (first | refine cw_seq ?_ | refine cw_region ?_))
  refine lw_box rfl ?_
  intro b3 w1 hbb3 hb3 hx1 hs1
  replace hb3 : Blk w1 b3 (encR c (.slice aL l.length cL)) 28 := hb3
  skip
  refine lw_box rfl ?_
  intro b4 w2 hbb4 hb4 hx2 hs2
  replace hb4 : Blk w2 b4 (encB b (.slice ab b.boxes.length cb) vp) 33 := hb4
  skip
  refine lw_alloc z28 ?_
  intro b6 w3 hbb6 hb6 hx3 hs3
  have hx03 := (hx1.trans hx2).trans hx3
  have hb33 := (hb3.ex hx2).ex hx3
  have hb43 := hb4.ex hx3
  (repeat (first | refine lw_pure hT rfl ?_ | refine lw_nil ?_ | refine cw_seq ?_ | refine cw_region ?_ | refine qw_then ?_))
  refine lw_load hT rfl rfl (v := .string c) (hb33.cell 0) ?_
  skip
  refine lw_load_agg hT rfl rfl rfl (vs := encB b (.slice ab b.boxes.length cb) vp) (hb43.rd 0 9) ?_
  skip
  refine lw_call hT rfl rfl (r23_May w3 c b _ vp (hB0.ex hx03) (hP.ex hx03) hok hcap) ?_
  rintro _ w4 ⟨rfl, hx4⟩
  have hx04 := hx03.trans hx4
  have hb34 := hb33.ex hx4
  have hb44 := hb43.ex hx4
  have hb64 := hb6.ex hx4
  have hF4 := hF.ex hx04
  have old : ∀ {n : Nat} {w5 : World} {code : Int}, Ex w4 w5 → issueF c l b holder = code → code ≠ 0 → ∀ w6, Blk w6 b6 (encR c (.slice aL l.length cL)) 28 → Ext (· = b6) w5 w6 →
      (∃ vL' gs', Value.tuple #[.agg ⟨encR c (.slice aL l.length cL)⟩, .int .i64 code] = .tuple #[.agg ⟨encR c vL'⟩, .int .i64 (issueF c l b holder)] ∧ FRep (fun b => A b ∨ w.heap.size ≤ b) w6 vL' (issueD ⟨c, l⟩ b holder).l gs') ∧ Ex w w6 := by
    intro n w5 code hx5 hc hne w6 hb hx6
    have hx06 : Ex w w6 := (hx04.trans hx5).up_new hx6 (fun i hi => by have := hx1.size; omega)
    refine ⟨⟨_, gs, by rw [hc], ?_⟩, hx06⟩
    rw [hD (by rw [hc]; exact hne)]
    exact (hF.ex hx06).weaken fun _ h => .inl h
  (repeat (refine lw_pure hT rfl ?_))
  have bad : (!mayF c b || !nameB holder) = true → issueF c l b holder = 1 := fun h => by unfold issueF; rw [if_pos h]
  refine lw_guard rfl (fun h1 => ?_) (fun h1 => ?_)
  · (repeat (first | refine lw_pure hT rfl ?_ | refine lw_nil ?_ | refine cw_seq ?_ | refine cw_region ?_ | refine qw_then ?_ | (refine lw_goff_t rfl ?_ ?_; focus with_reducible (first | rfl | exact Bool.not_false | exact Bool.not_true)) | (refine cw_cond_t rfl ?_ ?_; focus with_reducible (first | rfl | exact Bool.not_false | exact Bool.not_true))))
    refine lw_load_agg hT rfl rfl rfl (vs := encR c (.slice aL l.length cL)) (hb34.rd 0 2) ?_
    skip
    refine lw_store_agg hT rfl rfl rfl rfl (by intro v hv; simp [encR] at hv; rcases hv with rfl | rfl <;> rfl) hb64 (show (2 : Nat) ≤ 2 by decide) ?_
    intro w6 hb66 hx6 hs6
    (repeat (first | refine lw_pure hT rfl ?_ | refine lw_nil ?_ | refine qw_then ?_ | refine cw_ret ?_ | refine qw_then_ret ?_))
    exact qw_ret_cell hT rfl rfl rfl rfl (vs := encR c (.slice aL l.length cL)) (hb66.rd 0 2) rfl (old (n := 0) (Ext.refl _ _) (bad (by rw [h1]; rfl)) (by decide) w6 hb66 hx6)
  · (repeat (first | refine lw_pure hT rfl ?_ | (refine lw_gon_f rfl ?_ ?_; focus with_reducible (first | rfl | exact Bool.not_false | exact Bool.not_true))))
    refine lw_call hT rfl rfl (r_Name holder w4 hh) ?_
    rintro _ _ ⟨rfl, rfl⟩
    (repeat (first | refine lw_pure hT rfl ?_ | refine lw_nil ?_ | refine qw_then ?_ | (refine lw_gon_f rfl ?_ ?_; focus with_reducible (first | rfl | exact Bool.not_false | exact Bool.not_true))))
    refine cw_cond rfl (fun h2 => ?_) (fun h2 => ?_)
    · (repeat (first | refine cw_seq ?_ | refine cw_region ?_))
      refine lw_load_agg hT rfl rfl rfl (vs := encR c (.slice aL l.length cL)) (hb34.rd 0 2) ?_
      skip
      refine lw_store_agg hT rfl rfl rfl rfl (by intro v hv; simp [encR] at hv; rcases hv with rfl | rfl <;> rfl) hb64 (show (2 : Nat) ≤ 2 by decide) ?_
      intro w6 hb66 hx6 hs6
      (repeat (first | refine lw_pure hT rfl ?_ | refine lw_nil ?_ | refine qw_then ?_ | refine cw_ret ?_ | refine qw_then_ret ?_))
      exact qw_ret_cell hT rfl rfl rfl rfl (vs := encR c (.slice aL l.length cL)) (hb66.rd 0 2) rfl (old (n := 0) (Ext.refl _ _) (bad (by rw [h2]; simp)) (by decide) w6 hb66 hx6)
    · have hgood : ¬ (!mayF c b || !nameB holder) = true := by rw [h1, h2]; decide
      (repeat (first | refine cw_seq ?_ | refine cw_region ?_ | refine qw_then ?_ | refine cw_skip ?_))
      refine lw_load_agg hT rfl rfl rfl (vs := encR c (.slice aL l.length cL)) (hb34.rd 0 2) ?_
      (repeat (refine lw_pure hT rfl ?_))
      refine lw_load hT rfl rfl (v := .string b.number) (hb44.cell 0) ?_
      skip
      refine lw_call hT rfl rfl (r23_Find c b.number hF4) ?_
      rintro _ w5 ⟨rfl, hx5⟩
      have hx45 := hx5
      have hb35 := hb34.ex hx5
      have hb45 := hb44.ex hx5
      have hb65 := hb64.ex hx5
      (repeat (first | refine lw_pure hT rfl ?_ | refine lw_nil ?_ | refine qw_then ?_))
      refine cw_cond rfl (fun h3 => ?_) (fun h3 => ?_)
      · rw [fidx_ge] at h3
        (repeat (first | refine cw_seq ?_ | refine cw_region ?_))
        refine lw_load_agg hT rfl rfl rfl (vs := encR c (.slice aL l.length cL)) (hb35.rd 0 2) ?_
        skip
        refine lw_store_agg hT rfl rfl rfl rfl (by intro v hv; simp [encR] at hv; rcases hv with rfl | rfl <;> rfl) hb65 (show (2 : Nat) ≤ 2 by decide) ?_
        intro w6 hb66 hx6 hs6
        (repeat (first | refine lw_pure hT rfl ?_ | refine lw_nil ?_ | refine qw_then ?_ | refine cw_ret ?_ | refine qw_then_ret ?_))
        exact qw_ret_cell hT rfl rfl rfl rfl (vs := encR c (.slice aL l.length cL)) (hb66.rd 0 2) rfl (old (n := 0) hx45 (by unfold issueF; rw [if_neg hgood, if_pos h3]) (by decide) w6 hb66 hx6)
      · rw [fidx_ge] at h3
        have h3' : ¬ (l.any fun e => decide (e.bill.number = b.number)) = true := by rw [h3]; decide
        have hF5 := hF4.ex hx5
        (repeat (first | refine lw_pure hT rfl ?_ | refine lw_nil ?_ | refine cw_seq ?_ | refine cw_region ?_ | refine qw_then ?_ | refine cw_skip ?_ | refine cw_block ?_))
        refine cw_loop (fun i : Nat => [(2, .string holder), (3, .pointer (some ⟨b3, 0, none⟩)), (4, .pointer (some ⟨b4, 0, none⟩)), (6, .pointer (some ⟨b6, 0, none⟩)), (8, .int .i64 (i : Nat))])
          (fun i w' => Ex w5 w' ∧ i ≤ b.boxes.length ∧ ∀ j (hj : j < b.boxes.length), j < i → (l.any fun e => e.hasF b.boxes[j]) = false) (fun i => b.boxes.length - i) 0 (by repeat (first | exact trivial | refine ⟨rfl, ?_⟩)) ⟨Ext.refl _ _, Nat.zero_le _, fun j _ hj => by omega⟩ ?_
        rintro i w6 ⟨hx6, hi, hno⟩
        have hx46 := hx45.trans hx6
        have hb36 := hb35.ex hx6
        have hb46 := hb45.ex hx6
        have hb66 := hb65.ex hx6
        have hF6 := hF5.ex hx6
        (repeat (first | refine lw_pure hT rfl ?_ | refine cw_seq ?_ | refine cw_region ?_))
        refine lw_load hT rfl rfl (v := .slice ab b.boxes.length cb) (hb46.cell 5) ?_
        (repeat (first | refine lw_pure hT rfl ?_ | refine lw_nil ?_ | refine qw_then ?_))
        refine cw_cond rfl (fun h => ?_) (fun h => ?_)
        · have hlt : i < b.boxes.length := by simp at h; omega
          have hne : b.boxes.map (fun s => [Value.string s]) ≠ [] := by intro e; simp at e; rw [e] at hlt; simp at hlt
          obtain ⟨bb, o, rfl, hA, hrd⟩ := hrb hne
          obtain ⟨hlen, hrd⟩ := hrd i [.string b.boxes[i]] (by simp [hlt])
          have hrd6 := hrd.ex (hx04.trans hx46)
          (repeat (first | refine cw_seq ?_ | refine qw_then ?_ | refine cw_skip ?_ | refine cw_block ?_))
          refine cw_draw hM (fun w' => Ex w6 w') [] rfl rfl (by repeat with_reducible (first | refine nop_then ?_ | refine nop_block ?_ | exact nop_body)) (fun w7 hx7 _ => ⟨hx7, ?_⟩)
          refine rw_take 0 rfl rfl (by kernel_rfl) (by kernel_rfl) (by kernel_rfl) (by kernel_rfl) rfl (yo_load_agg hT rfl rfl rfl (vs := encR c (.slice aL l.length cL)) (fun w' hS => (hb36.ex hS).rd 0 2)) ?_
          (refine rw_takeP 1 rfl rfl (by kernel_rfl) (by kernel_rfl) (by kernel_rfl) (by kernel_rfl) rfl (yo_pure hT rfl) ?_)
          refine rw_take 2 rfl rfl (by kernel_rfl) (by kernel_rfl) (by kernel_rfl) (by kernel_rfl) rfl (yo_load hT rfl rfl (fun w' hS => Ex.cell hS (hb46.cell 5))) ?_
          (refine rw_takeP 3 rfl rfl (by kernel_rfl) (by kernel_rfl) (by kernel_rfl) (by kernel_rfl) rfl (yo_pure hT rfl) ?_)
          refine rw_takeP 4 rfl rfl (by kernel_rfl) (by kernel_rfl) (by kernel_rfl) (by kernel_rfl) rfl (yo_index hT rfl rfl rfl i rfl hlt) ?_
          refine rw_take 5 rfl rfl (by kernel_rfl) (by kernel_rfl) (by kernel_rfl) (by kernel_rfl) rfl (yo_load hT rfl rfl (v := .string b.boxes[i]) (fun w' hS => Ex.cell hS (hrd6 0 _ rfl))) ?_
          refine rw_one 6 rfl (by kernel_rfl) rfl (fun hcl => ?_)
          skip
          refine lw_call hT rfl rfl (r23_Box c b.boxes[i] (hF6.ex hx7)) ?_
          rintro _ w8 ⟨rfl, hx8⟩
          have hx68 := hx7.trans hx8
          (repeat (refine lw_nil ?_))
          refine qw_rw (by repeat with_reducible (first | refine nop_then ?_ | refine nop_block ?_ | exact nop_body)) hcl (fun _ => hx68) ?_
          (refine rw_takeP 7 rfl rfl (by kernel_rfl) (by kernel_rfl) (by kernel_rfl) (by kernel_rfl) rfl (yo_pure hT rfl) ?_)
          refine rw_done (by kernel_rfl) ?_
          (repeat (refine qw_then ?_))
          refine cw_cond rfl (fun h' => ?_) (fun h' => ?_)
          · rw [fidx_ge] at h'
            (repeat (first | refine cw_seq ?_ | refine cw_region ?_))
            refine lw_load_agg hT rfl rfl rfl (vs := encR c (.slice aL l.length cL)) ((hb36.ex hx68).rd 0 2) ?_
            skip
            refine lw_store_agg hT rfl rfl rfl rfl (by intro v hv; simp [encR] at hv; rcases hv with rfl | rfl <;> rfl) (hb66.ex hx68) (show (2 : Nat) ≤ 2 by decide) ?_
            intro w9 hb69 hx9 hs9
            (repeat (first | refine lw_pure hT rfl ?_ | refine lw_nil ?_ | refine qw_then ?_ | refine cw_ret ?_ | refine qw_then_ret ?_ | refine qw_block_ret ?_))
            exact qw_ret_cell hT rfl rfl rfl rfl (vs := encR c _) (hb69.rd 0 2) rfl (old (n := 0) (hx46.trans hx68) (by
              unfold issueF
              rw [if_neg hgood, if_neg h3', if_pos (List.any_eq_true.2 ⟨_, List.getElem_mem hlt, h'⟩)]) (by decide) w9 hb69 hx9)
          · rw [fidx_ge] at h'
            (repeat (first | (refine lw_add rfl rfl ?_ ?_ ?_; iterate 2 omega) | refine lw_pure hT rfl ?_ | refine lw_nil ?_ | refine cw_region ?_ | refine qw_then ?_ | refine cw_skip ?_ | refine qw_block ?_))
            refine qw_round (i + 1) (by repeat (first | exact trivial | refine ⟨rfl, ?_⟩)) ⟨hx6.trans hx68, hlt, fun j hj hji => ?_⟩ (by omega)
            by_cases e : j = i
            · subst e; exact h'
            · exact hno j hj (by omega)
        · have : i = b.boxes.length := by simp at h; omega
          subst this
          have h4 : ¬ (b.boxes.any fun x => l.any fun e => e.hasF x) = true := by
            rw [Bool.not_eq_true, List.any_eq_false]
            intro x hx
            obtain ⟨j, hj, rfl⟩ := List.getElem_of_mem hx
            rw [hno j hj hj]; decide
          (repeat (first | refine lw_pure hT rfl ?_ | refine cw_seq ?_ | refine cw_region ?_ | refine qw_then ?_ | refine cw_exit ?_ | refine qw_block_exit ?_ | refine qw_then_exit ?_))
          refine lw_load hT rfl rfl (v := .slice aL l.length cL) (hb36.cell 1) ?_
          (repeat (first | refine lw_pure hT rfl ?_ | refine lw_nil ?_ | refine qw_then ?_))
          refine cw_cond rfl (fun h5 => ?_) (fun h5 => ?_)
          · have h5 : l.length ≥ 256 := by have := of_decide_eq_true h5; omega
            (repeat (first | refine cw_seq ?_ | refine cw_region ?_))
            refine lw_load_agg hT rfl rfl rfl (vs := encR c (.slice aL l.length cL)) (hb36.rd 0 2) ?_
            skip
            refine lw_store_agg hT rfl rfl rfl rfl (by intro v hv; simp [encR] at hv; rcases hv with rfl | rfl <;> rfl) hb66 (show (2 : Nat) ≤ 2 by decide) ?_
            intro w9 hb69 hx9 hs9
            (repeat (first | refine lw_pure hT rfl ?_ | refine lw_nil ?_ | refine qw_then ?_ | refine cw_ret ?_ | refine qw_then_ret ?_))
            exact qw_ret_cell hT rfl rfl rfl rfl (vs := encR c _) (hb69.rd 0 2) rfl (old (n := 0) hx46 (by unfold issueF; rw [if_neg hgood, if_neg h3', if_neg h4, if_pos h5]) (by decide) w9 hb69 hx9)
          · have h5 : ¬ l.length ≥ 256 := by have := of_decide_eq_false h5; omega
            have hc : issueF c l b holder = 0 := by unfold issueF; rw [if_neg hgood, if_neg h3', if_neg h4, if_neg h5]
            have hD' : (issueD ⟨c, l⟩ b holder).l = l ++ [newEnt b holder] := by unfold issueD; rw [← issueF_eq hl, if_pos hc]
            have hmay : mayF c b = true := by simpa using h1
            have hlen : b.boxes.length ≤ 64 ∧ b.parents.length ≤ 64 := by
              simp only [mayF, Bool.and_eq_true, decide_eq_true_eq] at hmay
              exact ⟨hmay.1.1.1.1.2, hmay.1.1.1.2⟩
            have hx06 := hx04.trans hx46
            have hl06 := hx06.size
            (repeat (first | refine lw_pure hT rfl ?_ | refine cw_seq ?_ | refine cw_region ?_ | refine qw_then ?_ | refine cw_skip ?_))
            refine lw_build bt126 rfl ?_
            (repeat (refine lw_pure hT rfl ?_))
            refine lw_build bt126 rfl ?_
            (repeat (refine lw_pure hT rfl ?_))
            refine lw_build bt126 rfl ?_
            skip
            refine lw_buildSlice sl54 rfl rfl rfl ?_
            intro b9 w7 hbb9 hb9 hx7 hs7
            have hb37 := hb36.ex hx7
            have hb47 := hb46.ex hx7
            have hb67 := hb66.ex hx7
            (repeat (first | refine lw_pure hT rfl ?_ | refine lw_nil ?_ | refine cw_seq ?_ | refine qw_then ?_))
            refine cw_draw hM (fun w' => Ex w7 w') [11] rfl rfl (by repeat with_reducible (first | refine nop_then ?_ | refine nop_block ?_ | exact nop_body)) (fun w8 hx8 _ => ⟨hx8, ?_⟩)
            (refine rw_takeP 1 rfl rfl (by kernel_rfl) (by kernel_rfl) (by kernel_rfl) (by kernel_rfl) rfl (yo_pure hT rfl) ?_)
            refine rw_take 2 rfl rfl (by kernel_rfl) (by kernel_rfl) (by kernel_rfl) (by kernel_rfl) rfl (yo_load hT rfl rfl (fun w' hS => Ex.cell hS (hb37.cell 1))) ?_
            refine rw_take 4 rfl rfl (by kernel_rfl) (by kernel_rfl) (by kernel_rfl) (by kernel_rfl) rfl (yo_load_agg hT rfl rfl rfl (vs := encB b (.slice ab b.boxes.length cb) vp) (fun w' hS => (hb47.ex hS).rd 0 9)) ?_
            (refine rw_takeP 6 rfl rfl (by kernel_rfl) (by kernel_rfl) (by kernel_rfl) (by kernel_rfl) rfl (yo_pure hT rfl) ?_)
            refine rw_one 0 rfl (by kernel_rfl) rfl (fun hcl => ?_)
            refine lw_buildSlice sl26 rfl rfl rfl ?_
            intro e1 w9 he1 hbe1 hx9 hs9
            have hx79 := hx8.trans hx9
            (repeat (refine lw_nil ?_))
            refine qw_rw (by repeat with_reducible (first | refine nop_then ?_ | refine nop_block ?_ | exact nop_body)) hcl (fun _ => hx79) ?_
            refine rw_one 3 rfl (by kernel_rfl) rfl (fun hcl => ?_)
            have hx09 := (hx06.trans hx7).trans hx79
            have hown1 : w9.ownsRow w8.heap.size 56 11 (.slice (some ⟨e1, 0, none⟩) 0 0) 0 [] := own_lit hbe1 (by omega) rfl (by decide)
            have hlz : ((l.zip gs).map entF).length = l.length := by simp [hF.len]
            refine lw_append_sl sl26 (by decide) rfl hown1 rfl (hF.ex hx09).sl (hF.ex hx09).one (by rw [hlz]; unfold maxLen; omega) (by rw [hlz]; omega) (by omega) ?_
            intro u1 w10 g1 g2 g3 g4
            rw [hlz, Nat.zero_add, List.nil_append] at g1
            have hl8 := hx8.size
            have hl9 := hx79.size
            have hx710 : Ex w7 w10 := hx79.up_new g2 (fun i h => by simp [Value.ownBlock] at h; omega)
            (repeat (refine lw_nil ?_))
            refine qw_rw (by repeat with_reducible (first | refine nop_then ?_ | refine nop_block ?_ | exact nop_body)) hcl (fun _ => hx710) ?_
            refine rw_one 5 rfl (by kernel_rfl) rfl (fun hcl => ?_)
            skip
            have hx010 := (hx06.trans hx7).trans hx710
            refine lw_call hT rfl rfl (r23_Copy w10 (hB0.ex hx010) (hP.ex hx010) (by omega) (by omega)) ?_
            rintro _ w11 ⟨ub, up, rfl, hub, hup, hx11⟩
            have hx711 := hx710.trans hx11
            (repeat (refine lw_nil ?_))
            refine qw_rw (by repeat with_reducible (first | refine nop_then ?_ | refine nop_block ?_ | exact nop_body)) hcl (fun _ => hx711) ?_
            refine rw_takeP 7 rfl rfl (by kernel_rfl) (by kernel_rfl) (by kernel_rfl) (by kernel_rfl) rfl (yo_build bt56 rfl) ?_
            refine rw_one 8 rfl (by kernel_rfl) rfl (fun hcl => ?_)
            refine lw_buildSlice sl26 rfl rfl rfl ?_
            intro e2 w12 he2 hbe2 hx12 hs12
            replace hbe2 : Blk w12 e2 (entF (newEnt b holder, ⟨ub, up, .slice (some ⟨b9, 0, none⟩) 3 3, [.slice none 0 0, .slice none 0 0, .slice none 0 0]⟩)) 56 := hbe2
            have hx712 := hx711.trans hx12
            (repeat (refine lw_nil ?_))
            refine qw_rw (by repeat with_reducible (first | refine nop_then ?_ | refine nop_block ?_ | exact nop_body)) hcl (fun _ => hx712) ?_
            refine rw_one 9 rfl (by kernel_rfl) rfl (fun hcl => ?_)
            have hx1012 := hx11.trans hx12
            have hown2 := own_ex g1 hx1012
            have hub12 := own_ex hub hx12
            have hup12 := own_ex hup hx12
            have hl10 := hx710.size
            have hl11 := hx711.size
            have hl910 := g2.size
            have hl1011 := hx11.size
            have hrdn : Rd w12 e2 0 (entF (newEnt b holder, ⟨ub, up, .slice (some ⟨b9, 0, none⟩) 3 3, [.slice none 0 0, .slice none 0 0, .slice none 0 0]⟩)) := hbe2.rd 0 11
            refine lw_append sl26 (by decide) rfl hown2 rfl hrdn rfl (by
              intro u hu
              simp [entF, encB, newEnt] at hu
              have := own_one hub
              have := own_one hup
              rcases hu with rfl | rfl | rfl | rfl | rfl | rfl | rfl | rfl | rfl | rfl | rfl <;> first | rfl | assumption) (by unfold maxLen; omega) (by omega) (by omega) ?_
            intro u2 w13 k1 k2 k3 k4
            have hl12 := hx712.size
            have hu1b : ∀ k, u1.ownBlock = some k → w8.heap.size ≤ k := fun k hk => (own_base g1 hk).1
            have hx713 : Ex w7 w13 := hx712.up_new k2 (fun i h => by have := hu1b i h.symm; omega)
            (repeat (refine lw_nil ?_))
            refine qw_rw (by repeat with_reducible (first | refine nop_then ?_ | refine nop_block ?_ | exact nop_body)) hcl (fun _ => hx713) ?_
            (refine rw_takeP 10 rfl rfl (by kernel_rfl) (by kernel_rfl) (by kernel_rfl) (by kernel_rfl) rfl (yo_pure hT rfl) ?_)
            refine rw_one 11 rfl (by kernel_rfl) rfl (fun hcl => ?_)
            refine lw_store (size := 1) hT rfl rfl rfl (own_one k1) (hb37.ex hx713) (show (1 : Nat) < 2 by decide) ?_
            intro w14 hb314 hx14 hs14
            replace hb314 : Blk w14 b3 (encR c u2) 28 := hb314
            (repeat (refine lw_nil ?_))
            refine qw_rw (by repeat with_reducible (first | refine nop_then ?_ | refine nop_block ?_ | exact nop_body)) hcl (fun h => absurd h (by decide)) ?_
            refine rw_done (by kernel_rfl) ?_
            (repeat (first | refine cw_seq ?_ | refine cw_region ?_ | refine qw_then ?_))
            have hx014 : Ex w w14 := ((hx06.trans hx7).trans hx713).up_new hx14 (fun i h => by omega)
            have hl1 := hx1.size
            refine lw_load_agg hT rfl rfl rfl (vs := encR c u2) (hb314.rd 0 2) ?_
            skip
            refine lw_store_agg hT rfl rfl rfl rfl (by intro v hv; simp [encR] at hv; rcases hv with rfl | rfl <;> first | rfl | exact own_one k1) ((hb67.ex hx713).ext hx14 (by omega)) (show (2 : Nat) ≤ 2 by decide) ?_
            intro w15 hb615 hx15 hs15
            (repeat (first | refine lw_pure hT rfl ?_ | refine lw_nil ?_ | refine qw_then ?_ | refine cw_ret ?_))
            have hx015 : Ex w w15 := hx014.up_new hx15 (fun i h => by omega)
            have hl7 := hx7.size
            have hl36 := (hx4.trans hx46).size
            refine qw_ret_cell hT rfl rfl rfl rfl (vs := encR c u2) (hb615.rd 0 2) rfl ⟨⟨u2, gs ++ [⟨ub, up, .slice (some ⟨b9, 0, none⟩) 3 3, [.slice none 0 0, .slice none 0 0, .slice none 0 0]⟩], by rw [hc]; rfl, ?_⟩, hx015⟩
            rw [hD']
            have hu1l : ∀ k, u1.ownBlock = some k → k < w10.heap.size := fun k hk => (own_base g1 hk).2
            have hx1115 : Ext (fun k => some k = u1.ownBlock ∨ k = b3 ∨ k = b6) w12 w15 := ((k2.mono fun _ _ h => .inl h).trans (hx14.mono fun _ _ h => .inr (.inl h))).trans (hx15.mono fun _ _ h => .inr (.inr h))
            have hbe15 := hbe2.ext hx1115 (by rintro (h | h | h) <;> first | (have := hu1l _ h.symm; omega) | omega)
            have hb915 : Blk w15 b9 ([.int .i64 0, .string holder, .slice none 0 0] ++ [.int .i64 0, .string holder, .slice none 0 0] ++ [.int .i64 0, .string holder, .slice none 0 0]) 126 := (hb9.ex hx712).ext hx1115 (by rintro (h | h | h) <;> first | (have := hu1b _ h.symm; have := hb9.lt; omega) | omega)
            have hub15 := own_ext hub12 hx1115 (fun k hk h => by have := own_base hub hk; rcases h with h | h | h <;> first | (have := hu1l _ h.symm; omega) | omega)
            have hup15 := own_ext hup12 hx1115 (fun k hk h => by have := own_base hup hk; rcases h with h | h | h <;> first | (have := hu1l _ h.symm; omega) | omega)
            have hnew : FRep (fun b => A b ∨ w.heap.size ≤ b) w15 (.slice (some ⟨e2, 0, none⟩) 1 1) [newEnt b holder] [⟨ub, up, .slice (some ⟨b9, 0, none⟩) 3 3, [.slice none 0 0, .slice none 0 0, .slice none 0 0]⟩] := by
              refine ⟨rfl, (fun a n c h => by cases h; exact Nat.le_refl _), Sl.of_rd (A := fun b => A b ∨ w.heap.size ≤ b) (o := 0) (rows := [entF (newEnt b holder, _)]) (.inr (by omega)) (by intro r hr; simp at hr; subst hr; rfl) (hbe15.rd 0 11) (by simp [maxLen]), ?_⟩
              intro i x g hx hg
              cases i with
              | succ i => simp at hx
              | zero =>
                simp at hx hg
                subst hx hg
                refine ⟨sls_own hub15 (fun k hk => .inr (by have := own_base hub hk; omega)), sls_own hup15 (fun k hk => .inr (by have := own_base hup hk; omega)), rfl, rfl, ?_, ?_, own_cap hub15⟩
                · exact Sl.of_rd (A := fun b => A b ∨ w.heap.size ≤ b) (o := 0) (rows := [papRow (⟨0, holder, []⟩, .slice none 0 0), papRow (⟨0, holder, []⟩, .slice none 0 0), papRow (⟨0, holder, []⟩, .slice none 0 0)]) (.inr (by omega)) (by simp [papRow]) (hb915.rd 0 9) (by simp [maxLen])
                · intro j q vc hq hvc
                  have hv0 : vc = .slice none 0 0 := by
                    match j, hvc with
                    | 0, hvc => simpa using hvc.symm
                    | 1, hvc => simpa using hvc.symm
                    | 2, hvc => simpa using hvc.symm
                    | _ + 3, hvc => simp at hvc
                  have hq0 : q.chain = [] := by
                    match j, hq with
                    | 0, hq => simp [newEnt] at hq; subst hq; rfl
                    | 1, hq => simp [newEnt] at hq; subst hq; rfl
                    | 2, hq => simp [newEnt] at hq; subst hq; rfl
                    | _ + 3, hq => simp [newEnt] at hq
                  rw [hv0, hq0]
                  exact Sl.nil _ _ _
            have hold := ((hF.ex hx015).weaken (B := fun b => A b ∨ w.heap.size ≤ b) fun _ h => .inl h)
            have hu2 : ∀ k, u2.ownBlock = some k → w8.heap.size ≤ k := fun k hk => (own_base k1 hk).1
            have k15 := own_ext (own_ext k1 hx14 (fun k hk e => by have := hu2 k hk; omega)) hx15 (fun k hk e => by have := hu2 k hk; omega)
            exact hold.append hnew (by simpa using k15) (fun k hk => .inr (by have := hu2 k hk; omega))
end Go.Proofs.YtnglkhnfmbnfeaaGreat
namespace Go.SK
open Go
attribute [local semireducible] CW LW QW Ret Kn
section
variable {P : Program} {n : Nat} {fr : Fr} {w : World} {Q : Exit → Act → World → Prop}
theorem cw_then_cut {α : Type} {x : Code} {K : Act → World → Prop} (F : α → Fr) (I : α → World → Prop) (h1 : CW P x (Exit.then (fun a w => ∃ s, Kn n (F s) a ∧ I s w) Q) n fr w) (h2 : ∀ s w', I s w' → QW (Exit.then K Q) .normal n (F s) w') : CW P x (Exit.then K Q) n fr w :=
  cw_mono h1 fun e a w h => by
    cases e with
    | normal => obtain ⟨s, hk, hI⟩ := h; exact h2 s w hI a hk
    | _ => exact h
theorem qw_cut {α : Type} {F : α → Fr} {I : α → World → Prop} (s : α) (hs : subB (F s) fr) (hI : I s w) : QW (Exit.then (fun a w => ∃ s, Kn n (F s) a ∧ I s w) Q) .normal n fr w := fun _ hk => ⟨s, hk.sub (sub_of hs), hI⟩
end
end Go.SK
namespace Go.Proofs.YtnglkhnfmbnfeaaGreat
open Go Go.SK
theorem fidx_cases (l : List EntD) (num : ByteArray) :
    (fidx (fun e => decide (e.bill.number = num)) l = -1 ∧ RegD.at? ⟨⟨#[]⟩, l⟩ num = none) ∨ ∃ (i : Nat) (hi : i < l.length), fidx (fun e => decide (e.bill.number = num)) l = i ∧ RegD.at? ⟨⟨#[]⟩, l⟩ num = some l[i] := by
  unfold RegD.at? fidx
  have hp : (fun e : EntD => decide (num = e.bill.number)) = fun e => decide (e.bill.number = num) := by
    funext e; by_cases h : num = e.bill.number
    · simp [h]
    · have : ¬ e.bill.number = num := fun h' => h h'.symm
      simp [h, this]
  dsimp only
  rw [hp]
  induction l with
  | nil => exact .inl ⟨rfl, rfl⟩
  | cons x l ih =>
    by_cases h : x.bill.number = num
    · exact .inr ⟨0, by simp, by simp [List.findIdx?_cons, h], by simp [h]⟩
    · rcases ih with ⟨h1, h2⟩ | ⟨i, hi, h1, h2⟩
      · left
        refine ⟨?_, by simp [h, h2]⟩
        cases hf : l.findIdx? (fun e => decide (e.bill.number = num)) with
        | none => simp [List.findIdx?_cons, h, hf]
        | some k => rw [hf] at h1; simp at h1
      · right
        refine ⟨i + 1, by simp; omega, ?_, by simp [h, h2]⟩
        cases hf : l.findIdx? (fun e => decide (e.bill.number = num)) with
        | none => rw [hf] at h1; simp at h1
        | some k => rw [hf] at h1; simp at h1; simp [List.findIdx?_cons, h, hf, h1]
def whichN (a : ActD) : List Nat := (whichD a).map Int.toNat
def badIx (a : ActD) : Bool := (decide (a.kind ≠ 5) && (decide (a.index < 0) || decide (a.index > 2))) && !(decide (a.kind = 1) && decide (a.index = -1))
def badArg (a : ActD) : Bool := (decide (a.kind ≠ 3) && !dayB a.day) || (decide (a.kind = 1) && (!nameB a.to_ || decide (a.to_ = a.by_)))
def stW (a : ActD) : Int := if a.kind = 4 then 3 else 0
def wrongE (x : EntD) (a : ActD) : Int :=
  if badIx a then 3 else if badArg a then 1
  else if (whichN a).any (fun k => decide (x.state ≠ 0) || decide ((papAt x k).state ≠ stW a)) then 9
  else if (whichN a).any (fun k => decide ((papAt x k).holder ≠ a.by_)) then 8
  else if (whichN a).any (fun k => decide (a.kind ≠ 3) && decide (a.day < untilD x.bill (papAt x k))) then 6 else 0
theorem goodIx {a : ActD} (hk : 1 ≤ a.kind ∧ a.kind ≤ 5) (h : badIx a = false) : whichD a = (whichN a).map (fun k : Nat => (k : Int)) ∧ whichN a = ixs a.ask.index ∧ whichN a ≠ [] := by
  have : a.kind = 1 ∨ a.kind = 2 ∨ a.kind = 3 ∨ a.kind = 4 ∨ a.kind = 5 := by omega
  simp only [badIx] at h
  by_cases h5 : a.kind = 5 ∨ (a.kind = 1 ∧ a.index = -1)
  · have e : whichD a = [0, 1, 2] := by unfold whichD; rw [if_pos h5]
    have ei : a.ask.index = -1 := by
      rcases h5 with h5 | ⟨h5, h6⟩
      · simp [ActD.ask, h5]
      · simp [ActD.ask, h5, h6]
    unfold whichN; rw [e, ei]; exact ⟨rfl, rfl, by simp⟩
  · have e : whichD a = [a.index] := by unfold whichD; rw [if_neg h5]
    have h1 : a.kind ≠ 5 := fun h => h5 (.inl h)
    have h2 : 0 ≤ a.index ∧ a.index ≤ 2 := by
      have h6 : ¬ (a.kind = 1 ∧ a.index = -1) := fun h => h5 (.inr h)
      simp only [Bool.and_eq_false_iff, Bool.or_eq_false_iff, Bool.not_eq_false', Bool.and_eq_true, decide_eq_false_iff_not, decide_eq_true_eq] at h
      omega
    have ei : a.ask.index = a.index := by
      have ho : oneI a.index = a.index := by unfold oneI; rw [if_neg (by omega)]
      rcases this with h | h | h | h | h <;> simp [ActD.ask, h, ho]
      exact absurd h h1
    unfold whichN; rw [e, ei]
    have : a.index = 0 ∨ a.index = 1 ∨ a.index = 2 := by omega
    rcases this with h | h | h <;> rw [h] <;> exact ⟨rfl, rfl, by simp⟩
theorem wrongE_eq {x : EntD} {a : ActD} (hk : 1 ≤ a.kind ∧ a.kind ≤ 5) : wrongE x a = askE x a.ask := by
  have hks : a.kind = 1 ∨ a.kind = 2 ∨ a.kind = 3 ∨ a.kind = 4 ∨ a.kind = 5 := by omega
  rw [askE_eq]
  cases hb : badIx a with
  | true =>
    have h0 : asks x a.ask 0 = true := by
      simp only [badIx, Bool.and_eq_true, decide_eq_true_eq, Bool.or_eq_true, Bool.not_eq_true', Bool.and_eq_false_iff, decide_eq_false_iff_not] at hb
      obtain ⟨⟨h1, h2⟩, h3⟩ := hb
      have one0 : ixs (oneI a.index) = [] := by
        unfold oneI
        by_cases h : a.index = -1
        · rw [if_pos h]; rfl
        · rw [if_neg h]; unfold ixs; rw [if_neg h, if_neg (by omega), if_neg (by omega), if_neg (by omega)]
      have : ixs a.ask.index = [] := by
        rcases hks with h | h | h | h | h
        · have hn : ¬ a.index = -1 := by rcases h3 with h3 | h3; exact absurd h h3; exact h3
          have : a.ask.index = a.index := by simp [ActD.ask, h]
          rw [this]; unfold ixs; rw [if_neg hn, if_neg (by omega), if_neg (by omega), if_neg (by omega)]
        · have : a.ask.index = oneI a.index := by simp [ActD.ask, h]
          rw [this]; exact one0
        · have : a.ask.index = oneI a.index := by simp [ActD.ask, h]
          rw [this]; exact one0
        · have : a.ask.index = oneI a.index := by simp [ActD.ask, h]
          rw [this]; exact one0
        · exact absurd h h1
      simp [asks, this]
    unfold wrongE; rw [if_pos hb, if_pos h0]
  | false =>
    obtain ⟨e1, e2, e3⟩ := goodIx hk hb
    have h0 : asks x a.ask 0 = false := by
      simp only [asks, ← e2]
      cases hw : whichN a with
      | nil => exact absurd hw e3
      | cons _ _ => simp
    have h1 : asks x a.ask 1 = badArg a := by
      rcases hks with h | h | h | h | h <;> simp [asks, badArg, ActD.ask, h]
    have h2 : asks x a.ask 2 = (whichN a).any (fun k => decide (x.state ≠ 0) || decide ((papAt x k).state ≠ stW a)) := by
      simp only [asks, ← e2]
      have es : a.ask.state = stW a := by rcases hks with h | h | h | h | h <;> simp [ActD.ask, stW, h]
      rw [es]
      cases hd : decide (x.state ≠ 0) with
      | true =>
        cases hw : whichN a with
        | nil => exact absurd hw e3
        | cons _ _ => simp
      | false => simp
    have h3 : asks x a.ask 3 = (whichN a).any (fun k => decide ((papAt x k).holder ≠ a.by_)) := by
      simp only [asks, ← e2]
      have es : a.ask.by_ = a.by_ := by rcases hks with h | h | h | h | h <;> simp [ActD.ask, h]
      rw [es]
    have h4 : asks x a.ask 4 = (whichN a).any (fun k => decide (a.kind ≠ 3) && decide (a.day < untilD x.bill (papAt x k))) := by
      simp only [asks, ← e2]
      rcases hks with h | h | h | h | h <;> simp [ActD.ask, h]
    rw [h0, h1, h2, h3, h4]
    unfold wrongE; rw [hb]
end Go.Proofs.YtnglkhnfmbnfeaaGreat
