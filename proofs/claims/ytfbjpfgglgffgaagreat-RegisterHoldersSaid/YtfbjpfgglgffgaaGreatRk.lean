/- Contracts of package register, eleventh part: acts that change states. -/
import Derived.Test.YtfbjpfgglgffgaaGreatRj
set_option linter.unusedVariables false
set_option linter.unusedSimpArgs false
set_option linter.unusedSectionVars false
set_option linter.unnecessarySimpa false
namespace Go.Proofs.YtfbjpfgglgffgaaGreat
open Go Go.SK

/-! ### An entry changed. -/
theorem upd_set {r : RegD} {gs : List GhostE} {n : ByteArray} {i : Nat} {x : EntD} {g : GhostE} (hA : At r gs n i x g) (hN : r.Nd) (f : EntD → EntD) : (r.upd n f).l = r.l.set i (f x) := by
  apply List.ext_getElem?
  intro j
  simp only [RegD.upd, List.getElem?_map, List.getElem?_set]
  by_cases e : i = j
  · subst e
    have hlt := (List.getElem?_eq_some_iff.1 hA.l).1
    have e : r.l[i] = x := by have := hA.l; rw [List.getElem?_eq_getElem hlt] at this; exact Option.some.inj this
    simp [hlt, hA.num, e]
  · rw [if_neg e]
    cases hj : r.l[j]? with
    | none => rfl
    | some y =>
      have : n ≠ y.bill.number := fun h => e (hN i j x y hA.l hj (hA.num ▸ h))
      simp [this]
theorem Rep.upd {F : Nat → Prop} {w w' : World} {p : Nat} {r : RegD} {m : Nat} {gs : List GhostE} (h : Rep w p r m gs) {i : Nat} {x x' : EntD} {g g' : GhostE} (hi : r.l[i]? = some x) (hg : gs[i]? = some g) (hx : Ext F w w')
    (hF : ∀ b, b < w.heap.size → F b → b ∈ g.fp) (hb : x'.bill.number = x.bill.number) (he : g'.e = g.e) (hrd : g'.rd = g.rd) (hE : EntOk w' x' g') (hfp : ∀ b ∈ g'.fp, b ∈ g.fp ∨ w.heap.size ≤ b) (hn : g'.Nd) :
    Rep w' p { r with l := r.l.set i x' } m (gs.set i g') := by
  have hF' : ∀ b, b < w.heap.size → b ∉ g.fp → ¬ F b := fun b hb hn hf => hn (hF b hb hf)
  have hil := (List.getElem?_eq_some_iff.1 hi).1
  have hgl := (List.getElem?_eq_some_iff.1 hg).1
  have hf := h.fpn i g hg
  have hmap : mapOf (r.l.set i x') (gs.set i g') = mapOf r.l gs := by
    apply List.ext_getElem?
    intro j
    by_cases e : i = j
    · subst e
      simp only [mapOf, List.getElem?_map]
      have e1 : ((r.l.set i x').zip (gs.set i g'))[i]? = some (x', g') := by rw [List.getElem?_zip_eq_some]; simp [hil, hgl]
      have e2 : (r.l.zip gs)[i]? = some (x, g) := by rw [List.getElem?_zip_eq_some]; exact ⟨hi, hg⟩
      rw [e1, e2]; simp [hb, he]
    · simp only [mapOf, List.getElem?_map]
      congr 1
      rw [Option.ext_iff]
      rintro ⟨y, k⟩
      rw [List.getElem?_zip_eq_some, List.getElem?_zip_eq_some]
      simp only [List.getElem?_set, if_neg e]
  have hset : ∀ {j : Nat} {k : GhostE}, (gs.set i g')[j]? = some k → (j = i ∧ k = g') ∨ (j ≠ i ∧ gs[j]? = some k) := by
    intro j k hk
    rw [List.getElem?_set] at hk
    by_cases e : i = j
    · subst e; rw [if_pos rfl, if_pos hgl] at hk; exact .inl ⟨rfl, (Option.some.inj hk).symm⟩
    · rw [if_neg e] at hk; exact .inr ⟨fun e' => e e'.symm, hk⟩
  have hold : ∀ {j : Nat} {k : GhostE}, gs[j]? = some k → ∀ b, b ∈ k.fp ∨ b ∈ k.rd → b < w.heap.size := fun hk b hb => h.foot_lt (foot_mem.2 (.inr (.inr ⟨_, _, hk, hb⟩)))
  have hpl := h.blk.lt
  obtain ⟨es, hmp, hpm⟩ := h.map
  have hml := hmp.lt
  have hnum : ∀ {j : Nat} {y : EntD}, (r.l.set i x')[j]? = some y → ∃ y0, r.l[j]? = some y0 ∧ y.bill.number = y0.bill.number := by
    intro j y hy
    rw [List.getElem?_set] at hy
    by_cases e : i = j
    · subst e; rw [if_pos rfl, if_pos hil] at hy; cases hy; exact ⟨x, hi, hb⟩
    · rw [if_neg e] at hy; exact ⟨y, hy, rfl⟩
  refine ⟨h.blk.ext hx (hF' p hpl hf.2.2.2.1), ?_, ?_, by simp [h.len], ?_, ?_, ?_, ?_, h.pm⟩
  · exact ⟨es, hmp.ext hx (hF' m hml hf.2.1), by rw [hmap]; exact hpm⟩
  · intro j j' y y' hy hy' he
    obtain ⟨y0, h1, h2⟩ := hnum hy
    obtain ⟨y1, h3, h4⟩ := hnum hy'
    exact h.nd j j' y0 y1 h1 h3 (by rw [← h2, ← h4, he])
  · intro j y k hy hk
    rcases hset hk with ⟨rfl, rfl⟩ | ⟨e, hk'⟩
    · simp only [List.getElem?_set, if_true, hil] at hy
      cases hy; exact hE
    · simp only [List.getElem?_set, if_neg (Ne.symm e)] at hy
      have hEj := h.ents j y k hy hk'
      refine hEj.ext hx (fun b hb => hF' b (hold hk' b (.inl hb)) (fun h' => h.disj i j g k (Ne.symm e) hg hk' b h' hb)) (fun b hb => hF' b (hold hk' b (.inr hb)) (fun h' => h.rdn i j g k hg hk' b h' hb))
  · intro j k hk
    rcases hset hk with ⟨rfl, rfl⟩ | ⟨e, hk'⟩
    · refine ⟨hn, fun hb => ?_, by rw [hrd]; exact hf.2.2.1, fun hb => ?_, by rw [hrd]; exact hf.2.2.2.2⟩
      · rcases hfp m hb with hb | hb
        · exact hf.2.1 hb
        · omega
      · rcases hfp p hb with hb | hb
        · exact hf.2.2.2.1 hb
        · omega
    · exact h.fpn j k hk'
  · intro j j' k k' hne hk hk' b hb hb'
    rcases hset hk with ⟨rfl, rfl⟩ | ⟨e, hk1⟩ <;> rcases hset hk' with ⟨rfl, rfl⟩ | ⟨e', hk2⟩
    · exact hne rfl
    · rcases hfp b hb with hb | hb
      · exact h.disj j j' g k' hne hg hk2 b hb hb'
      · have := hold hk2 b (.inl hb'); omega
    · rcases hfp b hb' with hb' | hb'
      · exact h.disj j' j g k (Ne.symm hne) hg hk1 b hb' hb
      · have := hold hk1 b (.inl hb); omega
    · exact h.disj j j' k k' hne hk1 hk2 b hb hb'
  · intro j j' k k' hk hk' b hb hb'
    have key : ∀ (j' : Nat) (k' : GhostE), gs[j']? = some k' → b ∈ k'.rd → False := by
      intro j' k' hk2 hb2
      rcases hset hk with ⟨rfl, rfl⟩ | ⟨e, hk1⟩
      · rcases hfp b hb with hb | hb
        · exact h.rdn j j' g k' hg hk2 b hb hb2
        · have := hold hk2 b (.inr hb2); omega
      · exact h.rdn j j' k k' hk1 hk2 b hb hb2
    rcases hset hk' with ⟨rfl, rfl⟩ | ⟨e', hk2⟩
    · rw [hrd] at hb'; exact key _ _ hg hb'
    · exact key _ _ hk2 hb'
/-- An entry some of whose cells were written anew. -/
theorem EntOk.same {w w' : World} {x x' : EntD} {g : GhostE} (h : EntOk w x g) (hx : Ext (· = g.e) w w') (hn : g.Nd) (hr : g.e ∉ g.rd) (hb : x'.bill = x.bill) (h3 : x'.ps.length = 3)
    (hc : ∀ (i : Nat) (q q' : PapD), x.ps[i]? = some q → x'.ps[i]? = some q' → q'.chain = q.chain) (hblk : Blk w' g.e (entCells x' g) 88) : EntOk w' x' g := by
  refine ⟨hblk, ?_, ?_, h3, h.three', ?_⟩
  · rw [hb]; exact own_ext h.boxesO hx (fun b hb e => hr (GhostE.rd_mem.2 (.inl (e ▸ hb))))
  · rw [hb]; exact own_ext h.parentsO hx (fun b hb e => hr (GhostE.rd_mem.2 (.inr (e ▸ hb))))
  · intro i q' vc h1 h2
    have hi : i < x.ps.length := by have := (List.getElem?_eq_some_iff.1 h1).1; rw [h3] at this; rw [h.three]; exact this
    have hq : x.ps[i]? = some x.ps[i] := List.getElem?_eq_getElem hi
    rw [hc i _ _ hq h1]
    refine own_ext (h.chains i _ vc hq h2) hx (fun b hb e => ?_)
    subst e
    exact hn.e i vc h2 hb
theorem foot_upd {p m : Nat} {gs : List GhostE} {i : Nat} {g g' : GhostE} {N : Nat} (hg : gs[i]? = some g) (hfp : ∀ b ∈ g'.fp, b ∈ g.fp ∨ N ≤ b) (hrd : g'.rd = g.rd) : ∀ b ∈ foot p m (gs.set i g'), b ∈ foot p m gs ∨ N ≤ b := by
  intro b hb
  have hgl := (List.getElem?_eq_some_iff.1 hg).1
  rcases foot_mem.1 hb with rfl | rfl | ⟨j, k, hk, hb⟩
  · exact .inl (foot_mem.2 (.inl rfl))
  · exact .inl (foot_mem.2 (.inr (.inl rfl)))
  · rw [List.getElem?_set] at hk
    by_cases e : i = j
    · subst e; rw [if_pos rfl, if_pos hgl] at hk; cases hk
      rcases hb with hb | hb
      · rcases hfp b hb with hb | hb
        · exact .inl (foot_mem.2 (.inr (.inr ⟨i, g, hg, .inl hb⟩)))
        · exact .inr hb
      · exact .inl (foot_mem.2 (.inr (.inr ⟨i, g, hg, .inr (hrd ▸ hb)⟩)))
    · rw [if_neg e] at hk
      exact .inl (foot_mem.2 (.inr (.inr ⟨j, k, hk, hb⟩)))
/-- A register after an entry's own cells were written. -/
theorem Mut.same {w0 w w' w2 : World} {p : Nat} {r : RegD} {m : Nat} {gs : List GhostE} (hR0 : Rep w0 p r m gs) (hx0 : Ex w0 w) {n : ByteArray} {i : Nat} {x : EntD} {g : GhostE} (hA : At r gs n i x g) (hN : r.Nd) (f : EntD → EntD) (hx : Ext (· = g.e) w w') (hb : (f x).bill = x.bill) (h3 : (f x).ps.length = 3)
    (hc : ∀ (i : Nat) (q q' : PapD), x.ps[i]? = some q → (f x).ps[i]? = some q' → q'.chain = q.chain) (hblk : Blk w' g.e (entCells (f x) g) 88) (hx2 : Ex w' w2) : Mut w0 p m gs (r.upd n f) w2 := by
  have hR := hR0.ex hx0
  have hf := hR.fpn i g hA.gi
  have he : g.e ∈ g.fp := GhostE.fp_mem.2 (.inl rfl)
  have hE := (hR.ents i x g hA.l hA.gi).same hx hf.1 (fun h => hR.rdn i i g g hA.gi hA.gi _ he h) hb h3 hc hblk
  have hU := hR.upd hA.l hA.gi hx (fun b _ e => e ▸ he) (by rw [hb]) rfl rfl hE (fun b hb => .inl hb) hf.1
  have e : ({ r with l := r.l.set i (f x) } : RegD) = r.upd n f := by
    have := upd_set hA hN f
    unfold RegD.upd at *
    simp only at this
    rw [this]
  rw [e] at hU
  have hl := hx0.size
  refine ⟨⟨_, hU.ex hx2, fun b hb => (foot_upd (N := w0.heap.size) hA.gi (fun b hb => .inl hb) rfl b hb)⟩, ?_⟩
  refine ((Ext.of_ex hx0).trans' hx (G := (· = g.e)) (fun _ _ f => f) (fun b _ e => ?_)).up hx2
  exact foot_mem.2 (.inr (.inr ⟨i, g, hA.gi, .inl (e ▸ he)⟩))

theorem ask_ok {x : EntD} {a : AskD} (h : askE x a = 0) : ixs a.index ≠ [] ∧ x.state = 0 ∧ (∀ k ∈ ixs a.index, (papAt x k).state = a.state ∧ (papAt x k).holder = a.by_) ∧ (a.dated = true → dayB a.day = true ∧ ∀ k ∈ ixs a.index, untilD x.bill (papAt x k) ≤ a.day) ∧ (a.given = true → nameB a.to_ = true ∧ a.to_ ≠ a.by_) := by
  rw [askE_eq] at h
  cases h0 : asks x a 0 <;> cases h1 : asks x a 1 <;> cases h2 : asks x a 2 <;> cases h3 : asks x a 3 <;> cases h4 : asks x a 4 <;> simp [h0, h1, h2, h3, h4] at h
  simp only [asks, decide_eq_false_iff_not, Bool.or_eq_false_iff, List.any_eq_false, decide_eq_true_eq, Bool.and_eq_false_iff, Bool.not_eq_false', ne_eq, Decidable.not_not] at h0 h1 h2 h3 h4
  refine ⟨fun e => h0 (by rw [e]; rfl), h2.1, fun k hk => ⟨by simpa using h2.2 k hk, by simpa using h3 k hk⟩, fun hd => ⟨?_, fun k hk => ?_⟩, fun hg => ?_⟩
  · rcases h1.1 with h | h
    · rw [hd] at h; cases h
    · exact h
  · rcases h4 with h | h
    · rw [hd] at h; cases h
    · have := h k hk; simp at this; omega
  · rcases h1.2 with h | h
    · rw [hg] at h; cases h
    · exact ⟨by simpa using h.1, by simpa using h.2⟩
theorem ixs_one {index : Int} (h : ixs (oneI index) ≠ []) : ∃ k : Nat, k < 3 ∧ ixs (oneI index) = [k] ∧ ixs index = [k] := by
  unfold oneI at *
  by_cases e : index = -1
  · subst e; exact absurd rfl h
  · rw [if_neg e] at *
    unfold ixs at *
    rw [if_neg e] at *
    by_cases h0 : index = 0
    · subst h0; exact ⟨0, by omega, rfl, rfl⟩
    · by_cases h1 : index = 1
      · subst h1; exact ⟨1, by omega, rfl, rfl⟩
      · by_cases h2 : index = 2
        · subst h2; exact ⟨2, by omega, rfl, rfl⟩
        · simp [h0, h1, h2] at h
theorem set_state {x : EntD} {g : GhostE} (h1 : x.ps.length = 3) (h2 : g.vcs.length = 3) {k : Nat} (hk : k < 3) (s : Int) : (entCells x g).set (10 + k * 3) (.int .i64 s) = entCells { x with ps := onIx [k] (stateP s) x.ps } g := by
  obtain ⟨a, b, c, ha⟩ := three_cases h1
  obtain ⟨u, v, y, hu⟩ := three_cases h2
  unfold entCells
  rw [ha, hu]
  match k, hk with
  | 0, _ => rfl
  | 1, _ => rfl
  | 2, _ => rfl
theorem entCells_len {x : EntD} {g : GhostE} (h1 : x.ps.length = 3) (h2 : g.vcs.length = 3) : (entCells x g).length = 19 := by
  obtain ⟨a, b, c, ha⟩ := three_cases h1
  obtain ⟨u, v, y, hu⟩ := three_cases h2
  unfold entCells
  rw [ha, hu]; rfl
theorem onIx_len (l : List Nat) (f : PapD → PapD) (ps : List PapD) : (onIx l f ps).length = ps.length := by simp [onIx]
theorem onIx_get {l : List Nat} {f : PapD → PapD} {ps : List PapD} {i : Nat} {q : PapD} (h : ps[i]? = some q) : (onIx l f ps)[i]? = some (if l.contains i then f q else q) := by
  simp [onIx, h]
/-! ### The acts -/
section
variable {w : World} {p : Nat} {r : RegD} {m : Nat} {gs : List GhostE}
theorem reg_one (i : Int) (w : World) : Ret Tryz.prog 58 [.int .i64 i] w fun v w' => v = .int .i64 (oneI i) ∧ w = w' := by
  refine ret_of Tryz.func58 Tryz.ntmps58 rfl rfl rfl ?_
  (repeat (first | refine lw_pure hT rfl ?_ | refine lw_nil ?_ | refine cw_seq ?_ | refine cw_region ?_ | refine qw_then ?_))
  refine cw_cond rfl (fun h => ?_) (fun h => ?_)
  · (repeat (first | refine lw_pure hT rfl ?_ | refine lw_nil ?_ | refine cw_seq ?_ | refine cw_region ?_ | refine qw_then ?_ | refine cw_ret ?_ | refine qw_then_ret ?_))
    refine qw_ret rfl ⟨?_, rfl⟩
    simp at h; simp [oneOr, oneI, h]
  · (repeat (first | refine lw_pure hT rfl ?_ | refine lw_nil ?_ | refine cw_seq ?_ | refine cw_region ?_ | refine qw_then ?_ | refine cw_ret ?_ | refine cw_skip ?_))
    refine qw_ret rfl ⟨?_, rfl⟩
    simp at h; simp [oneOr, oneI, h]
theorem row_at {w : World} {base e : Nat} {vl : Value} {g : Nat} {k : Nat} (h : w.ownsRow base e 1 vl 1 [ptrP g k]) : ∃ b cap, vl = .slice (some ⟨b, 0, none⟩) 1 cap ∧ w.cell? ⟨b, 0, none⟩ = some (ptrP g k) := by
  rcases h.2 with ⟨rfl, h0⟩ | ⟨b, cap, cur, rfl, h2, h3, h4, h5, h6, h7⟩
  · cases h0
  · refine ⟨b, cap, rfl, ?_⟩
    have := h.cells (g := b) rfl 0 (ptrP g k) rfl
    exact this
/-- What a single original's state becomes. -/
theorem state_mut {w0 w w' : World} (hR0 : Rep w0 p r m gs) (hx0 : Ex w0 w) {n : ByteArray} {i : Nat} {x : EntD} {g : GhostE} (hA : At r gs n i x g) (hN : r.Nd) {k : Nat} (hk : k < 3) (s : Int) (f : EntD → EntD) (hf : f x = { x with ps := onIx [k] (stateP s) x.ps })
    (hx : Ext (· = g.e) w w') (hblk : Blk w' g.e ((entCells x g).set (10 + k * 3) (.int .i64 s)) 88) : Mut w0 p m gs (r.upd n f) w' := by
  have hE := hR0.ents i x g hA.l hA.gi
  refine Mut.same hR0 hx0 hA hN f hx (by rw [hf]) (by rw [hf]; simp [onIx_len, hE.three]) ?_ ?_ (Ext.refl _ _)
  · intro j q q' h1 h2
    rw [hf] at h2
    simp only [onIx_get h1, Option.some.injEq] at h2
    subst h2; split <;> rfl
  · rw [hf, ← set_state hE.three hE.three' hk]; exact hblk
theorem reg_Lose (hR : Rep w p r m gs) (hN : r.Nd) (a : ActD) (hk : a.kind = 3) : Ret Tryz.prog 30 [.pointer (some ⟨p, 0, none⟩), .string a.bill, .int .i64 a.index, .string a.by_] w fun v w' =>
    v = .int .i64 (actC r a) ∧ Mut w p m gs (doA r a) w' := by
  have ha : a.ask = ⟨a.bill, a.by_, oneI a.index, 0, false, 0, ⟨#[]⟩, false⟩ := by simp [ActD.ask, hk]
  have hc : actC r a = askC r a.ask := by simp [actC, hk]
  refine ret_of Tryz.func30 Tryz.ntmps30 rfl rfl rfl ?_
  (repeat (first | refine lw_pure hT rfl ?_ | refine lw_nil ?_ | refine cw_seq ?_ | refine cw_region ?_ | refine qw_then ?_))
  refine lw_call hT rfl rfl (reg_one a.index w) ?_
  rintro _ _ ⟨rfl, rfl⟩
  skip
  refine lw_build bt123 rfl ?_
  skip
  refine lw_call hT rfl rfl (reg_find hR ⟨a.bill, a.by_, oneI a.index, 0, false, 0, ⟨#[]⟩, false⟩ (show (0 : Nat) ≤ maxLen by decide)) ?_
  rw [← ha]
  rintro v w1 ⟨hv, hx1⟩
  rcases hv with ⟨h0, rfl⟩ | ⟨i, x, g, vl, h0, h1, hA, rfl, hrow⟩
  · (repeat (first | refine lw_pure hT rfl ?_ | refine lw_nil ?_ | refine cw_seq ?_ | refine cw_region ?_ | refine qw_then ?_))
    refine cw_cond rfl (fun h => ?_) (fun h => ?_)
    · (repeat (first | refine lw_pure hT rfl ?_ | refine lw_nil ?_ | refine cw_seq ?_ | refine cw_region ?_ | refine qw_then ?_ | refine cw_ret ?_ | refine qw_then_ret ?_))
      refine qw_ret rfl ⟨by rw [hc]; rfl, ?_⟩
      have : doA r a = r := by simp [doA, hk, h0]
      rw [this]; exact Mut.of_ex hR hx1
    · simp at h; exact absurd h h0
  · obtain ⟨g1, g2, g3, g4, g5⟩ := ask_ok h1
    rw [ha] at g1 hA
    obtain ⟨k, hk3, e1, e2⟩ := ixs_one g1
    rw [ha] at hrow; simp only [e1] at hrow
    obtain ⟨b, cap, rfl, hcell⟩ := row_at hrow
    have hE := hR.ents i x g hA.l hA.gi
    (repeat (first | refine lw_pure hT rfl ?_ | refine lw_nil ?_ | refine cw_seq ?_ | refine cw_region ?_ | refine qw_then ?_))
    refine cw_cond_f rfl (by decide) ?_
    (repeat (first | refine lw_pure hT rfl ?_ | refine cw_seq ?_ | refine cw_region ?_ | refine qw_then ?_ | refine cw_skip ?_))
    refine lw_index hT rfl rfl rfl 0 rfl (show (0 : Nat) < 1 by decide) ?_
    skip
    refine lw_load hT rfl rfl (v := ptrP g.e k) hcell ?_
    unfold ptrP
    (repeat (refine lw_pure hT rfl ?_))
    refine lw_store (size := 1) hT rfl rfl rfl rfl (hE.blk.ex hx1) (show 10 + k * 3 + 0 < (entCells x g).length by rw [entCells_len hE.three hE.three']; omega) ?_
    intro w2 hb2 hx2 hs2
    (repeat (first | refine lw_pure hT rfl ?_ | refine lw_nil ?_ | refine cw_seq ?_ | refine cw_region ?_ | refine qw_then ?_ | refine cw_ret ?_))
    refine qw_ret rfl ⟨by rw [hc, h0]; rfl, ?_⟩
    have : doA r a = r.upd a.bill (·.after a) := by simp [doA, hk, h0]
    rw [this]
    exact state_mut hR hx1 hA hN hk3 3 (·.after a) (by simp [EntD.after, hk, e2]) hx2 hb2
theorem reg_Replace (hR : Rep w p r m gs) (hN : r.Nd) (a : ActD) (hk : a.kind = 4) : Ret Tryz.prog 31 [.pointer (some ⟨p, 0, none⟩), .string a.bill, .int .i64 a.index, .string a.by_, .int .i64 a.day] w fun v w' =>
    v = .int .i64 (actC r a) ∧ Mut w p m gs (doA r a) w' := by
  have ha : a.ask = ⟨a.bill, a.by_, oneI a.index, 3, true, a.day, ⟨#[]⟩, false⟩ := by simp [ActD.ask, hk]
  have hc : actC r a = askC r a.ask := by simp [actC, hk]
  refine ret_of Tryz.func31 Tryz.ntmps31 rfl rfl rfl ?_
  (repeat (first | refine lw_pure hT rfl ?_ | refine lw_nil ?_ | refine cw_seq ?_ | refine cw_region ?_ | refine qw_then ?_))
  refine lw_call hT rfl rfl (reg_one a.index w) ?_
  rintro _ _ ⟨rfl, rfl⟩
  (repeat (refine lw_pure hT rfl ?_))
  refine lw_build bt123 rfl ?_
  skip
  refine lw_call hT rfl rfl (reg_find hR ⟨a.bill, a.by_, oneI a.index, 3, true, a.day, ⟨#[]⟩, false⟩ (show (0 : Nat) ≤ maxLen by decide)) ?_
  rw [← ha]
  rintro v w1 ⟨hv, hx1⟩
  rcases hv with ⟨h0, rfl⟩ | ⟨i, x, g, vl, h0, h1, hA, rfl, hrow⟩
  · (repeat (first | refine lw_pure hT rfl ?_ | refine lw_nil ?_ | refine cw_seq ?_ | refine cw_region ?_ | refine qw_then ?_))
    refine cw_cond rfl (fun h => ?_) (fun h => ?_)
    · (repeat (first | refine lw_pure hT rfl ?_ | refine lw_nil ?_ | refine cw_seq ?_ | refine cw_region ?_ | refine qw_then ?_ | refine cw_ret ?_ | refine qw_then_ret ?_))
      refine qw_ret rfl ⟨by rw [hc]; rfl, ?_⟩
      have : doA r a = r := by simp [doA, hk, h0]
      rw [this]; exact Mut.of_ex hR hx1
    · simp at h; exact absurd h h0
  · obtain ⟨g1, g2, g3, g4, g5⟩ := ask_ok h1
    rw [ha] at g1 hA
    obtain ⟨k, hk3, e1, e2⟩ := ixs_one g1
    rw [ha] at hrow; simp only [e1] at hrow
    obtain ⟨b, cap, rfl, hcell⟩ := row_at hrow
    have hE := hR.ents i x g hA.l hA.gi
    (repeat (first | refine lw_pure hT rfl ?_ | refine lw_nil ?_ | refine cw_seq ?_ | refine cw_region ?_ | refine qw_then ?_))
    refine cw_cond_f rfl (by decide) ?_
    (repeat (first | refine lw_pure hT rfl ?_ | refine cw_seq ?_ | refine cw_region ?_ | refine qw_then ?_ | refine cw_skip ?_))
    refine lw_index hT rfl rfl rfl 0 rfl (show (0 : Nat) < 1 by decide) ?_
    skip
    refine lw_load hT rfl rfl (v := ptrP g.e k) hcell ?_
    unfold ptrP
    (repeat (refine lw_pure hT rfl ?_))
    refine lw_store (size := 1) hT rfl rfl rfl rfl (hE.blk.ex hx1) (show 10 + k * 3 + 0 < (entCells x g).length by rw [entCells_len hE.three hE.three']; omega) ?_
    intro w2 hb2 hx2 hs2
    (repeat (first | refine lw_pure hT rfl ?_ | refine lw_nil ?_ | refine cw_seq ?_ | refine cw_region ?_ | refine qw_then ?_ | refine cw_ret ?_))
    refine qw_ret rfl ⟨by rw [hc, h0]; rfl, ?_⟩
    have : doA r a = r.upd a.bill (·.after a) := by simp [doA, hk, h0]
    rw [this]
    exact state_mut hR hx1 hA hN hk3 0 (·.after a) (by simp [EntD.after, hk, e2]) hx2 hb2
end
end Go.Proofs.YtfbjpfgglgffgaaGreat
