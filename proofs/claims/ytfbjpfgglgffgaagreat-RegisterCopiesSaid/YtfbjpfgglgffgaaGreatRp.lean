/- Contract of register.Copy: a register of the same model, all of it new. -/
import Derived.Test.YtfbjpfgglgffgaaGreatGd
import Derived.Test.YtfbjpfgglgffgaaGreatRg
set_option linter.unusedVariables false
set_option linter.unusedSimpArgs false
set_option linter.unusedSectionVars false
set_option linter.unnecessarySimpa false
namespace Go.Proofs.YtfbjpfgglgffgaaGreat
open Go Go.SK

/-- The entries of a copy that is under way. -/
def doneL (l : List EntD) (go : List (Option GhostE)) : List (ByteArray × Value) := (l.zip go).filterMap fun x => x.2.map fun g => (x.1.bill.number, Value.pointer (some ⟨g.e, 0, none⟩))
theorem doneL_set {g : GhostE} : ∀ {l : List EntD} {go : List (Option GhostE)} {i : Nat} {x : EntD}, l[i]? = some x → go[i]? = some none → (doneL l go ++ [(x.bill.number, Value.pointer (some ⟨g.e, 0, none⟩))]).Perm (doneL l (go.set i (some g)))
  | [], _, _, _, h, _ => by simp at h
  | _ :: _, [], _, _, _, h => by simp at h
  | a :: l, o :: go, 0, x, h, hg => by
    simp at h hg
    subst h hg
    simpa [doneL] using List.perm_append_comm (l₁ := doneL l go) (l₂ := [(a.bill.number, Value.pointer (some ⟨g.e, 0, none⟩))])
  | a :: l, o :: go, i + 1, x, h, hg => by
    have ih := doneL_set (g := g) (l := l) (go := go) (i := i) (x := x) (by simpa using h) (by simpa using hg)
    cases o with
    | none => simpa [doneL] using ih
    | some u => simpa [doneL] using ih
theorem doneL_all : ∀ {l : List EntD} {gs : List GhostE}, l.length = gs.length → doneL l (gs.map some) = mapOf l gs
  | [], [], _ => rfl
  | [], _ :: _, h => by simp at h
  | _ :: _, [], h => by simp at h
  | a :: l, g :: gs, h => by
    have ih := doneL_all (l := l) (gs := gs) (by simpa using h)
    simp only [doneL, mapOf] at ih ⊢
    simp [ih]
theorem doneL_mem {l : List EntD} {go : List (Option GhostE)} {e : ByteArray × Value} (h : e ∈ doneL l go) : ∃ (i : Nat) (x : EntD) (g : GhostE), l[i]? = some x ∧ go[i]? = some (some g) ∧ e.1 = x.bill.number := by
  obtain ⟨⟨x, o⟩, hz, he⟩ := List.mem_filterMap.1 h
  obtain ⟨i, hi⟩ := List.getElem?_of_mem hz
  rw [List.getElem?_zip_eq_some] at hi
  obtain ⟨g, hg, rfl⟩ := Option.map_eq_some_iff.1 he
  dsimp only at hg hi
  exact ⟨i, x, g, hi.1, by rw [hi.2, hg], rfl⟩
theorem mget_none {es : List (ByteArray × Value)} {k : ByteArray} (h : ∀ e ∈ es, k ≠ e.1) : mget es k = none := by
  unfold mget
  rw [Option.map_eq_none_iff, List.find?_eq_none]
  intro e he
  simpa using h e he
theorem all_some : ∀ {go : List (Option GhostE)}, (∀ o ∈ go, o ≠ none) → ∃ gs : List GhostE, go = gs.map some
  | [], _ => ⟨[], rfl⟩
  | none :: _, h => absurd rfl (h none List.mem_cons_self)
  | some g :: go, h => by
    obtain ⟨gs, rfl⟩ := all_some (go := go) fun o ho => h o (List.mem_cons_of_mem _ ho)
    exact ⟨g :: gs, rfl⟩
theorem set_chain {x : EntD} {g : GhostE} (h1 : x.ps.length = 3) (h2 : g.vcs.length = 3) {k : Nat} (hk : k < 3) (v : Value) : (entCells x g).set (10 + k * 3 + 2) v = entCells x { g with vcs := g.vcs.set k v } := by
  obtain ⟨bill, state, ps⟩ := x
  obtain ⟨e, vb, vp, vcs⟩ := g
  dsimp only at h1 h2
  obtain ⟨a, b, c, rfl⟩ := three_cases h1
  obtain ⟨u, y, z, rfl⟩ := three_cases h2
  match k, hk with
  | 0, _ => rfl
  | 1, _ => rfl
  | 2, _ => rfl
theorem set_bill (x : EntD) (g : GhostE) (e : Nat) (ub up : Value) : setMany (entCells x g) 0 (encB x.bill ub up) = entCells x ⟨e, ub, up, g.vcs⟩ := rfl
theorem entCells_one {w : World} {x : EntD} {g : GhostE} (h : EntOk w x g) : ∀ u ∈ entCells x g, u.oneCell' = true := by
  have h1 := own_one h.boxesO
  have h2 := own_one h.parentsO
  have hc := h.chains
  obtain ⟨bill, state, ps⟩ := x
  obtain ⟨e, vb, vp, vcs⟩ := g
  obtain ⟨a, b, c, rfl⟩ := three_cases h.three
  obtain ⟨u, y, z, rfl⟩ := three_cases h.three'
  have c0 := own_one (hc 0 a u rfl rfl)
  have c1 := own_one (hc 1 b y rfl rfl)
  have c2 := own_one (hc 2 c z rfl rfl)
  intro q hq
  simp [entCells, encB, papCells] at hq
  rcases hq with rfl | rfl | rfl | rfl | rfl | rfl | rfl | rfl | rfl | rfl | rfl | rfl | rfl | rfl | rfl | rfl | rfl | rfl | rfl <;> first | rfl | assumption
/-- A copy that is under way. -/
structure CopyI (N : Nat) (w' : World) (r : RegD) (p m : Nat) (go : List (Option GhostE)) (es : List (ByteArray × Value)) : Prop where
  len : r.l.length = go.length
  blk : Blk w' p [.string r.carrier, .map (some m)] 81
  map : Mp w' m es
  perm : es.Perm (doneL r.l go)
  ents : ∀ (i : Nat) (x : EntD) (g : GhostE), r.l[i]? = some x → go[i]? = some (some g) → EntOk w' x g
  fpn : ∀ (i : Nat) (g : GhostE), go[i]? = some (some g) → g.Nd ∧ m ∉ g.fp ∧ m ∉ g.rd ∧ p ∉ g.fp ∧ p ∉ g.rd
  disj : ∀ (i j : Nat) (g g' : GhostE), i ≠ j → go[i]? = some (some g) → go[j]? = some (some g') → ∀ b ∈ g.fp, b ∉ g'.fp
  rdn : ∀ (i j : Nat) (g g' : GhostE), go[i]? = some (some g) → go[j]? = some (some g') → ∀ b ∈ g.fp, b ∉ g'.rd
  new : ∀ (i : Nat) (g : GhostE), go[i]? = some (some g) → ∀ b, b ∈ g.fp ∨ b ∈ g.rd → N ≤ b
  pm : p ≠ m
  newp : N ≤ p ∧ N ≤ m
theorem CopyI.ex {N : Nat} {w' w'' : World} {r : RegD} {p m : Nat} {go : List (Option GhostE)} {es : List (ByteArray × Value)} (h : CopyI N w' r p m go es) (hx : Ex w' w'') : CopyI N w'' r p m go es :=
  ⟨h.len, h.blk.ex hx, h.map.ex hx, h.perm, fun i x g h1 h2 => (h.ents i x g h1 h2).ex hx, h.fpn, h.disj, h.rdn, h.new, h.pm, h.newp⟩
/-- One entry more. -/
theorem CopyI.add {N : Nat} {w' w'' : World} {r : RegD} {p m : Nat} {go : List (Option GhostE)} {es : List (ByteArray × Value)} (h : CopyI N w' r p m go es) {M : Nat} (hM : N ≤ M) (hold : ∀ (i : Nat) (g : GhostE), go[i]? = some (some g) → ∀ b, b ∈ g.fp ∨ b ∈ g.rd → b < M) (hpm : p < M ∧ m < M) {i : Nat} {x : EntD} {g : GhostE} (hi : r.l[i]? = some x) (hg : go[i]? = some none)
    (hx : Ext (· = m) w' w'') (hm : Mp w'' m (es ++ [(x.bill.number, .pointer (some ⟨g.e, 0, none⟩))])) (hE : EntOk w'' x g) (hn : g.Nd) (hnew : ∀ b, b ∈ g.fp ∨ b ∈ g.rd → M ≤ b) (hd : ∀ b ∈ g.fp, b ∉ g.rd) : CopyI N w'' r p m (go.set i (some g)) (es ++ [(x.bill.number, .pointer (some ⟨g.e, 0, none⟩))]) := by
  have hgl : i < go.length := (List.getElem?_eq_some_iff.1 hg).1
  have get : ∀ (j : Nat) (u : GhostE), (go.set i (some g))[j]? = some (some u) → (j = i ∧ u = g) ∨ (j ≠ i ∧ go[j]? = some (some u)) := by
    intro j u hu
    by_cases e : i = j
    · subst e
      rw [List.getElem?_set_self hgl] at hu
      cases hu; exact .inl ⟨rfl, rfl⟩
    · rw [List.getElem?_set_ne e] at hu; exact .inr ⟨fun h => e h.symm, hu⟩
  refine ⟨by rw [h.len, List.length_set], h.blk.ext hx (fun e => h.pm e), hm, (h.perm.append_right _).trans (doneL_set hi hg), ?_, ?_, ?_, ?_, ?_, h.pm, h.newp⟩
  · intro j y u hy hu
    rcases get j u hu with ⟨rfl, rfl⟩ | ⟨_, hu⟩
    · rw [hi] at hy; cases hy; exact hE
    · exact (h.ents j y u hy hu).ext hx (fun b hb e => (h.fpn j u hu).2.1 (e ▸ hb)) (fun b hb e => (h.fpn j u hu).2.2.1 (e ▸ hb))
  · intro j u hu
    rcases get j u hu with ⟨rfl, rfl⟩ | ⟨_, hu⟩
    · exact ⟨hn, fun hb => by have := hnew _ (.inl hb); omega, fun hb => by have := hnew _ (.inr hb); omega, fun hb => by have := hnew _ (.inl hb); omega, fun hb => by have := hnew _ (.inr hb); omega⟩
    · exact h.fpn j u hu
  · intro j k u v hjk hu hv b hb hb'
    rcases get j u hu with ⟨e1, e2⟩ | ⟨_, hu'⟩ <;> rcases get k v hv with ⟨e3, e4⟩ | ⟨_, hv'⟩
    · exact hjk (e1.trans e3.symm)
    · subst e2; have := hnew b (.inl hb); have := hold k v hv' b (.inl hb'); omega
    · subst e4; have := hnew b (.inl hb'); have := hold j u hu' b (.inl hb); omega
    · exact h.disj j k u v hjk hu' hv' b hb hb'
  · intro j k u v hu hv b hb hb'
    rcases get j u hu with ⟨e1, e2⟩ | ⟨_, hu'⟩ <;> rcases get k v hv with ⟨e3, e4⟩ | ⟨_, hv'⟩
    · subst e2 e4; exact hd b hb hb'
    · subst e2; have := hnew b (.inl hb); have := hold k v hv' b (.inr hb'); omega
    · subst e4; have := hnew b (.inr hb'); have := hold j u hu' b (.inl hb); omega
    · exact h.rdn j k u v hu' hv' b hb hb'
  · intro j u hu b hb
    rcases get j u hu with ⟨rfl, rfl⟩ | ⟨_, hu⟩
    · exact Nat.le_trans hM (hnew b hb)
    · exact h.new j u hu b hb
theorem CopyI.rep {N : Nat} {w' : World} {r : RegD} {p m : Nat} {gs : List GhostE} {es : List (ByteArray × Value)} (h : CopyI N w' r p m (gs.map some) es) (hN : r.Nd) : Rep w' p r m gs ∧ ∀ b ∈ foot p m gs, N ≤ b := by
  have hl : r.l.length = gs.length := by rw [h.len, List.length_map]
  have get : ∀ (i : Nat) (g : GhostE), gs[i]? = some g → (gs.map some)[i]? = some (some g) := fun i g hg => by rw [List.getElem?_map, hg]; rfl
  refine ⟨⟨h.blk, ⟨es, h.map, by rw [← doneL_all hl]; exact h.perm⟩, hN, hl, fun i x g hx hg => h.ents i x g hx (get i g hg), fun i g hg => h.fpn i g (get i g hg), fun i j g g' hij hg hg' => h.disj i j g g' hij (get i g hg) (get j g' hg'), fun i j g g' hg hg' => h.rdn i j g g' (get i g hg) (get j g' hg'), h.pm⟩, ?_⟩
  intro b hb
  rcases foot_mem.1 hb with rfl | rfl | ⟨i, g, hg, hb⟩
  · exact h.newp.1
  · exact h.newp.2
  · exact h.new i g (get i g hg) b hb
section
variable {w : World} {p : Nat} {r : RegD} {m : Nat} {gs : List GhostE}
set_option maxHeartbeats 4000000 in
theorem reg_Copy (hR : Rep w p r m gs) (hs : r.Small) : Ret Tryz.prog 33 [.pointer (some ⟨p, 0, none⟩)] w fun v w' =>
    (∃ p' m' gs', v = .pointer (some ⟨p', 0, none⟩) ∧ Rep w' p' r m' gs' ∧ ∀ b ∈ foot p' m' gs', w.heap.size ≤ b) ∧ Ex w w' := by
  obtain ⟨es, hmp, hpm⟩ := hR.map
  have hkeys := hR.keys
  have hnes : (es.map (·.1)).Nodup := (hpm.map _).nodup_iff.2 hkeys
  refine ret_of Tryz.func33 Tryz.ntmps33 rfl rfl rfl ?_
  (repeat (first | refine lw_pure hT rfl ?_ | refine lw_nil ?_ | refine cw_seq ?_ | refine cw_region ?_ | refine qw_then ?_))
  refine lw_load hT rfl rfl (v := .string r.carrier) (hR.blk.cell 0) ?_
  skip
  refine lw_call hT rfl rfl (reg_New w r.carrier) ?_
  rintro _ w1 ⟨p', m', rfl, hR', hp', hm', hx1⟩
  (repeat (first | refine lw_pure hT rfl ?_ | refine lw_nil ?_ | refine cw_seq ?_ | refine cw_region ?_ | refine qw_then ?_))
  refine lw_load hT rfl rfl (v := .map (some m)) ((hR.blk.ex hx1).cell 1) ?_
  skip
  refine lw_range mp78 rfl (hmp.ex hx1) ?_
  intro bi w2 hbi hI2 hx2 hs2
  obtain ⟨es0, hmp0, hpm0⟩ := hR'.map
  have hes0 : es0 = [] := List.Perm.eq_nil (by simpa [mapOf] using hpm0)
  subst hes0
  have hml' := hmp0.lt
  have hpl' := hR'.blk.lt
  have hl1 := hx1.size
  have hl2 := hx2.size
  have hl12 := hmp.lt
  have hI0 : CopyI w.heap.size w2 r p' m' (r.l.map fun _ => none) [] := by
    refine ⟨by simp, hR'.blk.ex hx2, hmp0.ex hx2, ?_, ?_, ?_, ?_, ?_, ?_, hR'.pm, ⟨hp', hm'⟩⟩
    · have : doneL r.l (r.l.map fun _ => none) = [] := by
        unfold doneL
        rw [List.filterMap_eq_nil_iff]
        rintro ⟨x, o⟩ hz
        have := List.of_mem_zip hz
        simp at this
        simp [this.2]
      rw [this]
    all_goals
      intro i
      intros
      simp_all
  (repeat (first | refine lw_nil ?_ | refine qw_then ?_ | refine cw_block ?_))
  refine cw_loop (fun _ : List Nat => [(3, .pointer (some ⟨p', 0, none⟩)), (17, .pointer (some ⟨bi, 0, none⟩))])
    (fun seen w' => Ex w w' ∧ w2.heap.size ≤ w'.heap.size ∧ Itr w' bi m es.length seen ∧ (∀ j ∈ seen, j < es.length) ∧ ∃ go es', CopyI w.heap.size w' r p' m' go es' ∧ (∀ (i : Nat) (x : EntD), r.l[i]? = some x → (go[i]? = some none ↔ ¬ ∃ j ∈ seen, ∃ e, es[j]? = some e ∧ e.1 = x.bill.number)) ∧
      (∀ (i : Nat) (g : GhostE), go[i]? = some (some g) → bi ∉ g.fp ∧ bi ∉ g.rd)) (fun seen => left es.length seen) [] (by repeat (first | exact trivial | refine ⟨rfl, ?_⟩))
    ⟨hx1.trans hx2, Nat.le_refl _, hI2, by simp, _, [], hI0, ?_, ?_⟩ ?_
  · intro i x hi; simp [hi]
  · intro i g hg; simp at hg
  rintro seen w3 ⟨hx3, hl3, hI3, hlt, go, es', hC, hsn, hbif⟩
  (repeat (first | refine cw_seq ?_ | refine cw_region ?_))
  refine lw_next rfl (hmp.ex hx3) hI3 hlt (fun hall => ?_) ?_
  · (repeat (first | refine lw_pure hT rfl ?_ | refine lw_nil ?_ | refine cw_seq ?_ | refine cw_region ?_ | refine qw_then ?_ | refine cw_ret ?_ | refine cw_exit ?_ | refine qw_block_exit ?_ | refine qw_then_exit ?_ | (refine cw_cond_f rfl ?_ ?_; focus (first | with_reducible rfl | with_reducible exact Bool.not_false | with_reducible exact Bool.not_true))))
    have hne : ∀ o ∈ go, o ≠ none := by
      intro o ho e
      subst e
      obtain ⟨i, hi⟩ := List.getElem?_of_mem ho
      have hil : i < r.l.length := by rw [hC.len]; exact (List.getElem?_eq_some_iff.1 hi).1
      refine (hsn i r.l[i] (List.getElem?_eq_getElem hil)).1 hi ?_
      have hig : i < gs.length := hR.len ▸ hil
      have hin : (r.l[i].bill.number, Value.pointer (some ⟨gs[i].e, 0, none⟩)) ∈ mapOf r.l gs := by
        refine List.mem_map.2 ⟨(r.l[i], gs[i]), List.mem_of_getElem? (i := i) ?_, rfl⟩
        rw [List.getElem?_zip_eq_some]; exact ⟨List.getElem?_eq_getElem hil, List.getElem?_eq_getElem hig⟩
      obtain ⟨j, hj⟩ := List.getElem?_of_mem (hpm.mem_iff.2 hin)
      exact ⟨j, hall j (List.getElem?_eq_some_iff.1 hj).1, _, hj, rfl⟩
    obtain ⟨gs', rfl⟩ := all_some hne
    obtain ⟨h1, h2⟩ := hC.rep hR.nd
    exact qw_ret rfl ⟨⟨p', m', gs', rfl, h1, h2⟩, hx3⟩
  · intro j e w4 hj hjs hI4 hx4 hs4 hent
    obtain ⟨i, hi⟩ := List.getElem?_of_mem (hpm.mem_iff.1 (List.mem_of_getElem? hj))
    obtain ⟨y, g, h1, h2, rfl⟩ := mapOf_get hi
    have hjl := (List.getElem?_eq_some_iff.1 hj).1
    have hgo : go[i]? = some none := by
      refine (hsn i y h1).2 ?_
      rintro ⟨j', hj', e', he', hk⟩
      have hne : j' ≠ j := fun h => hjs (h ▸ hj')
      have hj'l := (List.getElem?_eq_some_iff.1 he').1
      have a1 : (es.map (·.1))[j']? = some y.bill.number := by rw [List.getElem?_map, he']; simp [hk]
      have a2 : (es.map (·.1))[j]? = some y.bill.number := by rw [List.getElem?_map, hj]; rfl
      exact hne ((List.getElem?_inj (by simpa using hj'l) hnes).1 (a1.trans a2.symm))
    have hE := hR.ents i y g h1 h2
    have hx04 : Ex w w4 := hx3.up_new hx4 (fun i hi => by omega)
    have hC4 : CopyI w.heap.size w4 r p' m' go es' := by
      refine ⟨hC.len, hC.blk.ext hx4 (by omega), hC.map.ext hx4 (by omega), hC.perm, fun i x g hx hg => (hC.ents i x g hx hg).ext hx4 (fun b hb e => (hbif i g hg).1 (e ▸ hb)) (fun b hb e => (hbif i g hg).2 (e ▸ hb)), hC.fpn, hC.disj, hC.rdn, hC.new, hC.pm, hC.newp⟩
    have hE4 := hE.ex hx04
    have h3 := hE.three
    have h3' := hE.three'
    have hsm := hs y (List.mem_of_getElem? h1)
    have hl4 := hx04.size
    (repeat (first | refine lw_pure hT rfl ?_ | refine lw_nil ?_ | refine cw_seq ?_ | refine cw_region ?_ | refine qw_then ?_ | refine cw_skip ?_ | refine cw_block ?_ | (refine cw_cond_t rfl ?_ ?_; focus (first | with_reducible rfl | with_reducible exact Bool.not_false | with_reducible exact Bool.not_true))))
    refine lw_entry rfl hent ?_
    (repeat (first | refine lw_pure hT rfl ?_ | refine lw_nil ?_ | refine cw_seq ?_ | refine cw_region ?_ | refine qw_then ?_))
    refine lw_load_agg hT rfl rfl (by rw [entCells_len h3 h3']; rfl) (vs := entCells y g) (by have := hE4.blk.rd 0 19; rw [List.drop_zero, List.take_of_length_le (Nat.le_of_eq (entCells_len h3 h3'))] at this; exact this) ?_
    skip
    refine lw_alloc z88 ?_
    intro bd w5 hbbd hbd hx5 hs5
    skip
    refine lw_store_agg hT rfl rfl rfl (by rw [entCells_len h3 h3']; rfl) (entCells_one hE4) hbd (by rw [entCells_len h3 h3']; decide) ?_
    intro w6 hbd6 hx6 hs6
    replace hbd6 : Blk w6 bd (entCells y g) 88 := by
      have : ∀ (a : List Value), a.length = 19 → ∀ (c : List Value), c.length = 19 → setMany a 0 c = c := by
        intro a ha c hc
        match a, ha, c, hc with
        | [_, _, _, _, _, _, _, _, _, _, _, _, _, _, _, _, _, _, _], _, [_, _, _, _, _, _, _, _, _, _, _, _, _, _, _, _, _, _, _], _ => rfl
      rwa [this _ rfl _ (entCells_len h3 h3')] at hbd6
    have hx46 : Ex w4 w6 := hx5.up_new hx6 (fun i h => by omega)
    (repeat (first | refine lw_pure hT rfl ?_ | refine lw_nil ?_ | refine cw_seq ?_ | refine cw_region ?_ | refine qw_then ?_))
    refine lw_load_agg hT rfl rfl rfl (vs := encB y.bill g.vb g.vp) ((hE4.blk.ex hx46).rd 0 9) ?_
    skip
    refine lw_call hT rfl rfl (reg_own w6 (hE4.boxes.ex hx46) (hE4.parents.ex hx46) hsm.2.1 hsm.2.2) ?_
    rintro _ w7 ⟨ub, up, rfl, hub, hup, hx7⟩
    (repeat (refine lw_pure hT rfl ?_))
    refine lw_store_agg hT rfl rfl rfl rfl (encB_one (A := fun _ => True) (w := w) (own_one hub) (own_one hup)) (hbd6.ex hx7) (by rw [entCells_len h3 h3']; show (9 : Nat) ≤ 19; decide) ?_
    intro w8 hbd8 hx8 hs8
    rw [set_bill y g bd ub up] at hbd8
    have hl46 := hx46.size
    have hl7 := hx7.size
    have hx48 : Ex w4 w8 := (hx46.trans hx7).up_new hx8 (fun i h => by omega)
    have hbdl := hbd6.lt
    have hub8 := own_ext hub hx8 (fun k hk e => by have := own_base hub hk; omega)
    have hup8 := own_ext hup hx8 (fun k hk e => by have := own_base hup hk; omega)
    (repeat (first | refine lw_pure hT rfl ?_ | refine lw_nil ?_ | refine cw_seq ?_ | refine cw_region ?_ | refine qw_then ?_ | refine cw_block ?_))
    refine cw_loop (fun k : Nat => [(3, .pointer (some ⟨p', 0, none⟩)), (4, .string y.bill.number), (6, .pointer (some ⟨bd, 0, none⟩)), (17, .pointer (some ⟨bi, 0, none⟩)), (32, .int .i64 (k : Nat))])
      (fun k w' => k ≤ 3 ∧ Ex w4 w' ∧ w8.heap.size ≤ w'.heap.size ∧ ∃ us, us.length = 3 ∧ Blk w' bd (entCells y ⟨bd, ub, up, us⟩) 88 ∧ w'.ownsRow w6.heap.size 9 1 ub y.bill.boxes.length (y.bill.boxes.map Value.string) ∧
        w'.ownsRow w6.heap.size 9 1 up y.bill.parents.length (y.bill.parents.map Value.string) ∧ (∀ j, k ≤ j → us[j]? = g.vcs[j]?) ∧
        (∀ (j : Nat) (q : PapD) (v : Value), j < k → y.ps[j]? = some q → us[j]? = some v → w'.ownsRow w8.heap.size 104 4 v q.chain.length (q.chain.map encE).flatten) ∧
        (∀ (j j' : Nat) (v v' : Value) (b : Nat), j < k → j' < k → j ≠ j' → us[j]? = some v → us[j']? = some v' → v.ownBlock = some b → v'.ownBlock ≠ some b))
      (fun k => 3 - k) 0 (by repeat (first | exact trivial | refine ⟨rfl, ?_⟩)) ⟨Nat.zero_le _, hx48, Nat.le_refl _, g.vcs, h3', hbd8, hub8, hup8, fun _ _ => rfl, fun j _ _ h => by omega, fun j _ _ _ _ h => by omega⟩ ?_
    rintro k w9 ⟨hk, hx49, hl9, us, hus, hbd9, hub9, hup9, hold, hnew, hnd⟩
    (repeat (first | refine lw_pure hT rfl ?_ | refine lw_nil ?_ | refine cw_seq ?_ | refine cw_region ?_ | refine qw_then ?_))
    refine cw_cond rfl (fun e => ?_) (fun e => ?_)
    · have hlt : k < 3 := by have := of_decide_eq_true e; omega
      obtain ⟨q, hq⟩ : ∃ q, y.ps[k]? = some q := ⟨_, List.getElem?_eq_getElem (by rw [h3]; exact hlt)⟩
      obtain ⟨vc, hvc⟩ : ∃ vc, g.vcs[k]? = some vc := ⟨_, List.getElem?_eq_getElem (by rw [h3']; exact hlt)⟩
      have husk : us[k]? = some vc := (hold k (Nat.le_refl _)).trans hvc
      have hch := (hE4.chains k q vc hq hvc)
      have hc : w9.cell? ⟨bd, 0 + 10 + k * 3 + 2, none⟩ = some vc := by
        rw [hbd9.cell]
        obtain ⟨q', vc', hq', hvc', _, _, hcc⟩ := entCells_paper (x := y) (g := ⟨bd, ub, up, us⟩) h3 hus hlt
        rw [show 0 + 10 + k * 3 + 2 = 10 + k * 3 + 2 from by omega, hcc]
        rw [← husk]; exact hvc'.symm
      have hcl := (hsm.1 q (List.mem_of_getElem? hq))
      (repeat (first | refine lw_pure hT rfl ?_ | refine lw_nil ?_ | refine cw_seq ?_ | refine cw_region ?_ | refine qw_then ?_ | refine cw_skip ?_ | refine cw_block ?_))
      refine lw_index_arr hT rfl rfl rfl k rfl hlt ?_
      (repeat (refine lw_pure hT rfl ?_))
      refine lw_load hT rfl rfl hc ?_
      skip
      refine lw_call hT rfl rfl (clone_end w9 ((hch.sl (A := fun _ => True) fun _ _ => trivial).ex hx49) hcl) ?_
      rintro u w10 ⟨hu, hx10⟩
      (repeat (refine lw_pure hT rfl ?_))
      refine lw_index_arr hT rfl rfl rfl k rfl hlt ?_
      (repeat (refine lw_pure hT rfl ?_))
      refine lw_store (size := 1) hT rfl rfl rfl (own_one hu) (hbd9.ex hx10) (show 0 + 10 + k * 3 + 2 < _ by rw [entCells_len h3 hus]; omega) ?_
      intro w11 hbd11 hx11 hs11
      have hl10 := hx10.size
      have hl49 := hx49.size
      have hbd9l := hbd9.lt
      rw [show 0 + 10 + k * 3 + 2 = 10 + k * 3 + 2 from by omega, set_chain h3 hus hlt] at hbd11
      have keep : ∀ {base e size n : Nat} {v : Value} {xs : List Value}, w9.ownsRow base e size v n xs → bd < base → w11.ownsRow base e size v n xs := fun h hb => own_ext (own_ex h hx10) hx11 (fun k hk e => by have := own_base h hk; omega)
      have hu11 := own_ext hu hx11 (fun k hk e => by have := own_base hu hk; omega)
      (repeat (first | (refine lw_add rfl rfl ?_ ?_ ?_; iterate 2 omega) | refine lw_pure hT rfl ?_ | refine lw_nil ?_ | refine cw_region ?_ | refine qw_then ?_ | refine qw_block ?_))
      refine qw_round (k + 1) (by repeat (first | exact trivial | refine ⟨rfl, ?_⟩)) ⟨hlt, (hx49.trans hx10).up_new hx11 (fun i h => by omega), by have := hx11.size; omega, us.set k u, by simp [hus], hbd11, keep hub9 (by omega), keep hup9 (by omega), fun j hj => ?_, fun j q' v hj hq' hv => ?_, fun j j' v v' b hj hj' hjj hv hv' hb hb' => ?_⟩ (by omega)
      · rw [List.getElem?_set_ne (by omega)]; exact hold j (by omega)
      · by_cases ej : k = j
        · subst ej
          rw [List.getElem?_set_self (by rw [hus]; exact hlt)] at hv
          cases hv
          rw [hq] at hq'; cases hq'
          exact own_mono hu11 hl9
        · rw [List.getElem?_set_ne ej] at hv
          exact keep (hnew j q' v (by omega) hq' hv) (by omega)
      · have old : ∀ (j : Nat) (v : Value) (b : Nat), j < k → us[j]? = some v → v.ownBlock = some b → b < w9.heap.size := by
          intro j v b hj hv hb
          obtain ⟨q', hq'⟩ : ∃ q, y.ps[j]? = some q := ⟨_, List.getElem?_eq_getElem (by rw [h3]; omega)⟩
          exact (own_base (hnew j q' v hj hq' hv) hb).2
        by_cases ej : k = j
        · subst ej
          rw [List.getElem?_set_self (by rw [hus]; exact hlt)] at hv
          rw [List.getElem?_set_ne (by omega)] at hv'
          cases hv
          have := own_base hu hb
          have := old j' v' b (by omega) hv' hb'
          omega
        · rw [List.getElem?_set_ne ej] at hv
          by_cases ej' : k = j'
          · subst ej'
            rw [List.getElem?_set_self (by rw [hus]; exact hlt)] at hv'
            cases hv'
            have := own_base hu hb'
            have := old j v b (by omega) hv hb
            omega
          · rw [List.getElem?_set_ne ej'] at hv'
            exact hnd j j' v v' b (by omega) (by omega) hjj hv hv' hb hb'
    · have ek : k = 3 := by have := of_decide_eq_false e; omega
      subst ek
      have hC9 := hC4.ex hx49
      have hE9 : EntOk w9 y ⟨bd, ub, up, us⟩ := by
        refine ⟨hbd9, own_mono hub9 (Nat.zero_le _), own_mono hup9 (Nat.zero_le _), h3, hus, fun j q vc hq hvc => ?_⟩
        have hj : j < 3 := by have := (List.getElem?_eq_some_iff.1 hvc).1; rw [show (⟨bd, ub, up, us⟩ : GhostE).vcs = us from rfl, hus] at this; exact this
        exact own_mono (hnew j q vc hj hq hvc) (Nat.zero_le _)
      have hub78 : ∀ b, ub.ownBlock = some b → w6.heap.size ≤ b ∧ b < w7.heap.size := fun b hb => own_base hub hb
      have hup78 : ∀ b, up.ownBlock = some b → w6.heap.size ≤ b ∧ b < w7.heap.size := fun b hb => own_base hup hb
      have hvb : ∀ (j : Nat) (v : Value) (b : Nat), us[j]? = some v → v.ownBlock = some b → w8.heap.size ≤ b ∧ b < w9.heap.size := by
        intro j v b hv hb
        have hj : j < 3 := by have := (List.getElem?_eq_some_iff.1 hv).1; rw [hus] at this; exact this
        obtain ⟨q', hq'⟩ : ∃ q, y.ps[j]? = some q := ⟨_, List.getElem?_eq_getElem (by rw [h3]; omega)⟩
        exact own_base (hnew j q' v hj hq' hv) hb
      have hNd : (⟨bd, ub, up, us⟩ : GhostE).Nd := by
        refine ⟨fun j v hv hb => ?_, fun j j' v v' b hjj hv hv' hb hb' => ?_⟩
        · have := hvb j v bd hv hb; omega
        · have hj : j < 3 := by have := (List.getElem?_eq_some_iff.1 hv).1; rw [show (⟨bd, ub, up, us⟩ : GhostE).vcs = us from rfl, hus] at this; exact this
          have hj' : j' < 3 := by have := (List.getElem?_eq_some_iff.1 hv').1; rw [show (⟨bd, ub, up, us⟩ : GhostE).vcs = us from rfl, hus] at this; exact this
          exact hnd j j' v v' b hj hj' hjj hv hv' hb hb'
      have hfp : ∀ b, b ∈ (⟨bd, ub, up, us⟩ : GhostE).fp → b = bd ∨ w8.heap.size ≤ b := by
        intro b hb
        rcases GhostE.fp_mem.1 hb with h | ⟨j, v, hv, hb⟩
        · exact .inl h
        · exact .inr (hvb j v b hv hb).1
      have hrd : ∀ b, b ∈ (⟨bd, ub, up, us⟩ : GhostE).rd → w6.heap.size ≤ b ∧ b < w7.heap.size := by
        intro b hb
        rcases GhostE.rd_mem.1 hb with hb | hb
        · exact hub78 b hb
        · exact hup78 b hb
      have hl5 := hx5.size
      have hold4 : ∀ (i : Nat) (g : GhostE), go[i]? = some (some g) → ∀ b, b ∈ g.fp ∨ b ∈ g.rd → b < w4.heap.size := by
        intro i' g' hg' b hb
        have hil : i' < r.l.length := by rw [hC.len]; exact (List.getElem?_eq_some_iff.1 hg').1
        exact (hC4.ents i' _ g' (List.getElem?_eq_getElem hil) hg').lt hb
      have hpl4 := hC4.blk.lt
      have hml4 := hC4.map.lt
      have hnone : mget es' y.bill.number = none := by
        refine mget_none fun e' he' hk => ?_
        obtain ⟨i', x', g', hx', hg', hk'⟩ := doneL_mem (hC.perm.mem_iff.1 he')
        have := hR.nd i i' y x' h1 hx' (hk.trans hk')
        subst this
        rw [hgo] at hg'; cases hg'
      (repeat (first | refine lw_pure hT rfl ?_ | refine cw_region ?_ | refine qw_then ?_ | refine cw_exit ?_ | refine qw_block_exit ?_ | refine qw_then_exit ?_))
      refine lw_load hT rfl rfl (v := .map (some m')) (hC9.blk.cell 1) ?_
      (repeat (refine lw_pure hT rfl ?_))
      refine lw_mapUpdate mp78 rfl rfl rfl hC9.map hnone ?_
      intro w10 hmp10 hx10 hs10
      have hE10 : EntOk w10 y ⟨bd, ub, up, us⟩ := hE9.ext hx10 (fun b hb e => by rcases hfp b hb with h | h <;> omega) (fun b hb e => by have := hrd b hb; omega)
      have hC10 := hC9.add (M := w4.heap.size) hl4 hold4 ⟨hpl4, hml4⟩ h1 hgo hx10 hmp10 hE10 hNd (fun b hb => by
        rcases hb with hb | hb
        · rcases hfp b hb with h | h <;> omega
        · have := hrd b hb; omega) (fun b hb hb' => by
        have := hrd b hb'
        rcases hfp b hb with h | h <;> omega)
      (repeat (first | refine lw_nil ?_ | refine qw_block ?_))
      have hl49 := hx49.size
      refine qw_round (seen ++ [j]) (by repeat (first | exact trivial | refine ⟨rfl, ?_⟩)) ⟨(hx04.trans hx49).up_new hx10 (fun i h => by omega), by have := hx10.size; omega, ((hI4.ex hx49).ext hx10 (by omega)), ?_, go.set i (some ⟨bd, ub, up, us⟩), _, hC10, ?_, ?_⟩ (left_lt hjl hjs)
      · intro k hk; simp at hk; exact hk.elim (fun hk => hlt k hk) (fun e => by subst e; exact hjl)
      · intro i' x' hx'
        by_cases ei : i = i'
        · subst ei
          rw [h1] at hx'; cases hx'
          rw [List.getElem?_set_self (by rw [← hC.len]; exact (List.getElem?_eq_some_iff.1 h1).1)]
          constructor
          · intro h; cases h
          · intro h; exact absurd ⟨j, by simp, _, hj, rfl⟩ h
        · rw [List.getElem?_set_ne ei, hsn i' x' hx']
          constructor
          · rintro h ⟨j', hj', e', he', hk⟩
            simp at hj'
            rcases hj' with hj' | rfl
            · exact h ⟨j', hj', e', he', hk⟩
            · rw [hj] at he'; cases he'
              exact ei (hR.nd i i' y x' h1 hx' hk)
          · rintro h ⟨j', hj', e', he', hk⟩
            exact h ⟨j', by simp [hj'], e', he', hk⟩
      · intro i' g' hg'
        by_cases ei : i = i'
        · subst ei
          rw [List.getElem?_set_self (by rw [← hC.len]; exact (List.getElem?_eq_some_iff.1 h1).1)] at hg'
          cases hg'
          exact ⟨fun h => by rcases hfp _ h with h | h <;> omega, fun h => by have := hrd _ h; omega⟩
        · rw [List.getElem?_set_ne ei] at hg'
          exact hbif i' g' hg'
end
end Go.Proofs.YtfbjpfgglgffgaaGreat
