import Derived.Test.YtnglkhnfmbnfeaaGreatMPs6
import Derived.Deep.Slices
import Derived.Deep.Strs
import Derived.ChangeSame
set_option linter.unusedVariables false
set_option linter.unusedSimpArgs false
set_option linter.unusedSectionVars false
set_option linter.unnecessarySimpa false
namespace Go.SK
open Go
attribute [local semireducible] CW LW QW Ret Kn
section
variable {P : Program} {T : Tab} {n : Nat} {fr : Fr} {w : World} {Q : Exit → Act → World → Prop} {ops : Array Oper} {rest : List Oper}
theorem lw_run_drop {o : Oper} (hg : o.guard = none) (hd : o.dst = none) {v : Value} {w' : World} (h : ∀ a, Kn n fr a → (execOp a.eval o).run P w = .ok (.value v) w')
    (k : LW P ops Q rest n fr w') : LW P ops Q (o :: rest) n fr w := fun a hk =>
  wpList_plain hg fun K hK => by
    unfold Oper.wp
    rw [h a hk]
    show K (a.put o.dst v) w'
    rw [hd]
    exact hK _ _ (k _ hk)
end
end Go.SK
namespace Go.Proofs.YtnglkhnfmbnfeaaGreat
open Go Go.SK Go.RowKit Go.Maps Go.Sort Go.Shelf
theorem erase_map {α β : Type} (f : α → β) : ∀ (l : List α) (j : Nat), (l.eraseIdx j).map f = (l.map f).eraseIdx j
  | [], _ => by simp
  | a :: l, 0 => by simp
  | a :: l, j + 1 => by simp [erase_map f l j]
theorem nodup_idx {l : List ByteArray} (h : l.Nodup) {i j : Nat} (hi : i < l.length) (hj : j < l.length) (he : l[i] = l[j]) : i = j := by
  rcases Nat.lt_trichotomy i j with h1 | h1 | h1
  · exact absurd he (List.pairwise_iff_getElem.1 h i j hi hj h1)
  · exact h1
  · exact absurd he.symm (List.pairwise_iff_getElem.1 h j i hj hi h1)
theorem rising_nodup {L : List ByteArray} (h : Rising L) : L.Nodup := by
  refine List.Pairwise.imp (fun {x y} hxy e => ?_) h
  subst e
  rw [ltB_irrefl] at hxy; cases hxy
theorem nodup_len : ∀ {a b : List ByteArray}, a.Nodup → (∀ x ∈ a, x ∈ b) → a.length ≤ b.length
  | [], b, _, _ => Nat.zero_le _
  | x :: a, b, hn, hs => by
    obtain ⟨h1, h2⟩ := List.nodup_cons.1 hn
    obtain ⟨s, t, rfl⟩ := List.append_of_mem (hs x List.mem_cons_self)
    have hp : (s ++ x :: t).Perm (x :: (s ++ t)) := List.perm_middle
    have := nodup_len (a := a) (b := s ++ t) h2 fun y hy => by
      rcases List.mem_cons.1 (hp.mem_iff.1 (hs y (List.mem_cons_of_mem _ hy))) with rfl | h
      · exact absurd hy h1
      · exact h
    have := hp.length_eq
    simp only [List.length_cons] at this ⊢
    omega
theorem mp_ne {w : World} {b c o : Nat} {v : Value} {es : List (ByteArray × Value)} (h : Mp w b es) (hc : w.cell? ⟨c, o, none⟩ = some v) : c ≠ b := by
  rintro rfl
  obtain ⟨ents, clock, h1, _⟩ := h.is
  simp [World.cell?, h1] at hc
section
variable {P : Program} {n : Nat} {fr : Fr} {w : World} {Q : Exit → Act → World → Prop} {ops : Array Oper} {rest : List Oper}
theorem run_delete {t e b : Nat} {z : Value} {ty : TypeId} {kt : Nat} {es : List (ByteArray × Value)} {ks : ByteArray} (hu : P.underlying t = some (.map kt e)) (hkt : P.underlying kt = some .string) (hm : Mp w b es) (hd : (es.map (·.1)).Nodup) :
    ∃ (es' : List (ByteArray × Value)) (w1 : World), (Builtin.delete_ #[t, kt] ty #[.map (some b), .string ks]).run P w = .ok (.tuple #[]) w1 ∧ Mw w1 b es' ∧ Ext (· = b) w w1 ∧ (es'.map (·.1)).Nodup ∧ ∀ x, x ∈ es'.map (·.1) ↔ x ∈ es.map (·.1) ∧ x ≠ ks := by
  obtain ⟨ents, clock, h1, h2, h3, h4⟩ := hm.is
  obtain ⟨r, g1, g2⟩ := findNow_mget (k := ks) ents.toList es 0 h2
  have hf := MapKept.run_findKey (P := P) (w := w) hkt g1
  have hck := fun em => MapKept.run_checkKey (P := P) (w := w) (k := .string ks) hkt trivial em 9999
  have hbs := fun em => (MapKept.heap_set (w := w) (o' := Obj.map em clock) h1)
  obtain ⟨_, _, q1, _, q3, q4⟩ := (Mw.of hm).is
  cases hg : mget es ks with
  | none =>
    rw [hg] at g2
    have hr : r = none := by cases r with | none => rfl | some x => simp at g2
    subst hr
    have hns : ∀ x ∈ es, x.1 ≠ ks := by
      intro x hx e
      unfold mget at hg
      have := List.find?_eq_none.1 (Option.map_eq_none_iff.1 hg) x hx
      simp [e] at this
    refine ⟨es, { w with heap := w.heap.setIfInBounds b (.map ents clock) }, ?_, ?_, ⟨rfl, rfl, rfl, by simp, fun k _ hn => (hbs ents).2 k hn⟩, hd, fun x => ?_⟩
    · simp [Builtin.delete_, run_underlying hu, MapKept.run_getObj_map h1, hck, hf, MapKept.run_setObj_map _ h1, Result.andThen]
    · refine ⟨ents, clock, (hbs ents).1, h2, ?_, ?_⟩
      · intro x hx
        have : x.born ∈ ents.toList.map (·.born) := List.mem_map.2 ⟨x, hx, rfl⟩
        rw [h3] at this
        rw [h4]; simpa using this
      · rw [h3]; exact List.nodup_range
    · constructor
      · intro hx
        refine ⟨hx, fun e => ?_⟩
        obtain ⟨y, hy, rfl⟩ := List.mem_map.1 hx
        exact hns y hy e
      · exact fun h => h.1
  | some u =>
    rw [hg] at g2
    obtain ⟨⟨j, u'⟩, rfl, hu'⟩ := Option.map_eq_some_iff.1 g2
    obtain ⟨q, hj, hq⟩ := findNow_at ents.toList es 0 j u' h2 g1
    have hjq : j = q := by omega
    subst hjq
    have hle : ents.toList.length = es.length := by have := congrArg List.length h2; simpa using this
    have hjl : j < es.length := (List.getElem?_eq_some_iff.1 hq).1
    have hjs : j < ents.size := by have : ents.toList.length = ents.size := by simp
                                   omega
    have hsub : (ents.eraseIdxIfInBounds j).toList = ents.toList.eraseIdx j := by
      unfold Array.eraseIdxIfInBounds
      rw [dif_pos hjs]; simp
    have hmap : ∀ {β : Type} (f : MapEntry → β), (ents.toList.eraseIdx j).map f = (ents.toList.map f).eraseIdx j := fun f => erase_map f _ _
    refine ⟨es.eraseIdx j, { w with heap := w.heap.setIfInBounds b (.map (ents.eraseIdxIfInBounds j) clock) }, ?_, ?_, ⟨rfl, rfl, rfl, by simp, fun k _ hn => (hbs (ents.eraseIdxIfInBounds j)).2 k hn⟩, ?_, fun x => ?_⟩
    · simp [Builtin.delete_, run_underlying hu, MapKept.run_getObj_map h1, hck, hf, MapKept.run_setObj_map _ h1, Result.andThen]
    · refine ⟨_, clock, (hbs (ents.eraseIdxIfInBounds j)).1, ?_, ?_, ?_⟩
      · rw [hsub, hmap, h2, erase_map]
      · intro x hx
        rw [hsub] at hx
        have hx := (List.eraseIdx_sublist _ _).subset hx
        have : x.born ∈ ents.toList.map (·.born) := List.mem_map.2 ⟨x, hx, rfl⟩
        rw [h3] at this
        rw [h4]; simpa using this
      · rw [hsub, hmap, h3]
        exact (List.eraseIdx_sublist _ _).nodup List.nodup_range
    · rw [erase_map]
      exact (List.eraseIdx_sublist _ _).nodup hd
    · rw [erase_map, List.mem_eraseIdx_iff_getElem?]
      have hkj : (es.map (·.1))[j]? = some ks := by rw [List.getElem?_map, hq]; rfl
      constructor
      · rintro ⟨i, hne, hi⟩
        refine ⟨List.mem_of_getElem? hi, fun e => hne ?_⟩
        subst e
        obtain ⟨hil, e1⟩ := List.getElem?_eq_some_iff.1 hi
        obtain ⟨hjl', e2⟩ := List.getElem?_eq_some_iff.1 hkj
        exact nodup_idx hd hil hjl' (e1.trans e2.symm)
      · rintro ⟨hx, hne⟩
        obtain ⟨i, hi⟩ := List.getElem?_of_mem hx
        refine ⟨i, fun e => hne ?_, hi⟩
        subst e
        rw [hkj] at hi
        exact (Option.some.inj hi).symm
theorem lw_delete {t e b : Nat} {z : Value} {kt : Nat} {x y : Operand} {es : List (ByteArray × Value)} {ks : ByteArray} {ty : TypeId} {ps : String} {af : Array Edge} (hu : P.underlying t = some (.map kt e)) (hkt : P.underlying kt = some .string) (hx : ev n fr x = some (.map (some b))) (hy : ev n fr y = some (.string ks)) (hm : Mp w b es) (hd : (es.map (·.1)).Nodup)
    (k : ∀ es' w1, Mw w1 b es' → Ext (· = b) w w1 → (es'.map (·.1)).Nodup → (∀ x, x ∈ es'.map (·.1) ↔ x ∈ es.map (·.1) ∧ x ≠ ks) → LW P ops Q rest n fr w1) :
    LW P ops Q ({ dst := none, op := .call ⟨.builtin .delete, #[x, y], #[t, kt]⟩, type := ty, pos := ps, after := af, guard := none } :: rest) n fr w := by
  obtain ⟨es', w1, g1, g2, g3, g4, g5⟩ := run_delete (P := P) (z := z) (ty := ty) (ks := ks) hu hkt hm hd
  exact lw_run_drop rfl rfl (v := .tuple #[]) (w' := w1) (fun a hk => by simp [execOp, resolve, invoke, builtin, ev_sound hk hx, ev_sound hk hy, g1]) (k es' w1 g2 g3 g4 g5)
end
structure SeenR (r : RegD) (n : ByteArray) (s s' : List ByteArray) : Prop where
  sub : ∀ x ∈ s, x ∈ s'
  reach : ∀ x ∈ s', x ∈ s ∨ Reach r n x
  here : ∀ x ∈ r.parentsOf n, x ∈ s'
  on : ∀ x ∈ s', x ∉ s → ∀ y ∈ r.parentsOf x, y ∈ s'
def seenM (s : List ByteArray) : List (ByteArray × Value) := s.map fun y => (y, Value.bool true)
theorem getR_bill {r : RegD} {n : ByteArray} {w w' : World} {v : Value} (h : GetR r n w w' v) : ∃ b vb vp ok, v = .tuple #[.agg ⟨encB b vb vp⟩, .bool ok] ∧ vb.oneCell' = true ∧ vp.oneCell' = true ∧ SlS (fun _ => True) w' vp (r.parentsOf n) := by
  unfold GetR at h
  unfold RegD.parentsOf
  cases hat : r.at? n with
  | none =>
    rw [hat] at h
    exact ⟨zeroB, _, _, false, h, rfl, rfl, Sl.nil _ _ _⟩
  | some x =>
    rw [hat] at h
    obtain ⟨ub, up, rfl, h1, h2⟩ := h
    exact ⟨x.bill, ub, up, true, rfl, own_one h1, own_one h2, sls_own h2 fun _ _ => trivial⟩
theorem parents_len {k : Nat} {r : RegD} (hG : Good k r) (n : ByteArray) : (r.parentsOf n).length ≤ 64 ∧ ∀ x ∈ r.parentsOf n, x.size ≤ maxLen := by
  unfold RegD.parentsOf
  cases hat : r.at? n with
  | none => exact ⟨Nat.zero_le _, fun x hx => by simp at hx⟩
  | some x =>
    have hx : x ∈ r.l := (let ⟨_, i, hi⟩ := at_some hat; List.mem_of_getElem? hi)
    exact ⟨(may_len (hG.ent x hx).may).2.1, (hG.ent x hx).ok.parents⟩
structure ParW (p m b2 b5 b6 mb : Nat) (r : RegD) (gs : List GhostE) (w : World) : Prop where
  rep : Rep w p r m gs
  c2 : Blk w b2 [pB p] 25
  c5 : Blk w b5 [.map (some mb)] 111
  c6 : Blk w b6 [.func (.func 53) ⟨[]⟩ ⟨[pB b2, pB b5, pB b6]⟩] 112
  n2 : b2 ≠ mb
  n5 : b5 ≠ mb
  n6 : b6 ≠ mb
  foot : mb ∉ foot p m gs
theorem ParW.ext {p m b2 b5 b6 mb : Nat} {r : RegD} {gs : List GhostE} {w w' : World} (h : ParW p m b2 b5 b6 mb r gs w) (hx : Ext (· = mb) w w') : ParW p m b2 b5 b6 mb r gs w' :=
  ⟨h.rep.frame hx (fun b hb e => h.foot (e ▸ hb)), h.c2.ext hx h.n2, h.c5.ext hx h.n5, h.c6.ext hx h.n6, h.n2, h.n5, h.n6, h.foot⟩
set_option maxHeartbeats 4000000 in
theorem spl_from {p m k b2 b5 b6 mb : Nat} {r : RegD} {gs : List GhostE} (hG : Good k r) (hk : k ≤ 1000000) : ∀ (fuel : Nat) (s : List ByteArray) (w : World) (n : ByteArray), unseen r.allP s ≤ fuel → ParW p m b2 b5 b6 mb r gs w → Mp w mb (seenM s) → s.Nodup →
    Ret Tryz.prog 53 ([] ++ [.string n] ++ [pB b2, pB b5, pB b6]) w fun _ w' => ∃ s', Mp w' mb (seenM s') ∧ s'.Nodup ∧ Ext (· = mb) w w' ∧ SeenR r n s s' := by
  intro fuel
  induction fuel using Nat.strongRecOn with
  | _ fuel IH =>
  intro s w n hfu hW hm hs
  have hpl := parents_len hG n
  unfold pB
  refine ret_of Tryz.func53 Tryz.ntmps53 rfl rfl rfl ?_
  (repeat (first | refine cw_seq ?_ | refine cw_region ?_))
  refine lw_load hT rfl rfl (v := .pointer (some ⟨p, 0, none⟩)) (hW.c2.cell 0) ?_
  (repeat (refine lw_pure hT rfl ?_))
  refine lw_call hT rfl rfl (reg_Get hW.rep (hG.small hk) n) ?_
  rintro _ w1 ⟨hget, hx1⟩
  obtain ⟨bl, vb, vp, ok, rfl, o1, o2, hps⟩ := getR_bill hget
  obtain ⟨ap, cp, rfl, _, hprow⟩ := hps.is
  simp only [List.length_map] at *
  (repeat (refine lw_pure hT rfl ?_))
  refine lw_alloc z33 ?_
  intro b9 w2 hbb2 hb2 hx2 hs2
  skip
  refine lw_store_agg hT rfl rfl rfl rfl (encB_one (A := fun _ => True) (w := w) o1 o2) hb2 (show (9 : Nat) ≤ 9 by decide) ?_
  intro w3 hb3 hx3 hs3
  replace hb3 : Blk w3 b9 (encB bl vb (.slice ap (r.parentsOf n).length cp)) 33 := hb3
  have hx13 : Ex w1 w3 := hx2.up_new hx3 (fun i h => by omega)
  have hx03 := hx1.trans hx13
  (repeat (first | refine lw_pure hT rfl ?_ | refine lw_nil ?_ | refine cw_seq ?_ | refine cw_region ?_ | refine qw_then ?_))
  refine lw_load hT rfl rfl (v := .slice ap (r.parentsOf n).length cp) (hb3.cell 6) ?_
  (repeat (first | refine lw_pure hT rfl ?_ | refine lw_nil ?_ | refine qw_then ?_ | refine cw_block ?_))
  obtain ⟨ps, hpse⟩ : ∃ ps, ps = r.parentsOf n := ⟨_, rfl⟩
  rw [← hpse] at hprow hpl ⊢
  refine cw_loop (fun z : Nat × List ByteArray => [(0, .string n), (1, pB b2), (2, pB b5), (3, pB b6), (16, .slice ap ps.length cp), (17, .int .i64 (ps.length : Nat)), (18, .int .i64 (z.1 : Nat))])
    (fun z w' => z.1 ≤ ps.length ∧ Ext (· = mb) w w' ∧ Ext (· = mb) w3 w' ∧ Mp w' mb (seenM z.2) ∧ z.2.Nodup ∧ (∀ x ∈ s, x ∈ z.2) ∧ (∀ x ∈ z.2, x ∈ s ∨ Reach r n x) ∧ (∀ x ∈ ps.take z.1, x ∈ z.2) ∧ (∀ x ∈ z.2, x ∉ s → ∀ y ∈ r.parentsOf x, y ∈ z.2)) (fun z => ps.length - z.1) (0, s) (by repeat (first | exact trivial | refine ⟨rfl, ?_⟩))
    ⟨Nat.zero_le _, Ext.of_ex hx03, Ext.refl _ _, hm.ex hx03, hs, fun _ h => h, fun _ h => .inl h, fun x hx => by simp at hx, fun x h1 h2 => absurd h1 h2⟩ ?_
  rintro ⟨i, si⟩ w4 ⟨hi, hx04, hx34, hm4, hsn, hsub, hrea, hhere, hon⟩
  dsimp only at hi hm4 hsn hsub hrea hhere hon ⊢
  unfold pB
  have hW4 := hW.ext hx04
  (repeat (first | refine lw_pure hT rfl ?_ | refine lw_nil ?_ | refine cw_seq ?_ | refine cw_region ?_ | refine qw_then ?_))
  refine cw_cond rfl (fun e => ?_) (fun e => ?_)
  · have hlt : i < ps.length := by have := of_decide_eq_true e; omega
    have hne : ps.map (fun s => [Value.string s]) ≠ [] := by intro e; simp at e; rw [e] at hlt; simp at hlt
    obtain ⟨bp, op, rfl, _, hrd⟩ := hprow hne
    have hri := (hrd i [.string ps[i]] (by rw [List.getElem?_map, List.getElem?_eq_getElem hlt]; rfl)).2
    have htake : ps.take (i + 1) = ps.take i ++ [ps[i]] := List.take_succ_eq_append_getElem hlt
    have hxmem : ps[i] ∈ r.parentsOf n := by rw [← hpse]; exact List.getElem_mem hlt
    obtain ⟨x, hx⟩ : ∃ x, x = ps[i] := ⟨_, rfl⟩
    rw [← hx] at hri htake hxmem
    have hbp : bp < w1.heap.size := rd_lt hri
    have hri4 : Rd w4 bp (op + i * 1) [.string x] := (hri.ex hx13).ext hx34 (fun e => mp_ne (hm.ex hx1) (hri 0 _ rfl) e)
    (repeat (first | refine cw_seq ?_ | refine cw_region ?_ | refine qw_then ?_ | refine cw_skip ?_ | refine cw_block ?_))
    refine lw_index hT rfl rfl rfl i rfl hlt ?_
    skip
    refine lw_load hT rfl rfl (v := .string x) (hri4 0 _ rfl) ?_
    (repeat (first | refine lw_pure hT rfl ?_ | refine lw_nil ?_ | refine cw_seq ?_ | refine cw_region ?_ | refine qw_then ?_))
    refine lw_load hT rfl rfl (v := .map (some mb)) (hW4.c5.cell 0) ?_
    (repeat (refine lw_pure hT rfl ?_))
    refine lw_lookup mp111 rfl rfl hm4 ?_
    by_cases hxs : x ∈ si
    · rw [show (mget (seenM si) x).getD (.bool false) = .bool true from by rw [show mget (seenM si) x = some (.bool true) from seen_in hxs]; rfl]
      (repeat (first | (refine lw_add rfl rfl ?_ ?_ ?_; iterate 2 omega) | refine lw_pure hT rfl ?_ | refine lw_nil ?_ | refine cw_region ?_ | refine qw_then ?_ | refine cw_skip ?_ | refine qw_block ?_ | (refine cw_cond_f rfl ?_ ?_; focus with_reducible (first | rfl | exact Bool.not_false | exact Bool.not_true))))
      refine qw_round (x := (i, si)) (i + 1, si) (by repeat (first | exact trivial | refine ⟨rfl, ?_⟩)) ⟨hlt, hx04, hx34, hm4, hsn, hsub, hrea, fun y hy => ?_, hon⟩ (by show ps.length - (i + 1) < ps.length - i; omega)
      rw [htake] at hy
      rcases List.mem_append.1 hy with hy | hy
      · exact hhere y hy
      · rw [List.mem_singleton.1 hy]; exact hxs
    · rw [show (mget (seenM si) x).getD (.bool false) = .bool false from by rw [show mget (seenM si) x = none from seen_not hxs]; rfl]
      (repeat (first | refine lw_pure hT rfl ?_ | refine lw_nil ?_ | refine cw_seq ?_ | refine cw_region ?_ | refine qw_then ?_ | (refine cw_cond_t rfl ?_ ?_; focus with_reducible (first | rfl | exact Bool.not_false | exact Bool.not_true))))
      refine lw_load hT rfl rfl (v := .map (some mb)) (hW4.c5.cell 0) ?_
      (repeat (refine lw_pure hT rfl ?_))
      refine lw_mapUpdate mp111 rfl rfl rfl hm4 (seen_not hxs) ?_
      intro w5 hm5 hx5 hs5
      replace hm5 : Mp w5 mb (seenM (si ++ [x])) := by unfold seenM at hm5 ⊢; rw [List.map_append]; exact hm5
      have hW5 := hW4.ext hx5
      have hsn5 : (si ++ [x]).Nodup := ((List.perm_append_comm).nodup_iff).2 (List.nodup_cons.2 ⟨hxs, hsn⟩)
      have hlt5 : unseen r.allP (si ++ [x]) < fuel := by
        have h1 := unseen_lt (U := r.allP) (s := si) (s' := si ++ [x]) (fun y hy => List.mem_append_left _ hy) (mem_allP hxmem) hxs (by simp)
        have h2 := unseen_le (U := r.allP) (s := s) (s' := si) hsub
        omega
      (repeat (first | refine lw_nil ?_ | refine cw_region ?_ | refine qw_then ?_))
      refine lw_load hT rfl rfl (v := .func (.func 53) ⟨[]⟩ ⟨[pB b2, pB b5, pB b6]⟩) (hW5.c6.cell 0) ?_
      (repeat (refine lw_pure hT rfl ?_))
      refine lw_call_fn hT rfl rfl rfl (IH _ hlt5 (si ++ [x]) w5 x (Nat.le_refl _) hW5 hm5 hsn5) ?_
      rintro _ w6 ⟨s', hm6, hsn6, hx6, hS⟩
      (repeat (first | (refine lw_add rfl rfl ?_ ?_ ?_; iterate 2 omega) | refine lw_pure hT rfl ?_ | refine lw_nil ?_ | refine cw_region ?_ | refine qw_then ?_ | refine qw_block ?_))
      have hx46 := hx5.trans hx6
      refine qw_round (x := (i, si)) (i + 1, s') (by repeat (first | exact trivial | refine ⟨rfl, ?_⟩)) ⟨hlt, hx04.trans hx46, hx34.trans hx46, hm6, hsn6, fun y hy => hS.sub y (List.mem_append_left _ (hsub y hy)), fun y hy => ?_, fun y hy => ?_, fun y hy hys z hz => ?_⟩ (by show ps.length - (i + 1) < ps.length - i; omega)
      · rcases hS.reach y hy with h | h
        · rcases List.mem_append.1 h with h | h
          · exact hrea y h
          · rw [List.mem_singleton.1 h]; exact .inr (.of hxmem)
        · exact .inr ((Reach.of hxmem).trans h)
      · rw [htake] at hy
        rcases List.mem_append.1 hy with hy | hy
        · exact hS.sub y (List.mem_append_left _ (hhere y hy))
        · rw [List.mem_singleton.1 hy]; exact hS.sub x (by simp)
      · by_cases h : y ∈ si ++ [x]
        · rcases List.mem_append.1 h with h | h
          · exact hS.sub z (List.mem_append_left _ (hon y h hys z hz))
          · rw [List.mem_singleton.1 h] at hz; exact hS.here z hz
        · exact hS.on y hy h z hz
  · have hil : i = ps.length := by have := of_decide_eq_false e; omega
    subst hil
    rw [List.take_length, hpse] at hhere
    (repeat (first | refine cw_exit ?_ | refine qw_block_exit ?_ | refine qw_then_exit ?_))
    exact qw_end rfl ⟨si, hm4, hsn, hx04, hsub, hrea, hhere, hon⟩
theorem maps_KeysB (mb : Option Nat) (W : World) : Ret Tryz.prog 54 [.map mb] W fun v w' => v = .func (.func 102) #[] #[.pointer (some ⟨W.heap.size, 0, none⟩)] ∧ w' = W.alloc (.cells #[.map mb] 111) :=
  ret_mk ((callsIn_wide.1 (AnyZ.keys_in Tryz.keys54 Fence.wide 5 trivial rfl mb W)).mono fun _ _ ⟨h1, h2⟩ => ⟨_, h1, rfl, h2⟩)
set_option maxHeartbeats 1000000 in
theorem sorted_keysB {H : Type} (b nn : Nat) (D0 : DataW H) (R : Value → Option (DataW H × List MemPlace)) (w : World) (hown : w.ownsMap Tryz.prog 9 R b nn D0) (hmax : Maps.size D0 ≤ maxLen) (hbytes : Maps.size D0 * 16 ≤ 140737488355328) :
    Ret Tryz.prog 48 [.func (.func 102) #[] #[.pointer (some ⟨w.heap.size, 0, none⟩)]] (w.alloc (.cells #[.map (some b)] 111)) fun v w' => (∃ ss : List (List UInt8), ss.Perm (strKeys D0) ∧
      w'.ownsRow (w.alloc (.cells #[.map (some b)] 111)).heap.size 9 1 v ss.length ((ss.mergeSort (fun x y => decide (x ≤ y))).map encStr)) ∧ Ex (w.alloc (.cells #[.map (some b)] 111)) w' := by
  have hbl := hown.lt
  have hseq : SeqGives Fence.wide 2 Tryz.prog 102 #[.pointer (some ⟨w.heap.size, 0, none⟩)] encStr (fun ss => ss.Perm (strKeys D0)) (Maps.size D0) (w.alloc (.cells #[.map (some b)] 111)) :=
    AnyZ.keys_gives (ρ := Tryz.keys54_ren) { Tryz.keys54 with } Fence.wide _ trivial rfl (by omega) w.heap.size b nn D0 _ (by simp) (by simp) (by
      obtain ⟨es, clock, hb, Ft, hs, hD⟩ := hown
      exact ⟨es, clock, (Below.heap_alloc _ _ b hbl).trans hb, Ft, hs, hD⟩)
  have := AnyZ.sorted_in Tryz.sorted48 Fence.wide 5 trivial trivial trivial trivial rfl (by omega) (sorts_at _) (enters_of Tryz.func96 (by kernel_rfl) rfl) 102 #[.pointer (some ⟨w.heap.size, 0, none⟩)] trivial (enters_of Tryz.func102 (by kernel_rfl) rfl) _ _ hmax hbytes _ hseq
  exact ret_mk ((callsIn_wide.1 this).mono fun _ _ ⟨v, ss, h1, h2, h3, _, h5⟩ => ⟨v, h1, ⟨ss, h2, h3⟩, ex_of_below h5⟩)
theorem sortedL {ss : List (List UInt8)} {ks : List ByteArray} (hp : ss.Perm (ks.map fun s => s.data.toList)) (hnd : ks.Nodup) : ∃ L, Rising L ∧ L.Perm ks ∧ L.length = ss.length ∧ L.map Value.string = (ss.mergeSort (fun x y => decide (x ≤ y))).map encStr := by
  have tr : ∀ a b c : List UInt8, decide (a ≤ b) = true → decide (b ≤ c) = true → decide (a ≤ c) = true := fun a b c h1 h2 => by simp only [decide_eq_true_eq] at *; exact List.le_trans h1 h2
  have to : ∀ a b : List UInt8, (decide (a ≤ b) || decide (b ≤ a)) = true := fun a b => by simp only [Bool.or_eq_true, decide_eq_true_eq]; exact List.le_total a b
  have hms := List.mergeSort_perm ss (fun x y => decide (x ≤ y))
  have hsorted := List.pairwise_mergeSort tr to ss
  generalize ss.mergeSort (fun x y => decide (x ≤ y)) = S at hms hsorted
  have hSp := hms.trans hp
  have hSn : S.Nodup := by
    refine hSp.nodup_iff.2 ?_
    exact List.pairwise_map.2 (List.Pairwise.imp (fun hne e => hne (by have := congrArg ofBytes e; rwa [ofBytes_inv, ofBytes_inv] at this)) hnd)
  refine ⟨S.map ofBytes, ?_, ?_, by rw [List.length_map]; exact hms.length_eq, ?_⟩
  · unfold Rising
    rw [List.pairwise_map]
    have hne : S.Pairwise (fun a b => a ≠ b) := hSn
    refine (hsorted.and hne).imp fun {a b} ⟨h1, h2⟩ => ?_
    rw [ltB_iff]
    have ea : (ofBytes a).toList = a := by rw [Lib.toList_data]; rfl
    have eb : (ofBytes b).toList = b := by rw [Lib.toList_data]; rfl
    rw [ea, eb]
    have h1 : a ≤ b := of_decide_eq_true h1
    rcases List.le_iff_lt_or_eq.1 h1 with h | h
    · exact h
    · exact absurd h h2
  · have := hSp.map ofBytes
    rw [List.map_map] at this
    have e : (ks.map (ofBytes ∘ fun s : ByteArray => s.data.toList)) = ks := by
      conv => rhs; rw [← List.map_id ks]
      exact List.map_congr_left fun s _ => ofBytes_inv s
    rw [e] at this
    exact this
  · rw [List.map_map]; rfl
def ParL (r : RegD) (n : ByteArray) (L : List ByteArray) : Prop := Rising L ∧ ∀ x, x ∈ L ↔ Reach r n x ∧ x ≠ n
theorem ParL.eq {r : RegD} {n : ByteArray} {L L' : List ByteArray} (h : ParL r n L) (h' : ParL r n L') : L = L' :=
  Rising.eq h.1 h'.1 (perm_of_mem (rising_nodup h.1) (rising_nodup h'.1) fun x => by rw [h.2, h'.2])
set_option maxHeartbeats 4000000 in
theorem spl_Parents {w : World} {p m k : Nat} {r : RegD} {gs : List GhostE} (hR : Rep w p r m gs) (hG : Good k r) (hk : k ≤ 1000000) (hl : r.l.length ≤ 256) (n : ByteArray) :
    Ret Tryz.prog 24 [.pointer (some ⟨p, 0, none⟩), .string n] w fun v w' => (∃ L, ParL r n L ∧ w'.ownsRow w.heap.size 9 1 v L.length (L.map Value.string)) ∧ Ex w w' := by
  have hfl : ∀ b ∈ foot p m gs, b < w.heap.size := fun b hb => hR.foot_lt hb
  refine ret_of Tryz.func24 Tryz.ntmps24 rfl rfl rfl ?_
  (repeat (first | refine cw_seq ?_ | refine cw_region ?_))
  refine lw_box rfl ?_
  intro b2 w1 hbb2 hb2 hx1 hs1
  replace hb2 : Blk w1 b2 [pB p] 25 := hb2
  (repeat (first | refine lw_pure hT rfl ?_ | refine lw_nil ?_ | refine cw_seq ?_ | refine cw_region ?_ | refine qw_then ?_))
  refine lw_makeMap ?_
  intro mb w2 hbm hm2 hx2 hs2
  skip
  refine lw_alloc (z := .map none) (by kernel_rfl) ?_
  intro b5 w3 hbb5 hb5 hx3 hs3
  skip
  refine lw_store (size := 1) hT rfl rfl rfl rfl hb5 (show (0 : Nat) < 1 by decide) ?_
  intro w4 hb54 hx4 hs4
  replace hb54 : Blk w4 b5 [.map (some mb)] 111 := hb54
  (repeat (first | refine lw_nil ?_ | refine cw_seq ?_ | refine cw_region ?_ | refine qw_then ?_))
  refine lw_alloc (z := .nilFunc) (by kernel_rfl) ?_
  intro b6 w5 hbb6 hb6 hx5 hs5
  (repeat (first | refine lw_pure hT rfl ?_ | refine lw_nil ?_ | refine cw_seq ?_ | refine cw_region ?_ | refine qw_then ?_))
  refine lw_store (size := 1) hT rfl rfl rfl rfl hb6 (show (0 : Nat) < 1 by decide) ?_
  intro w6 hb66 hx6 hs6
  replace hb66 : Blk w6 b6 [.func (.func 53) ⟨[]⟩ ⟨[pB b2, pB b5, pB b6]⟩] 112 := hb66
  have l1 := hx1.size
  have hx24 : Ex w2 w4 := hx3.up_new hx4 (fun i h => by omega)
  have hx46 : Ex w4 w6 := hx5.up_new hx6 (fun i h => by omega)
  have hx26 := hx24.trans hx46
  have hx06 := (hx1.trans hx2).trans hx26
  have hW : ParW p m b2 b5 b6 mb r gs w6 := ⟨hR.ex hx06, (hb2.ex hx2).ex hx26, hb54.ex hx46, hb66, by omega, by omega, by omega, fun h => by have := hfl _ h; omega⟩
  (repeat (first | refine lw_nil ?_ | refine cw_seq ?_ | refine cw_region ?_ | refine qw_then ?_))
  refine lw_load hT rfl rfl (v := .func (.func 53) ⟨[]⟩ ⟨[pB b2, pB b5, pB b6]⟩) (hb66.cell 0) ?_
  (repeat (refine lw_pure hT rfl ?_))
  refine lw_call_fn hT rfl rfl rfl (spl_from hG hk _ [] w6 n (Nat.le_refl _) hW (hm2.ex hx26) List.nodup_nil) ?_
  rintro _ w7 ⟨s', hm7, hsn, hx7, hS⟩
  have hW7 := hW.ext hx7
  (repeat (first | refine lw_nil ?_ | refine cw_seq ?_ | refine cw_region ?_ | refine qw_then ?_))
  refine lw_load hT rfl rfl (v := .map (some mb)) (hW7.c5.cell 0) ?_
  (repeat (refine lw_pure hT rfl ?_))
  have hkeys : (seenM s').map (·.1) = s' := by unfold seenM; rw [List.map_map]; exact List.map_id _
  refine lw_delete (e := 4) (kt := 9) (z := .bool false) (by kernel_rfl) (by kernel_rfl) rfl rfl hm7 (by rw [hkeys]; exact hsn) ?_
  intro es' w8 hm8 hx8 hd8 hmem8
  rw [hkeys] at hmem8
  have hreach : ∀ x, x ∈ s' ↔ Reach r n x := fun x => ⟨fun h => (hS.reach x h).resolve_left (by simp), fun h => h.sub (S := fun x => x ∈ s') hS.here (fun q hq y hy => hS.on q hq (by simp) y hy)⟩
  have hks : ∀ e ∈ es', e.1.size ≤ maxLen := by
    intro e he
    have := (hreach _).1 ((hmem8 e.1).1 (List.mem_map.2 ⟨e, he, rfl⟩)).1
    have hap := reach_allP this
    obtain ⟨x, hx, hxe⟩ := List.mem_flatMap.1 hap
    exact (hG.ent x hx).ok.parents _ hxe
  have hlen : es'.length ≤ 16384 := by
    have hsub : ∀ x ∈ es'.map (·.1), x ∈ r.allP := fun x hx => reach_allP ((hreach x).1 ((hmem8 x).1 hx).1)
    have h1 : (es'.map (·.1)).length ≤ r.allP.length := nodup_len hd8 hsub
    have h2 : r.allP.length ≤ 64 * r.l.length := by
      unfold RegD.allP
      have : ∀ l : List EntD, (∀ e ∈ l, e.bill.parents.length ≤ 64) → (l.flatMap fun e => e.bill.parents).length ≤ 64 * l.length := by
        intro l
        induction l with
        | nil => intro _; simp
        | cons e l ih =>
          intro h
          have h1 := h e List.mem_cons_self
          have h2 := ih (fun x hx => h x (List.mem_cons_of_mem _ hx))
          rw [List.flatMap_cons, List.length_append, List.length_cons]; omega
      exact this r.l fun e he => (may_len (hG.ent e he).may).2.1
    rw [List.length_map] at h1
    omega
  obtain ⟨D, hD1, hD2, hD3⟩ := owns_ofW hm8 hks (by unfold maxLen; omega) hd8
  have hx68 := hx7.trans hx8
  have hx08 : Ex w w8 := hx06.up_new hx68 (fun i h => by omega)
  have hc58 := hW7.c5.ext hx8 hW.n5
  (repeat (first | refine lw_nil ?_ | refine cw_seq ?_ | refine cw_region ?_ | refine qw_then ?_))
  refine lw_load hT rfl rfl (v := .map (some mb)) (hc58.cell 0) ?_
  skip
  refine lw_call hT rfl rfl (maps_KeysB (some mb) w8) ?_
  rintro _ _ ⟨rfl, rfl⟩
  skip
  refine lw_call hT rfl rfl (sorted_keysB mb es'.length D _ w8 hD1 (by rw [hD2]; unfold maxLen; omega) (by rw [hD2]; omega)) ?_
  rintro u w10 ⟨⟨ss, hss, hown⟩, hx10⟩
  have hx9 : Ex w8 (w8.alloc (.cells #[.map (some mb)] 111)) := Ext.alloc _ _
  have hpk : ss.Perm ((es'.map (·.1)).map fun s => s.data.toList) := by rw [List.map_map]; exact hss.trans hD3
  obtain ⟨L, hL1, hL2, hL3, hL4⟩ := sortedL hpk hd8
  (repeat (first | refine lw_pure hT rfl ?_ | refine lw_nil ?_ | refine qw_then ?_ | refine cw_ret ?_))
  refine qw_ret rfl ⟨⟨L, ⟨hL1, fun x => ?_⟩, ?_⟩, (hx08.trans hx9).trans hx10⟩
  · rw [hL2.mem_iff, hmem8, hreach]
  · rw [hL4, hL3]
    have := hx08.size
    have := hx9.size
    exact own_mono hown (by omega)
end Go.Proofs.YtnglkhnfmbnfeaaGreat
namespace Go.Proofs.YtnglkhnfmbnfeaaGreat
open Go Go.SK Go.ChangeShapes Go.WideShapes
def partB (P : Program) (t j ft o k : Nat) : Bool :=
  match P.underlying t with
  | some (.struct fs) => match fs[j]? with
    | some f => f.type == ft && f.offset == o && P.cellsOf ft == k
    | none => false
  | _ => false
section
variable {H : Type} {enc : TypeId × Value → H} {P : Program} {w : World} {base : Nat} {spare : Nat → Bool} {held : Bool}
theorem open_part {t j ft o k fuel : Nat} {cs : List Value} {x : DataW H × List MemPlace} (hp : partB P t j ft o k = true) (h : DataW.trod enc P w base spare held fuel t cs = some x) : ∃ n y, DataW.trod enc P w base spare held n ft ((cs.drop o).take k) = some y := by
  unfold partB at hp
  split at hp
  · rename_i fs hu
    split at hp
    · rename_i f hf
      simp only [Bool.and_eq_true, beq_iff_eq] at hp
      obtain ⟨⟨rfl, rfl⟩, rfl⟩ := hp
      obtain ⟨xs, n, _, _, _, hl, hg⟩ := DataW.trod_struct hu h
      have := hg j f hf
      have hj : j < xs.length := by rw [hl]; exact (Array.getElem?_eq_some_iff.1 hf).1
      rw [List.getElem?_eq_getElem hj] at this
      exact ⟨n, _, this⟩
    · cases hp
  · cases hp
theorem open_len {t k fuel : Nat} {cs : List Value} {x : DataW H × List MemPlace} {fs : Array Field} (hu : P.underlying t = some (.struct fs)) (hk : P.cellsOf t = k) (h : DataW.trod enc P w base spare held fuel t cs = some x) : cs.length = k := by
  obtain ⟨_, _, _, _, h, _⟩ := DataW.trod_struct hu h
  rw [h, hk]
theorem spot_of {a : Addr} {v : Value} (h : w.cell? a = some v) : a = ⟨a.block, a.off, none⟩ := by
  obtain ⟨b, o, s⟩ := a
  cases s with
  | none => rfl
  | some s =>
    exfalso
    unfold World.cell? at h
    dsimp only at h
    cases hb : w.heap[b]? with
    | none => rw [hb] at h; cases h
    | some ob => rw [hb] at h; cases ob <;> simp at h
theorem open_texts {t e fuel : Nat} {cs : List Value} {x : DataW H × List MemPlace} (hsp : ∀ b, spare b = true) (ht : P.underlying t = some (.slice e)) (he : P.underlying e = some .string) (hc : P.cellsOf e = 1) (h : DataW.trod enc P w base spare held fuel t cs = some x) :
    ∃ (v : Value) (l : List ByteArray), cs = [v] ∧ SlS (fun _ => True) w v l ∧ (∀ p n c, v = .slice p n c → n ≤ c) ∧ ∀ s ∈ l, s.size ≤ maxLen := by
  rcases Go.Deep.open_strs ht he hc h with ⟨rfl, _⟩ | ⟨a, len, cap, m, Sx, rfl, _, hl, hm, hmm, _, hx⟩
  · exact ⟨_, [], rfl, Sl.nil _ _ _, (fun p n c h => by cases h; exact Nat.le_refl _), by simp⟩
  · rw [hsp, if_pos rfl] at hmm
    subst hmm
    refine ⟨_, (List.range len).map Sx, rfl, ⟨⟨some a, m, by simp, (fun h => by cases h), fun hne => ?_⟩, by simp; omega⟩, (fun p n c h => by cases h; exact hl), ?_⟩
    · have h0 : 0 < len := by
        rcases Nat.eq_zero_or_pos len with h | h
        · subst h; simp at hne
        · exact h
      have hz := (hx 0 (by omega)).1
      have e0 : a.add 0 = a := rfl
      rw [e0] at hz
      have ea := spot_of hz
      refine ⟨a.block, a.off, by rw [← ea], trivial, fun i row hi => ?_⟩
      rw [List.getElem?_map, List.getElem?_map] at hi
      have hi' : i < len := by
        rcases Nat.lt_or_ge i len with h | h
        · exact h
        · rw [List.getElem?_eq_none (by simpa using h)] at hi; cases hi
      rw [List.getElem?_range hi'] at hi
      cases hi
      refine ⟨rfl, ?_⟩
      have := (hx i (by omega)).1
      rw [ea, addr_add] at this
      rw [Nat.mul_one]
      exact Rd.one this
    · intro s hs
      obtain ⟨i, hi, rfl⟩ := List.mem_map.1 hs
      exact (hx i (by have := List.mem_range.1 hi; omega)).2
end
section
variable {H : Type} {enc : TypeId × Value → H} {w : World} {base : Nat} {spare : Nat → Bool} {held : Bool}
theorem open_bill {fuel : Nat} {cs : List Value} {x : DataW H × List MemPlace} (hsp : ∀ b, spare b = true) (h : DataW.trod enc Tryz.prog w base spare held fuel 33 cs = some x) :
    ∃ b vb vp, cs = encB b vb vp ∧ SlS (fun _ => True) w vb b.boxes ∧ SlS (fun _ => True) w vp b.parents ∧ (∀ p n c, vb = .slice p n c → n ≤ c) ∧ b.Ok := by
  obtain ⟨n0, y0, h0⟩ := open_part (j := 0) (ft := 9) (o := 0) (k := 1) (by kernel_rfl) h
  obtain ⟨n1, y1, h1⟩ := open_part (j := 1) (ft := 9) (o := 1) (k := 1) (by kernel_rfl) h
  obtain ⟨n2, y2, h2⟩ := open_part (j := 2) (ft := 9) (o := 2) (k := 1) (by kernel_rfl) h
  obtain ⟨n3, y3, h3⟩ := open_part (j := 3) (ft := 9) (o := 3) (k := 1) (by kernel_rfl) h
  obtain ⟨n4, y4, h4⟩ := open_part (j := 4) (ft := 9) (o := 4) (k := 1) (by kernel_rfl) h
  obtain ⟨n5, y5, h5⟩ := open_part (j := 5) (ft := 31) (o := 5) (k := 1) (by kernel_rfl) h
  obtain ⟨n6, y6, h6⟩ := open_part (j := 6) (ft := 31) (o := 6) (k := 1) (by kernel_rfl) h
  obtain ⟨n7, y7, h7⟩ := open_part (j := 7) (ft := 3) (o := 7) (k := 1) (by kernel_rfl) h
  obtain ⟨n8, y8, h8⟩ := open_part (j := 8) (ft := 4) (o := 8) (k := 1) (by kernel_rfl) h
  have hlen : cs.length = 9 := open_len (fs := (Tryz.prog.underlying 33).elim #[] fun d => match d with | .struct fs => fs | _ => #[]) (by kernel_rfl) (by kernel_rfl) h
  have us : Tryz.prog.underlying 9 = some .string := by kernel_rfl
  match cs, hlen with
  | [c0, c1, c2, c3, c4, c5, c6, c7, c8], _ =>
    obtain ⟨s0, e0, _, k0⟩ := DataW.trod_string us h0
    obtain ⟨s1, e1, _, k1⟩ := DataW.trod_string us h1
    obtain ⟨s2, e2, _, k2⟩ := DataW.trod_string us h2
    obtain ⟨s3, e3, _, k3⟩ := DataW.trod_string us h3
    obtain ⟨s4, e4, _, k4⟩ := DataW.trod_string us h4
    obtain ⟨v5, l5, e5, g5, q5, k5⟩ := open_texts (e := 9) hsp (by kernel_rfl) us (by kernel_rfl) h5
    obtain ⟨v6, l6, e6, g6, _, k6⟩ := open_texts (e := 9) hsp (by kernel_rfl) us (by kernel_rfl) h6
    obtain ⟨i7, e7, _, _⟩ := DataW.trod_int (k := .i64) (by kernel_rfl) h7
    obtain ⟨b8, e8, _⟩ := DataW.trod_bool (by kernel_rfl) h8
    simp at e0 e1 e2 e3 e4 e5 e6 e7 e8
    subst e0 e1 e2 e3 e4 e5 e6 e7 e8
    exact ⟨⟨s0, s1, s2, s3, s4, l5, l6, i7, b8⟩, c5, c6, rfl, g5, g6, q5, ⟨k0, k1, k2, k3, k4, k5, k6⟩⟩
theorem open_act {fuel : Nat} {cs : List Value} {x : DataW H × List MemPlace} (hsp : ∀ b, spare b = true) (h : DataW.trod enc Tryz.prog w base spare held fuel 73 cs = some x) :
    ∃ a vb vp, cs = encAct a vb vp ∧ ActAt (fun _ => True) w a vb vp := by
  obtain ⟨n0, y0, h0⟩ := open_part (j := 0) (ft := 3) (o := 0) (k := 1) (by kernel_rfl) h
  obtain ⟨n1, y1, h1⟩ := open_part (j := 1) (ft := 3) (o := 1) (k := 1) (by kernel_rfl) h
  obtain ⟨n2, y2, h2⟩ := open_part (j := 2) (ft := 3) (o := 2) (k := 1) (by kernel_rfl) h
  obtain ⟨n3, y3, h3⟩ := open_part (j := 3) (ft := 9) (o := 3) (k := 1) (by kernel_rfl) h
  obtain ⟨n4, y4, h4⟩ := open_part (j := 4) (ft := 9) (o := 4) (k := 1) (by kernel_rfl) h
  obtain ⟨n5, y5, h5⟩ := open_part (j := 5) (ft := 9) (o := 5) (k := 1) (by kernel_rfl) h
  obtain ⟨n6, y6, h6⟩ := open_part (j := 6) (ft := 33) (o := 6) (k := 9) (by kernel_rfl) h
  have hlen : cs.length = 15 := open_len (fs := (Tryz.prog.underlying 73).elim #[] fun d => match d with | .struct fs => fs | _ => #[]) (by kernel_rfl) (by kernel_rfl) h
  have us : Tryz.prog.underlying 9 = some .string := by kernel_rfl
  have ui : Tryz.prog.underlying 3 = some (.int .i64) := by kernel_rfl
  match cs, hlen with
  | [c0, c1, c2, c3, c4, c5, c6, c7, c8, c9, c10, c11, c12, c13, c14], _ =>
    obtain ⟨i0, e0, _, _⟩ := DataW.trod_int ui h0
    obtain ⟨i1, e1, _, _⟩ := DataW.trod_int ui h1
    obtain ⟨i2, e2, _, _⟩ := DataW.trod_int ui h2
    obtain ⟨s3, e3, _, k3⟩ := DataW.trod_string us h3
    obtain ⟨s4, e4, _, k4⟩ := DataW.trod_string us h4
    obtain ⟨s5, e5, _, k5⟩ := DataW.trod_string us h5
    obtain ⟨b, vb, vp, e6, g1, g2, g3, g4⟩ := open_bill hsp h6
    simp at e0 e1 e2 e3 e4 e5 e6
    subst e0 e1 e2 e3 e4 e5
    refine ⟨⟨i0, i1, i2, s3, s4, s5, b⟩, vb, vp, ?_, ⟨g1, g2, g3, ⟨k3, k4, k5, g4⟩⟩⟩
    simp only [encAct]
    rw [← e6]; rfl
theorem open_acts {fuel : Nat} {cs : List Value} {x : DataW H × List MemPlace} (hsp : ∀ b, spare b = true) (h : DataW.trod enc Tryz.prog w base spare held fuel 22 cs = some x) :
    ∃ v l, cs = [v] ∧ ActsAt (fun _ => True) w v l := by
  have hC : Tryz.prog.cellsOf 73 = 15 := by kernel_rfl
  rcases Go.Deep.open_slice (e := 73) (by kernel_rfl) h with ⟨rfl, _⟩ | ⟨a, len, cap, m, n, D, Pl, rfl, _, hl, hm, hmm, _, hx⟩
  · exact ⟨_, [], rfl, ⟨none, 0, rfl, Nat.zero_le _, fun i hi => by simp at hi⟩⟩
  · rw [hsp, if_pos rfl] at hmm
    subst hmm
    rw [hC] at hx
    have each : ∀ i, i < m → ∃ q : (ActD × Value × Value), (∀ j, j < 15 → w.cell? ((a.add (i * 15)).add j) = (encAct q.1 q.2.1 q.2.2)[j]?) ∧ ActAt (fun _ => True) w q.1 q.2.1 q.2.2 := by
      intro i hi
      obtain ⟨cs', h1, h2⟩ := hx i hi
      obtain ⟨_, _, h3⟩ := World.cells?_some h1
      obtain ⟨q, vb, vp, rfl, h4⟩ := open_act hsp h2
      exact ⟨(q, vb, vp), h3, h4⟩
    have ex : ∃ f : Nat → ActD × Value × Value, ∀ i, i < m → (∀ j, j < 15 → w.cell? ((a.add (i * 15)).add j) = (encAct (f i).1 (f i).2.1 (f i).2.2)[j]?) ∧ ActAt (fun _ => True) w (f i).1 (f i).2.1 (f i).2.2 := by
      classical
      refine ⟨fun i => if hi : i < m then Classical.choose (each i hi) else (⟨0, 0, 0, ⟨#[]⟩, ⟨#[]⟩, ⟨#[]⟩, ⟨⟨#[]⟩, ⟨#[]⟩, ⟨#[]⟩, ⟨#[]⟩, ⟨#[]⟩, [], [], 0, false⟩⟩, undef, undef), fun i hi => ?_⟩
      simp only [dif_pos hi]
      exact Classical.choose_spec (each i hi)
    obtain ⟨f, hf⟩ := ex
    refine ⟨_, (List.range len).map fun i => (f i).1, rfl, ⟨some a, m, by simp, by simp; omega, fun i hi => ?_⟩⟩
    have hi' : i < len := by simpa using hi
    have hz := (hf 0 (by omega)).1 0 (by omega)
    have e0 : (a.add (0 * 15)).add 0 = a := rfl
    rw [e0] at hz
    have ea := spot_of (hz.trans rfl)
    obtain ⟨h1, h2⟩ := hf i (by omega)
    refine ⟨a.block, a.off, (f i).2.1, (f i).2.2, by rw [← ea], trivial, ?_, ?_⟩
    · have e : ((List.range len).map fun i => (f i).1)[i] = (f i).1 := by simp
      rw [e]
      intro j v hj
      have hj' : j < 15 := (List.getElem?_eq_some_iff.1 hj).1
      have := h1 j hj'
      rw [ea, addr_add, addr_add] at this
      rw [this]; exact hj
    · have e : ((List.range len).map fun i => (f i).1)[i] = (f i).1 := by simp
      rw [e]; exact h2
end
end Go.Proofs.YtnglkhnfmbnfeaaGreat
namespace Go.SK
open Go
attribute [local semireducible] CW LW QW Ret Kn
section
variable {P : Program} {T : Tab} {n : Nat} {fr : Fr} {w : World} {Q : Exit → Act → World → Prop} {ops : Array Oper} {rest : List Oper}
theorem lw_rem8 {d : Nat} {x y : Operand} {t t' : TypeId} {ty : TypeId} {ps : String} {af : Array Edge} {a b : Int} (hx : ev n fr x = some (.int .u8 a)) (hy : ev n fr y = some (.int .u8 b)) (hb : b ≠ 0)
    (k : LW P ops Q rest n ((d, .int .u8 (a.tmod b)) :: fr) w) :
    LW P ops Q ({ dst := some d, op := .binOp .rem t x y t', type := ty, pos := ps, after := af, guard := none } :: rest) n fr w :=
  lw_run rfl rfl (fun a' hk => by simp [execOp, ev_sound hk hx, ev_sound hk hy, eqGuard, binOp, Op.intDiv, hb]) k
end
end Go.SK
namespace Go.Proofs.YtnglkhnfmbnfeaaGreat
open Go Go.SK
set_option maxHeartbeats 4000000 in
theorem l24_put {A0 : Nat → Prop} {w : World} {p m k : Nat} {R : RegD} {gs : List GhostE} (hR : Rep w p R m gs) (hgR : Good k R) (hkR : k ≤ 1000000) {a : ActD} {vb vp : Value} (hat : ActAt A0 w a vb vp) (hk : 0 ≤ a.kind ∧ a.kind ≤ 5) :
    Ret Tryz.prog 33 [.pointer (some ⟨p, 0, none⟩), .agg ⟨encAct a vb vp⟩] w fun _ w' => Mut w p m gs (doA R a) w' := by
  refine ret_of Tryz.func33 Tryz.ntmps33 rfl rfl rfl ?_
  (repeat (first | refine cw_seq ?_ | refine cw_region ?_))
  refine lw_box rfl ?_
  intro b5 w1 hbb5 hb5 hx1 hs1
  replace hb5 : Blk w1 b5 (encAct a vb vp) 73 := hb5
  have hR7 := hR.ex hx1
  have hat7 := hat.ex hx1
  have fin : ∀ w8, Mut w1 p m gs (doA R a) w8 → Mut w p m gs (doA R a) w8 := fun w8 hm => Mut.step (fun b hb => .inl hb) (Ext.of_ex hx1) hm
  (repeat (first | refine lw_pure hT rfl ?_ | refine lw_nil ?_ | refine cw_seq ?_ | refine cw_region ?_ | refine qw_then ?_))
  refine lw_load hT rfl rfl (v := .int .i64 a.kind) (hb5.cell 0) ?_
  (repeat (first | refine lw_pure hT rfl ?_ | refine lw_nil ?_ | refine cw_seq ?_ | refine cw_region ?_ | refine qw_then ?_ | refine cw_block ?_))
  refine cw_cond rfl (fun h0 => ?_) (fun h0 => ?_)
  · have h0 : a.kind = 0 := by simpa using h0
    have e2 : doA R a = issueD R a.b a.to_ := by unfold doA; rw [if_pos h0]
    (repeat (first | refine lw_pure hT rfl ?_ | refine cw_region ?_))
    refine lw_load_agg hT rfl rfl rfl (vs := encB a.b vb vp) (hb5.rd 6 9) ?_
    (repeat (refine lw_pure hT rfl ?_))
    refine lw_load hT rfl rfl (v := .string a.to_) (hb5.cell 5) ?_
    skip
    refine lw_call hT rfl rfl (reg_Issue hR7 hat7.boxes hat7.parents hat.ok.b a.to_ hat.ok.to_) ?_
    rintro _ w8 ⟨rfl, hm⟩
    rw [← e2] at hm
    (repeat (first | refine lw_nil ?_ | refine qw_block ?_))
    exact qw_end rfl (fin _ hm)
  have h0 : ¬ a.kind = 0 := by simpa using h0
  (repeat (first | refine lw_pure hT rfl ?_ | refine lw_nil ?_ | refine cw_seq ?_ | refine cw_region ?_ | refine qw_then ?_))
  refine cw_cond rfl (fun h1 => ?_) (fun h1 => ?_)
  · have h1 : a.kind = 1 := by simpa using h1
    (repeat (first | refine lw_pure hT rfl ?_ | refine cw_region ?_))
    refine lw_load hT rfl rfl (v := .string a.bill) (hb5.cell 3) ?_
    (repeat (refine lw_pure hT rfl ?_))
    refine lw_load hT rfl rfl (v := .int .i64 a.index) (hb5.cell 1) ?_
    (repeat (refine lw_pure hT rfl ?_))
    refine lw_load hT rfl rfl (v := .string a.by_) (hb5.cell 4) ?_
    (repeat (refine lw_pure hT rfl ?_))
    refine lw_load hT rfl rfl (v := .string a.to_) (hb5.cell 5) ?_
    (repeat (refine lw_pure hT rfl ?_))
    refine lw_load hT rfl rfl (v := .int .i64 a.day) (hb5.cell 2) ?_
    skip
    refine lw_call hT rfl rfl (reg_Endorse hR7 hgR.nd (hgR.small (by omega)) hgR.inv a h1 hat.ok.to_) ?_
    rintro _ w8 ⟨rfl, hm⟩
    (repeat (first | refine lw_nil ?_ | refine qw_block ?_))
    exact qw_end rfl (fin _ hm)
  have h1 : ¬ a.kind = 1 := by simpa using h1
  (repeat (first | refine lw_pure hT rfl ?_ | refine lw_nil ?_ | refine cw_seq ?_ | refine cw_region ?_ | refine qw_then ?_))
  refine cw_cond rfl (fun h2 => ?_) (fun h2 => ?_)
  · have h2 : a.kind = 2 := by simpa using h2
    (repeat (first | refine lw_pure hT rfl ?_ | refine cw_region ?_))
    refine lw_load hT rfl rfl (v := .string a.bill) (hb5.cell 3) ?_
    (repeat (refine lw_pure hT rfl ?_))
    refine lw_load hT rfl rfl (v := .int .i64 a.index) (hb5.cell 1) ?_
    (repeat (refine lw_pure hT rfl ?_))
    refine lw_load hT rfl rfl (v := .string a.by_) (hb5.cell 4) ?_
    (repeat (refine lw_pure hT rfl ?_))
    refine lw_load hT rfl rfl (v := .int .i64 a.day) (hb5.cell 2) ?_
    skip
    refine lw_call hT rfl rfl (reg_Surrender hR7 hgR.nd (hgR.small (by omega)) a h2) ?_
    rintro _ w8 ⟨⟨u, rfl, _, _⟩, hm⟩
    (repeat (first | refine lw_nil ?_ | refine qw_block ?_))
    exact qw_end rfl (fin _ hm)
  have h2 : ¬ a.kind = 2 := by simpa using h2
  (repeat (first | refine lw_pure hT rfl ?_ | refine lw_nil ?_ | refine cw_seq ?_ | refine cw_region ?_ | refine qw_then ?_))
  refine cw_cond rfl (fun h3 => ?_) (fun h3 => ?_)
  · have h3 : a.kind = 3 := by simpa using h3
    (repeat (first | refine lw_pure hT rfl ?_ | refine cw_region ?_))
    refine lw_load hT rfl rfl (v := .string a.bill) (hb5.cell 3) ?_
    (repeat (refine lw_pure hT rfl ?_))
    refine lw_load hT rfl rfl (v := .int .i64 a.index) (hb5.cell 1) ?_
    (repeat (refine lw_pure hT rfl ?_))
    refine lw_load hT rfl rfl (v := .string a.by_) (hb5.cell 4) ?_
    skip
    refine lw_call hT rfl rfl (reg_Lose hR7 hgR.nd a h3) ?_
    rintro _ w8 ⟨rfl, hm⟩
    (repeat (first | refine lw_nil ?_ | refine qw_block ?_))
    exact qw_end rfl (fin _ hm)
  have h3 : ¬ a.kind = 3 := by simpa using h3
  (repeat (first | refine lw_pure hT rfl ?_ | refine lw_nil ?_ | refine cw_seq ?_ | refine cw_region ?_ | refine qw_then ?_))
  refine cw_cond rfl (fun h4 => ?_) (fun h4 => ?_)
  · have h4 : a.kind = 4 := by simpa using h4
    (repeat (first | refine lw_pure hT rfl ?_ | refine cw_region ?_))
    refine lw_load hT rfl rfl (v := .string a.bill) (hb5.cell 3) ?_
    (repeat (refine lw_pure hT rfl ?_))
    refine lw_load hT rfl rfl (v := .int .i64 a.index) (hb5.cell 1) ?_
    (repeat (refine lw_pure hT rfl ?_))
    refine lw_load hT rfl rfl (v := .string a.by_) (hb5.cell 4) ?_
    (repeat (refine lw_pure hT rfl ?_))
    refine lw_load hT rfl rfl (v := .int .i64 a.day) (hb5.cell 2) ?_
    skip
    refine lw_call hT rfl rfl (reg_Replace hR7 hgR.nd a h4) ?_
    rintro _ w8 ⟨rfl, hm⟩
    (repeat (first | refine lw_nil ?_ | refine qw_block ?_))
    exact qw_end rfl (fin _ hm)
  have h4 : ¬ a.kind = 4 := by simpa using h4
  (repeat (first | refine lw_pure hT rfl ?_ | refine lw_nil ?_ | refine cw_seq ?_ | refine cw_region ?_ | refine qw_then ?_))
  refine cw_cond rfl (fun h5 => ?_) (fun h5 => ?_)
  · have h5 : a.kind = 5 := by simpa using h5
    (repeat (first | refine lw_pure hT rfl ?_ | refine cw_region ?_))
    refine lw_load hT rfl rfl (v := .string a.bill) (hb5.cell 3) ?_
    (repeat (refine lw_pure hT rfl ?_))
    refine lw_load hT rfl rfl (v := .string a.by_) (hb5.cell 4) ?_
    (repeat (refine lw_pure hT rfl ?_))
    refine lw_load hT rfl rfl (v := .int .i64 a.day) (hb5.cell 2) ?_
    skip
    refine lw_call hT rfl rfl (reg_Retire hR7 hgR.nd a h5) ?_
    rintro _ w8 ⟨rfl, hm⟩
    (repeat (first | refine lw_nil ?_ | refine qw_block ?_))
    exact qw_end rfl (fin _ hm)
  have h5 : ¬ a.kind = 5 := by simpa using h5
  exact absurd hk (by omega)
def keptA (l : List ActD) : List ActD := l.filter fun a => decide (0 ≤ a.kind) && decide (a.kind ≤ 5)
theorem keptA_take {l : List ActD} {i : Nat} (hi : i < l.length) : keptA (l.take (i + 1)) = keptA (l.take i) ++ if 0 ≤ l[i].kind ∧ l[i].kind ≤ 5 then [l[i]] else [] := by
  unfold keptA
  rw [List.take_succ_eq_append_getElem hi, List.filter_append]
  congr 1
  by_cases h : 0 ≤ l[i].kind ∧ l[i].kind ≤ 5
  · rw [if_pos h]; simp [h.1, h.2]
  · rw [if_neg h, List.filter_cons_of_neg]
    · rfl
    · simpa using h
theorem keptA_mem {l : List ActD} {a : ActD} (h : a ∈ keptA l) : a ∈ l ∧ 0 ≤ a.kind ∧ a.kind ≤ 5 := by
  unfold keptA at h
  rw [List.mem_filter] at h
  simpa using h
theorem keptA_len (l : List ActD) : (keptA l).length ≤ l.length := List.length_filter_le _ _
theorem good_kept {l : List ActD} (h : ∀ a ∈ l, a.Ok) : Good l.length (runA regC (keptA l)) := by
  have := good_run (l := keptA l) (good_new ⟨#[99]⟩) (fun a ha => h a (keptA_mem ha).1) (fun a ha => (keptA_mem ha).2)
  rw [Nat.zero_add] at this
  exact this.mono (keptA_len l)
set_option maxHeartbeats 8000000 in
theorem l24_begin {A : Nat → Prop} {w : World} {v : Value} {l : List ActD} (hA : ActsAt A w v l) (hr : FewP l) : Ret Tryz.prog 12 [v] w fun u w' =>
    (∃ p m gs vL fgs A', u = .tuple #[.pointer (some ⟨p, 0, none⟩), .agg ⟨encR ⟨#[99]⟩ vL⟩] ∧ PlayP w.heap.size w' (runA regC (keptA l)) p m gs vL fgs A') ∧ Ex w w' := by
  have hA0 := hA.lt
  have hlen := hr.1
  obtain ⟨pv_, cap, rfl, hm, _⟩ := hA.is
  obtain ⟨_, _, hve, _, hrow⟩ := hA0.is
  simp only [Value.slice.injEq] at hve
  obtain ⟨rfl, _, rfl⟩ := hve
  have good : ∀ i, i ≤ l.length → Good i (runA regC (keptA (l.take i))) := fun i hi => by
    have := good_kept (l := l.take i) (fun a ha => hA.ok a (List.mem_of_mem_take ha))
    exact this.mono (by rw [List.length_take]; omega)
  refine ret_of Tryz.func12 Tryz.ntmps12 rfl rfl rfl ?_
  (repeat (first | refine lw_pure hT rfl ?_ | refine cw_seq ?_ | refine cw_region ?_))
  refine lw_alloc z28 ?_
  intro b3 w1 hbb3 hb3 hx1 hs1
  (repeat (first | refine lw_nil ?_ | refine cw_seq ?_ | refine cw_region ?_ | refine qw_then ?_))
  refine lw_call hT rfl rfl (reg_New w1 ⟨#[99]⟩) ?_
  rintro _ w2 ⟨p, m, rfl, hR, hp, hmm, hx2⟩
  skip
  refine lw_build bt28 rfl ?_
  skip
  refine lw_alloc z28 ?_
  intro b5 w3 hbb5 hb5 hx3 hs3
  (repeat (refine lw_pure hT rfl ?_))
  refine lw_store_agg hT rfl rfl rfl rfl (by intro v hv; simp at hv; rcases hv with rfl | rfl <;> rfl) hb5 (show (2 : Nat) ≤ 2 by decide) ?_
  intro w4 hb54 hx4 hs4
  replace hb54 : Blk w4 b5 (encR ⟨#[99]⟩ (.slice none 0 0)) 28 := hb54
  have hl1 := hx1.size
  have hl2 := hx2.size
  have hx24 : Ex w2 w4 := hx3.up_new hx4 (fun i h => by omega)
  have hx04 := (hx1.trans hx2).trans hx24
  have hl24 := hx24.size
  have hpl := hR.blk.lt
  obtain ⟨es, hMp, _⟩ := hR.map
  have hml := hMp.lt
  (repeat (first | refine lw_pure hT rfl ?_ | refine lw_nil ?_ | refine cw_seq ?_ | refine cw_region ?_ | refine qw_then ?_ | refine cw_block ?_))
  refine cw_loop (fun i : Nat => [(0, .slice pv_ l.length cap), (3, .pointer (some ⟨b3, 0, none⟩)), (4, .pointer (some ⟨p, 0, none⟩)), (5, .pointer (some ⟨b5, 0, none⟩)), (6, .int .i64 (i : Nat))])
    (fun i w' => i ≤ l.length ∧ Ex w w' ∧ w4.heap.size ≤ w'.heap.size ∧ (∃ cs, cs.length = 2 ∧ Blk w' b3 cs 28) ∧ ∃ gs vL fgs A', PlayP w.heap.size w' (runA regC (keptA (l.take i))) p m gs vL fgs A' ∧ Blk w' b5 (encR ⟨#[99]⟩ vL) 28 ∧ (b5 ∉ foot p m gs ∧ b3 ∉ foot p m gs) ∧ (¬ A' b5 ∧ ¬ A' b3))
    (fun i => l.length - i) 0 (by repeat (first | exact trivial | refine ⟨rfl, ?_⟩)) ⟨Nat.zero_le _, hx04, Nat.le_refl _, ⟨_, rfl, (hb3.ex hx2).ex hx24⟩, [], .slice none 0 0, [], fun _ => False, ⟨?_, ?_, ?_, fun _ h => h.elim, fun _ h => h.elim⟩, hb54, ?_, fun h => h, fun h => h⟩ ?_
  · exact hR.ex hx24
  · intro b hb
    rcases foot_mem.1 hb with rfl | rfl | ⟨i, g, h1, _⟩
    · omega
    · omega
    · simp at h1
  · exact ⟨rfl, (fun a n c h => by cases h; exact Nat.le_refl _), Sl.nil _ _ _, fun i x g h1 _ => by simp [runA, regC, keptA] at h1⟩
  · constructor <;> intro hb <;> rcases foot_mem.1 hb with h | h | ⟨i, g, h1, _⟩ <;> first | omega | simp at h1
  rintro i w5 ⟨hi, hx05, hl45, ⟨cs3, hcs3, hb35⟩, gs, vL, fgs, A', hP, hb55, ⟨hn5, hn3⟩, hA5, hA3⟩
  (repeat (first | refine lw_pure hT rfl ?_ | refine lw_nil ?_ | refine cw_seq ?_ | refine cw_region ?_ | refine qw_then ?_))
  refine cw_cond rfl (fun h => ?_) (fun h => ?_)
  · have hlt : i < l.length := by have := of_decide_eq_true h; omega
    obtain ⟨b, o, vb, vp, rfl, hbA, hrd, hat⟩ := hrow i hlt
    have hg := good i hi
    have htake := keptA_take hlt
    have hatok := hat.ok
    generalize l[i] = a at hrd hat htake hatok
    have hrd5 := hrd.ex hx05
    have ec : (runA regC (keptA (l.take i))).carrier = ⟨#[99]⟩ := runA_carrier _ _
    have hskip : ¬ (0 ≤ a.kind ∧ a.kind ≤ 5) → keptA (l.take (i + 1)) = keptA (l.take i) := fun hno => by rw [htake, if_neg hno, List.append_nil]
    (repeat (first | refine lw_pure hT rfl ?_ | refine cw_seq ?_ | refine cw_region ?_ | refine qw_then ?_ | refine cw_skip ?_ | refine cw_block ?_))
    refine lw_index hT rfl rfl rfl i rfl hlt ?_
    (repeat (refine lw_pure hT rfl ?_))
    refine lw_load hT rfl rfl (v := .int .i64 a.kind) (by have := hrd5 0 _ (show (encAct a vb vp)[0]? = some (.int .i64 a.kind) from rfl); exact this) ?_
    (repeat (refine lw_pure hT rfl ?_))
    refine lw_guard rfl (fun e => ?_) (fun e => ?_)
    · have hno : ¬ (0 ≤ a.kind ∧ a.kind ≤ 5) := by have := of_decide_eq_true e; omega
      (repeat (first | (refine lw_add rfl rfl ?_ ?_ ?_; iterate 2 omega) | refine lw_pure hT rfl ?_ | refine lw_nil ?_ | refine cw_region ?_ | refine qw_then ?_ | (refine lw_goff_t rfl ?_ ?_; focus with_reducible (first | rfl | exact Bool.not_false | exact Bool.not_true)) | refine cw_exit ?_ | refine qw_block_exit ?_ | refine qw_then_exit ?_ | (refine cw_cond_t rfl ?_ ?_; focus with_reducible (first | rfl | exact Bool.not_false | exact Bool.not_true))))
      exact qw_round (i + 1) (by repeat (first | exact trivial | refine ⟨rfl, ?_⟩)) ⟨hlt, hx05, hl45, ⟨cs3, hcs3, hb35⟩, gs, vL, fgs, A', by rw [hskip hno]; exact hP, hb55, ⟨hn5, hn3⟩, hA5, hA3⟩ (by omega)
    have k0 : 0 ≤ a.kind := by have := of_decide_eq_false e; omega
    (repeat (first | refine lw_pure hT rfl ?_ | (refine lw_gon_f rfl ?_ ?_; focus with_reducible (first | rfl | exact Bool.not_false | exact Bool.not_true))))
    refine lw_index hT rfl rfl rfl i rfl hlt ?_
    (repeat (first | refine lw_pure hT rfl ?_ | (refine lw_gon_f rfl ?_ ?_; focus with_reducible (first | rfl | exact Bool.not_false | exact Bool.not_true))))
    refine lw_load hT rfl rfl (v := .int .i64 a.kind) (by have := hrd5 0 _ (show (encAct a vb vp)[0]? = some (.int .i64 a.kind) from rfl); exact this) ?_
    (repeat (first | refine lw_pure hT rfl ?_ | refine lw_nil ?_ | refine qw_then ?_ | (refine lw_gon_f rfl ?_ ?_; focus with_reducible (first | rfl | exact Bool.not_false | exact Bool.not_true))))
    refine cw_cond rfl (fun e => ?_) (fun e => ?_)
    · have hno : ¬ (0 ≤ a.kind ∧ a.kind ≤ 5) := by have := of_decide_eq_true e; omega
      (repeat (first | (refine lw_add rfl rfl ?_ ?_ ?_; iterate 2 omega) | refine lw_pure hT rfl ?_ | refine lw_nil ?_ | refine cw_region ?_ | refine qw_then ?_ | refine cw_exit ?_ | refine qw_block_exit ?_ | refine qw_then_exit ?_))
      exact qw_round (i + 1) (by repeat (first | exact trivial | refine ⟨rfl, ?_⟩)) ⟨hlt, hx05, hl45, ⟨cs3, hcs3, hb35⟩, gs, vL, fgs, A', by rw [hskip hno]; exact hP, hb55, ⟨hn5, hn3⟩, hA5, hA3⟩ (by omega)
    have k5 : 0 ≤ a.kind ∧ a.kind ≤ 5 := ⟨k0, by have := of_decide_eq_false e; omega⟩
    have hstep : keptA (l.take (i + 1)) = keptA (l.take i) ++ [a] := by rw [htake, if_pos k5]
    have hrun : runA regC (keptA (l.take (i + 1))) = doA (runA regC (keptA (l.take i))) a := by rw [hstep, runA_append]; rfl
    have hl05 := hx05.size
    have hfl5 : ∀ b ∈ foot p m gs, b < w5.heap.size := fun b hb => hP.rep.foot_lt hb
    have hl55 := hb55.lt
    have hl35 := hb35.lt
    have hFlt := hP.frep.lt
    (repeat (first | refine lw_pure hT rfl ?_ | refine cw_seq ?_ | refine cw_region ?_ | refine qw_then ?_ | refine cw_skip ?_))
    refine lw_index hT rfl rfl rfl i rfl hlt ?_
    skip
    refine lw_load_agg hT rfl rfl rfl (vs := encAct a vb vp) hrd5 ?_
    skip
    refine lw_call hT rfl rfl (l24_put hP.rep hg (by omega) (hat.ex hx05) k5) ?_
    rintro u6 w6 hmut
    obtain ⟨gs', hR', hf'⟩ := hmut.is
    have hx6 := hmut.ext
    have hl6 := hx6.size
    have hb56 := hb55.ext hx6 hn5
    have hb36 := hb35.ext hx6 hn3
    have hF6 := hFlt.ext hx6 (fun b hb => hP.dis b hb.1)
    have hA6 : ∀ b, A b ∧ b < w.heap.size → b ∉ foot p m gs := fun b hb h => by have := hP.new b h; have := hb.2; omega
    have hat6 := (hat.ex hx05).ext hx6 hA6
    have hrd6 := hrd5.ext hx6 (fun h => by have := hP.new b h; have := hbA.2; omega)
    have hlenr := hg.len
    have hdo := fun (w7 : World) (hx : Ex w6 w7) => r23_Do (A0 := fun b => A b ∧ b < w.heap.size) (vb := vb) (vp := vp) ⟨#[99]⟩ (hF6.ex hx) (by omega) hg.nd (hg.small (by omega)) a (hat6.boxes.ex hx) (hat6.parents.ex hx) hatok.b hat.cap k5 hatok.to_
    have eM : ∀ M : RegD, M.carrier = ⟨#[99]⟩ → (⟨⟨#[99]⟩, M.l⟩ : RegD) = M := fun M h => by cases M; simp at h; simp [h]
    rw [eM _ ec] at hdo
    (repeat (first | refine lw_nil ?_ | refine qw_then ?_))
    refine cw_cut_any (α := Value) (fun z => [(0, .slice (some ⟨b, o, none⟩) l.length cap), (3, .pointer (some ⟨b3, 0, none⟩)), (4, .pointer (some ⟨p, 0, none⟩)), (5, .pointer (some ⟨b5, 0, none⟩)), (6, .int .i64 (i : Nat))])
      (fun z w' => ∃ w8, Ex w6 w8 ∧ Ext (· = b5) w8 w' ∧ ∃ fgs', FRep (fun b => (A' b ∧ b < w5.heap.size) ∨ w6.heap.size ≤ b) w8 z (runA regC (keptA (l.take (i + 1)))).l fgs' ∧ Blk w' b5 (encR ⟨#[99]⟩ z) 28) ?_ ?_
    · refine cw_draw hM (fun w' => Ex w6 w') [9] rfl rfl (by repeat with_reducible (first | refine nop_then ?_ | refine nop_block ?_ | exact nop_body)) (fun w7 hx7 _ => ⟨hx7, ?_⟩)
      refine rw_take 0 rfl rfl (by kernel_rfl) (by kernel_rfl) (by kernel_rfl) (by kernel_rfl) rfl (yo_load_agg hT rfl rfl rfl (vs := encR ⟨#[99]⟩ vL) (fun w' hS => (hb56.ex hS).rd 0 2)) ?_
      (refine rw_takeP 1 rfl rfl (by kernel_rfl) (by kernel_rfl) (by kernel_rfl) (by kernel_rfl) rfl (yo_pure hT rfl) ?_; refine rw_takeP 2 rfl rfl (by kernel_rfl) (by kernel_rfl) (by kernel_rfl) (by kernel_rfl) rfl (yo_pure hT rfl) ?_)
      refine rw_takeP 3 rfl rfl (by kernel_rfl) (by kernel_rfl) (by kernel_rfl) (by kernel_rfl) rfl (yo_index hT rfl rfl rfl i rfl hlt) ?_
      refine rw_take 4 rfl rfl (by kernel_rfl) (by kernel_rfl) (by kernel_rfl) (by kernel_rfl) rfl (yo_load_agg hT rfl rfl rfl (vs := encAct a vb vp) (fun w' hS => hrd6.ex hS)) ?_
      refine rw_one 5 rfl (by kernel_rfl) rfl (fun hcl => ?_)
      refine lw_call hT rfl rfl (hdo w7 hx7) ?_
      rintro _ w8 ⟨⟨vL', fgs', rfl, hF'⟩, hx8⟩
      have hx68 := hx7.trans hx8
      have hl7 := hx7.size
      (repeat (refine lw_nil ?_))
      refine qw_rw (by repeat with_reducible (first | refine nop_then ?_ | refine nop_block ?_ | exact nop_body)) hcl (fun _ => hx68) ?_
      (refine rw_takeP 6 rfl rfl (by kernel_rfl) (by kernel_rfl) (by kernel_rfl) (by kernel_rfl) rfl (yo_pure hT rfl) ?_; refine rw_takeP 7 rfl rfl (by kernel_rfl) (by kernel_rfl) (by kernel_rfl) (by kernel_rfl) rfl (yo_pure hT rfl) ?_; refine rw_takeP 8 rfl rfl (by kernel_rfl) (by kernel_rfl) (by kernel_rfl) (by kernel_rfl) rfl (yo_pure hT rfl) ?_)
      refine rw_one 9 rfl (by kernel_rfl) rfl (fun hcl => ?_)
      refine lw_store_agg hT rfl rfl rfl rfl (by intro v hv; simp [encR] at hv; rcases hv with rfl | rfl <;> first | rfl | exact Sl.one hF'.sl) (hb56.ex hx68) (show (2 : Nat) ≤ 2 by decide) ?_
      intro w9 hb59 hx9 hs9
      (repeat (refine lw_nil ?_))
      refine qw_rw (by repeat with_reducible (first | refine nop_then ?_ | refine nop_block ?_ | exact nop_body)) hcl (fun h => absurd h (by decide)) ?_
      refine rw_done (by kernel_rfl) ?_
      exact qw_cut vL' (by repeat (first | exact trivial | refine ⟨rfl, ?_⟩)) ⟨w8, hx68, hx9, fgs', by rw [hrun]; exact hF'.weaken fun b hb => by (rcases hb with hb | hb; exact .inl hb; exact .inr (by omega)), hb59⟩
    · rintro vL' w9 ⟨w8, hx68, hx9, fgs', hF', hb59⟩
      have hl68 := hx68.size
      have hn5' : b5 ∉ foot p m gs' := fun h => by
        rcases hf' _ h with h | h
        · exact hn5 h
        · omega
      have hn3' : b3 ∉ foot p m gs' := fun h => by
        rcases hf' _ h with h | h
        · exact hn3 h
        · omega
      have hx09 : Ex w w9 := ((hx05.up_new hx6 (fun x hx => hP.new x hx)).trans hx68).up_new hx9 (fun i h => by omega)
      (repeat (first | (refine lw_add rfl rfl ?_ ?_ ?_; iterate 2 omega) | refine lw_pure hT rfl ?_ | refine lw_nil ?_ | refine cw_region ?_ | refine qw_then ?_ | refine qw_block ?_))
      refine qw_round (i + 1) (by repeat (first | exact trivial | refine ⟨rfl, ?_⟩)) ⟨hlt, hx09, by have := hx9.size; omega, ⟨cs3, hcs3, (hb36.ex hx68).ext hx9 (by omega)⟩, gs', vL', fgs', _, ⟨?_, ?_, hF'.ext hx9 (fun b hb e => ?_), ?_, ?_⟩, hb59, ⟨hn5', hn3'⟩, ?_, ?_⟩ (by omega)
      · rw [hrun]; exact (hR'.ex hx68).frame hx9 (fun b hb e => hn5' (e ▸ hb))
      · intro b hb
        rcases hf' b hb with h | h
        · exact hP.new b h
        · omega
      · rcases hb with hb | hb
        · exact hA5 (e ▸ hb.1)
        · omega
      · rintro b (hb | hb) h <;> rcases hf' b h with h | h
        · exact hP.dis b hb.1 h
        · have := hb.2; omega
        · have := hfl5 b h; omega
        · have := hR'.foot_lt (b := b) (by assumption); omega
      · rintro b (hb | hb)
        · exact hP.newA b hb.1
        · omega
      · rintro (hb | hb)
        · exact hA5 hb.1
        · omega
      · rintro (hb | hb)
        · exact hA3 hb.1
        · omega
  · have : i = l.length := by have := of_decide_eq_false h; omega
    subst this
    rw [List.take_length] at hP
    (repeat (first | refine cw_seq ?_ | refine qw_then ?_ | refine cw_exit ?_ | refine qw_block_exit ?_ | refine qw_then_exit ?_))
    refine cw_draw hM (fun w' => Ex w5 w') [3] rfl rfl (by repeat with_reducible (first | refine nop_then ?_ | refine nop_block ?_ | exact nop_body)) (fun w6 hx6 _ => ⟨hx6, ?_⟩)
    (refine rw_takeP 0 rfl rfl (by kernel_rfl) (by kernel_rfl) (by kernel_rfl) (by kernel_rfl) rfl (yo_pure hT rfl) ?_)
    refine rw_take 1 rfl rfl (by kernel_rfl) (by kernel_rfl) (by kernel_rfl) (by kernel_rfl) rfl (yo_load_agg hT rfl rfl rfl (vs := encR ⟨#[99]⟩ vL) (fun w' hS => (hb55.ex hS).rd 0 2)) ?_
    (refine rw_takeP 2 rfl rfl (by kernel_rfl) (by kernel_rfl) (by kernel_rfl) (by kernel_rfl) rfl (yo_pure hT rfl) ?_)
    refine rw_one 3 rfl (by kernel_rfl) rfl (fun hcl => ?_)
    refine lw_store_agg hT rfl rfl rfl rfl (by intro v hv; simp [encR] at hv; rcases hv with rfl | rfl <;> first | rfl | exact Sl.one hP.frep.sl) (hb35.ex hx6) (show (0 : Nat) + 2 ≤ cs3.length by rw [hcs3]; decide) ?_
    intro w7 hb37 hx7 hs7
    (repeat (refine lw_nil ?_))
    refine qw_rw (by repeat with_reducible (first | refine nop_then ?_ | refine nop_block ?_ | exact nop_body)) hcl (fun h => absurd h (by decide)) ?_
    refine rw_done (by kernel_rfl) ?_
    (repeat (first | refine qw_then ?_ | refine cw_ret ?_))
    match cs3, hcs3 with
    | [c1, c2], _ =>
      replace hb37 : Blk w7 b3 (encR ⟨#[99]⟩ vL) 28 := hb37
      exact qw_ret_tmp_cell hT rfl rfl rfl rfl rfl (vs := encR ⟨#[99]⟩ vL) (hb37.rd 0 2) ⟨⟨p, m, gs, vL, fgs, A', rfl, (hP.rep.ex hx6).frame hx7 (fun b hb e => hn3 (e ▸ hb)), hP.new, (hP.frep.ex hx6).ext hx7 (fun b hb e => hA3 (e ▸ hb)), hP.dis, hP.newA⟩, (hx05.trans hx6).up_new hx7 (fun i h => by omega)⟩
end Go.Proofs.YtnglkhnfmbnfeaaGreat
namespace Go.Proofs.YtnglkhnfmbnfeaaGreat
open Go Go.SK
def encS (a : SActD) (vp vn : Value) : List Value := [.int .u8 a.kind, .string a.bill, .string a.by_, .string a.number, .string a.shipper, .string a.frm, vp, vn, .int .i64 a.day]
def PCap (A : Nat → Prop) (w : World) (v : Value) (ps : List (List ByteArray)) : Prop := ∃ p cap, v = .slice p ps.length cap ∧ ∀ i, i < ps.length → ∃ b o a n c, p = some ⟨b, o, none⟩ ∧ A b ∧ Rd w b (o + i * 1) [.slice a n c] ∧ n ≤ c
theorem PCap.ext {A F : Nat → Prop} {w w' : World} {v : Value} {ps : List (List ByteArray)} (h : PCap A w v ps) (hx : Ext F w w') (hn : ∀ b, A b → ¬ F b) : PCap A w' v ps := by
  obtain ⟨p, cap, h1, h2⟩ := h
  refine ⟨p, cap, h1, fun i hi => ?_⟩
  obtain ⟨b, o, a, n, c, e1, e2, e3, e4⟩ := h2 i hi
  exact ⟨b, o, a, n, c, e1, e2, e3.ext hx (hn b e2), e4⟩
theorem SlsAt.lt {A : Nat → Prop} {w : World} {v : Value} {ps : List (List ByteArray)} (h : SlsAt A w v ps) : SlsAt (fun b => A b ∧ b < w.heap.size) w v ps := by
  obtain ⟨p, cap, h1, h2⟩ := h.is
  refine ⟨⟨p, cap, h1, fun i hi => ?_⟩, h.small, h.zero⟩
  obtain ⟨b, o, u, e1, e2, e3, e4⟩ := h2 i hi
  exact ⟨b, o, u, e1, ⟨e2, rd_lt e3⟩, e3, e4.lt (by decide)⟩
theorem PCap.lt {A : Nat → Prop} {w : World} {v : Value} {ps : List (List ByteArray)} (h : PCap A w v ps) : PCap (fun b => A b ∧ b < w.heap.size) w v ps := by
  obtain ⟨p, cap, h1, h2⟩ := h
  refine ⟨p, cap, h1, fun i hi => ?_⟩
  obtain ⟨b, o, a, n, c, e1, e2, e3, e4⟩ := h2 i hi
  exact ⟨b, o, a, n, c, e1, ⟨e2, rd_lt e3⟩, e3, e4⟩
theorem SlsAt.any {A : Nat → Prop} {w : World} {v : Value} {ps : List (List ByteArray)} (h : SlsAt A w v ps) : SlsAt (fun _ => True) w v ps := by
  obtain ⟨p, cap, h1, h2⟩ := h.is
  refine ⟨⟨p, cap, h1, fun i hi => ?_⟩, h.small, h.zero⟩
  obtain ⟨b, o, u, e1, e2, e3, e4⟩ := h2 i hi
  exact ⟨b, o, u, e1, trivial, e3, e4.weaken fun _ _ => trivial⟩
theorem PCap.any {A : Nat → Prop} {w : World} {v : Value} {ps : List (List ByteArray)} (h : PCap A w v ps) : PCap (fun _ => True) w v ps := by
  obtain ⟨p, cap, h1, h2⟩ := h
  refine ⟨p, cap, h1, fun i hi => ?_⟩
  obtain ⟨b, o, a, n, c, e1, e2, e3, e4⟩ := h2 i hi
  exact ⟨b, o, a, n, c, e1, trivial, e3, e4⟩
structure SActAt (A : Nat → Prop) (w : World) (a : SActD) (vp vn : Value) : Prop where
  parts : SlsAt A w vp a.parts
  cap : PCap A w vp a.parts
  names : SlS A w vn a.names
  ncap : ∀ p n c, vn = .slice p n c → n ≤ c
  ok : a.Ok
theorem SActAt.ext {A F : Nat → Prop} {w w' : World} {a : SActD} {vp vn : Value} (h : SActAt A w a vp vn) (hx : Ext F w w') (hn : ∀ b, A b → ¬ F b) : SActAt A w' a vp vn := ⟨h.parts.ext hx hn, h.cap.ext hx hn, h.names.ext hx hn, h.ncap, h.ok⟩
theorem SActAt.ex {A : Nat → Prop} {w w' : World} {a : SActD} {vp vn : Value} (h : SActAt A w a vp vn) (hx : Ex w w') : SActAt A w' a vp vn := h.ext hx fun _ _ f => f
theorem SActAt.lt {A : Nat → Prop} {w : World} {a : SActD} {vp vn : Value} (h : SActAt A w a vp vn) : SActAt (fun b => A b ∧ b < w.heap.size) w a vp vn := ⟨h.parts.lt, h.cap.lt, h.names.lt (by decide), h.ncap, h.ok⟩
structure SActsAt (A : Nat → Prop) (w : World) (v : Value) (l : List SActD) : Prop where
  is : ∃ p cap, v = .slice p l.length cap ∧ l.length ≤ maxLen ∧ (∀ i (hi : i < l.length), ∃ b o vp vn, p = some ⟨b, o, none⟩ ∧ A b ∧ Rd w b (o + i * 9) (encS l[i] vp vn) ∧ SActAt A w l[i] vp vn)
theorem SActsAt.ext {A F : Nat → Prop} {w w' : World} {v : Value} {l : List SActD} (h : SActsAt A w v l) (hx : Ext F w w') (hn : ∀ b, A b → ¬ F b) : SActsAt A w' v l := by
  obtain ⟨p, cap, h1, h2, h3⟩ := h.is
  refine ⟨p, cap, h1, h2, fun i hi => ?_⟩
  obtain ⟨b, o, vp, vn, h4, h5, h6, h7⟩ := h3 i hi
  exact ⟨b, o, vp, vn, h4, h5, h6.ext hx (hn b h5), h7.ext hx hn⟩
theorem SActsAt.ex {A : Nat → Prop} {w w' : World} {v : Value} {l : List SActD} (h : SActsAt A w v l) (hx : Ex w w') : SActsAt A w' v l := h.ext hx fun _ _ f => f
theorem SActsAt.lt {A : Nat → Prop} {w : World} {v : Value} {l : List SActD} (h : SActsAt A w v l) : SActsAt (fun b => A b ∧ b < w.heap.size) w v l := by
  obtain ⟨p, cap, h1, h2, h3⟩ := h.is
  refine ⟨p, cap, h1, h2, fun i hi => ?_⟩
  obtain ⟨b, o, vp, vn, h4, h5, h6, h7⟩ := h3 i hi
  exact ⟨b, o, vp, vn, h4, ⟨h5, rd_lt h6⟩, h6, h7.lt⟩
theorem SActsAt.ok {A : Nat → Prop} {w : World} {v : Value} {l : List SActD} (h : SActsAt A w v l) : ∀ a ∈ l, a.Ok := by
  obtain ⟨p, cap, _, _, h3⟩ := h.is
  intro a ha
  obtain ⟨i, hi, rfl⟩ := List.getElem_of_mem ha
  obtain ⟨_, _, _, _, _, _, _, h7⟩ := h3 i hi
  exact h7.ok
def FewA (a : SActD) : Prop := a.parts.length ≤ 70 ∧ a.names.length ≤ 70 ∧ ∀ p ∈ a.parts, p.length ≤ 70
def FewS (l : List SActD) : Prop := l.length ≤ 12 ∧ ∀ a ∈ l, FewA a
set_option maxHeartbeats 4000000 in
theorem l24_few {A : Nat → Prop} {w : World} {v : Value} {l : List SActD} (hA : SActsAt A w v l) : Ret Tryz.prog 19 [v] w fun u w' => (∃ b, u = .bool b ∧ (b = true → FewS l)) ∧ Ex w w' := by
  obtain ⟨p, cap, rfl, hm, hr⟩ := hA.is
  unfold maxLen at hm
  have no : ∀ w', Ex w w' → (∃ b, Value.bool false = .bool b ∧ (b = true → FewS l)) ∧ Ex w w' := fun w' h => ⟨⟨false, rfl, fun h => by cases h⟩, h⟩
  refine ret_of Tryz.func19 Tryz.ntmps19 rfl rfl rfl ?_
  (repeat (first | refine lw_pure hT rfl ?_ | refine lw_nil ?_ | refine cw_seq ?_ | refine cw_region ?_ | refine qw_then ?_ | refine cw_block ?_))
  refine cw_loop (fun i : Nat => [(0, .slice p l.length cap), (3, .int .i64 (i : Nat))]) (fun i w' => Ex w w' ∧ i ≤ l.length ∧ ∀ j (hj : j < l.length), j < i → FewA l[j]) (fun i => l.length - i) 0 (by repeat (first | exact trivial | refine ⟨rfl, ?_⟩)) ⟨Ext.refl _ _, Nat.zero_le _, fun j _ hj => by omega⟩ ?_
  rintro i w1 ⟨hx1, hi, hb⟩
  (repeat (first | refine lw_pure hT rfl ?_ | refine lw_nil ?_ | refine cw_seq ?_ | refine cw_region ?_ | refine qw_then ?_))
  refine cw_cond rfl (fun h => ?_) (fun h => ?_)
  · have hlt : i < l.length := by simp at h; omega
    obtain ⟨b, o, vp, vn, rfl, _, hrd, hat⟩ := hr i hlt
    have hgoal : FewA l[i] → ∀ j (hj : j < l.length), j < i + 1 → FewA l[j] := fun h j hj hji => by
      by_cases e : j = i
      · subst e; exact h
      · exact hb j hj (by omega)
    generalize l[i] = a at hrd hat hgoal
    obtain ⟨pp, cp, rfl, hprow⟩ := hat.parts.is
    have hpm := hat.parts.small
    have hnm := hat.names.small
    obtain ⟨pn, cn, rfl, _, _⟩ := hat.names.is
    simp only [List.length_map] at *
    unfold maxLen at hpm hnm
    have hrd1 := hrd.ex hx1
    have c6 := hrd1 6 _ (show (encS a (.slice pp a.parts.length cp) (.slice pn a.names.length cn))[6]? = some (.slice pp a.parts.length cp) from rfl)
    have c7 := hrd1 7 _ (show (encS a (.slice pp a.parts.length cp) (.slice pn a.names.length cn))[7]? = some (.slice pn a.names.length cn) from rfl)
    (repeat (first | refine lw_pure hT rfl ?_ | refine cw_seq ?_ | refine cw_region ?_ | refine qw_then ?_ | refine cw_skip ?_ | refine cw_block ?_))
    refine lw_index hT rfl rfl rfl i rfl hlt ?_
    (repeat (refine lw_pure hT rfl ?_))
    refine lw_load hT rfl rfl (v := .slice pp a.parts.length cp) c6 ?_
    (repeat (refine lw_pure hT rfl ?_))
    refine lw_guard rfl (fun h1 => ?_) (fun h1 => ?_)
    · (repeat (first | refine lw_pure hT rfl ?_ | refine lw_nil ?_ | refine cw_seq ?_ | refine cw_region ?_ | refine qw_then ?_ | refine cw_ret ?_ | refine qw_then_ret ?_ | (refine lw_goff_t rfl ?_ ?_; focus with_reducible (first | rfl | exact Bool.not_false | exact Bool.not_true)) | refine qw_block_ret ?_ | (refine cw_cond_t rfl ?_ ?_; focus with_reducible (first | rfl | exact Bool.not_false | exact Bool.not_true))))
      exact qw_ret rfl (no _ hx1)
    have h1 : a.parts.length ≤ 70 := by have := of_decide_eq_false h1; omega
    (repeat (first | refine lw_pure hT rfl ?_ | (refine lw_gon_f rfl ?_ ?_; focus with_reducible (first | rfl | exact Bool.not_false | exact Bool.not_true))))
    refine lw_index hT rfl rfl rfl i rfl hlt ?_
    (repeat (first | refine lw_pure hT rfl ?_ | (refine lw_gon_f rfl ?_ ?_; focus with_reducible (first | rfl | exact Bool.not_false | exact Bool.not_true))))
    refine lw_load hT rfl rfl (v := .slice pn a.names.length cn) c7 ?_
    (repeat (first | refine lw_pure hT rfl ?_ | refine lw_nil ?_ | refine qw_then ?_ | (refine lw_gon_f rfl ?_ ?_; focus with_reducible (first | rfl | exact Bool.not_false | exact Bool.not_true))))
    refine cw_cond rfl (fun h2 => ?_) (fun h2 => ?_)
    · (repeat (first | refine lw_pure hT rfl ?_ | refine lw_nil ?_ | refine cw_seq ?_ | refine cw_region ?_ | refine qw_then ?_ | refine cw_ret ?_ | refine qw_then_ret ?_ | refine qw_block_ret ?_))
      exact qw_ret rfl (no _ hx1)
    have h2 : a.names.length ≤ 70 := by have := of_decide_eq_false h2; omega
    (repeat (first | refine lw_pure hT rfl ?_ | refine lw_nil ?_ | refine cw_seq ?_ | refine cw_region ?_ | refine qw_then ?_ | refine cw_skip ?_ | refine cw_block ?_))
    refine cw_loop (fun j : Nat => [(0, .slice (some ⟨b, o, none⟩) l.length cap), (3, .int .i64 (i : Nat)), (4, .int .i64 (j : Nat))]) (fun j w' => w' = w1 ∧ j ≤ a.parts.length ∧ ∀ q (hq : q < a.parts.length), q < j → a.parts[q].length ≤ 70) (fun j => a.parts.length - j) 0 (by repeat (first | exact trivial | refine ⟨rfl, ?_⟩)) ⟨rfl, Nat.zero_le _, fun q _ hq => by omega⟩ ?_
    rintro j w2 ⟨rfl, hj, hq⟩
    (repeat (first | refine lw_pure hT rfl ?_ | refine cw_seq ?_ | refine cw_region ?_))
    refine lw_index hT rfl rfl rfl i rfl hlt ?_
    (repeat (refine lw_pure hT rfl ?_))
    refine lw_load hT rfl rfl (v := .slice pp a.parts.length cp) c6 ?_
    (repeat (first | refine lw_pure hT rfl ?_ | refine lw_nil ?_ | refine qw_then ?_))
    refine cw_cond rfl (fun h => ?_) (fun h => ?_)
    · have hjl : j < a.parts.length := by have := of_decide_eq_true h; omega
      obtain ⟨bp, op, u, rfl, _, hrdp, hu⟩ := hprow j hjl
      have hum := hu.small
      obtain ⟨au, cu, rfl, _⟩ := hu.is
      simp only [List.length_map] at *
      unfold maxLen at hum
      (repeat (first | refine lw_pure hT rfl ?_ | refine cw_seq ?_ | refine cw_region ?_ | refine qw_then ?_ | refine cw_skip ?_ | refine cw_block ?_))
      refine lw_index hT rfl rfl rfl i rfl hlt ?_
      (repeat (refine lw_pure hT rfl ?_))
      refine lw_load hT rfl rfl (v := .slice (some ⟨bp, op, none⟩) a.parts.length cp) c6 ?_
      (repeat (refine lw_pure hT rfl ?_))
      refine lw_index hT rfl rfl rfl j rfl hjl ?_
      skip
      refine lw_load hT rfl rfl (v := .slice au a.parts[j].length cu) ((hrdp.ex hx1) 0 _ rfl) ?_
      (repeat (first | refine lw_pure hT rfl ?_ | refine lw_nil ?_ | refine qw_then ?_))
      refine cw_cond rfl (fun h3 => ?_) (fun h3 => ?_)
      · (repeat (first | refine lw_pure hT rfl ?_ | refine lw_nil ?_ | refine cw_seq ?_ | refine cw_region ?_ | refine qw_then ?_ | refine cw_ret ?_ | refine qw_then_ret ?_ | refine qw_block_ret ?_))
        exact qw_ret rfl (no _ hx1)
      have h3 : a.parts[j].length ≤ 70 := by have := of_decide_eq_false h3; omega
      (repeat (first | (refine lw_add rfl rfl ?_ ?_ ?_; iterate 2 omega) | refine lw_pure hT rfl ?_ | refine lw_nil ?_ | refine cw_region ?_ | refine qw_then ?_ | refine cw_skip ?_ | refine qw_block ?_))
      refine qw_round (j + 1) (by repeat (first | exact trivial | refine ⟨rfl, ?_⟩)) ⟨rfl, hjl, fun q hql hqj => ?_⟩ (by omega)
      by_cases e : q = j
      · subst e; exact h3
      · exact hq q hql (by omega)
    · have hjl : j = a.parts.length := by have := of_decide_eq_false h; omega
      subst hjl
      (repeat (first | (refine lw_add rfl rfl ?_ ?_ ?_; iterate 2 omega) | refine lw_pure hT rfl ?_ | refine lw_nil ?_ | refine cw_region ?_ | refine qw_then ?_ | refine cw_exit ?_ | refine qw_block ?_ | refine qw_block_exit ?_ | refine qw_then_exit ?_))
      exact qw_round (i + 1) (by repeat (first | exact trivial | refine ⟨rfl, ?_⟩)) ⟨hx1, hlt, hgoal ⟨h1, h2, fun q hq' => by obtain ⟨z, hz, rfl⟩ := List.getElem_of_mem hq'; exact hq z hz hz⟩⟩ (by omega)
  · have : i = l.length := by simp at h; omega
    subst this
    (repeat (first | refine lw_pure hT rfl ?_ | refine lw_nil ?_ | refine cw_seq ?_ | refine cw_region ?_ | refine qw_then ?_ | refine cw_ret ?_ | refine cw_exit ?_ | refine qw_block_exit ?_ | refine qw_then_exit ?_))
    refine qw_ret rfl ⟨⟨_, rfl, fun h => ⟨by have := of_decide_eq_true h; omega, fun a ha => ?_⟩⟩, hx1⟩
    obtain ⟨j, hj, rfl⟩ := List.getElem_of_mem ha
    exact hb j hj hj
set_option maxHeartbeats 4000000 in
theorem l24_do {A : Nat → Prop} {w : World} {p m k : Nat} {r : RegD} {gs : List GhostE} (hR : Rep w p r m gs) (hG : Good k r) (hk : k + 65 ≤ 1000000) {a : SActD} {vp vn : Value} (hat : SActAt A w a vp vn) (hf : FewA a) :
    Ret Tryz.prog 20 [.pointer (some ⟨p, 0, none⟩), .agg ⟨encS a vp vn⟩] w fun u w' => u = .int .i64 (callC r (callD r a)) ∧ Mut w p m gs (callR r (callD r a)) w' := by
  have hsize := hat.parts.small
  have o6 : vp.oneCell' = true := by obtain ⟨p, c, e, _⟩ := hat.parts.is; rw [e]; rfl
  have o7 : vn.oneCell' = true := Sl.one hat.names
  refine ret_of Tryz.func20 Tryz.ntmps20 rfl rfl rfl ?_
  (repeat (first | refine cw_seq ?_ | refine cw_region ?_))
  refine lw_box rfl ?_
  intro b5 w1 hbb5 hb5 hx1 hs1
  replace hb5 : Blk w1 b5 (encS a vp vn) 45 := hb5
  have hR1 := hR.ex hx1
  have hat1 := hat.ex hx1
  have fin : ∀ {c : Int × List ActD} w8, callD r a = c → Mut w1 p m gs (callR r c) w8 → Value.int .i64 (callC r c) = .int .i64 (callC r (callD r a)) ∧ Mut w p m gs (callR r (callD r a)) w8 := fun {c} w8 e hm => by rw [e]; exact ⟨rfl, Mut.step (fun b hb => .inl hb) (Ext.of_ex hx1) hm⟩
  (repeat (first | refine lw_pure hT rfl ?_ | refine lw_nil ?_ | refine cw_seq ?_ | refine cw_region ?_ | refine qw_then ?_))
  refine lw_load hT rfl rfl (v := .int .u8 a.kind) (hb5.cell 0) ?_
  skip
  refine lw_rem8 rfl rfl (by decide) ?_
  (repeat (first | refine lw_pure hT rfl ?_ | refine lw_nil ?_ | refine cw_seq ?_ | refine cw_region ?_ | refine qw_then ?_ | refine cw_block ?_))
  refine cw_cond rfl (fun h0 => ?_) (fun h0 => ?_)
  · have h0 : a.kind.tmod 3 = 0 := by simpa using h0
    have e : callD r a = splitC r a.bill a.by_ a.parts a.names a.day := by unfold callD; rw [if_pos h0]
    (repeat (first | refine lw_pure hT rfl ?_ | refine cw_seq ?_ | refine cw_region ?_))
    refine lw_load hT rfl rfl (v := .string a.bill) (hb5.cell 1) ?_
    (repeat (refine lw_pure hT rfl ?_))
    refine lw_load hT rfl rfl (v := .string a.by_) (hb5.cell 2) ?_
    (repeat (refine lw_pure hT rfl ?_))
    refine lw_load hT rfl rfl (v := vp) (hb5.cell 6) ?_
    (repeat (refine lw_pure hT rfl ?_))
    refine lw_load hT rfl rfl (v := vn) (hb5.cell 7) ?_
    (repeat (refine lw_pure hT rfl ?_))
    refine lw_load hT rfl rfl (v := .int .i64 a.day) (hb5.cell 8) ?_
    skip
    refine lw_call hT rfl rfl (spl_Split hR1 hG hk a.bill a.by_ a.day hat1.parts hat1.names hat.ok.bill hat.ok.by_ hat.ok.names hat.ok.parts (fun q hq => by have := hf.2.2 q hq; omega) (by have := hf.1; omega)) ?_
    rintro _ w8 ⟨rfl, hm⟩
    (repeat (first | refine lw_pure hT rfl ?_ | refine lw_nil ?_ | refine qw_then ?_ | refine cw_ret ?_ | refine qw_then_ret ?_ | refine qw_block_ret ?_))
    exact qw_ret rfl (fin w8 e hm)
  have h0 : ¬ a.kind.tmod 3 = 0 := by simpa using h0
  (repeat (first | refine lw_pure hT rfl ?_ | refine lw_nil ?_ | refine cw_seq ?_ | refine cw_region ?_ | refine qw_then ?_))
  refine cw_cond rfl (fun h1 => ?_) (fun h1 => ?_)
  · have h1 : a.kind.tmod 3 = 1 := by simpa using h1
    have e : callD r a = joinC r a.names a.by_ a.number a.day := by unfold callD; rw [if_neg h0, if_pos h1]
    (repeat (first | refine lw_pure hT rfl ?_ | refine cw_seq ?_ | refine cw_region ?_))
    refine lw_load hT rfl rfl (v := vn) (hb5.cell 7) ?_
    (repeat (refine lw_pure hT rfl ?_))
    refine lw_load hT rfl rfl (v := .string a.by_) (hb5.cell 2) ?_
    (repeat (refine lw_pure hT rfl ?_))
    refine lw_load hT rfl rfl (v := .string a.number) (hb5.cell 3) ?_
    (repeat (refine lw_pure hT rfl ?_))
    refine lw_load hT rfl rfl (v := .int .i64 a.day) (hb5.cell 8) ?_
    skip
    refine lw_call hT rfl rfl (spl_Join hR1 hG hk a.by_ a.number a.day hat1.names hat.ok.names hat.ok.by_ hat.ok.number) ?_
    rintro _ w8 ⟨rfl, hm⟩
    (repeat (first | refine lw_pure hT rfl ?_ | refine lw_nil ?_ | refine qw_then ?_ | refine cw_ret ?_ | refine qw_then_ret ?_ | refine qw_block_ret ?_))
    exact qw_ret rfl (fin w8 e hm)
  have h1 : ¬ a.kind.tmod 3 = 1 := by simpa using h1
  have e : callD r a = switchC r a.bill a.by_ a.number a.shipper a.frm a.day := by unfold callD; rw [if_neg h0, if_neg h1]
  (repeat (first | refine lw_pure hT rfl ?_ | refine cw_seq ?_ | refine cw_region ?_ | refine qw_then ?_ | refine cw_skip ?_ | refine qw_block ?_))
  refine lw_load hT rfl rfl (v := .string a.bill) (hb5.cell 1) ?_
  (repeat (refine lw_pure hT rfl ?_))
  refine lw_load hT rfl rfl (v := .string a.by_) (hb5.cell 2) ?_
  (repeat (refine lw_pure hT rfl ?_))
  refine lw_load hT rfl rfl (v := .string a.number) (hb5.cell 3) ?_
  (repeat (refine lw_pure hT rfl ?_))
  refine lw_load hT rfl rfl (v := .string a.shipper) (hb5.cell 4) ?_
  (repeat (refine lw_pure hT rfl ?_))
  refine lw_load hT rfl rfl (v := .string a.frm) (hb5.cell 5) ?_
  (repeat (refine lw_pure hT rfl ?_))
  refine lw_load hT rfl rfl (v := .int .i64 a.day) (hb5.cell 8) ?_
  skip
  refine lw_call hT rfl rfl (spl_Switch hR1 hG (by omega) a.bill a.by_ a.number a.shipper a.frm a.day hat.ok.bill hat.ok.by_ hat.ok.number hat.ok.shipper hat.ok.frm) ?_
  rintro _ w8 ⟨rfl, hm⟩
  (repeat (first | refine lw_pure hT rfl ?_ | refine lw_nil ?_ | refine qw_then ?_ | refine cw_ret ?_))
  exact qw_ret rfl (fin w8 e hm)
end Go.Proofs.YtnglkhnfmbnfeaaGreat
namespace Go.Proofs.YtnglkhnfmbnfeaaGreat
open Go Go.SK
theorem once_nd : ∀ {l : List ByteArray}, onceB l = true → l.Nodup
  | [], _ => List.nodup_nil
  | x :: l, h => by
    simp only [onceB, Bool.and_eq_true, Bool.not_eq_true', List.any_eq_false, decide_eq_true_eq] at h
    exact List.nodup_cons.2 ⟨fun hm => h.1 x hm rfl, once_nd h.2⟩
end Go.Proofs.YtnglkhnfmbnfeaaGreat
namespace Go.Proofs.YtnglkhnfmbnfeaaGreat
open Go Go.SK
theorem Mut.new {w0 w w' : World} {p m : Nat} {gs : List GhostE} {r' : RegD} (h : Mut w p m gs r' w') (hx : Ex w0 w) (hn : ∀ b ∈ foot p m gs, w0.heap.size ≤ b) : Ex w0 w' := hx.up_new h.ext hn
theorem foot_new {w0 w : World} {p m : Nat} {gs gs' : List GhostE} (hx : Ex w0 w) (hn : ∀ b ∈ foot p m gs, w0.heap.size ≤ b) (h : ∀ b ∈ foot p m gs', b ∈ foot p m gs ∨ w.heap.size ≤ b) : ∀ b ∈ foot p m gs', w0.heap.size ≤ b := fun b hb => by
  rcases h b hb with h | h
  · exact hn b h
  · have := hx.size; omega
theorem sls_two {w : World} {b1 b2 b3 : Nat} {x y : ByteArray} {e : Nat} (h1 : Blk w b1 [.string x] 9) (h2 : Blk w b2 [.string y] 9) (h3 : Blk w b3 [.slice (some ⟨b1, 0, none⟩) 1 1, .slice (some ⟨b2, 0, none⟩) 1 1] e) : SlsAt (fun _ => True) w (.slice (some ⟨b3, 0, none⟩) 2 2) [[x], [y]] := by
  refine ⟨⟨_, 2, rfl, fun i hi => ?_⟩, (show (2 : Nat) ≤ maxLen by decide), fun p n c h e => by cases h; cases e⟩
  match i, hi with
  | 0, _ => exact ⟨b3, 0, _, rfl, trivial, h3.rd 0 1, sls_of_blk (l := [x]) h1 (show (1 : Nat) ≤ maxLen by decide)⟩
  | 1, _ => exact ⟨b3, 0, _, rfl, trivial, h3.rd 1 1, sls_of_blk (l := [y]) h2 (show (1 : Nat) ≤ maxLen by decide)⟩
set_option maxHeartbeats 8000000 in
theorem l24_awake (w : World) : Ret Tryz.prog 10 [] w fun v w' => v = .bool true ∧ Ex w w' := by
  refine ret_of Tryz.func10 Tryz.ntmps10 rfl rfl rfl ?_
  (repeat (first | refine lw_pure hT rfl ?_ | refine lw_nil ?_ | refine cw_seq ?_ | refine cw_region ?_ | refine qw_then ?_))
  refine lw_call hT rfl rfl (reg_New w ⟨#[99]⟩) ?_
  rintro _ w1 ⟨p, m, rfl, hR, hp, hm, hx1⟩
  have n1 : ∀ b ∈ foot p m [], w.heap.size ≤ b := by
    intro b hb
    rcases foot_mem.1 hb with rfl | rfl | ⟨i, g, h1, _⟩
    · exact hp
    · exact hm
    · simp at h1
  (repeat (first | refine lw_pure hT rfl ?_ | refine lw_nil ?_ | refine cw_seq ?_ | refine cw_region ?_ | refine qw_then ?_ | (refine lw_gon_f rfl ?_ ?_; focus with_reducible (first | rfl | exact Bool.not_false | exact Bool.not_true)) | refine lw_eqp_some hT rfl rfl ?_))
  refine lw_buildSlice sl31 rfl rfl rfl ?_
  intro b2 w2 hbb2 hb2 hx2 hs2
  (repeat (refine lw_gon_f rfl ?_ ?_; focus with_reducible (first | rfl | exact Bool.not_false | exact Bool.not_true)))
  refine lw_build bt33 rfl ?_
  (repeat (refine lw_gon_f rfl ?_ ?_; focus with_reducible (first | rfl | exact Bool.not_false | exact Bool.not_true)))
  have hB : SlS (fun _ => True) w2 (.slice (some ⟨b2, 0, none⟩) 2 2) sB.boxes := sls_of_blk (l := sB.boxes) hb2 (by decide)
  refine lw_call hT rfl rfl (reg_Issue (b := sB) (vp := .slice none 0 0) (hR.ex hx2) hB (Sl.nil (fun _ => True) _ _) s_ok sa (by decide)) ?_
  rintro _ w3 ⟨rfl, hm3⟩
  obtain ⟨gs3, hR3, hf3⟩ := hm3.is
  rw [show issueC { carrier := { data := #[99] }, l := [] } sB sa = 0 from s_c0]
  replace hR3 : Rep w3 p sR0 m gs3 := hR3
  have hx03 := hm3.new (hx1.trans hx2) n1
  have n3 := foot_new (hx1.trans hx2) n1 hf3
  (repeat (first | refine lw_pure hT rfl ?_ | refine lw_nil ?_ | refine qw_then ?_ | (refine lw_gon_f rfl ?_ ?_; focus with_reducible (first | rfl | exact Bool.not_false | exact Bool.not_true))))
  refine cw_cond rfl (fun e => absurd e (by decide)) (fun _ => ?_)
  (repeat (first | refine lw_pure hT rfl ?_ | refine cw_seq ?_ | refine cw_region ?_ | refine qw_then ?_ | refine cw_skip ?_))
  refine lw_buildSlice sl31 rfl rfl rfl ?_
  intro b22 w4 hbb4 hb4 hx4 hs4
  (repeat (refine lw_pure hT rfl ?_))
  refine lw_buildSlice sl31 rfl rfl rfl ?_
  intro b24 w5 hbb5 hb5 hx5 hs5
  skip
  refine lw_buildSlice sl39 rfl rfl rfl ?_
  intro b25 w6 hbb6 hb6 hx6 hs6
  skip
  refine lw_buildSlice sl31 rfl rfl rfl ?_
  intro b26 w7 hbb7 hb7 hx7 hs7
  have hx37 := ((hx4.trans hx5).trans hx6).trans hx7
  have hp7 : SlsAt (fun _ => True) w7 (.slice (some ⟨b25, 0, none⟩) 2 2) [[sy], [sx]] := sls_two (((hb4.ex hx5).ex hx6).ex hx7) ((hb5.ex hx6).ex hx7) (hb6.ex hx7)
  have hn7 : SlS (fun _ => True) w7 (.slice (some ⟨b26, 0, none⟩) 2 2) [sn2, sn3] := sls_of_blk (l := [sn2, sn3]) hb7 (by decide)
  skip
  refine lw_call hT rfl rfl (spl_Split (hR3.ex hx37) s_good0 (by decide) sn1 sa 1 hp7 hn7 (by decide) (by decide) (by intro x hx; simp at hx; rcases hx with rfl | rfl <;> decide) (by intro q hq x hx; simp at hq; rcases hq with rfl | rfl <;> simp at hx <;> subst hx <;> decide) (by intro q hq; simp at hq; rcases hq with rfl | rfl <;> simp) (by decide)) ?_
  rintro _ w8 ⟨rfl, hm8⟩
  rw [s_calls.1]
  obtain ⟨gs8, hR8, hf8⟩ := hm8.is
  rw [s_calls.2.1] at hR8
  have hx08 := hm8.new (hx03.trans hx37) n3
  have n8 := foot_new (hx03.trans hx37) n3 hf8
  have hG1 : Good 66 sR1 := by
    have := good_steps s_good0 (l := sL1) (by
      intro a ha
      simp [sL1] at ha
      rcases ha with rfl | rfl | rfl
      · exact retiA_ok (by decide) (by decide)
      · exact issA_ok (nextB_ok s_ok (by decide) (by intro x hx; simp at hx; subst hx; decide) (by intro x hx; simp at hx; subst hx; decide)) (by decide)
      · exact issA_ok (nextB_ok s_ok (by decide) (by intro x hx; simp at hx; subst hx; decide) (by intro x hx; simp at hx; subst hx; decide)) (by decide))
    have e : stepsR sR0 sL1 = sR1 := by unfold stepsR; rw [if_pos s_c1]; rfl
    rw [e] at this
    exact this.mono (by decide)
  (repeat (first | refine lw_pure hT rfl ?_ | refine lw_nil ?_ | refine cw_seq ?_ | refine cw_region ?_ | refine qw_then ?_))
  refine lw_buildSlice sl31 rfl rfl rfl ?_
  intro b29 w9 hbb9 hb9 hx9 hs9
  have hn9 : SlS (fun _ => True) w9 (.slice (some ⟨b29, 0, none⟩) 2 2) [sn2, sn3] := sls_of_blk (l := [sn2, sn3]) hb9 (by decide)
  skip
  refine lw_call hT rfl rfl (spl_Join (hR8.ex hx9) hG1 (by decide) sa sn4 2 hn9 (by intro x hx; simp at hx; rcases hx with rfl | rfl <;> decide) (by decide) (by decide)) ?_
  rintro _ w10 ⟨rfl, hm10⟩
  rw [s_calls.2.2.1]
  obtain ⟨gs10, hR10, hf10⟩ := hm10.is
  rw [s_calls.2.2.2] at hR10
  have hx010 := hm10.new (hx08.trans hx9) n8
  have hG2 : Good 200 sR2 := by
    have := good_steps hG1 (l := sL2) (by
      intro a ha
      simp [sL2] at ha
      rcases ha with rfl | rfl | rfl
      · exact retiA_ok (by decide) (by decide)
      · exact retiA_ok (by decide) (by decide)
      · exact issA_ok (nextB_ok s_ok (by decide) (by intro x hx; simp at hx; rcases hx with rfl | rfl <;> decide) (by intro x hx; simp at hx; rcases hx with rfl | rfl <;> decide)) (by decide))
    have e : stepsR sR1 sL2 = sR2 := by unfold stepsR; rw [if_pos s_c2]; rfl
    rw [e] at this
    exact this.mono (by decide)
  (repeat (first | refine lw_pure hT rfl ?_ | refine lw_nil ?_ | refine cw_seq ?_ | refine cw_region ?_ | refine qw_then ?_))
  refine lw_call hT rfl rfl (reg_Get hR10 (hG2.small (by decide)) sn4) ?_
  rintro _ w11 ⟨hget, hx11⟩
  unfold GetR at hget
  rw [s_at4] at hget
  obtain ⟨ub, up, rfl, hub, hup⟩ := hget
  replace hub : w11.ownsRow w10.heap.size 9 1 ub [sy, sx].length ([sy, sx].map Value.string) := hub
  have o1 := own_one hub
  have o2 := own_one hup
  (repeat (refine lw_pure hT rfl ?_))
  refine lw_alloc z33 ?_
  intro b6 w12 hbb12 hb12 hx12 hs12
  skip
  refine lw_store_agg hT rfl rfl rfl rfl (encB_one (A := fun _ => True) (w := w) o1 o2) hb12 (show (9 : Nat) ≤ 9 by decide) ?_
  intro w13 hb13 hx13 hs13
  replace hb13 : Blk w13 b6 (encB sE4.bill ub up) 33 := hb13
  have hx1113 : Ex w11 w13 := hx12.up_new hx13 (fun i h => by omega)
  have hx013 := (hx010.trans hx11).trans hx1113
  have hR13 := (hR10.ex hx11).ex hx1113
  have hub13 := own_ex hub hx1113
  (repeat (first | refine lw_pure hT rfl ?_ | refine lw_nil ?_ | refine cw_seq ?_ | refine cw_region ?_ | refine qw_then ?_))
  refine lw_guard rfl (fun _ => ?_) (fun h => absurd h (by decide))
  (repeat (first | refine lw_pure hT rfl ?_ | (refine lw_gon_t rfl ?_ ?_; focus with_reducible (first | rfl | exact Bool.not_false | exact Bool.not_true))))
  refine lw_guard rfl (fun _ => ?_) (fun h => absurd h (by decide))
  (repeat (first | refine lw_pure hT rfl ?_ | (refine lw_gon_t rfl ?_ ?_; focus with_reducible (first | rfl | exact Bool.not_false | exact Bool.not_true))))
  refine lw_call hT rfl rfl (reg_State hR13 sn1) ?_
  rintro _ _ ⟨rfl, rfl⟩
  rw [s_st1]
  (repeat (first | refine lw_pure hT rfl ?_ | (refine lw_gon_t rfl ?_ ?_; focus with_reducible (first | rfl | exact Bool.not_false | exact Bool.not_true))))
  refine lw_guard rfl (fun _ => ?_) (fun h => absurd h (by decide))
  (repeat (first | refine lw_pure hT rfl ?_ | (refine lw_gon_t rfl ?_ ?_; focus with_reducible (first | rfl | exact Bool.not_false | exact Bool.not_true))))
  refine lw_load hT rfl rfl (v := ub) (hb13.cell 5) ?_
  (repeat (first | refine lw_pure hT rfl ?_ | (refine lw_gon_t rfl ?_ ?_; focus with_reducible (first | rfl | exact Bool.not_false | exact Bool.not_true))))
  refine lw_buildSlice sl31 rfl rfl rfl ?_
  intro b14 w14 hbb14 hb14 hx14 hs14
  have hs14 : SlS (fun _ => True) w14 (.slice (some ⟨b14, 0, none⟩) 2 2) [sy, sx] := sls_of_blk (l := [sy, sx]) hb14 (by decide)
  have hsu : SlS (fun _ => True) w14 ub [sy, sx] := sls_own (own_ex hub13 hx14) fun _ _ => trivial
  (repeat (refine lw_gon_t rfl ?_ ?_; focus with_reducible (first | rfl | exact Bool.not_false | exact Bool.not_true)))
  refine lw_call hT rfl rfl (r_Same w14 hsu hs14) ?_
  rintro _ w15 ⟨rfl, hx15⟩
  (repeat (refine lw_pure hT rfl ?_))
  refine lw_guard rfl (fun _ => ?_) (fun h => absurd h (by simp))
  (repeat (first | refine lw_pure hT rfl ?_ | (refine lw_gon_t rfl ?_ ?_; focus with_reducible (first | rfl | exact Bool.not_false | exact Bool.not_true))))
  refine lw_call hT rfl rfl (spl_Parents ((hR13.ex hx14).ex hx15) hG2 (by decide) (by rw [s_R2]; decide) sn4) ?_
  rintro vl w16 ⟨⟨L, hL, hown⟩, hx16⟩
  have eL : L = [sn1, sn2, sn3] := hL.eq ⟨s_rising, fun x => by rw [s_reach]; exact ⟨fun h => ⟨h, fun e => s_ne4 (e ▸ h)⟩, fun h => h.1⟩⟩
  subst eL
  (repeat (refine lw_gon_t rfl ?_ ?_; focus with_reducible (first | rfl | exact Bool.not_false | exact Bool.not_true)))
  refine lw_buildSlice sl31 rfl rfl rfl ?_
  intro b17 w17 hbb17 hb17 hx17 hs17
  have hs17 : SlS (fun _ => True) w17 (.slice (some ⟨b17, 0, none⟩) 3 3) [sn1, sn2, sn3] := sls_of_blk (l := [sn1, sn2, sn3]) hb17 (by decide)
  have hsl : SlS (fun _ => True) w17 vl [sn1, sn2, sn3] := sls_own (own_ex hown hx17) fun _ _ => trivial
  (repeat (refine lw_gon_t rfl ?_ ?_; focus with_reducible (first | rfl | exact Bool.not_false | exact Bool.not_true)))
  refine lw_call hT rfl rfl (r_Same w17 hsl hs17) ?_
  rintro _ w18 ⟨rfl, hx18⟩
  (repeat (first | refine lw_pure hT rfl ?_ | refine lw_nil ?_ | refine qw_then ?_ | refine cw_ret ?_))
  exact qw_ret rfl ⟨by simp [oneOr], ((((hx013.trans hx14).trans hx15).trans hx16).trans hx17).trans hx18⟩
end Go.Proofs.YtnglkhnfmbnfeaaGreat
namespace Go.SK
open Go
attribute [local semireducible] CW LW QW Ret Kn
section
variable {P : Program} {T : Tab} {n : Nat} {fr : Fr} {S : World → Prop} {ops : Array Oper}
theorem yo_neq_bool {d t : Nat} {a b : Bool} {x y : Operand} {t' : TypeId} {ty : TypeId} {ps : String} {af : Array Edge} (hu : P.underlying t = some .bool) (hx : ev n fr x = some (.bool a)) (hy : ev n fr y = some (.bool b)) :
    YO P ops S n fr { dst := some d, op := .binOp .neq t x y t', type := ty, pos := ps, after := af, guard := none } (.bool (!(a == b))) :=
  yo_run rfl fun a' hk w _ => by
    have hq : (Op.equal t (.bool a) (.bool b)).run P w = .ok (a == b) w := equalIn_bool 9999 hu
    simp only [execOp, ev_sound hk hx, ev_sound hk hy]
    simp [eqGuard, binOp, hq]
end
end Go.SK
namespace Go.Proofs.YtnglkhnfmbnfeaaGreat
open Go Go.SK
theorem orig_self (n : ByteArray) (q : PapD) (i : Nat) : SelfEq Tryz.prog 129 (origRow n q i) :=
  selfEq (ks := [(false, 9, 0), (false, 3, 1), (false, 3, 2), (false, 9, 3)]) (by kernel_rfl) (by kernel_rfl) (by kernel_rfl) (by kernel_rfl) (by
    have us : Tryz.prog.underlying 9 = some .string := by kernel_rfl
    have ui : Tryz.prog.underlying 3 = some (.int .i64) := by kernel_rfl
    intro k hk
    simp at hk
    rcases hk with rfl | rfl | rfl | rfl
    · exact ⟨rfl, .inl ⟨us, _, rfl⟩⟩
    · exact ⟨rfl, .inr ⟨ui, _, rfl⟩⟩
    · exact ⟨rfl, .inr ⟨ui, _, rfl⟩⟩
    · exact ⟨rfl, .inl ⟨us, _, rfl⟩⟩)
theorem fidx_split {α : Type} (p : α → Bool) (l : List α) : (fidx p l = -1 ∧ l.any p = false) ∨ ∃ (i : Nat) (hi : i < l.length), fidx p l = i ∧ p l[i] = true := by
  unfold fidx
  cases h : l.findIdx? p with
  | none => exact .inl ⟨rfl, by rw [List.findIdx?_eq_none_iff] at h; rw [List.any_eq_false]; intro x hx; rw [h x hx]; decide⟩
  | some i =>
    rw [List.findIdx?_eq_some_iff_getElem] at h
    obtain ⟨hi, hp, _⟩ := h
    exact .inr ⟨i, hi, rfl, hp⟩
theorem has_mem {e : EntD} {x : ByteArray} (h : e.has x = true) : e.state = 0 ∧ x ∈ e.bill.boxes := by
  unfold EntD.has at h
  simp only [Bool.and_eq_true, decide_eq_true_eq, List.any_eq_true] at h
  obtain ⟨h1, y, hy, rfl⟩ := h
  exact ⟨h1, hy⟩
theorem box_both {k : Nat} {r : RegD} (hG : Good k r) {x : ByteArray} {v : Value} (h : BoxR r x v) : (fidx (fun e => e.hasF x) r.l = -1 ∧ v = .tuple #[.string ⟨#[]⟩, .bool false]) ∨ ∃ (i : Nat) (hi : i < r.l.length), fidx (fun e => e.hasF x) r.l = i ∧ v = .tuple #[.string r.l[i].bill.number, .bool true] := by
  rcases h with ⟨hv, hb⟩ | ⟨e, he, hh, hv⟩ <;> rcases fidx_split (fun e : EntD => e.hasF x) r.l with ⟨h1, h2⟩ | ⟨i, hi, h1, h2⟩
  · exact .inl ⟨h1, hv⟩
  · rw [hasF_eq] at h2
    unfold RegD.boxed at hb
    rw [List.any_eq_false] at hb
    exact absurd h2 (hb _ (List.getElem_mem hi))
  · rw [List.any_eq_false] at h2
    exact absurd (by rw [hasF_eq]; exact hh) (h2 e he)
  · right
    rw [hasF_eq] at h2
    obtain ⟨j, hj⟩ := List.getElem?_of_mem he
    obtain ⟨s1, m1⟩ := has_mem hh
    obtain ⟨s2, m2⟩ := has_mem h2
    have := hG.box i j r.l[i] e x (List.getElem?_eq_getElem hi) hj s2 s1 m2 m1
    subst this
    rw [List.getElem?_eq_getElem hi] at hj
    cases hj
    exact ⟨i, hi, h1, hv⟩
def thereB (x : EntD) (q : PapD) : Bool := decide (x.state = 0) && (decide (q.state = 0) || decide (q.state = 3))
theorem holder_there {r : RegD} {n : ByteArray} {x : EntD} (h : r.at? n = some x) (h3 : x.ps.length = 3) {i : Nat} (hi : i < 3) : r.holderOf n (i : Int) = if thereB x (papAt x i) then some (papAt x i).holder else none := by
  unfold RegD.holderOf thereB
  rw [pap_of h h3 hi]
  simp only [Bool.and_eq_true, Bool.or_eq_true, decide_eq_true_eq]
set_option maxHeartbeats 8000000 in
theorem l23_UnlikeG {A : Nat → Prop} {w : World} {p m k0 : Nat} {r : RegD} {gs : List GhostE} {vL : Value} {fgs : List FG} (hR : Rep w p r m gs) (hG : Good k0 r) (hk0 : k0 ≤ 1000000) (hl : r.l.length ≤ 256) (hF : FRep A w vL r.l fgs) (who box : ByteArray) :
    Ret Tryz.prog 29 [.pointer (some ⟨p, 0, none⟩), .agg ⟨encR r.carrier vL⟩, .string who, .string box] w fun v w' => v = .string ⟨#[]⟩ ∧ Ex w w' := by
  have hnsz : ∀ e ∈ r.l, e.bill.number.size ≤ maxLen := fun e he => (hG.ent e he).ok.number
  have hsm := hG.small (by omega)
  obtain ⟨aL, cL, hvL, hLm⟩ := hF.slice
  subst hvL
  refine ret_of Tryz.func29 Tryz.ntmps29 rfl rfl rfl ?_
  (repeat (first | refine cw_seq ?_ | refine cw_region ?_))
  refine lw_box rfl ?_
  intro b5 w1 hbb5 hb5 hx1 hs1
  replace hb5 : Blk w1 b5 (encR r.carrier (.slice aL r.l.length cL)) 28 := hb5
  (repeat (first | refine lw_pure hT rfl ?_ | refine lw_nil ?_ | refine cw_seq ?_ | refine qw_then ?_))
  refine cw_draw hM (fun w' => Ex w1 w') [] rfl rfl (by repeat with_reducible (first | refine nop_then ?_ | refine nop_block ?_ | exact nop_body)) (fun w2 hx2 _ => ⟨hx2, ?_⟩)
  (refine rw_takeP 0 rfl rfl (by kernel_rfl) (by kernel_rfl) (by kernel_rfl) (by kernel_rfl) rfl (yo_pure hT rfl) ?_)
  refine rw_take 2 rfl rfl (by kernel_rfl) (by kernel_rfl) (by kernel_rfl) (by kernel_rfl) rfl (yo_load_agg hT rfl rfl rfl (vs := encR r.carrier (.slice aL r.l.length cL)) (fun w' hS => (hb5.ex hS).rd 0 2)) ?_
  refine rw_one 1 rfl (by kernel_rfl) rfl (fun hcl => ?_)
  have hx02 := hx1.trans hx2
  refine lw_call hT rfl rfl (reg_Bills (hR.ex hx02) hnsz hl) ?_
  rintro vb w3 ⟨⟨L, hL1, hL2, hown⟩, hx3⟩
  have hx13 := hx2.trans hx3
  (repeat (refine lw_nil ?_))
  refine qw_rw (by repeat with_reducible (first | refine nop_then ?_ | refine nop_block ?_ | exact nop_body)) hcl (fun _ => hx13) ?_
  refine rw_one 3 rfl (by kernel_rfl) rfl (fun hcl => ?_)
  refine lw_call hT rfl rfl (r23_Bills r.carrier (hF.ex (hx1.trans hx13)) hl) ?_
  rintro ub w4 ⟨hub, hx4⟩
  have hx14 := hx13.trans hx4
  (repeat (refine lw_nil ?_))
  refine qw_rw (by repeat with_reducible (first | refine nop_then ?_ | refine nop_block ?_ | exact nop_body)) hcl (fun _ => hx14) ?_
  refine rw_one 4 rfl (by kernel_rfl) rfl (fun hcl => ?_)
  refine lw_call hT rfl rfl (r_Same w4 ((sls_own (A := fun _ => True) hown fun _ _ => trivial).ex hx4) hub.sls) ?_
  rintro _ w5 ⟨rfl, hx5⟩
  have hx15 := hx14.trans hx5
  rw [decide_eq_true (show L = putAll (r.l.map (·.bill.number)) from bills_eq hG.nd hL1 hL2)]
  (repeat (refine lw_nil ?_))
  refine qw_rw (by repeat with_reducible (first | refine nop_then ?_ | refine nop_block ?_ | exact nop_body)) hcl (fun _ => hx15) ?_
  (refine rw_takeP 5 rfl rfl (by kernel_rfl) (by kernel_rfl) (by kernel_rfl) (by kernel_rfl) rfl (yo_pure hT rfl) ?_; refine rw_takeP 6 rfl rfl (by kernel_rfl) (by kernel_rfl) (by kernel_rfl) (by kernel_rfl) rfl (yo_pure hT rfl) ?_)
  (refine rw_takeP 7 rfl rfl (by kernel_rfl) (by kernel_rfl) (by kernel_rfl) (by kernel_rfl) rfl (yo_on rfl rfl (yo_pure hT rfl)) ?_; refine rw_takeP 8 rfl rfl (by kernel_rfl) (by kernel_rfl) (by kernel_rfl) (by kernel_rfl) rfl (yo_on rfl rfl (yo_pure hT rfl)) ?_)
  refine rw_take 10 rfl rfl (by kernel_rfl) (by kernel_rfl) (by kernel_rfl) (by kernel_rfl) rfl (yo_on rfl rfl (yo_load_agg hT rfl rfl rfl (vs := encR r.carrier (.slice aL r.l.length cL)) (fun w' hS => (hb5.ex hS).rd 0 2))) ?_
  (refine rw_takeP 11 rfl rfl (by kernel_rfl) (by kernel_rfl) (by kernel_rfl) (by kernel_rfl) rfl (yo_on rfl rfl (yo_pure hT rfl)) ?_)
  refine rw_one 9 rfl (by kernel_rfl) rfl (fun hcl => ?_)
  refine lw_gon_f rfl rfl ?_
  refine lw_call hT rfl rfl (reg_Of (hR.ex (hx1.trans hx15)) hnsz hl who) ?_
  rintro vo w6 ⟨⟨L', hL1', hL2', hown'⟩, hx6⟩
  have hx16 := hx15.trans hx6
  (repeat (refine lw_nil ?_))
  refine qw_rw (by repeat with_reducible (first | refine nop_then ?_ | refine nop_block ?_ | exact nop_body)) hcl (fun _ => hx16) ?_
  refine rw_one 12 rfl (by kernel_rfl) rfl (fun hcl => ?_)
  refine lw_gon_f rfl rfl ?_
  refine lw_call hT rfl rfl (r23_Of r.carrier who (hF.ex (hx1.trans hx16)) hl) ?_
  rintro uo w7 ⟨huo, hx7⟩
  have hx17 := hx16.trans hx7
  (repeat (refine lw_nil ?_))
  refine qw_rw (by repeat with_reducible (first | refine nop_then ?_ | refine nop_block ?_ | exact nop_body)) hcl (fun _ => hx17) ?_
  refine rw_one 13 rfl (by kernel_rfl) rfl (fun hcl => ?_)
  refine lw_gon_f rfl rfl ?_
  refine lw_call hT rfl rfl (r_Same w7 ((sls_own (A := fun _ => True) hown' fun _ _ => trivial).ex hx7) huo.sls) ?_
  rintro _ w8 ⟨rfl, hx8⟩
  have hx18 := hx17.trans hx8
  rw [decide_eq_true (of_eq hG.nd who hL1' hL2')]
  (repeat (refine lw_nil ?_))
  refine qw_rw (by repeat with_reducible (first | refine nop_then ?_ | refine nop_block ?_ | exact nop_body)) hcl (fun _ => hx18) ?_
  (refine rw_takeP 14 rfl rfl (by kernel_rfl) (by kernel_rfl) (by kernel_rfl) (by kernel_rfl) rfl (yo_on rfl rfl (yo_pure hT rfl)) ?_)
  (refine rw_takeP 15 rfl rfl (by kernel_rfl) (by kernel_rfl) (by kernel_rfl) (by kernel_rfl) rfl (yo_pure hT rfl) ?_)
  refine rw_done (by kernel_rfl) ?_
  (repeat (first | refine cw_seq ?_ | refine cw_region ?_ | refine qw_then ?_ | refine cw_skip ?_ | (refine cw_cond_f rfl ?_ ?_; focus with_reducible (first | rfl | exact Bool.not_false | exact Bool.not_true))))
  have hx08 := hx1.trans hx18
  have hb58 := hb5.ex hx18
  refine lw_load_agg hT rfl rfl rfl (vs := encR r.carrier (.slice aL r.l.length cL)) (hb58.rd 0 2) ?_
  (repeat (refine lw_pure hT rfl ?_))
  refine lw_call hT rfl rfl (r23_Box r.carrier box (hF.ex hx08)) ?_
  rintro _ w9 ⟨rfl, hx9⟩
  have hx09 := hx08.trans hx9
  refine lw_pure hT rfl ?_
  refine lw_nil ?_
  refine qw_then ?_
  refine cw_seq ?_
  refine cw_then_cut (α := ByteArray × Bool × Int) (fun z => [(0, pB p), (2, .string who), (5, pB b5), (9, .int .i64 z.2.2), (10, .string z.1), (11, .bool z.2.1)])
    (fun z w' => Ex w9 w' ∧ (z = (⟨#[]⟩, false, -1) ∨ ∃ (i : Nat) (x : EntD), r.l[i]? = some x ∧ z = (x.bill.number, true, (i : Int)))) ?_ ?_
  · unfold pB
    (repeat (first | refine lw_pure hT rfl ?_ | refine cw_region ?_))
    refine lw_call hT rfl rfl (reg_Box (hR.ex hx09) box) ?_
    rintro vbx w10 ⟨hbox, hx10⟩
    rcases box_both hG hbox with ⟨hf, rfl⟩ | ⟨ib, hib, hf, rfl⟩ <;> rw [hf]
    · (repeat (first | refine lw_pure hT rfl ?_ | refine lw_nil ?_))
      exact qw_cut (⟨#[]⟩, false, -1) (by repeat (first | exact trivial | refine ⟨rfl, ?_⟩)) ⟨hx10, .inl rfl⟩
    · (repeat (first | refine lw_pure hT rfl ?_ | refine lw_nil ?_))
      exact qw_cut (r.l[ib].bill.number, true, (ib : Int)) (by repeat (first | exact trivial | refine ⟨rfl, ?_⟩)) ⟨hx10, .inr ⟨ib, r.l[ib], List.getElem?_eq_getElem hib, rfl⟩⟩
  rintro z w10 ⟨hx10, hz⟩
  have hx010 := hx09.trans hx10
  have hb510 := (hb58.ex hx9).ex hx10
  refine qw_then ?_
  refine cw_seq ?_
  refine cw_then_cut (α := Unit) (fun _ => [(0, pB p), (2, .string who), (5, pB b5)]) (fun _ w' => w10 = w') ?_ ?_
  · unfold pB
    rcases hz with rfl | ⟨i, x, hi, rfl⟩
    · refine cw_sub (fr' := [(0, .pointer (some ⟨p, 0, none⟩)), (2, .string who), (5, .pointer (some ⟨b5, 0, none⟩)), (9, .int .i64 (-1)), (10, .string ⟨#[]⟩), (11, .bool false)]) (by repeat (first | exact trivial | refine ⟨rfl, ?_⟩)) ?_
      (repeat (first | refine lw_pure hT rfl ?_ | refine cw_seq ?_ | refine cw_region ?_))
      refine lw_neq_bool (by kernel_rfl) rfl rfl ?_
      (repeat (refine lw_pure hT rfl ?_))
      refine lw_guard rfl (fun e => absurd e (by decide)) (fun _ => ?_)
      (repeat (first | refine lw_pure hT rfl ?_ | refine lw_nil ?_ | refine qw_then ?_ | (refine lw_gon_t rfl ?_ ?_; focus with_reducible (first | rfl | exact Bool.not_false | exact Bool.not_true)) | (refine lw_goff_f rfl ?_ ?_; focus with_reducible (first | rfl | exact Bool.not_false | exact Bool.not_true)) | (refine lw_gon_f rfl ?_ ?_; focus with_reducible (first | rfl | exact Bool.not_false | exact Bool.not_true))))
      refine cw_cond rfl (fun e => absurd e (by decide)) (fun _ => ?_)
      (repeat (refine cw_skip ?_))
      exact qw_cut () (by repeat (first | exact trivial | refine ⟨rfl, ?_⟩)) rfl
    · have hil := (List.getElem?_eq_some_iff.1 hi).1
      obtain ⟨x1, g, bL, oL, cL', hx_, hg_, hv, hrd, hE⟩ := (hF.ex hx010).row hil
      cases hv
      rw [hi] at hx_; cases hx_
      have hge : decide ((i : Int) ≥ 0) = true := by simp
      refine cw_sub (fr' := [(0, .pointer (some ⟨p, 0, none⟩)), (2, .string who), (5, .pointer (some ⟨b5, 0, none⟩)), (9, .int .i64 (i : Nat)), (10, .string x.bill.number), (11, .bool true)]) (by repeat (first | exact trivial | refine ⟨rfl, ?_⟩)) ?_
      (repeat (first | refine lw_pure hT rfl ?_ | refine cw_seq ?_ | refine cw_region ?_))
      refine lw_neq_bool (by kernel_rfl) rfl rfl ?_
      (repeat (refine lw_pure hT rfl ?_))
      refine lw_guard rfl (fun e => by exfalso; revert e; rw [hge]; decide) (fun _ => ?_)
      (repeat (first | refine lw_pure hT rfl ?_ | (refine lw_gon_t rfl ?_ ?_; focus with_reducible (first | rfl | exact Bool.not_false | exact Bool.not_true)) | (refine lw_gon_f rfl ?_ ?_; focus with_reducible (first | rfl | exact Bool.not_false | exact Bool.not_true))))
      refine lw_load hT rfl rfl (v := .slice (some ⟨bL, oL, none⟩) r.l.length cL) (hb510.cell 1) ?_
      (repeat (first | refine lw_pure hT rfl ?_ | (refine lw_gon_t rfl ?_ ?_; focus with_reducible (first | rfl | exact Bool.not_false | exact Bool.not_true))))
      refine lw_index hT rfl rfl rfl i rfl hil ?_
      (repeat (first | refine lw_pure hT rfl ?_ | (refine lw_gon_t rfl ?_ ?_; focus with_reducible (first | rfl | exact Bool.not_false | exact Bool.not_true))))
      refine lw_load hT rfl rfl (v := .string x.bill.number) (hrd 0 _ rfl) ?_
      (repeat (first | refine lw_pure hT rfl ?_ | (refine lw_gon_t rfl ?_ ?_; focus with_reducible (first | rfl | exact Bool.not_false | exact Bool.not_true)) | (refine lw_gon_f rfl ?_ ?_; focus with_reducible (first | rfl | exact Bool.not_false | exact Bool.not_true))))
      refine lw_guard rfl (fun e => absurd rfl (of_decide_eq_true e)) (fun _ => ?_)
      (repeat (first | refine lw_pure hT rfl ?_ | refine lw_nil ?_ | refine qw_then ?_ | refine cw_skip ?_ | (refine lw_goff_f rfl ?_ ?_; focus with_reducible (first | rfl | exact Bool.not_false | exact Bool.not_true)) | (refine lw_gon_f rfl ?_ ?_; focus with_reducible (first | rfl | exact Bool.not_false | exact Bool.not_true)) | (refine cw_cond_f rfl ?_ ?_; focus with_reducible (first | rfl | exact Bool.not_false | exact Bool.not_true))))
      exact qw_cut () (by repeat (first | exact trivial | refine ⟨rfl, ?_⟩)) rfl
  rintro _ _ rfl
  unfold pB
  (repeat (first | refine lw_pure hT rfl ?_ | refine lw_nil ?_ | refine cw_seq ?_ | refine cw_region ?_ | refine qw_then ?_ | refine cw_block ?_))
  refine cw_loop (fun i : Nat => [(0, .pointer (some ⟨p, 0, none⟩)), (2, .string who), (5, .pointer (some ⟨b5, 0, none⟩)), (12, .int .i64 (i : Nat))]) (fun i w' => i ≤ r.l.length ∧ Ex w10 w') (fun i => r.l.length - i) 0 (by repeat (first | exact trivial | refine ⟨rfl, ?_⟩)) ⟨Nat.zero_le _, Ext.refl _ _⟩ ?_
  rintro i w3 ⟨hi, hx103⟩
  have hx03 := hx010.trans hx103
  have hb53 := hb510.ex hx103
  (repeat (first | refine lw_pure hT rfl ?_ | refine cw_seq ?_ | refine cw_region ?_))
  refine lw_load hT rfl rfl (v := .slice aL r.l.length cL) (hb53.cell 1) ?_
  (repeat (first | refine lw_pure hT rfl ?_ | refine lw_nil ?_ | refine qw_then ?_))
  refine cw_cond rfl (fun e => ?_) (fun e => ?_)
  · have hlt : i < r.l.length := by have := of_decide_eq_true e; omega
    obtain ⟨x, g, bL, oL, cL', hx_, hg_, hv, hrd, hE⟩ := (hF.ex hx03).row hlt
    cases hv
    have hxm := List.mem_of_getElem? hx_
    have hatx := at_self hG.nd hxm
    have h3 := (hG.ent x hxm).three
    (repeat (first | refine lw_pure hT rfl ?_ | refine cw_seq ?_ | refine cw_region ?_ | refine qw_then ?_ | refine cw_skip ?_ | refine cw_block ?_))
    refine lw_load hT rfl rfl (v := .slice (some ⟨bL, oL, none⟩) r.l.length cL) (hb53.cell 1) ?_
    (repeat (refine lw_pure hT rfl ?_))
    refine lw_index hT rfl rfl rfl i rfl hlt ?_
    skip
    refine lw_load_agg hT rfl rfl rfl (vs := entF (x, g)) hrd ?_
    skip
    refine lw_alloc z56 ?_
    intro b13 w4 hbb13 hb13 hx4 hs4
    skip
    refine lw_store_agg hT rfl rfl rfl rfl (entF_one hE) hb13 (show (11 : Nat) ≤ 11 by decide) ?_
    intro w5 hb135 hx5 hs5
    replace hb135 : Blk w5 b13 (entF (x, g)) 56 := hb135
    have hx35 : Ex w3 w5 := hx4.up_new hx5 (fun i h => by omega)
    have hx05 := hx03.trans hx35
    have hE5 := hE.ex hx35
    (repeat (first | refine lw_pure hT rfl ?_ | refine lw_nil ?_ | refine cw_seq ?_ | refine cw_region ?_ | refine qw_then ?_))
    refine lw_load hT rfl rfl (v := .string x.bill.number) (hb135.cell 0) ?_
    skip
    refine lw_call hT rfl rfl (reg_Get (hR.ex hx05) hsm x.bill.number) ?_
    rintro _ w6 ⟨hget, hx6⟩
    unfold GetR at hget
    rw [hatx] at hget
    obtain ⟨ub, up, rfl, hub, hup⟩ := hget
    (repeat (refine lw_pure hT rfl ?_))
    refine lw_alloc z33 ?_
    intro b14 w7 hbb14 hb14 hx7 hs7
    skip
    refine lw_store_agg hT rfl rfl rfl rfl (encB_one (A := fun _ => True) (w := w) (own_one hub) (own_one hup)) hb14 (show (9 : Nat) ≤ 9 by decide) ?_
    intro w8 hb148 hx8 hs8
    replace hb148 : Blk w8 b14 (encB x.bill ub up) 33 := hb148
    have hx68 : Ex w6 w8 := hx7.up_new hx8 (fun i h => by omega)
    have hx58 := hx6.trans hx68
    have hx08 := hx05.trans hx58
    have hb138 := hb135.ex hx58
    (repeat (first | refine lw_pure hT rfl ?_ | refine lw_nil ?_ | refine cw_seq ?_ | refine cw_region ?_ | refine qw_then ?_))
    refine lw_load hT rfl rfl (v := .string x.bill.number) (hb138.cell 0) ?_
    skip
    refine lw_call hT rfl rfl (reg_Originals (hR.ex hx08) x.bill.number) ?_
    rintro u16 w9' ⟨hu16, hx9'⟩
    obtain ⟨g16, c16, rfl, hg16, hrow⟩ := origs_row hatx h3 hu16
    have hx09' := hx08.trans hx9'
    have hb139 := hb138.ex hx9'
    have hb149 := hb148.ex hx9'
    have hb59 := (hb53.ex (hx35.trans hx58)).ex hx9'
    have hE9 := (hE5.ex hx58).ex hx9'
    (repeat (first | refine lw_pure hT rfl ?_ | refine lw_nil ?_ | refine cw_seq ?_ | refine qw_then ?_))
    refine cw_then_cut (α := Unit) (fun _ => [(0, pB p), (2, .string who), (5, pB b5), (12, .int .i64 (i : Nat)), (13, pB b13), (16, .slice (some ⟨g16, 0, none⟩) 3 c16), (136, .bool false)]) (fun _ w' => Ex w9' w') ?_ ?_
    · unfold pB
      have hub9 := own_ex (own_ex hub hx68) hx9'
      have hup9 := own_ex (own_ex hup hx68) hx9'
      refine cw_draw hM (fun w' => Ex w9' w') [] rfl rfl (by repeat with_reducible (first | refine nop_then ?_ | refine nop_block ?_ | exact nop_body)) (fun wa hxa _ => ⟨hxa, ?_⟩)
      (refine rw_takeP 0 rfl rfl (by kernel_rfl) (by kernel_rfl) (by kernel_rfl) (by kernel_rfl) rfl (yo_pure hT rfl) ?_; refine rw_takeP 1 rfl rfl (by kernel_rfl) (by kernel_rfl) (by kernel_rfl) (by kernel_rfl) rfl (yo_pure hT rfl) ?_; refine rw_takeP 2 rfl rfl (by kernel_rfl) (by kernel_rfl) (by kernel_rfl) (by kernel_rfl) rfl (yo_pure hT rfl) ?_)
      refine rw_take 3 rfl rfl (by kernel_rfl) (by kernel_rfl) (by kernel_rfl) (by kernel_rfl) rfl (yo_on rfl rfl (yo_load_agg hT rfl rfl rfl (vs := encB x.bill ub up) (fun w' hS => (hb149.ex hS).rd 0 9))) ?_
      (refine rw_takeP 4 rfl rfl (by kernel_rfl) (by kernel_rfl) (by kernel_rfl) (by kernel_rfl) rfl (yo_on rfl rfl (yo_pure hT rfl)) ?_)
      refine rw_take 5 rfl rfl (by kernel_rfl) (by kernel_rfl) (by kernel_rfl) (by kernel_rfl) rfl (yo_on rfl rfl (yo_load_agg hT rfl rfl rfl (vs := encB x.bill g.vb g.vp) (fun w' hS => (hb139.ex hS).rd 0 9))) ?_
      refine rw_one 6 rfl (by kernel_rfl) rfl (fun hcl => ?_)
      refine lw_gon_f rfl rfl ?_
      refine lw_call hT rfl rfl (r23_Same (A := fun _ => True) (B := A) ((sls_own hub9 fun _ _ => trivial).ex hxa) ((sls_own hup9 fun _ _ => trivial).ex hxa) (hE9.boxes.ex hxa) (hE9.parents.ex hxa)) ?_
      rintro _ wb ⟨rfl, hxb⟩
      have hxab := hxa.trans hxb
      (repeat (refine lw_nil ?_))
      refine qw_rw (by repeat with_reducible (first | refine nop_then ?_ | refine nop_block ?_ | exact nop_body)) hcl (fun _ => hxab) ?_
      (refine rw_takeP 7 rfl rfl (by kernel_rfl) (by kernel_rfl) (by kernel_rfl) (by kernel_rfl) rfl (yo_on rfl rfl (yo_pure hT rfl)) ?_)
      (refine rw_takeP 8 rfl rfl (by kernel_rfl) (by kernel_rfl) (by kernel_rfl) (by kernel_rfl) rfl (yo_pure hT rfl) ?_; refine rw_takeP 9 rfl rfl (by kernel_rfl) (by kernel_rfl) (by kernel_rfl) (by kernel_rfl) rfl (yo_pure hT rfl) ?_)
      (refine rw_takeP 10 rfl rfl (by kernel_rfl) (by kernel_rfl) (by kernel_rfl) (by kernel_rfl) rfl (yo_on rfl rfl (yo_pure hT rfl)) ?_; refine rw_takeP 11 rfl rfl (by kernel_rfl) (by kernel_rfl) (by kernel_rfl) (by kernel_rfl) rfl (yo_on rfl rfl (yo_pure hT rfl)) ?_; refine rw_takeP 12 rfl rfl (by kernel_rfl) (by kernel_rfl) (by kernel_rfl) (by kernel_rfl) rfl (yo_on rfl rfl (yo_pure hT rfl)) ?_)
      refine rw_take 13 rfl rfl (by kernel_rfl) (by kernel_rfl) (by kernel_rfl) (by kernel_rfl) rfl (yo_on rfl rfl (yo_load hT rfl rfl (v := .string x.bill.number) (fun w' hS => Ex.cell hS (hb139.cell 0)))) ?_
      (refine rw_takeP 15 rfl rfl (by kernel_rfl) (by kernel_rfl) (by kernel_rfl) (by kernel_rfl) rfl (yo_on rfl rfl (yo_pure hT rfl)) ?_)
      refine rw_take 16 rfl rfl (by kernel_rfl) (by kernel_rfl) (by kernel_rfl) (by kernel_rfl) rfl (yo_on rfl rfl (yo_load hT rfl rfl (v := .int .i64 x.state) (fun w' hS => Ex.cell hS (hb139.cell 9)))) ?_
      refine rw_one 14 rfl (by kernel_rfl) rfl (fun hcl => ?_)
      refine lw_gon_f rfl rfl ?_
      refine lw_call hT rfl rfl (reg_State (hR.ex (hx09'.trans hxab)) x.bill.number) ?_
      rintro _ _ ⟨rfl, rfl⟩
      rw [state_of hatx]
      (repeat (refine lw_nil ?_))
      refine qw_rw (by repeat with_reducible (first | refine nop_then ?_ | refine nop_block ?_ | exact nop_body)) hcl (fun _ => hxab) ?_
      (refine rw_takeP 17 rfl rfl (by kernel_rfl) (by kernel_rfl) (by kernel_rfl) (by kernel_rfl) rfl (yo_on rfl rfl (yo_pure hT rfl)) ?_)
      (refine rw_takeP 18 rfl rfl (by kernel_rfl) (by kernel_rfl) (by kernel_rfl) (by kernel_rfl) rfl (yo_pure hT rfl) ?_; refine rw_takeP 19 rfl rfl (by kernel_rfl) (by kernel_rfl) (by kernel_rfl) (by kernel_rfl) rfl (yo_pure hT rfl) ?_)
      refine rw_split (d := 117) rfl (fun e => absurd rfl (of_decide_eq_true e)) (fun _ => ?_)
      (refine rw_takeP 20 rfl rfl (by kernel_rfl) (by kernel_rfl) (by kernel_rfl) (by kernel_rfl) rfl (yo_on rfl rfl (yo_pure hT rfl)) ?_; refine rw_takeP 21 rfl rfl (by kernel_rfl) (by kernel_rfl) (by kernel_rfl) (by kernel_rfl) rfl (yo_on rfl rfl (yo_pure hT rfl)) ?_; refine rw_takeP 22 rfl rfl (by kernel_rfl) (by kernel_rfl) (by kernel_rfl) (by kernel_rfl) rfl (yo_on rfl rfl (yo_pure hT rfl)) ?_)
      (refine rw_takeP 23 rfl rfl (by kernel_rfl) (by kernel_rfl) (by kernel_rfl) (by kernel_rfl) rfl (yo_pure hT rfl) ?_; refine rw_takeP 24 rfl rfl (by kernel_rfl) (by kernel_rfl) (by kernel_rfl) (by kernel_rfl) rfl (yo_pure hT rfl) ?_)
      (refine rw_takeP 25 rfl rfl (by kernel_rfl) (by kernel_rfl) (by kernel_rfl) (by kernel_rfl) rfl (yo_on rfl rfl (yo_pure hT rfl)) ?_; refine rw_takeP 26 rfl rfl (by kernel_rfl) (by kernel_rfl) (by kernel_rfl) (by kernel_rfl) rfl (yo_on rfl rfl (yo_pure hT rfl)) ?_; refine rw_takeP 27 rfl rfl (by kernel_rfl) (by kernel_rfl) (by kernel_rfl) (by kernel_rfl) rfl (yo_on rfl rfl (yo_pure hT rfl)) ?_)
      refine rw_take 28 rfl rfl (by kernel_rfl) (by kernel_rfl) (by kernel_rfl) (by kernel_rfl) rfl (yo_on rfl rfl (yo_load hT rfl rfl (v := .string x.bill.number) (fun w' hS => Ex.cell hS (hb139.cell 0)))) ?_
      (refine rw_takeP 29 rfl rfl (by kernel_rfl) (by kernel_rfl) (by kernel_rfl) (by kernel_rfl) rfl (yo_on rfl rfl (yo_pure hT rfl)) ?_)
      refine rw_take 31 rfl rfl (by kernel_rfl) (by kernel_rfl) (by kernel_rfl) (by kernel_rfl) rfl (yo_on rfl rfl (yo_load_agg hT rfl rfl rfl (vs := encR r.carrier (.slice (some ⟨bL, oL, none⟩) r.l.length cL)) (fun w' hS => (hb59.ex hS).rd 0 2))) ?_
      (refine rw_takeP 32 rfl rfl (by kernel_rfl) (by kernel_rfl) (by kernel_rfl) (by kernel_rfl) rfl (yo_on rfl rfl (yo_pure hT rfl)) ?_; refine rw_takeP 33 rfl rfl (by kernel_rfl) (by kernel_rfl) (by kernel_rfl) (by kernel_rfl) rfl (yo_on rfl rfl (yo_pure hT rfl)) ?_)
      refine rw_take 34 rfl rfl (by kernel_rfl) (by kernel_rfl) (by kernel_rfl) (by kernel_rfl) rfl (yo_on rfl rfl (yo_load hT rfl rfl (v := .string x.bill.number) (fun w' hS => Ex.cell hS (hb139.cell 0)))) ?_
      (refine rw_takeP 35 rfl rfl (by kernel_rfl) (by kernel_rfl) (by kernel_rfl) (by kernel_rfl) rfl (yo_on rfl rfl (yo_pure hT rfl)) ?_)
      refine rw_one 30 rfl (by kernel_rfl) rfl (fun hcl => ?_)
      refine lw_gon_f rfl rfl ?_
      refine lw_call hT rfl rfl (reg_Full (hR.ex (hx09'.trans hxab)) x.bill.number who) ?_
      rintro _ wc ⟨rfl, hxc⟩
      have hxac := hxab.trans hxc
      (repeat (refine lw_nil ?_))
      refine qw_rw (by repeat with_reducible (first | refine nop_then ?_ | refine nop_block ?_ | exact nop_body)) hcl (fun _ => hxac) ?_
      refine rw_one 36 rfl (by kernel_rfl) rfl (fun hcl => ?_)
      refine lw_gon_f rfl rfl ?_
      refine lw_call hT rfl rfl (r23_Full r.carrier x.bill.number who (hF.ex (hx09'.trans hxac))) ?_
      rintro _ wd ⟨rfl, hxd⟩
      have hxad := hxac.trans hxd
      (repeat (refine lw_nil ?_))
      refine qw_rw (by repeat with_reducible (first | refine nop_then ?_ | refine nop_block ?_ | exact nop_body)) hcl (fun _ => hxad) ?_
      refine rw_takeP 37 rfl rfl (by kernel_rfl) (by kernel_rfl) (by kernel_rfl) (by kernel_rfl) rfl (yo_on rfl rfl (yo_neq_bool (by kernel_rfl) rfl rfl)) ?_
      (refine rw_takeP 38 rfl rfl (by kernel_rfl) (by kernel_rfl) (by kernel_rfl) (by kernel_rfl) rfl (yo_pure hT rfl) ?_)
      refine rw_done (by kernel_rfl) ?_
      have hff : (!(r.fullOf x.bill.number who == RegD.fullOf ⟨r.carrier, r.l⟩ x.bill.number who)) = false := by
        show (!(r.fullOf x.bill.number who == r.fullOf x.bill.number who)) = false
        simp
      rw [hff]
      exact qw_cut () (by repeat (first | exact trivial | refine ⟨rfl, ?_⟩)) hxad
    rintro _ w12 hx12
    unfold pB
    have hx012 := hx09'.trans hx12
    (repeat (first | refine lw_pure hT rfl ?_ | refine lw_nil ?_ | refine cw_seq ?_ | refine cw_region ?_ | refine qw_then ?_ | refine cw_skip ?_ | refine cw_block ?_ | (refine cw_cond_f rfl ?_ ?_; focus with_reducible (first | rfl | exact Bool.not_false | exact Bool.not_true))))
    refine cw_loop (fun k : Nat => [(0, .pointer (some ⟨p, 0, none⟩)), (2, .string who), (5, .pointer (some ⟨b5, 0, none⟩)), (12, .int .i64 (i : Nat)), (13, .pointer (some ⟨b13, 0, none⟩)), (16, .slice (some ⟨g16, 0, none⟩) 3 c16), (17, .int .i64 (k : Nat))]) (fun k w' => k ≤ 3 ∧ Ex w12 w') (fun k => 3 - k) 0 (by repeat (first | exact trivial | refine ⟨rfl, ?_⟩)) ⟨Nat.zero_le _, Ext.refl _ _⟩ ?_
    rintro k w13 ⟨hk, hx13⟩
    have hx9_13 := hx12.trans hx13
    have hx013 := hx09'.trans hx9_13
    (repeat (first | refine lw_pure hT rfl ?_ | refine lw_nil ?_ | refine cw_seq ?_ | refine cw_region ?_ | refine qw_then ?_))
    refine cw_cond rfl (fun e => ?_) (fun e => ?_)
    · have hk3 : k < 3 := by have := of_decide_eq_true e; omega
      have hE13 := hE9.ex hx9_13
      obtain ⟨vc, bP, oP, cP, hvP, _, hrP, hvk, hch⟩ := hE13.paper hk3
      obtain ⟨q, hq⟩ : ∃ q, q = papAt x k := ⟨_, rfl⟩
      rw [← hq] at hrP hch
      have hb1313 := hb139.ex hx9_13
      have hc10 := hb1313.cell 10
      replace hc10 : w13.cell? ⟨b13, 10, none⟩ = some (.slice (some ⟨bP, oP, none⟩) 3 cP) := by rw [hc10]; simp [entF, encB, hvP]
      (repeat (first | refine lw_pure hT rfl ?_ | refine cw_seq ?_ | refine cw_region ?_ | refine qw_then ?_ | refine cw_skip ?_ | refine cw_block ?_))
      refine lw_load hT rfl rfl hc10 ?_
      (repeat (refine lw_pure hT rfl ?_))
      refine lw_index hT rfl rfl rfl k rfl hk3 ?_
      skip
      refine lw_load_agg hT rfl rfl rfl (vs := [.int .i64 q.state, .string q.holder, vc]) hrP ?_
      skip
      refine lw_alloc z126 ?_
      intro b18 wa hbb18 hb18 hxa hsa
      skip
      refine lw_store_agg hT rfl rfl rfl rfl (by intro v hv; simp at hv; rcases hv with rfl | rfl | rfl <;> first | rfl | exact Sl.one hch) hb18 (show (3 : Nat) ≤ 3 by decide) ?_
      intro wb hb18b hxb hsb
      replace hb18b : Blk wb b18 [.int .i64 q.state, .string q.holder, vc] 126 := hb18b
      have hx13b : Ex w13 wb := hxa.up_new hxb (fun i h => by omega)
      (repeat (first | refine lw_pure hT rfl ?_ | refine lw_nil ?_ | refine cw_seq ?_ | refine cw_region ?_ | refine qw_then ?_))
      refine lw_load hT rfl rfl (v := .string x.bill.number) ((hb1313.ex hx13b).cell 0) ?_
      (repeat (refine lw_pure hT rfl ?_))
      refine lw_call hT rfl rfl (reg_Holder (hR.ex (hx013.trans hx13b)) x.bill.number k) ?_
      rintro _ w14 ⟨rfl, hx14⟩
      have hx1314 := hx13b.trans hx14
      have hx014 := hx013.trans hx1314
      rw [holder_there hatx h3 hk3, ← hq]
      have eH1 : (if thereB x q = true then some q.holder else none).isSome = thereB x q := by cases thereB x q <;> rfl
      have eH2 : (if thereB x q = true then some q.holder else none).getD (⟨#[]⟩ : ByteArray) = if thereB x q = true then q.holder else ⟨#[]⟩ := by cases thereB x q <;> rfl
      rw [eH1, eH2]
      have hb1314 := hb1313.ex hx1314
      have hb1814 := hb18b.ex hx14
      (iterate 5 (refine lw_pure hT rfl ?_))
      refine lw_nil ?_
      refine qw_then ?_
      refine cw_seq ?_
      refine cw_then_cut (α := Unit) (fun _ => [(0, pB p), (2, .string who), (5, pB b5), (12, .int .i64 (i : Nat)), (13, pB b13), (16, .slice (some ⟨g16, 0, none⟩) 3 c16), (17, .int .i64 (k : Nat)), (18, pB b18), (19, .string (if thereB x q = true then q.holder else ⟨#[]⟩)), (20, .bool (thereB x q)), (21, .bool (thereB x q))]) (fun _ w' => w14 = w') ?_ ?_
      · unfold pB
        (repeat (first | refine lw_pure hT rfl ?_ | refine cw_region ?_))
        refine lw_load hT rfl rfl (v := .int .i64 x.state) (hb1314.cell 9) ?_
        (repeat (refine lw_pure hT rfl ?_))
        refine lw_guard rfl (fun e1 => ?_) (fun e1 => ?_)
        · (repeat (first | refine lw_pure hT rfl ?_ | (refine lw_gon_t rfl ?_ ?_; focus with_reducible (first | rfl | exact Bool.not_false | exact Bool.not_true))))
          refine lw_load hT rfl rfl (v := .int .i64 q.state) (hb1814.cell 0) ?_
          (repeat (first | refine lw_pure hT rfl ?_ | (refine lw_gon_t rfl ?_ ?_; focus with_reducible (first | rfl | exact Bool.not_false | exact Bool.not_true))))
          refine lw_guard rfl (fun e2 => ?_) (fun e2 => ?_)
          · (repeat (first | refine lw_pure hT rfl ?_ | refine lw_nil ?_ | (refine lw_gon_t rfl ?_ ?_; focus with_reducible (first | rfl | exact Bool.not_false | exact Bool.not_true)) | (refine lw_goff_t rfl ?_ ?_; focus with_reducible (first | rfl | exact Bool.not_false | exact Bool.not_true))))
            have et : thereB x q = true := by unfold thereB; rw [e1, e2]; rfl
            rw [et]
            exact qw_cut () (by repeat (first | exact trivial | refine ⟨rfl, ?_⟩)) rfl
          · (repeat (first | refine lw_pure hT rfl ?_ | (refine lw_gon_f rfl ?_ ?_; focus with_reducible (first | rfl | exact Bool.not_false | exact Bool.not_true))))
            refine lw_load hT rfl rfl (v := .int .i64 q.state) (hb1814.cell 0) ?_
            (repeat (first | refine lw_pure hT rfl ?_ | refine lw_nil ?_ | (refine lw_gon_t rfl ?_ ?_; focus with_reducible (first | rfl | exact Bool.not_false | exact Bool.not_true)) | (refine lw_gon_f rfl ?_ ?_; focus with_reducible (first | rfl | exact Bool.not_false | exact Bool.not_true))))
            have et : thereB x q = decide (q.state = 3) := by unfold thereB; rw [e1, e2]; rfl
            rw [et]
            exact qw_cut () (by repeat (first | exact trivial | refine ⟨rfl, ?_⟩)) rfl
        · (repeat (first | refine lw_pure hT rfl ?_ | refine lw_nil ?_ | refine lw_goff_u rfl ?_ | (refine lw_goff_f rfl ?_ ?_; focus with_reducible (first | rfl | exact Bool.not_false | exact Bool.not_true))))
          have et : thereB x q = false := by unfold thereB; rw [e1]; rfl
          rw [et]
          exact qw_cut () (by repeat (first | exact trivial | refine ⟨rfl, ?_⟩)) rfl
      rintro _ _ rfl
      have hor14 : Rd w14 g16 (0 + k * 4) (origRow x.bill.number q k) := by rw [hq]; exact ((hrow k hk3).ex hx9_13).ex hx1314
      have hR14 := hR.ex hx014
      have hch14 := hch.ex hx1314
      refine qw_then ?_
      refine cw_seq ?_
      cases hth : thereB x q
      · refine cw_sub (fr' := [(0, .pointer (some ⟨p, 0, none⟩)), (2, .string who), (5, .pointer (some ⟨b5, 0, none⟩)), (12, .int .i64 (i : Nat)), (13, .pointer (some ⟨b13, 0, none⟩)), (16, .slice (some ⟨g16, 0, none⟩) 3 c16), (17, .int .i64 (k : Nat)), (18, .pointer (some ⟨b18, 0, none⟩)), (19, .string ⟨#[]⟩), (20, .bool false), (21, .bool false)]) (by repeat (first | exact trivial | refine ⟨rfl, ?_⟩)) ?_
        skip
        refine cw_draw hM (fun w' => Ex w14 w') [] rfl rfl (by repeat with_reducible (first | refine nop_then ?_ | refine nop_block ?_ | exact nop_body)) (fun w15 hx15 _ => ⟨hx15, ?_⟩)
        (refine rw_takeP 0 rfl rfl (by kernel_rfl) (by kernel_rfl) (by kernel_rfl) (by kernel_rfl) rfl (yo_pure hT rfl) ?_; refine rw_takeP 1 rfl rfl (by kernel_rfl) (by kernel_rfl) (by kernel_rfl) (by kernel_rfl) rfl (yo_pure hT rfl) ?_)
        refine rw_takeP 2 rfl rfl (by kernel_rfl) (by kernel_rfl) (by kernel_rfl) (by kernel_rfl) rfl (yo_index hT rfl rfl rfl k rfl hk3) ?_
        refine rw_take 3 rfl rfl (by kernel_rfl) (by kernel_rfl) (by kernel_rfl) (by kernel_rfl) rfl (yo_load_agg hT rfl rfl rfl (vs := origRow x.bill.number q k) (fun w' hS => hor14.ex hS)) ?_
        (refine rw_takeP 4 rfl rfl (by kernel_rfl) (by kernel_rfl) (by kernel_rfl) (by kernel_rfl) rfl (yo_pure hT rfl) ?_; refine rw_takeP 5 rfl rfl (by kernel_rfl) (by kernel_rfl) (by kernel_rfl) (by kernel_rfl) rfl (yo_pure hT rfl) ?_)
        refine rw_take 6 rfl rfl (by kernel_rfl) (by kernel_rfl) (by kernel_rfl) (by kernel_rfl) rfl (yo_load hT rfl rfl (v := .string x.bill.number) (fun w' hS => Ex.cell hS (hb1314.cell 0))) ?_
        (refine rw_takeP 7 rfl rfl (by kernel_rfl) (by kernel_rfl) (by kernel_rfl) (by kernel_rfl) rfl (yo_pure hT rfl) ?_; refine rw_takeP 8 rfl rfl (by kernel_rfl) (by kernel_rfl) (by kernel_rfl) (by kernel_rfl) rfl (yo_pure hT rfl) ?_)
        refine rw_take 9 rfl rfl (by kernel_rfl) (by kernel_rfl) (by kernel_rfl) (by kernel_rfl) rfl (yo_load hT rfl rfl (v := .int .i64 q.state) (fun w' hS => Ex.cell hS (hb1814.cell 0))) ?_
        (refine rw_takeP 10 rfl rfl (by kernel_rfl) (by kernel_rfl) (by kernel_rfl) (by kernel_rfl) rfl (yo_pure hT rfl) ?_)
        refine rw_take 11 rfl rfl (by kernel_rfl) (by kernel_rfl) (by kernel_rfl) (by kernel_rfl) rfl (yo_load hT rfl rfl (v := .string q.holder) (fun w' hS => Ex.cell hS (hb1814.cell 1))) ?_
        refine rw_takeP 12 rfl rfl (by kernel_rfl) (by kernel_rfl) (by kernel_rfl) (by kernel_rfl) rfl (yo_build bt129 rfl) ?_
        refine rw_takeP 13 rfl rfl (by kernel_rfl) (by kernel_rfl) (by kernel_rfl) (by kernel_rfl) rfl (yo_neq_same rfl rfl (orig_self x.bill.number q k)) ?_
        (refine rw_takeP 14 rfl rfl (by kernel_rfl) (by kernel_rfl) (by kernel_rfl) (by kernel_rfl) rfl (yo_pure hT rfl) ?_)
        (refine rw_takeP 15 rfl rfl (by kernel_rfl) (by kernel_rfl) (by kernel_rfl) (by kernel_rfl) rfl (yo_on rfl rfl (yo_pure hT rfl)) ?_; refine rw_takeP 16 rfl rfl (by kernel_rfl) (by kernel_rfl) (by kernel_rfl) (by kernel_rfl) rfl (yo_on rfl rfl (yo_pure hT rfl)) ?_)
        refine rw_takeP 17 rfl rfl (by kernel_rfl) (by kernel_rfl) (by kernel_rfl) (by kernel_rfl) rfl (yo_on rfl rfl (yo_neq_bool (by kernel_rfl) rfl rfl)) ?_
        (refine rw_takeP 18 rfl rfl (by kernel_rfl) (by kernel_rfl) (by kernel_rfl) (by kernel_rfl) rfl (yo_pure hT rfl) ?_; refine rw_takeP 19 rfl rfl (by kernel_rfl) (by kernel_rfl) (by kernel_rfl) (by kernel_rfl) rfl (yo_pure hT rfl) ?_)
        (refine rw_takeP 20 rfl rfl (by kernel_rfl) (by kernel_rfl) (by kernel_rfl) (by kernel_rfl) rfl (yo_on rfl rfl (yo_pure hT rfl)) ?_; refine rw_takeP 21 rfl rfl (by kernel_rfl) (by kernel_rfl) (by kernel_rfl) (by kernel_rfl) rfl (yo_on rfl rfl (yo_pure hT rfl)) ?_)
        (refine rw_takeP 22 rfl rfl (by kernel_rfl) (by kernel_rfl) (by kernel_rfl) (by kernel_rfl) rfl (yo_off rfl rfl) ?_; refine rw_takeP 23 rfl rfl (by kernel_rfl) (by kernel_rfl) (by kernel_rfl) (by kernel_rfl) rfl (yo_off rfl rfl) ?_; refine rw_takeP 24 rfl rfl (by kernel_rfl) (by kernel_rfl) (by kernel_rfl) (by kernel_rfl) rfl (yo_off rfl rfl) ?_; refine rw_takeP 25 rfl rfl (by kernel_rfl) (by kernel_rfl) (by kernel_rfl) (by kernel_rfl) rfl (yo_off rfl rfl) ?_)
        (refine rw_takeP 26 rfl rfl (by kernel_rfl) (by kernel_rfl) (by kernel_rfl) (by kernel_rfl) rfl (yo_on rfl rfl (yo_pure hT rfl)) ?_)
        (refine rw_takeP 27 rfl rfl (by kernel_rfl) (by kernel_rfl) (by kernel_rfl) (by kernel_rfl) rfl (yo_pure hT rfl) ?_; refine rw_takeP 28 rfl rfl (by kernel_rfl) (by kernel_rfl) (by kernel_rfl) (by kernel_rfl) rfl (yo_pure hT rfl) ?_)
        (refine rw_takeP 29 rfl rfl (by kernel_rfl) (by kernel_rfl) (by kernel_rfl) (by kernel_rfl) rfl (yo_on rfl rfl (yo_pure hT rfl)) ?_; refine rw_takeP 30 rfl rfl (by kernel_rfl) (by kernel_rfl) (by kernel_rfl) (by kernel_rfl) rfl (yo_on rfl rfl (yo_pure hT rfl)) ?_; refine rw_takeP 31 rfl rfl (by kernel_rfl) (by kernel_rfl) (by kernel_rfl) (by kernel_rfl) rfl (yo_on rfl rfl (yo_pure hT rfl)) ?_; refine rw_takeP 32 rfl rfl (by kernel_rfl) (by kernel_rfl) (by kernel_rfl) (by kernel_rfl) rfl (yo_on rfl rfl (yo_pure hT rfl)) ?_; refine rw_takeP 33 rfl rfl (by kernel_rfl) (by kernel_rfl) (by kernel_rfl) (by kernel_rfl) rfl (yo_on rfl rfl (yo_pure hT rfl)) ?_; refine rw_takeP 34 rfl rfl (by kernel_rfl) (by kernel_rfl) (by kernel_rfl) (by kernel_rfl) rfl (yo_on rfl rfl (yo_pure hT rfl)) ?_)
        (refine rw_takeP 35 rfl rfl (by kernel_rfl) (by kernel_rfl) (by kernel_rfl) (by kernel_rfl) rfl (yo_pure hT rfl) ?_; refine rw_takeP 36 rfl rfl (by kernel_rfl) (by kernel_rfl) (by kernel_rfl) (by kernel_rfl) rfl (yo_pure hT rfl) ?_)
        (refine rw_takeP 37 rfl rfl (by kernel_rfl) (by kernel_rfl) (by kernel_rfl) (by kernel_rfl) rfl (yo_on rfl rfl (yo_pure hT rfl)) ?_; refine rw_takeP 38 rfl rfl (by kernel_rfl) (by kernel_rfl) (by kernel_rfl) (by kernel_rfl) rfl (yo_on rfl rfl (yo_pure hT rfl)) ?_; refine rw_takeP 39 rfl rfl (by kernel_rfl) (by kernel_rfl) (by kernel_rfl) (by kernel_rfl) rfl (yo_on rfl rfl (yo_pure hT rfl)) ?_)
        refine rw_take 40 rfl rfl (by kernel_rfl) (by kernel_rfl) (by kernel_rfl) (by kernel_rfl) rfl (yo_on rfl rfl (yo_load hT rfl rfl (v := .string x.bill.number) (fun w' hS => Ex.cell hS (hb1314.cell 0)))) ?_
        (refine rw_takeP 41 rfl rfl (by kernel_rfl) (by kernel_rfl) (by kernel_rfl) (by kernel_rfl) rfl (yo_on rfl rfl (yo_pure hT rfl)) ?_; refine rw_takeP 43 rfl rfl (by kernel_rfl) (by kernel_rfl) (by kernel_rfl) (by kernel_rfl) rfl (yo_on rfl rfl (yo_pure hT rfl)) ?_)
        refine rw_take 44 rfl rfl (by kernel_rfl) (by kernel_rfl) (by kernel_rfl) (by kernel_rfl) rfl (yo_on rfl rfl (yo_load hT rfl rfl (v := vc) (fun w' hS => Ex.cell hS (hb1814.cell 2)))) ?_
        refine rw_one 42 rfl (by kernel_rfl) rfl (fun hcl => ?_)
        refine lw_gon_f rfl rfl ?_
        refine lw_call hT rfl rfl (reg_Chain (hR14.ex hx15) hsm x.bill.number k) ?_
        rintro uc w16 ⟨huc, hx16⟩
        rw [chain_of hatx h3 hk3, ← hq] at huc
        have hx1416 := hx15.trans hx16
        (repeat (refine lw_nil ?_))
        refine qw_rw (by repeat with_reducible (first | refine nop_then ?_ | refine nop_block ?_ | exact nop_body)) hcl (fun _ => hx1416) ?_
        refine rw_one 45 rfl (by kernel_rfl) rfl (fun hcl => ?_)
        refine lw_gon_f rfl rfl ?_
        have hc16 : ChainOk w16 uc q.chain := own_mono huc (Nat.zero_le _)
        refine lw_call hT rfl rfl (r23_Chains w16 (hc16.sl (A := fun _ => True) fun _ _ => trivial) (hch14.ex hx1416)) ?_
        rintro _ w17 ⟨rfl, hx17⟩
        have hx1417 := hx1416.trans hx17
        (repeat (refine lw_nil ?_))
        refine qw_rw (by repeat with_reducible (first | refine nop_then ?_ | refine nop_block ?_ | exact nop_body)) hcl (fun _ => hx1417) ?_
        (refine rw_takeP 46 rfl rfl (by kernel_rfl) (by kernel_rfl) (by kernel_rfl) (by kernel_rfl) rfl (yo_on rfl rfl (yo_pure hT rfl)) ?_)
        (refine rw_takeP 47 rfl rfl (by kernel_rfl) (by kernel_rfl) (by kernel_rfl) (by kernel_rfl) rfl (yo_pure hT rfl) ?_)
        refine rw_done (by kernel_rfl) ?_
        (repeat (first | (refine lw_add rfl rfl ?_ ?_ ?_; iterate 2 omega) | refine lw_pure hT rfl ?_ | refine lw_nil ?_ | refine cw_region ?_ | refine qw_then ?_ | refine cw_skip ?_ | refine qw_block ?_ | (refine cw_cond_f rfl ?_ ?_; focus with_reducible (first | rfl | exact Bool.not_false | exact Bool.not_true))))
        exact qw_round (k + 1) (by repeat (first | exact trivial | refine ⟨rfl, ?_⟩)) ⟨hk3, hx13.trans (hx1314.trans hx1417)⟩ (by omega)
      · refine cw_sub (fr' := [(0, .pointer (some ⟨p, 0, none⟩)), (2, .string who), (5, .pointer (some ⟨b5, 0, none⟩)), (12, .int .i64 (i : Nat)), (13, .pointer (some ⟨b13, 0, none⟩)), (16, .slice (some ⟨g16, 0, none⟩) 3 c16), (17, .int .i64 (k : Nat)), (18, .pointer (some ⟨b18, 0, none⟩)), (19, .string q.holder), (20, .bool true), (21, .bool true)]) (by repeat (first | exact trivial | refine ⟨rfl, ?_⟩)) ?_
        skip
        refine cw_draw hM (fun w' => Ex w14 w') [] rfl rfl (by repeat with_reducible (first | refine nop_then ?_ | refine nop_block ?_ | exact nop_body)) (fun w15 hx15 _ => ⟨hx15, ?_⟩)
        (refine rw_takeP 0 rfl rfl (by kernel_rfl) (by kernel_rfl) (by kernel_rfl) (by kernel_rfl) rfl (yo_pure hT rfl) ?_; refine rw_takeP 1 rfl rfl (by kernel_rfl) (by kernel_rfl) (by kernel_rfl) (by kernel_rfl) rfl (yo_pure hT rfl) ?_)
        refine rw_takeP 2 rfl rfl (by kernel_rfl) (by kernel_rfl) (by kernel_rfl) (by kernel_rfl) rfl (yo_index hT rfl rfl rfl k rfl hk3) ?_
        refine rw_take 3 rfl rfl (by kernel_rfl) (by kernel_rfl) (by kernel_rfl) (by kernel_rfl) rfl (yo_load_agg hT rfl rfl rfl (vs := origRow x.bill.number q k) (fun w' hS => hor14.ex hS)) ?_
        (refine rw_takeP 4 rfl rfl (by kernel_rfl) (by kernel_rfl) (by kernel_rfl) (by kernel_rfl) rfl (yo_pure hT rfl) ?_; refine rw_takeP 5 rfl rfl (by kernel_rfl) (by kernel_rfl) (by kernel_rfl) (by kernel_rfl) rfl (yo_pure hT rfl) ?_)
        refine rw_take 6 rfl rfl (by kernel_rfl) (by kernel_rfl) (by kernel_rfl) (by kernel_rfl) rfl (yo_load hT rfl rfl (v := .string x.bill.number) (fun w' hS => Ex.cell hS (hb1314.cell 0))) ?_
        (refine rw_takeP 7 rfl rfl (by kernel_rfl) (by kernel_rfl) (by kernel_rfl) (by kernel_rfl) rfl (yo_pure hT rfl) ?_; refine rw_takeP 8 rfl rfl (by kernel_rfl) (by kernel_rfl) (by kernel_rfl) (by kernel_rfl) rfl (yo_pure hT rfl) ?_)
        refine rw_take 9 rfl rfl (by kernel_rfl) (by kernel_rfl) (by kernel_rfl) (by kernel_rfl) rfl (yo_load hT rfl rfl (v := .int .i64 q.state) (fun w' hS => Ex.cell hS (hb1814.cell 0))) ?_
        (refine rw_takeP 10 rfl rfl (by kernel_rfl) (by kernel_rfl) (by kernel_rfl) (by kernel_rfl) rfl (yo_pure hT rfl) ?_)
        refine rw_take 11 rfl rfl (by kernel_rfl) (by kernel_rfl) (by kernel_rfl) (by kernel_rfl) rfl (yo_load hT rfl rfl (v := .string q.holder) (fun w' hS => Ex.cell hS (hb1814.cell 1))) ?_
        refine rw_takeP 12 rfl rfl (by kernel_rfl) (by kernel_rfl) (by kernel_rfl) (by kernel_rfl) rfl (yo_build bt129 rfl) ?_
        refine rw_takeP 13 rfl rfl (by kernel_rfl) (by kernel_rfl) (by kernel_rfl) (by kernel_rfl) rfl (yo_neq_same rfl rfl (orig_self x.bill.number q k)) ?_
        (refine rw_takeP 14 rfl rfl (by kernel_rfl) (by kernel_rfl) (by kernel_rfl) (by kernel_rfl) rfl (yo_pure hT rfl) ?_)
        (refine rw_takeP 15 rfl rfl (by kernel_rfl) (by kernel_rfl) (by kernel_rfl) (by kernel_rfl) rfl (yo_on rfl rfl (yo_pure hT rfl)) ?_; refine rw_takeP 16 rfl rfl (by kernel_rfl) (by kernel_rfl) (by kernel_rfl) (by kernel_rfl) rfl (yo_on rfl rfl (yo_pure hT rfl)) ?_)
        refine rw_takeP 17 rfl rfl (by kernel_rfl) (by kernel_rfl) (by kernel_rfl) (by kernel_rfl) rfl (yo_on rfl rfl (yo_neq_bool (by kernel_rfl) rfl rfl)) ?_
        (refine rw_takeP 18 rfl rfl (by kernel_rfl) (by kernel_rfl) (by kernel_rfl) (by kernel_rfl) rfl (yo_pure hT rfl) ?_; refine rw_takeP 19 rfl rfl (by kernel_rfl) (by kernel_rfl) (by kernel_rfl) (by kernel_rfl) rfl (yo_pure hT rfl) ?_)
        (refine rw_takeP 20 rfl rfl (by kernel_rfl) (by kernel_rfl) (by kernel_rfl) (by kernel_rfl) rfl (yo_on rfl rfl (yo_pure hT rfl)) ?_; refine rw_takeP 21 rfl rfl (by kernel_rfl) (by kernel_rfl) (by kernel_rfl) (by kernel_rfl) rfl (yo_on rfl rfl (yo_pure hT rfl)) ?_)
        (refine rw_takeP 22 rfl rfl (by kernel_rfl) (by kernel_rfl) (by kernel_rfl) (by kernel_rfl) rfl (yo_on rfl rfl (yo_pure hT rfl)) ?_; refine rw_takeP 23 rfl rfl (by kernel_rfl) (by kernel_rfl) (by kernel_rfl) (by kernel_rfl) rfl (yo_on rfl rfl (yo_pure hT rfl)) ?_)
        refine rw_take 24 rfl rfl (by kernel_rfl) (by kernel_rfl) (by kernel_rfl) (by kernel_rfl) rfl (yo_on rfl rfl (yo_load hT rfl rfl (v := .string q.holder) (fun w' hS => Ex.cell hS (hb1814.cell 1)))) ?_
        (refine rw_takeP 25 rfl rfl (by kernel_rfl) (by kernel_rfl) (by kernel_rfl) (by kernel_rfl) rfl (yo_on rfl rfl (yo_pure hT rfl)) ?_; refine rw_takeP 26 rfl rfl (by kernel_rfl) (by kernel_rfl) (by kernel_rfl) (by kernel_rfl) rfl (yo_on rfl rfl (yo_pure hT rfl)) ?_)
        (refine rw_takeP 27 rfl rfl (by kernel_rfl) (by kernel_rfl) (by kernel_rfl) (by kernel_rfl) rfl (yo_pure hT rfl) ?_; refine rw_takeP 28 rfl rfl (by kernel_rfl) (by kernel_rfl) (by kernel_rfl) (by kernel_rfl) rfl (yo_pure hT rfl) ?_)
        refine rw_split (d := 196) rfl (fun e => absurd rfl (of_decide_eq_true e)) (fun _ => ?_)
        (refine rw_takeP 29 rfl rfl (by kernel_rfl) (by kernel_rfl) (by kernel_rfl) (by kernel_rfl) rfl (yo_on rfl rfl (yo_pure hT rfl)) ?_; refine rw_takeP 30 rfl rfl (by kernel_rfl) (by kernel_rfl) (by kernel_rfl) (by kernel_rfl) rfl (yo_on rfl rfl (yo_pure hT rfl)) ?_; refine rw_takeP 31 rfl rfl (by kernel_rfl) (by kernel_rfl) (by kernel_rfl) (by kernel_rfl) rfl (yo_on rfl rfl (yo_pure hT rfl)) ?_)
        (refine rw_takeP 32 rfl rfl (by kernel_rfl) (by kernel_rfl) (by kernel_rfl) (by kernel_rfl) rfl (yo_off rfl rfl) ?_; refine rw_takeP 33 rfl rfl (by kernel_rfl) (by kernel_rfl) (by kernel_rfl) (by kernel_rfl) rfl (yo_off rfl rfl) ?_)
        (refine rw_takeP 34 rfl rfl (by kernel_rfl) (by kernel_rfl) (by kernel_rfl) (by kernel_rfl) rfl (yo_on rfl rfl (yo_pure hT rfl)) ?_)
        (refine rw_takeP 35 rfl rfl (by kernel_rfl) (by kernel_rfl) (by kernel_rfl) (by kernel_rfl) rfl (yo_pure hT rfl) ?_; refine rw_takeP 36 rfl rfl (by kernel_rfl) (by kernel_rfl) (by kernel_rfl) (by kernel_rfl) rfl (yo_pure hT rfl) ?_)
        (refine rw_takeP 37 rfl rfl (by kernel_rfl) (by kernel_rfl) (by kernel_rfl) (by kernel_rfl) rfl (yo_on rfl rfl (yo_pure hT rfl)) ?_; refine rw_takeP 38 rfl rfl (by kernel_rfl) (by kernel_rfl) (by kernel_rfl) (by kernel_rfl) rfl (yo_on rfl rfl (yo_pure hT rfl)) ?_; refine rw_takeP 39 rfl rfl (by kernel_rfl) (by kernel_rfl) (by kernel_rfl) (by kernel_rfl) rfl (yo_on rfl rfl (yo_pure hT rfl)) ?_)
        refine rw_take 40 rfl rfl (by kernel_rfl) (by kernel_rfl) (by kernel_rfl) (by kernel_rfl) rfl (yo_on rfl rfl (yo_load hT rfl rfl (v := .string x.bill.number) (fun w' hS => Ex.cell hS (hb1314.cell 0)))) ?_
        (refine rw_takeP 41 rfl rfl (by kernel_rfl) (by kernel_rfl) (by kernel_rfl) (by kernel_rfl) rfl (yo_on rfl rfl (yo_pure hT rfl)) ?_; refine rw_takeP 43 rfl rfl (by kernel_rfl) (by kernel_rfl) (by kernel_rfl) (by kernel_rfl) rfl (yo_on rfl rfl (yo_pure hT rfl)) ?_)
        refine rw_take 44 rfl rfl (by kernel_rfl) (by kernel_rfl) (by kernel_rfl) (by kernel_rfl) rfl (yo_on rfl rfl (yo_load hT rfl rfl (v := vc) (fun w' hS => Ex.cell hS (hb1814.cell 2)))) ?_
        refine rw_one 42 rfl (by kernel_rfl) rfl (fun hcl => ?_)
        refine lw_gon_f rfl rfl ?_
        refine lw_call hT rfl rfl (reg_Chain (hR14.ex hx15) hsm x.bill.number k) ?_
        rintro uc w16 ⟨huc, hx16⟩
        rw [chain_of hatx h3 hk3, ← hq] at huc
        have hx1416 := hx15.trans hx16
        (repeat (refine lw_nil ?_))
        refine qw_rw (by repeat with_reducible (first | refine nop_then ?_ | refine nop_block ?_ | exact nop_body)) hcl (fun _ => hx1416) ?_
        refine rw_one 45 rfl (by kernel_rfl) rfl (fun hcl => ?_)
        refine lw_gon_f rfl rfl ?_
        have hc16 : ChainOk w16 uc q.chain := own_mono huc (Nat.zero_le _)
        refine lw_call hT rfl rfl (r23_Chains w16 (hc16.sl (A := fun _ => True) fun _ _ => trivial) (hch14.ex hx1416)) ?_
        rintro _ w17 ⟨rfl, hx17⟩
        have hx1417 := hx1416.trans hx17
        (repeat (refine lw_nil ?_))
        refine qw_rw (by repeat with_reducible (first | refine nop_then ?_ | refine nop_block ?_ | exact nop_body)) hcl (fun _ => hx1417) ?_
        (refine rw_takeP 46 rfl rfl (by kernel_rfl) (by kernel_rfl) (by kernel_rfl) (by kernel_rfl) rfl (yo_on rfl rfl (yo_pure hT rfl)) ?_)
        (refine rw_takeP 47 rfl rfl (by kernel_rfl) (by kernel_rfl) (by kernel_rfl) (by kernel_rfl) rfl (yo_pure hT rfl) ?_)
        refine rw_done (by kernel_rfl) ?_
        (repeat (first | (refine lw_add rfl rfl ?_ ?_ ?_; iterate 2 omega) | refine lw_pure hT rfl ?_ | refine lw_nil ?_ | refine cw_region ?_ | refine qw_then ?_ | refine cw_skip ?_ | refine qw_block ?_ | (refine cw_cond_f rfl ?_ ?_; focus with_reducible (first | rfl | exact Bool.not_false | exact Bool.not_true))))
        exact qw_round (k + 1) (by repeat (first | exact trivial | refine ⟨rfl, ?_⟩)) ⟨hk3, hx13.trans (hx1314.trans hx1417)⟩ (by omega)
    · have ek : k = 3 := by have := of_decide_eq_false e; omega
      subst ek
      (repeat (first | (refine lw_add rfl rfl ?_ ?_ ?_; iterate 2 omega) | refine lw_pure hT rfl ?_ | refine lw_nil ?_ | refine cw_region ?_ | refine qw_then ?_ | refine cw_exit ?_ | refine qw_block ?_ | refine qw_block_exit ?_ | refine qw_then_exit ?_))
      exact qw_round (i + 1) (by repeat (first | exact trivial | refine ⟨rfl, ?_⟩)) ⟨hlt, (hx103.trans (hx35.trans hx58)).trans (hx9'.trans hx9_13)⟩ (by omega)
  · (repeat (first | refine lw_pure hT rfl ?_ | refine lw_nil ?_ | refine cw_seq ?_ | refine cw_region ?_ | refine qw_then ?_ | refine cw_ret ?_ | refine cw_exit ?_ | refine qw_block_exit ?_ | refine qw_then_exit ?_))
    exact qw_ret rfl ⟨rfl, hx03⟩
end Go.Proofs.YtnglkhnfmbnfeaaGreat
namespace Go.Proofs.YtnglkhnfmbnfeaaGreat
open Go Go.SK
theorem encS_one {A : Nat → Prop} {w : World} {a : SActD} {vp vn : Value} (h : SActAt A w a vp vn) : ∀ u ∈ encS a vp vn, u.oneCell' = true := by
  have o6 : vp.oneCell' = true := by obtain ⟨p, c, e, _⟩ := h.parts.is; rw [e]; rfl
  have o7 : vn.oneCell' = true := Sl.one h.names
  intro u hu
  simp [encS] at hu
  rcases hu with rfl | rfl | rfl | rfl | rfl | rfl | rfl | rfl | rfl <;> first | rfl | assumption
end Go.Proofs.YtnglkhnfmbnfeaaGreat
namespace Go.Proofs.YtnglkhnfmbnfeaaGreat
open Go Go.SK Go.ChangeShapes Go.WideShapes
section
variable {H : Type} {enc : TypeId × Value → H} {w : World} {base : Nat} {spare : Nat → Bool} {held : Bool}
theorem open_strs {fuel : Nat} {cs : List Value} {x : DataW H × List MemPlace} (hsp : ∀ b, spare b = true) (h : DataW.trod enc Tryz.prog w base spare held fuel 31 cs = some x) :
    ∃ (v : Value) (l : List ByteArray), cs = [v] ∧ SlS (fun _ => True) w v l ∧ (∀ p n c, v = .slice p n c → n ≤ c) ∧ ∀ s ∈ l, s.size ≤ maxLen :=
  open_texts (e := 9) hsp (by kernel_rfl) (by kernel_rfl) (by kernel_rfl) h
theorem open_slss {fuel : Nat} {cs : List Value} {x : DataW H × List MemPlace} (hsp : ∀ b, spare b = true) (h : DataW.trod enc Tryz.prog w base spare held fuel 39 cs = some x) :
    ∃ (v : Value) (ps : List (List ByteArray)), cs = [v] ∧ SlsAt (fun _ => True) w v ps ∧ PCap (fun _ => True) w v ps ∧ ∀ p ∈ ps, ∀ s ∈ p, s.size ≤ maxLen := by
  have hC : Tryz.prog.cellsOf 31 = 1 := by kernel_rfl
  rcases Go.Deep.open_slice (e := 31) (by kernel_rfl) h with ⟨rfl, _⟩ | ⟨a, len, cap, m, n, D, Pl, rfl, _, hl, hm, hmm, _, hx⟩
  · exact ⟨_, [], rfl, ⟨⟨none, 0, rfl, fun i hi => by simp at hi⟩, Nat.zero_le _, fun p n c e _ => by cases e; rfl⟩, ⟨none, 0, rfl, fun i hi => by simp at hi⟩, fun p hp => by simp at hp⟩
  · rw [hsp, if_pos rfl] at hmm
    subst hmm
    rw [hC] at hx
    have each : ∀ i, i < m → ∃ q : Value × List ByteArray, w.cell? ((a.add (i * 1)).add 0) = some q.1 ∧ SlS (fun _ => True) w q.1 q.2 ∧ (∀ p n c, q.1 = .slice p n c → n ≤ c) ∧ ∀ s ∈ q.2, s.size ≤ maxLen := by
      intro i hi
      obtain ⟨cs', h1, h2⟩ := hx i hi
      obtain ⟨_, _, h3⟩ := World.cells?_some h1
      obtain ⟨v, l, rfl, h4, h5, h6⟩ := open_strs hsp h2
      exact ⟨(v, l), h3 0 (by omega), h4, h5, h6⟩
    have ex : ∃ f : Nat → Value × List ByteArray, ∀ i, i < m → w.cell? ((a.add (i * 1)).add 0) = some (f i).1 ∧ SlS (fun _ => True) w (f i).1 (f i).2 ∧ (∀ p n c, (f i).1 = .slice p n c → n ≤ c) ∧ ∀ s ∈ (f i).2, s.size ≤ maxLen := by
      classical
      refine ⟨fun i => if hi : i < m then Classical.choose (each i hi) else (undef, []), fun i hi => ?_⟩
      simp only [dif_pos hi]
      exact Classical.choose_spec (each i hi)
    obtain ⟨f, hf⟩ := ex
    have hgo : ∀ i, i < len → a = ⟨a.block, a.off, none⟩ ∧ Rd w a.block (a.off + i * 1) [(f i).1] := by
      intro i hi
      have hz := (hf 0 (by omega)).1
      have e0 : (a.add (0 * 1)).add 0 = a := rfl
      rw [e0] at hz
      have ea := spot_of hz
      refine ⟨ea, ?_⟩
      have := (hf i (by omega)).1
      rw [ea, addr_add, addr_add] at this
      exact Rd.one this
    refine ⟨_, (List.range len).map fun i => (f i).2, rfl, ⟨⟨some a, m, by simp, fun i hi => ?_⟩, by simp; omega, fun p n c e hp => by cases e; cases hp⟩, ⟨some a, m, by simp, fun i hi => ?_⟩, ?_⟩
    · have hi' : i < len := by simpa using hi
      obtain ⟨ea, hrd⟩ := hgo i hi'
      refine ⟨a.block, a.off, (f i).1, by rw [← ea], trivial, hrd, ?_⟩
      have e : ((List.range len).map fun i => (f i).2)[i] = (f i).2 := by simp
      rw [e]; exact (hf i (by omega)).2.1
    · have hi' : i < len := by simpa using hi
      obtain ⟨ea, hrd⟩ := hgo i hi'
      obtain ⟨au, cu, e, _⟩ := (hf i (by omega)).2.1.is
      refine ⟨a.block, a.off, au, _, cu, by rw [← ea], trivial, by rw [← e]; exact hrd, (hf i (by omega)).2.2.1 _ _ _ e⟩
    · intro p hp
      obtain ⟨i, hi, rfl⟩ := List.mem_map.1 hp
      exact (hf i (by have := List.mem_range.1 hi; omega)).2.2.2
theorem open_sact {fuel : Nat} {cs : List Value} {x : DataW H × List MemPlace} (hsp : ∀ b, spare b = true) (h : DataW.trod enc Tryz.prog w base spare held fuel 45 cs = some x) :
    ∃ a vp vn, cs = encS a vp vn ∧ SActAt (fun _ => True) w a vp vn := by
  obtain ⟨n0, y0, h0⟩ := open_part (j := 0) (ft := 5) (o := 0) (k := 1) (by kernel_rfl) h
  obtain ⟨n1, y1, h1⟩ := open_part (j := 1) (ft := 9) (o := 1) (k := 1) (by kernel_rfl) h
  obtain ⟨n2, y2, h2⟩ := open_part (j := 2) (ft := 9) (o := 2) (k := 1) (by kernel_rfl) h
  obtain ⟨n3, y3, h3⟩ := open_part (j := 3) (ft := 9) (o := 3) (k := 1) (by kernel_rfl) h
  obtain ⟨n4, y4, h4⟩ := open_part (j := 4) (ft := 9) (o := 4) (k := 1) (by kernel_rfl) h
  obtain ⟨n5, y5, h5⟩ := open_part (j := 5) (ft := 9) (o := 5) (k := 1) (by kernel_rfl) h
  obtain ⟨n6, y6, h6⟩ := open_part (j := 6) (ft := 39) (o := 6) (k := 1) (by kernel_rfl) h
  obtain ⟨n7, y7, h7⟩ := open_part (j := 7) (ft := 31) (o := 7) (k := 1) (by kernel_rfl) h
  obtain ⟨n8, y8, h8⟩ := open_part (j := 8) (ft := 3) (o := 8) (k := 1) (by kernel_rfl) h
  have hlen : cs.length = 9 := open_len (fs := (Tryz.prog.underlying 45).elim #[] fun d => match d with | .struct fs => fs | _ => #[]) (by kernel_rfl) (by kernel_rfl) h
  have us : Tryz.prog.underlying 9 = some .string := by kernel_rfl
  have ui : Tryz.prog.underlying 3 = some (.int .i64) := by kernel_rfl
  have u8 : Tryz.prog.underlying 5 = some (.int .u8) := by kernel_rfl
  match cs, hlen with
  | [c0, c1, c2, c3, c4, c5, c6, c7, c8], _ =>
    obtain ⟨i0, e0, _, k0⟩ := DataW.trod_int u8 h0
    obtain ⟨s1, e1, _, k1⟩ := DataW.trod_string us h1
    obtain ⟨s2, e2, _, k2⟩ := DataW.trod_string us h2
    obtain ⟨s3, e3, _, k3⟩ := DataW.trod_string us h3
    obtain ⟨s4, e4, _, k4⟩ := DataW.trod_string us h4
    obtain ⟨s5, e5, _, k5⟩ := DataW.trod_string us h5
    obtain ⟨v6, l6, e6, g6, q6, k6⟩ := open_slss hsp h6
    obtain ⟨v7, l7, e7, g7, q7, k7⟩ := open_strs hsp h7
    obtain ⟨i8, e8, _, _⟩ := DataW.trod_int ui h8
    simp at e0 e1 e2 e3 e4 e5 e6 e7 e8
    subst e0 e1 e2 e3 e4 e5 e6 e7 e8
    have hk0 : 0 ≤ i0 ∧ i0 ≤ 255 := by
      have a1 : IntKind.u8.min = 0 := rfl
      have a2 : IntKind.u8.max = 255 := rfl
      simp only [Lit.wf, Bool.and_eq_true, decide_eq_true_eq, a1, a2] at k0
      exact k0
    exact ⟨⟨i0, s1, s2, s3, s4, s5, l6, l7, i8⟩, c6, c7, rfl, ⟨g6, q6, g7, q7, ⟨hk0, k1, k2, k3, k4, k5, k6, k7⟩⟩⟩
theorem open_sacts {fuel : Nat} {cs : List Value} {x : DataW H × List MemPlace} (hsp : ∀ b, spare b = true) (h : DataW.trod enc Tryz.prog w base spare held fuel 47 cs = some x) :
    ∃ v l, cs = [v] ∧ SActsAt (fun _ => True) w v l := by
  have hC : Tryz.prog.cellsOf 45 = 9 := by kernel_rfl
  rcases Go.Deep.open_slice (e := 45) (by kernel_rfl) h with ⟨rfl, _⟩ | ⟨a, len, cap, m, n, D, Pl, rfl, _, hl, hm, hmm, _, hx⟩
  · exact ⟨_, [], rfl, ⟨none, 0, rfl, Nat.zero_le _, fun i hi => by simp at hi⟩⟩
  · rw [hsp, if_pos rfl] at hmm
    subst hmm
    rw [hC] at hx
    have each : ∀ i, i < m → ∃ q : (SActD × Value × Value), (∀ j, j < 9 → w.cell? ((a.add (i * 9)).add j) = (encS q.1 q.2.1 q.2.2)[j]?) ∧ SActAt (fun _ => True) w q.1 q.2.1 q.2.2 := by
      intro i hi
      obtain ⟨cs', h1, h2⟩ := hx i hi
      obtain ⟨_, _, h3⟩ := World.cells?_some h1
      obtain ⟨q, vb, vp, rfl, h4⟩ := open_sact hsp h2
      exact ⟨(q, vb, vp), h3, h4⟩
    have ex : ∃ f : Nat → SActD × Value × Value, ∀ i, i < m → (∀ j, j < 9 → w.cell? ((a.add (i * 9)).add j) = (encS (f i).1 (f i).2.1 (f i).2.2)[j]?) ∧ SActAt (fun _ => True) w (f i).1 (f i).2.1 (f i).2.2 := by
      classical
      refine ⟨fun i => if hi : i < m then Classical.choose (each i hi) else (⟨0, ⟨#[]⟩, ⟨#[]⟩, ⟨#[]⟩, ⟨#[]⟩, ⟨#[]⟩, [], [], 0⟩, undef, undef), fun i hi => ?_⟩
      simp only [dif_pos hi]
      exact Classical.choose_spec (each i hi)
    obtain ⟨f, hf⟩ := ex
    refine ⟨_, (List.range len).map fun i => (f i).1, rfl, ⟨some a, m, by simp, by simp; omega, fun i hi => ?_⟩⟩
    have hi' : i < len := by simpa using hi
    have hz := (hf 0 (by omega)).1 0 (by omega)
    have e0 : (a.add (0 * 9)).add 0 = a := rfl
    rw [e0] at hz
    have ea := spot_of (hz.trans rfl)
    obtain ⟨h1, h2⟩ := hf i (by omega)
    refine ⟨a.block, a.off, (f i).2.1, (f i).2.2, by rw [← ea], trivial, ?_, ?_⟩
    · have e : ((List.range len).map fun i => (f i).1)[i] = (f i).1 := by simp
      rw [e]
      intro j v hj
      have hj' : j < 9 := (List.getElem?_eq_some_iff.1 hj).1
      have := h1 j hj'
      rw [ea, addr_add, addr_add] at this
      rw [this]; exact hj
    · have e : ((List.range len).map fun i => (f i).1)[i] = (f i).1 := by simp
      rw [e]; exact h2
end
end Go.Proofs.YtnglkhnfmbnfeaaGreat
namespace Go.Proofs.YtnglkhnfmbnfeaaGreat
open Go Go.SK
theorem r24_in {A : Nat → Prop} {v : Value} {l : List ByteArray} (s : ByteArray) (w : World) (hS : SlS A w v l) : Ret Tryz.prog 56 [v, .string s] w fun u w' => u = .bool (l.any fun y => decide (y = s)) ∧ w = w' := by
  have hm := hS.small
  obtain ⟨a, cap, rfl, hz, hr⟩ := hS.is
  simp only [List.length_map] at *
  unfold maxLen at hm
  refine ret_of Tryz.func56 Tryz.ntmps56 rfl rfl rfl ?_
  (repeat (first | refine lw_pure hT rfl ?_ | refine lw_nil ?_ | refine cw_seq ?_ | refine cw_region ?_ | refine qw_then ?_ | refine cw_block ?_))
  refine cw_loop (fun i : Nat => [(0, .slice a l.length cap), (1, .string s), (5, .int .i64 (i : Nat))]) (fun i w' => w = w' ∧ i ≤ l.length ∧ ∀ j (hj : j < l.length), j < i → decide (l[j] = s) = false) (fun i => l.length - i) 0 (by repeat (first | exact trivial | refine ⟨rfl, ?_⟩)) ⟨rfl, Nat.zero_le _, fun j _ hj => by omega⟩ ?_
  rintro i _ ⟨rfl, hi, hb⟩
  (repeat (first | refine lw_pure hT rfl ?_ | refine lw_nil ?_ | refine cw_seq ?_ | refine cw_region ?_ | refine qw_then ?_))
  refine cw_cond rfl (fun h => ?_) (fun h => ?_)
  · have hlt : i < l.length := by simp at h; omega
    have hne : l.map (fun s => [Value.string s]) ≠ [] := by intro e; simp at e; subst e; simp at hlt
    obtain ⟨b, o, rfl, hA, hrd⟩ := hr hne
    obtain ⟨hlen, hrd⟩ := hrd i [.string l[i]] (by simp [hlt])
    (repeat (first | refine lw_pure hT rfl ?_ | refine cw_seq ?_ | refine cw_region ?_ | refine qw_then ?_ | refine cw_skip ?_ | refine cw_block ?_))
    refine lw_index hT rfl rfl rfl i rfl hlt ?_
    skip
    refine lw_load hT rfl rfl (v := .string l[i]) (hrd 0 _ rfl) ?_
    (repeat (first | refine lw_pure hT rfl ?_ | refine lw_nil ?_ | refine qw_then ?_))
    refine cw_cond rfl (fun h' => ?_) (fun h' => ?_)
    · (repeat (first | refine lw_pure hT rfl ?_ | refine lw_nil ?_ | refine cw_seq ?_ | refine cw_region ?_ | refine qw_then ?_ | refine cw_ret ?_ | refine qw_then_ret ?_ | refine qw_block_ret ?_))
      refine qw_ret rfl ⟨?_, rfl⟩
      have : (l.any fun y => decide (y = s)) = true := by rw [List.any_eq_true]; exact ⟨l[i], List.getElem_mem hlt, h'⟩
      rw [this]; rfl
    · (repeat (first | (refine lw_add rfl rfl ?_ ?_ ?_; iterate 2 omega) | refine lw_pure hT rfl ?_ | refine lw_nil ?_ | refine cw_region ?_ | refine qw_then ?_ | refine cw_skip ?_ | refine qw_block ?_))
      refine qw_round (i + 1) (by repeat (first | exact trivial | refine ⟨rfl, ?_⟩)) ⟨rfl, hlt, fun j hj hji => ?_⟩ (by omega)
      by_cases e : j = i
      · subst e; exact h'
      · exact hb j hj (by omega)
  · have : i = l.length := by simp at h; omega
    subst this
    (repeat (first | refine lw_pure hT rfl ?_ | refine lw_nil ?_ | refine cw_seq ?_ | refine cw_region ?_ | refine qw_then ?_ | refine cw_ret ?_ | refine cw_exit ?_ | refine qw_block_exit ?_ | refine qw_then_exit ?_))
    refine qw_ret rfl ⟨?_, rfl⟩
    have : (l.any fun y => decide (y = s)) = false := by
      rw [List.any_eq_false]
      intro y hy
      obtain ⟨j, hj, rfl⟩ := List.getElem_of_mem hy
      rw [hb j hj hj]; decide
    rw [this]; rfl
theorem nodup_take {l : List ByteArray} (h : ∀ i (hi : i < l.length), l[i] ∉ l.take i) : l.Nodup := by
  refine List.pairwise_iff_getElem.2 fun i j hi hj hij e => h j hj ?_
  rw [← e]
  exact List.mem_take_iff_getElem.2 ⟨i, by omega, rfl⟩
theorem take_nodup {l : List ByteArray} (h : l.Nodup) (i : Nat) (hi : i < l.length) : l[i] ∉ l.take i := by
  intro hm
  obtain ⟨j, hj, e⟩ := List.mem_take_iff_getElem.1 hm
  exact List.pairwise_iff_getElem.1 h j i (by omega) hi (by omega) e
theorem r24_unlike {A : Nat → Prop} {w : World} {v : Value} {l : List ByteArray} (hS : SlS A w v l) (hcap : ∀ p n c, v = .slice p n c → n ≤ c) : Ret Tryz.prog 98 [v] w fun u w' => u = .bool (decide l.Nodup) ∧ Ex w w' := by
  have hS0 := hS
  obtain ⟨a, c, rfl, _, hr⟩ := hS.is
  have hsm := hS.small
  have hc := hcap _ _ _ rfl
  simp only [List.length_map] at *
  unfold maxLen at hsm
  refine ret_of Tryz.func98 Tryz.ntmps98 rfl rfl rfl ?_
  (repeat (first | refine lw_pure hT rfl ?_ | refine lw_nil ?_ | refine cw_seq ?_ | refine cw_region ?_ | refine qw_then ?_ | refine cw_block ?_))
  refine cw_loop (fun i : Nat => [(0, .slice a l.length c), (3, .int .i64 (i : Nat))]) (fun i w' => i ≤ l.length ∧ Ex w w' ∧ ∀ j (hj : j < l.length), j < i → l[j] ∉ l.take j) (fun i => l.length - i) 0 (by repeat (first | exact trivial | refine ⟨rfl, ?_⟩)) ⟨Nat.zero_le _, Ext.refl _ _, fun j _ hj => by omega⟩ ?_
  rintro i w1 ⟨hi, hx1, hb⟩
  (repeat (first | refine lw_pure hT rfl ?_ | refine lw_nil ?_ | refine cw_seq ?_ | refine cw_region ?_ | refine qw_then ?_))
  refine cw_cond rfl (fun e => ?_) (fun e => ?_)
  · have hlt : i < l.length := by have := of_decide_eq_true e; omega
    have hne : l.map (fun s => [Value.string s]) ≠ [] := by intro e; simp at e; rw [e] at hlt; simp at hlt
    obtain ⟨bb, oo, rfl, _, hrd⟩ := hr hne
    have hri := (hrd i [.string l[i]] (by rw [List.getElem?_map, List.getElem?_eq_getElem hlt]; rfl)).2.ex hx1
    have hTk := (hS0.ex hx1).cutTo (i := i) (by rw [List.length_map]; omega)
    rw [← List.map_take] at hTk
    (repeat (first | refine cw_seq ?_ | refine qw_then ?_ | refine cw_skip ?_ | refine cw_block ?_))
    refine cw_cut_any (α := Unit) (fun _ => [(0, .slice (some ⟨bb, oo, none⟩) l.length c), (3, .int .i64 (i : Nat)), (17, .bool ((l.take i).any fun y => decide (y = l[i])))]) (fun _ w' => Ex w1 w') ?_ ?_
    · refine cw_draw hM (fun w' => Ex w1 w') [] rfl rfl (by repeat with_reducible (first | refine nop_then ?_ | refine nop_block ?_ | exact nop_body)) (fun w2 hx2 _ => ⟨hx2, ?_⟩)
      (refine rw_takeP 0 rfl rfl (by kernel_rfl) (by kernel_rfl) (by kernel_rfl) (by kernel_rfl) rfl (yo_pure hT rfl) ?_; refine rw_takeP 1 rfl rfl (by kernel_rfl) (by kernel_rfl) (by kernel_rfl) (by kernel_rfl) rfl (yo_pure hT rfl) ?_)
      refine rw_takeP 2 rfl rfl (by kernel_rfl) (by kernel_rfl) (by kernel_rfl) (by kernel_rfl) rfl (yo_slice_sl hT rfl rfl rfl rfl 0 i rfl rfl (Nat.zero_le _) (by omega)) ?_
      (refine rw_takeP 3 rfl rfl (by kernel_rfl) (by kernel_rfl) (by kernel_rfl) (by kernel_rfl) rfl (yo_pure hT rfl) ?_; refine rw_takeP 4 rfl rfl (by kernel_rfl) (by kernel_rfl) (by kernel_rfl) (by kernel_rfl) rfl (yo_pure hT rfl) ?_)
      refine rw_takeP 5 rfl rfl (by kernel_rfl) (by kernel_rfl) (by kernel_rfl) (by kernel_rfl) rfl (yo_index hT rfl rfl rfl i rfl hlt) ?_
      refine rw_take 6 rfl rfl (by kernel_rfl) (by kernel_rfl) (by kernel_rfl) (by kernel_rfl) rfl (yo_load hT rfl rfl (v := .string l[i]) (fun w' hS => (hri.ex hS) 0 _ rfl)) ?_
      refine rw_one 7 rfl (by kernel_rfl) rfl (fun hcl => ?_)
      refine lw_call hT rfl rfl (r24_in l[i] w2 (hTk.ex hx2)) ?_
      rintro _ _ ⟨rfl, rfl⟩
      (repeat (refine lw_nil ?_))
      refine qw_rw (by repeat with_reducible (first | refine nop_then ?_ | refine nop_block ?_ | exact nop_body)) hcl (fun _ => hx2) ?_
      refine rw_done (by kernel_rfl) ?_
      exact qw_cut () (by repeat (first | exact trivial | refine ⟨rfl, ?_⟩)) hx2
    · rintro _ w2 hx2
      (repeat (refine qw_then ?_))
      refine cw_cond rfl (fun e => ?_) (fun e => ?_)
      · have hm : l[i] ∈ l.take i := by
          obtain ⟨y, hy, h⟩ := List.any_eq_true.1 e
          rw [← of_decide_eq_true h]; exact hy
        (repeat (first | refine lw_pure hT rfl ?_ | refine lw_nil ?_ | refine cw_seq ?_ | refine cw_region ?_ | refine qw_then ?_ | refine cw_ret ?_ | refine qw_then_ret ?_ | refine qw_block_ret ?_))
        exact qw_ret rfl ⟨by rw [decide_eq_false (fun h => take_nodup h i hlt hm)]; rfl, hx1.trans hx2⟩
      · have hm : l[i] ∉ l.take i := fun hm => by
          rw [List.any_eq_true.2 ⟨_, hm, by simp⟩] at e; cases e
        (repeat (first | (refine lw_add rfl rfl ?_ ?_ ?_; iterate 2 omega) | refine lw_pure hT rfl ?_ | refine lw_nil ?_ | refine cw_region ?_ | refine qw_then ?_ | refine cw_skip ?_ | refine qw_block ?_))
        refine qw_round (i + 1) (by repeat (first | exact trivial | refine ⟨rfl, ?_⟩)) ⟨hlt, hx1.trans hx2, fun j hj hji => ?_⟩ (by omega)
        by_cases ej : j = i
        · subst ej; exact hm
        · exact hb j hj (by omega)
  · have hil : i = l.length := by have := of_decide_eq_false e; omega
    subst hil
    (repeat (first | refine lw_pure hT rfl ?_ | refine lw_nil ?_ | refine cw_seq ?_ | refine cw_region ?_ | refine qw_then ?_ | refine cw_ret ?_ | refine cw_exit ?_ | refine qw_block_exit ?_ | refine qw_then_exit ?_))
    exact qw_ret rfl ⟨by rw [decide_eq_true (nodup_take fun i hi => hb i hi hi)]; rfl, hx1⟩
def PartD (boxes : List ByteArray) (parts : List (List ByteArray)) : Prop := (∀ p ∈ parts, p ≠ []) ∧ parts.flatten.length = boxes.length ∧ parts.flatten.Nodup ∧ ∀ x ∈ parts.flatten, x ∈ boxes
set_option maxHeartbeats 4000000 in
theorem r24_partition {A B : Nat → Prop} {w : World} {vb vp : Value} {boxes : List ByteArray} {ps : List (List ByteArray)} (hB : SlS B w vb boxes) (hS : SlsAt A w vp ps) (hfl : ps.flatten.length ≤ 1000000) :
    Ret Tryz.prog 99 [vb, vp] w fun u w' => (∃ bb, u = .bool bb ∧ (bb = true ↔ PartD boxes ps)) ∧ Ex w w' := by
  obtain ⟨p, cap, rfl, hrow⟩ := hS.is
  have hsm := hS.small
  have hbm := hB.small
  unfold maxLen at hsm
  obtain ⟨ab, cb, rfl, _, _⟩ := hB.is
  simp only [List.length_map] at *
  unfold maxLen at hbm
  refine ret_of Tryz.func99 Tryz.ntmps99 rfl rfl rfl ?_
  (repeat (first | refine lw_pure hT rfl ?_ | refine lw_nil ?_ | refine cw_seq ?_ | refine cw_region ?_ | refine qw_then ?_))
  refine lw_buildSlice sl31 rfl rfl rfl ?_
  intro b5 w1 hbb5 hb5 hx1 hs1
  have hown1 : w1.ownsRow w.heap.size 9 1 (.slice (some ⟨b5, 0, none⟩) 0 0) 0 [] := own_lit hb5 (by omega) rfl (by decide)
  (repeat (first | refine lw_pure hT rfl ?_ | refine lw_nil ?_ | refine cw_seq ?_ | refine cw_region ?_ | refine qw_then ?_ | refine cw_block ?_))
  refine cw_loop (fun z : Nat × Value => [(0, .slice ab boxes.length cb), (1, .slice p ps.length cap), (5, z.2), (6, .int .i64 (z.1 : Nat))])
    (fun z w' => z.1 ≤ ps.length ∧ Ex w w' ∧ w'.ownsRow w.heap.size 9 1 z.2 (ps.take z.1).flatten.length ((ps.take z.1).flatten.map Value.string) ∧ ∀ q ∈ ps.take z.1, q ≠ []) (fun z => ps.length - z.1) (0, .slice (some ⟨b5, 0, none⟩) 0 0) (by repeat (first | exact trivial | refine ⟨rfl, ?_⟩)) ⟨Nat.zero_le _, hx1, hown1, fun q hq => by simp at hq⟩ ?_
  rintro ⟨i, va⟩ w2 ⟨hi, hx2, hown2, hne2⟩
  dsimp only at hi hown2 hne2 ⊢
  have hfi := flat_le ps i
  (repeat (first | refine lw_pure hT rfl ?_ | refine lw_nil ?_ | refine cw_seq ?_ | refine cw_region ?_ | refine qw_then ?_))
  refine cw_cond rfl (fun e => ?_) (fun e => ?_)
  · have hlt : i < ps.length := by have := of_decide_eq_true e; omega
    obtain ⟨b, o, u, rfl, _, hrd, hu⟩ := hrow i hlt
    have htk : ps.take (i + 1) = ps.take i ++ [ps[i]] := List.take_succ_eq_append_getElem hlt
    have hft := flat_take hlt
    have hfl2 := flat_le ps (i + 1)
    have hmem : ps[i] ∈ ps := List.getElem_mem hlt
    generalize ps[i] = q at hrd hu htk hft hmem
    rw [hft, List.length_append] at hfl2
    have hu0 := hu
    obtain ⟨au, cu, rfl, _⟩ := hu.is
    have hqm := hu.small
    simp only [List.length_map] at *
    unfold maxLen at hqm
    (repeat (first | refine lw_pure hT rfl ?_ | refine cw_seq ?_ | refine cw_region ?_ | refine qw_then ?_ | refine cw_skip ?_ | refine cw_block ?_))
    refine lw_index hT rfl rfl rfl i rfl hlt ?_
    skip
    refine lw_load hT rfl rfl (v := .slice au q.length cu) ((hrd.ex hx2) 0 _ rfl) ?_
    (repeat (first | refine lw_pure hT rfl ?_ | refine lw_nil ?_ | refine qw_then ?_))
    refine cw_cond rfl (fun e => ?_) (fun e => ?_)
    · have hq : q = [] := List.eq_nil_of_length_eq_zero (by have := of_decide_eq_true e; omega)
      (repeat (first | refine lw_pure hT rfl ?_ | refine lw_nil ?_ | refine cw_seq ?_ | refine cw_region ?_ | refine qw_then ?_ | refine cw_ret ?_ | refine qw_then_ret ?_ | refine qw_block_ret ?_))
      exact qw_ret rfl ⟨⟨false, rfl, ⟨fun h => absurd h (by decide), fun h => absurd hq (h.1 q hmem)⟩⟩, hx2⟩
    · have hq : q ≠ [] := fun h => by subst h; simp at e
      (repeat (first | refine lw_pure hT rfl ?_ | refine cw_region ?_ | refine qw_then ?_ | refine cw_skip ?_))
      refine lw_index hT rfl rfl rfl i rfl hlt ?_
      skip
      refine lw_load hT rfl rfl (v := .slice au q.length cu) ((hrd.ex hx2) 0 _ rfl) ?_
      skip
      refine lw_append_sl (rows := q.map fun s => [Value.string s]) (A := fun _ => True) sl31 (by decide) rfl hown2 rfl ((hu0.ex hx2).weaken fun _ _ => trivial) (by intro r hr x hx; simp at hr; obtain ⟨y, _, rfl⟩ := hr; simp at hx; subst hx; rfl) (by unfold maxLen; simp only [List.length_map]; omega) (by simp only [List.length_map]; omega) hx2.size ?_
      intro va' w3 k1 k2 k3 k4
      (repeat (first | (refine lw_add rfl rfl ?_ ?_ ?_; iterate 2 omega) | refine lw_pure hT rfl ?_ | refine lw_nil ?_ | refine cw_region ?_ | refine qw_then ?_ | refine qw_block ?_))
      refine qw_round (x := (i, va)) (i + 1, va') (by repeat (first | exact trivial | refine ⟨rfl, ?_⟩)) ⟨hlt, hx2.up_new k2 (fun b hb => (own_base hown2 hb.symm).1), ?_, fun r hr => ?_⟩ (by show ps.length - (i + 1) < ps.length - i; omega)
      · rw [hft, List.length_append, List.map_append]
        rw [flat4, List.length_map] at k1
        exact k1
      · rw [htk] at hr
        rcases List.mem_append.1 hr with hr | hr
        · exact hne2 r hr
        · rw [List.mem_singleton.1 hr]; exact hq
  · have hil : i = ps.length := by have := of_decide_eq_false e; omega
    subst hil
    rw [List.take_length] at hown2 hne2
    obtain ⟨aa, ca, rfl⟩ := own_slice0 hown2
    have hac := own_cap hown2
    have hsl2 : SlS (fun _ => True) w2 (.slice aa ps.flatten.length ca) ps.flatten := sls_own hown2 fun _ _ => trivial
    obtain ⟨aa', ca', hve, _, har⟩ := hsl2.is
    simp only [Value.slice.injEq, List.length_map] at hve
    obtain ⟨rfl, _, rfl⟩ := hve
    (repeat (first | refine lw_pure hT rfl ?_ | refine cw_seq ?_ | refine cw_region ?_ | refine qw_then ?_ | refine cw_exit ?_ | refine qw_block_exit ?_ | refine qw_then_exit ?_))
    refine lw_guard rfl (fun e => ?_) (fun e => ?_)
    · (repeat (first | refine lw_pure hT rfl ?_ | refine lw_nil ?_ | refine cw_seq ?_ | refine cw_region ?_ | refine qw_then ?_ | refine cw_ret ?_ | refine qw_then_ret ?_ | (refine lw_goff_t rfl ?_ ?_; focus with_reducible (first | rfl | exact Bool.not_false | exact Bool.not_true)) | (refine cw_cond_t rfl ?_ ?_; focus with_reducible (first | rfl | exact Bool.not_false | exact Bool.not_true))))
      exact qw_ret rfl ⟨⟨false, rfl, ⟨fun h => absurd h (by decide), fun h => by have := of_decide_eq_true e; exact absurd h.2.1 (by omega)⟩⟩, hx2⟩
    have hlen : ps.flatten.length = boxes.length := by have := of_decide_eq_false e; omega
    (repeat (first | refine lw_pure hT rfl ?_ | (refine lw_gon_f rfl ?_ ?_; focus with_reducible (first | rfl | exact Bool.not_false | exact Bool.not_true))))
    refine lw_call hT rfl rfl (r24_unlike hsl2 hac) ?_
    rintro _ w3 ⟨rfl, hx3⟩
    have hx03 := hx2.trans hx3
    (repeat (first | refine lw_pure hT rfl ?_ | refine lw_nil ?_ | refine qw_then ?_ | (refine lw_gon_f rfl ?_ ?_; focus with_reducible (first | rfl | exact Bool.not_false | exact Bool.not_true))))
    refine cw_cond rfl (fun e => ?_) (fun e => ?_)
    · (repeat (first | refine lw_pure hT rfl ?_ | refine lw_nil ?_ | refine cw_seq ?_ | refine cw_region ?_ | refine qw_then ?_ | refine cw_ret ?_ | refine qw_then_ret ?_))
      exact qw_ret rfl ⟨⟨false, rfl, ⟨fun h => absurd h (by decide), fun h => by simp [h.2.2.1] at e⟩⟩, hx03⟩
    have hnd : ps.flatten.Nodup := by simpa using e
    (repeat (first | refine lw_pure hT rfl ?_ | refine lw_nil ?_ | refine cw_seq ?_ | refine cw_region ?_ | refine qw_then ?_ | refine cw_skip ?_ | refine cw_block ?_))
    refine cw_loop (fun j : Nat => [(0, .slice ab boxes.length cb), (5, .slice aa ps.flatten.length ca), (7, .int .i64 (j : Nat))])
      (fun j w' => j ≤ ps.flatten.length ∧ Ex w3 w' ∧ ∀ x ∈ ps.flatten.take j, x ∈ boxes) (fun j => ps.flatten.length - j) 0 (by repeat (first | exact trivial | refine ⟨rfl, ?_⟩)) ⟨Nat.zero_le _, Ext.refl _ _, fun x hx => by simp at hx⟩ ?_
    rintro j w4 ⟨hj, hx4, hin⟩
    (repeat (first | refine lw_pure hT rfl ?_ | refine lw_nil ?_ | refine cw_seq ?_ | refine cw_region ?_ | refine qw_then ?_))
    refine cw_cond rfl (fun e => ?_) (fun e => ?_)
    · have hlt : j < ps.flatten.length := by have := of_decide_eq_true e; omega
      have hne : ps.flatten.map (fun s => [Value.string s]) ≠ [] := by intro e; rw [List.map_eq_nil_iff] at e; rw [e] at hlt; simp at hlt
      obtain ⟨bb, oo, rfl, _, hrd⟩ := har hne
      have hri := ((hrd j [.string ps.flatten[j]] (by rw [List.getElem?_map, List.getElem?_eq_getElem hlt]; rfl)).2.ex hx3).ex hx4
      have htk : ps.flatten.take (j + 1) = ps.flatten.take j ++ [ps.flatten[j]] := List.take_succ_eq_append_getElem hlt
      have hmem : ps.flatten[j] ∈ ps.flatten := List.getElem_mem hlt
      generalize ps.flatten[j] = x at hri htk hmem
      (repeat (first | refine lw_pure hT rfl ?_ | refine cw_seq ?_ | refine cw_region ?_ | refine qw_then ?_ | refine cw_skip ?_ | refine cw_block ?_))
      refine lw_index hT rfl rfl rfl j rfl hlt ?_
      skip
      refine lw_load hT rfl rfl (v := .string x) (hri 0 _ rfl) ?_
      skip
      refine lw_call hT rfl rfl (r24_in x w4 ((hB.ex hx03).ex hx4)) ?_
      rintro _ _ ⟨rfl, rfl⟩
      (repeat (first | refine lw_pure hT rfl ?_ | refine lw_nil ?_ | refine qw_then ?_))
      refine cw_cond rfl (fun e => ?_) (fun e => ?_)
      · have hno : x ∉ boxes := fun hm => by
          rw [List.any_eq_true.2 ⟨x, hm, by simp⟩] at e; cases e
        (repeat (first | refine lw_pure hT rfl ?_ | refine lw_nil ?_ | refine cw_seq ?_ | refine cw_region ?_ | refine qw_then ?_ | refine cw_ret ?_ | refine qw_then_ret ?_ | refine qw_block_ret ?_))
        exact qw_ret rfl ⟨⟨false, rfl, ⟨fun h => absurd h (by decide), fun h => absurd (h.2.2.2 x hmem) hno⟩⟩, hx03.trans hx4⟩
      · have hyes : x ∈ boxes := by
          have e : (boxes.any fun y => decide (y = x)) = true := by simpa using e
          obtain ⟨y, hy, h⟩ := List.any_eq_true.1 e
          rw [← of_decide_eq_true h]; exact hy
        (repeat (first | (refine lw_add rfl rfl ?_ ?_ ?_; iterate 2 omega) | refine lw_pure hT rfl ?_ | refine lw_nil ?_ | refine cw_region ?_ | refine qw_then ?_ | refine cw_skip ?_ | refine qw_block ?_))
        refine qw_round (j + 1) (by repeat (first | exact trivial | refine ⟨rfl, ?_⟩)) ⟨hlt, hx4, fun y hy => ?_⟩ (by omega)
        rw [htk] at hy
        rcases List.mem_append.1 hy with hy | hy
        · exact hin y hy
        · rw [List.mem_singleton.1 hy]; exact hyes
    · have hjl : j = ps.flatten.length := by have := of_decide_eq_false e; omega
      subst hjl
      rw [List.take_length] at hin
      (repeat (first | refine lw_pure hT rfl ?_ | refine lw_nil ?_ | refine cw_seq ?_ | refine cw_region ?_ | refine qw_then ?_ | refine cw_ret ?_ | refine cw_exit ?_ | refine qw_block_exit ?_ | refine qw_then_exit ?_))
      exact qw_ret rfl ⟨⟨true, rfl, ⟨fun _ => ⟨hne2, hlen, hnd, hin⟩, fun _ => rfl⟩⟩, hx03.trans hx4⟩
def retiF (bill by_ : ByteArray) (day : Int) : ActD := ⟨5, 0, day, bill, by_, ⟨#[]⟩, zeroB⟩
theorem retiF_C (r : RegD) (n b : ByteArray) (d : Int) : actC r (retiF n b d) = actC r (retiA n b d) := rfl
theorem retiF_A (r : RegD) (n b : ByteArray) (d : Int) : doA r (retiF n b d) = doA r (retiA n b d) := rfl
theorem reg_eta (c : ByteArray) (r : RegD) (h : r.carrier = c) : (⟨c, r.l⟩ : RegD) = r := by cases r; cases h; rfl
set_option maxHeartbeats 8000000 in
theorem r24_retire {A B : Nat → Prop} {w : World} {vL vn : Value} {k : Nat} {r : RegD} {gs : List FG} {bills : List ByteArray} (hF : FRep A w vL r.l gs) (hG : Good k r) (hk : k + 64 ≤ 1000000) (hl : r.l.length ≤ 256) (hN : SlS B w vn bills) (h64 : bills.length ≤ 64) (h1 : ∀ n ∈ bills, n.size ≤ maxLen) (by_ : ByteArray) (hby : by_.size ≤ maxLen) (day : Int) :
    Ret Tryz.prog 139 [.agg ⟨encR r.carrier vL⟩, vn, .string by_, .int .i64 day] w fun v w' =>
      (∃ vL' l' gs', v = .tuple #[.agg ⟨encR r.carrier vL'⟩, .int .i64 (stepsC r (bills.map (retiA · by_ day)))] ∧ FRep (fun b => A b ∨ w.heap.size ≤ b) w' vL' l' gs' ∧ (stepsC r (bills.map (retiA · by_ day)) = 0 → l' = (runA r (bills.map (retiA · by_ day))).l)) ∧ Ex w w' := by
  have hF0 := hF.lt
  obtain ⟨pn, cn, rfl, _, hnr⟩ := hN.is
  simp only [List.length_map] at *
  obtain ⟨L, hL⟩ : ∃ L, L = bills.map (retiA · by_ day) := ⟨_, rfl⟩
  rw [← hL]
  have hLl : L.length = bills.length := by rw [hL, List.length_map]
  have hLo : ∀ a ∈ L, StepOk a := by
    intro a ha
    rw [hL] at ha
    obtain ⟨n, hn, rfl⟩ := List.mem_map.1 ha
    exact retiA_ok (h1 n hn) hby
  have good : ∀ i, i ≤ L.length → Good (k + 64) (runA r (L.take i)) := fun i hi => by
    have := good_run (l := L.take i) hG (fun a ha => (hLo a (List.mem_of_mem_take ha)).2) (fun a ha => by have := (hLo a (List.mem_of_mem_take ha)).1; omega)
    exact this.mono (by rw [List.length_take]; omega)
  refine ret_of Tryz.func139 Tryz.ntmps139 rfl rfl rfl ?_
  (repeat (first | refine cw_seq ?_ | refine cw_region ?_))
  refine lw_box rfl ?_
  intro b4 w1 hbb4 hb4 hx1 hs1
  replace hb4 : Blk w1 b4 (encR r.carrier vL) 28 := hb4
  skip
  refine lw_alloc z28 ?_
  intro b8 w2 hbb8 hb8 hx2 hs2
  have hx02 := hx1.trans hx2
  have hA4 : ∀ b, (A b ∧ b < w.heap.size) ∨ w2.heap.size ≤ b → b ≠ b4 ∧ b ≠ b8 := fun b hb => by
    rcases hb with hb | hb
    · have := hb.2; omega
    · omega
  (repeat (first | refine lw_pure hT rfl ?_ | refine lw_nil ?_ | refine cw_seq ?_ | refine cw_region ?_ | refine qw_then ?_ | refine cw_block ?_))
  refine cw_loop (fun i : Nat => [(1, .slice pn bills.length cn), (2, .string by_), (3, .int .i64 day), (4, pB b4), (8, pB b8), (10, .int .i64 (i : Nat))])
    (fun i w' => i ≤ bills.length ∧ Ex w w' ∧ w2.heap.size ≤ w'.heap.size ∧ (∃ cs, cs.length = 2 ∧ Blk w' b8 cs 28) ∧ stepsC r (L.take i) = 0 ∧ ∃ vL' gs', FRep (fun b => (A b ∧ b < w.heap.size) ∨ w2.heap.size ≤ b) w' vL' (runA r (L.take i)).l gs' ∧ Blk w' b4 (encR r.carrier vL') 28) (fun i => bills.length - i) 0 (by repeat (first | exact trivial | refine ⟨rfl, ?_⟩))
    ⟨Nat.zero_le _, hx02, Nat.le_refl _, ⟨_, rfl, hb8⟩, rfl, vL, gs, (hF0.ex hx02).weaken fun b hb => .inl hb, hb4.ex hx2⟩ ?_
  rintro i w3 ⟨hi, hx3, hl3, ⟨cs8, hcs8, hb83⟩, hst, vL', gs', hF3, hb43⟩
  unfold pB
  have hG3 := good i (by omega)
  have hl3' : (runA r (L.take i)).l.length ≤ 256 := run_len hl
  have ec : (runA r (L.take i)).carrier = r.carrier := runA_carrier _ _
  have hl33 := hb83.lt
  (repeat (first | refine lw_pure hT rfl ?_ | refine lw_nil ?_ | refine cw_seq ?_ | refine cw_region ?_ | refine qw_then ?_))
  refine cw_cond rfl (fun e => ?_) (fun e => ?_)
  · have hlt : i < bills.length := by have := of_decide_eq_true e; omega
    have hltL : i < L.length := by omega
    have hne : bills.map (fun s => [Value.string s]) ≠ [] := by intro e; simp at e; rw [e] at hlt; simp at hlt
    obtain ⟨bn, on, rfl, _, hnrd⟩ := hnr hne
    have hni := (hnrd i [.string bills[i]] (by rw [List.getElem?_map, List.getElem?_eq_getElem hlt]; rfl)).2
    have hLi : L[i] = retiA bills[i] by_ day := by simp [hL]
    generalize bills[i] = nb at hni hLi
    have hdo := fun (w4 : World) (hx : Ex w3 w4) => r23_Do (A0 := fun _ => True) (vb := .slice none 0 0) (vp := .slice none 0 0) r.carrier (hF3.lt.ex hx) hl3' (show RegD.Nd ⟨r.carrier, _⟩ by rw [reg_eta _ _ ec]; exact hG3.nd) (show RegD.Small ⟨r.carrier, _⟩ by rw [reg_eta _ _ ec]; exact hG3.small (by omega)) (retiF nb by_ day) (Sl.nil _ _ _) (Sl.nil _ _ _) zeroB_ok (fun a n c h => by cases h; exact Nat.le_refl _) (show (0 : Int) ≤ 5 ∧ (5 : Int) ≤ 5 by decide) (Nat.zero_le _)
    rw [reg_eta _ _ ec, retiF_C, retiF_A, ← hLi, ← runA_take hltL] at hdo
    (repeat (first | refine cw_seq ?_ | refine qw_then ?_ | refine cw_skip ?_ | refine cw_block ?_))
    refine cw_cut_any (α := Nat × Value) (fun z => [(1, .slice (some ⟨bn, on, none⟩) bills.length cn), (2, .string by_), (3, .int .i64 day), (4, pB b4), (8, pB b8), (10, .int .i64 (i : Nat)), (11, pB z.1), (12, .int .i64 (actC (runA r (L.take i)) L[i]))])
      (fun z w' => Ex w3 w' ∧ (∃ g, FRep (fun b => (A b ∧ b < w.heap.size) ∨ w2.heap.size ≤ b) w' z.2 (runA r (L.take (i + 1))).l g) ∧ Blk w' z.1 (encR r.carrier z.2) 28) ?_ ?_
    · unfold pB
      refine cw_draw hM (fun w' => Ex w3 w') [] rfl rfl (by repeat with_reducible (first | refine nop_then ?_ | refine nop_block ?_ | exact nop_body)) (fun w4 hx4 _ => ⟨hx4, ?_⟩)
      have hl4 := hx4.size
      refine rw_take 0 rfl rfl (by kernel_rfl) (by kernel_rfl) (by kernel_rfl) (by kernel_rfl) rfl (yo_load_agg hT rfl rfl rfl (vs := encR r.carrier vL') (fun w' hS => (hb43.ex hS).rd 0 2)) ?_
      (refine rw_takeP 1 rfl rfl (by kernel_rfl) (by kernel_rfl) (by kernel_rfl) (by kernel_rfl) rfl (yo_pure hT rfl) ?_; refine rw_takeP 2 rfl rfl (by kernel_rfl) (by kernel_rfl) (by kernel_rfl) (by kernel_rfl) rfl (yo_pure hT rfl) ?_)
      refine rw_takeP 3 rfl rfl (by kernel_rfl) (by kernel_rfl) (by kernel_rfl) (by kernel_rfl) rfl (yo_index hT rfl rfl rfl i rfl hlt) ?_
      refine rw_take 4 rfl rfl (by kernel_rfl) (by kernel_rfl) (by kernel_rfl) (by kernel_rfl) rfl (yo_load hT rfl rfl (v := .string nb) (fun w' hS => ((hni.ex hx3).ex hS) 0 _ rfl)) ?_
      (refine rw_takeP 5 rfl rfl (by kernel_rfl) (by kernel_rfl) (by kernel_rfl) (by kernel_rfl) rfl (yo_pure hT rfl) ?_; refine rw_takeP 6 rfl rfl (by kernel_rfl) (by kernel_rfl) (by kernel_rfl) (by kernel_rfl) rfl (yo_pure hT rfl) ?_)
      refine rw_takeP 7 rfl rfl (by kernel_rfl) (by kernel_rfl) (by kernel_rfl) (by kernel_rfl) rfl (yo_build bt73 rfl) ?_
      refine rw_two 8 12 rfl rfl (by kernel_rfl) rfl rfl (fun hcl => ?_) (fun hcl => ?_)
      · refine lw_call hT rfl rfl (hdo w4 hx4) ?_
        rintro _ w5 ⟨⟨vL2, g2, rfl, hF5⟩, hx5⟩
        have hx35 := hx4.trans hx5
        (repeat (refine lw_nil ?_))
        refine qw_rw (by repeat with_reducible (first | refine nop_then ?_ | refine nop_block ?_ | exact nop_body)) hcl (fun _ => hx35) ?_
        (refine rw_takeP 9 rfl rfl (by kernel_rfl) (by kernel_rfl) (by kernel_rfl) (by kernel_rfl) rfl (yo_pure hT rfl) ?_; refine rw_takeP 10 rfl rfl (by kernel_rfl) (by kernel_rfl) (by kernel_rfl) (by kernel_rfl) rfl (yo_pure hT rfl) ?_; refine rw_takeP 11 rfl rfl (by kernel_rfl) (by kernel_rfl) (by kernel_rfl) (by kernel_rfl) rfl (yo_pure hT rfl) ?_)
        refine rw_one 12 rfl (by kernel_rfl) rfl (fun hcl => ?_)
        refine lw_alloc z28 ?_
        intro b11 w6 hbb11 hb11 hx6 hs6
        have hx36 := hx35.trans hx6
        have hl5 := hx5.size
        (repeat (refine lw_nil ?_))
        refine qw_rw (by repeat with_reducible (first | refine nop_then ?_ | refine nop_block ?_ | exact nop_body)) hcl (fun _ => hx36) ?_
        refine rw_one 13 rfl (by kernel_rfl) rfl (fun hcl => ?_)
        refine lw_store_agg hT rfl rfl rfl rfl (by intro v hv; simp [encR] at hv; rcases hv with rfl | rfl <;> first | rfl | exact Sl.one hF5.sl) hb11 (show (2 : Nat) ≤ 2 by decide) ?_
        intro w7 hb117 hx7 hs7
        have hx57 : Ex w5 w7 := hx6.up_new hx7 (fun i h => by omega)
        (repeat (refine lw_nil ?_))
        refine qw_rw (by repeat with_reducible (first | refine nop_then ?_ | refine nop_block ?_ | exact nop_body)) hcl (fun _ => hx35.trans hx57) ?_
        (refine rw_takeP 14 rfl rfl (by kernel_rfl) (by kernel_rfl) (by kernel_rfl) (by kernel_rfl) rfl (yo_pure hT rfl) ?_)
        refine rw_done (by kernel_rfl) ?_
        exact qw_cut (b11, vL2) (by repeat (first | exact trivial | refine ⟨rfl, ?_⟩)) ⟨hx35.trans hx57, ⟨g2, (hF5.ex hx57).weaken fun b hb => by (rcases hb with hb | hb; exact hb.1; exact .inr (by omega))⟩, hb117⟩
      · refine lw_alloc z28 ?_
        intro b11 w5 hbb11 hb11 hx5 hs5
        have hx35 := hx4.trans hx5
        (repeat (refine lw_nil ?_))
        refine qw_rw (by repeat with_reducible (first | refine nop_then ?_ | refine nop_block ?_ | exact nop_body)) hcl (fun _ => hx35) ?_
        refine rw_one 8 rfl (by kernel_rfl) rfl (fun hcl => ?_)
        refine lw_call hT rfl rfl (hdo w5 hx35) ?_
        rintro _ w6 ⟨⟨vL2, g2, rfl, hF6⟩, hx6⟩
        have hx36 := hx35.trans hx6
        have hl6 := hx6.size
        (repeat (refine lw_nil ?_))
        refine qw_rw (by repeat with_reducible (first | refine nop_then ?_ | refine nop_block ?_ | exact nop_body)) hcl (fun _ => hx36) ?_
        (refine rw_takeP 9 rfl rfl (by kernel_rfl) (by kernel_rfl) (by kernel_rfl) (by kernel_rfl) rfl (yo_pure hT rfl) ?_; refine rw_takeP 10 rfl rfl (by kernel_rfl) (by kernel_rfl) (by kernel_rfl) (by kernel_rfl) rfl (yo_pure hT rfl) ?_; refine rw_takeP 11 rfl rfl (by kernel_rfl) (by kernel_rfl) (by kernel_rfl) (by kernel_rfl) rfl (yo_pure hT rfl) ?_)
        refine rw_one 13 rfl (by kernel_rfl) rfl (fun hcl => ?_)
        refine lw_store_agg hT rfl rfl rfl rfl (by intro v hv; simp [encR] at hv; rcases hv with rfl | rfl <;> first | rfl | exact Sl.one hF6.sl) (hb11.ex hx6) (show (2 : Nat) ≤ 2 by decide) ?_
        intro w7 hb117 hx7 hs7
        have hx37 : Ex w3 w7 := hx36.up_new hx7 (fun i h => by omega)
        (repeat (refine lw_nil ?_))
        refine qw_rw (by repeat with_reducible (first | refine nop_then ?_ | refine nop_block ?_ | exact nop_body)) hcl (fun _ => hx37) ?_
        (refine rw_takeP 14 rfl rfl (by kernel_rfl) (by kernel_rfl) (by kernel_rfl) (by kernel_rfl) rfl (yo_pure hT rfl) ?_)
        refine rw_done (by kernel_rfl) ?_
        have hl5 := hx5.size
        refine qw_cut (b11, vL2) (by repeat (first | exact trivial | refine ⟨rfl, ?_⟩)) ⟨hx37, ⟨g2, (hF6.ext hx7 (fun b hb e => ?_)).weaken fun b hb => by (rcases hb with hb | hb; exact hb.1; exact .inr (by omega))⟩, hb117⟩
        rcases hb with hb | hb
        · have := hb.2; omega
        · omega
    · rintro ⟨b11, vL2⟩ w7 ⟨hx37, ⟨g2, hF7⟩, hb11⟩
      dsimp only at hF7 hb11 ⊢
      unfold pB
      have hb47 := hb43.ex hx37
      have hb87 := hb83.ex hx37
      have hx07 := hx3.trans hx37
      have hl7 := hx37.size
      (repeat (first | refine lw_pure hT rfl ?_ | refine lw_nil ?_ | refine cw_seq ?_ | refine cw_region ?_ | refine qw_then ?_))
      refine cw_cond rfl (fun e => ?_) (fun e => ?_)
      · have hne0 : actC (runA r (L.take i)) L[i] ≠ 0 := of_decide_eq_true e
        have hs := stepsC_at hltL hst hne0
        (repeat (first | refine cw_seq ?_ | refine cw_region ?_))
        refine lw_load_agg hT rfl rfl rfl (vs := encR r.carrier vL') (hb47.rd 0 2) ?_
        (repeat (refine lw_pure hT rfl ?_))
        refine lw_store_agg hT rfl rfl rfl rfl (by intro v hv; simp [encR] at hv; rcases hv with rfl | rfl <;> first | rfl | exact Sl.one hF3.sl) hb87 (show (0 : Nat) + 2 ≤ cs8.length by rw [hcs8]; decide) ?_
        intro w8 hb88 hx8 hs8
        (repeat (first | refine lw_pure hT rfl ?_ | refine lw_nil ?_ | refine qw_then ?_ | refine cw_ret ?_ | refine qw_then_ret ?_ | refine qw_block_ret ?_))
        match cs8, hcs8 with
        | [q1, q2], _ =>
          replace hb88 : Blk w8 b8 (encR r.carrier vL') 28 := hb88
          refine qw_ret_cell hT rfl rfl rfl rfl (vs := encR r.carrier vL') (hb88.rd 0 2) rfl ⟨⟨vL', _, gs', by rw [hs]; rfl, ((hF3.ex hx37).ext hx8 (fun b hb e => (hA4 b hb).2 e)).weaken fun b hb => ?_, fun h => absurd (hs ▸ h) hne0⟩, hx07.up_new hx8 (fun i h => by omega)⟩
          rcases hb with hb | hb
          · exact .inl hb.1
          · exact .inr (by have := hx02.size; omega)
      · have he0 : actC (runA r (L.take i)) L[i] = 0 := by simpa using e
        (repeat (first | refine cw_region ?_ | refine qw_then ?_ | refine cw_skip ?_))
        refine lw_load_agg hT rfl rfl rfl (vs := encR r.carrier vL2) (hb11.rd 0 2) ?_
        skip
        refine lw_store_agg hT rfl rfl rfl rfl (by intro v hv; simp [encR] at hv; rcases hv with rfl | rfl <;> first | rfl | exact Sl.one hF7.sl) hb47 (show (2 : Nat) ≤ 2 by decide) ?_
        intro w8 hb48 hx8 hs8
        replace hb48 : Blk w8 b4 (encR r.carrier vL2) 28 := hb48
        (repeat (first | (refine lw_add rfl rfl ?_ ?_ ?_; iterate 2 omega) | refine lw_pure hT rfl ?_ | refine lw_nil ?_ | refine cw_region ?_ | refine qw_then ?_ | refine qw_block ?_))
        exact qw_round (i + 1) (by repeat (first | exact trivial | refine ⟨rfl, ?_⟩)) ⟨hlt, hx07.up_new hx8 (fun i h => by omega), by omega, ⟨cs8, hcs8, hb87.ext hx8 (by omega)⟩, stepsC_take hltL hst he0, vL2, g2, hF7.ext hx8 (fun b hb e => (hA4 b hb).1 e), hb48⟩ (by omega)
  · have hil : i = bills.length := by have := of_decide_eq_false e; omega
    subst hil
    rw [← hLl, List.take_length] at hst hF3
    (repeat (first | refine cw_seq ?_ | refine cw_region ?_ | refine qw_then ?_ | refine cw_exit ?_ | refine qw_block_exit ?_ | refine qw_then_exit ?_))
    refine lw_load_agg hT rfl rfl rfl (vs := encR r.carrier vL') (hb43.rd 0 2) ?_
    skip
    refine lw_store_agg hT rfl rfl rfl rfl (by intro v hv; simp [encR] at hv; rcases hv with rfl | rfl <;> first | rfl | exact Sl.one hF3.sl) hb83 (show (0 : Nat) + 2 ≤ cs8.length by rw [hcs8]; decide) ?_
    intro w8 hb88 hx8 hs8
    (repeat (first | refine lw_pure hT rfl ?_ | refine lw_nil ?_ | refine qw_then ?_ | refine cw_ret ?_))
    match cs8, hcs8 with
    | [q1, q2], _ =>
      replace hb88 : Blk w8 b8 (encR r.carrier vL') 28 := hb88
      refine qw_ret_cell hT rfl rfl rfl rfl (vs := encR r.carrier vL') (hb88.rd 0 2) rfl ⟨⟨vL', _, gs', by rw [hst]; rfl, (hF3.ext hx8 (fun b hb e => (hA4 b hb).2 e)).weaken fun b hb => ?_, fun _ => rfl⟩, hx3.up_new hx8 (fun i h => by omega)⟩
      rcases hb with hb | hb
      · exact .inl hb.1
      · exact .inr (by have := hx02.size; omega)
end Go.Proofs.YtnglkhnfmbnfeaaGreat
