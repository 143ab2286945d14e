/- Contracts of package register, fourteenth part: Endorse, walked. -/
import Derived.Test.YtfbjpfgglgffgaaGreatRm
set_option linter.unusedVariables false
set_option linter.unusedSimpArgs false
set_option linter.unusedSectionVars false
set_option linter.unnecessarySimpa false
namespace Go.Proofs.YtfbjpfgglgffgaaGreat
open Go Go.SK

/-- An entry, some of whose originals were given on. -/
def given (x : EntD) (index : Int) (by_ to_ : ByteArray) (day : Int) (i : Nat) : EntD := { x with ps := onIx ((ixs index).take i) (endorseP by_ to_ day) x.ps }
structure Given (w1 w' : World) (x : EntD) (g : GhostE) (index : Int) (by_ to_ : ByteArray) (day : Int) (i : Nat) : Prop where
  is : ∃ g' : GhostE, g'.e = g.e ∧ g'.rd = g.rd ∧ EntOk w' (given x index by_ to_ day i) g' ∧ g'.Nd ∧ (∀ b ∈ g'.fp, b ∈ g.fp ∨ w1.heap.size ≤ b) ∧ (∀ b ∈ g'.fp, b ∉ g.rd)
  ext : Ext (· ∈ g.fp) w1 w'
theorem given_len {x : EntD} (h : x.ps.length = 3) (index : Int) (by_ to_ : ByteArray) (day : Int) (i : Nat) : (given x index by_ to_ day i).ps.length = 3 := by
  simp [given, onIx_len, h]
section
variable {w : World} {p : Nat} {r : RegD} {m : Nat} {gs : List GhostE}
set_option maxHeartbeats 1000000 in
theorem reg_Endorse (hR : Rep w p r m gs) (hN : r.Nd) (hsm : r.Small) (hinv : ∀ e ∈ r.l, ∀ q ∈ e.ps, PapInv q) (a : ActD) (hk : a.kind = 1) (hto : a.to_.size ≤ maxLen) :
    Ret Tryz.prog 28 [.pointer (some ⟨p, 0, none⟩), .string a.bill, .int .i64 a.index, .string a.by_, .string a.to_, .int .i64 a.day] w fun v w' =>
    v = .int .i64 (actC r a) ∧ Mut w p m gs (doA r a) w' := by
  have ha : a.ask = ⟨a.bill, a.by_, a.index, 0, true, a.day, a.to_, true⟩ := by simp [ActD.ask, hk]
  have hc : actC r a = askC r a.ask := by simp [actC, hk]
  refine ret_of Tryz.func28 Tryz.ntmps28 rfl rfl rfl ?_
  (repeat (first | refine lw_pure hT rfl ?_ | refine lw_nil ?_ | refine cw_seq ?_ | refine cw_region ?_ | refine qw_then ?_))
  refine lw_build bt123 rfl ?_
  skip
  refine lw_call hT rfl rfl (reg_find hR ⟨a.bill, a.by_, a.index, 0, true, a.day, a.to_, true⟩ hto) ?_
  rw [← ha]
  rintro v w1 ⟨hv, hx1⟩
  rcases hv with ⟨h0, rfl⟩ | ⟨i0, x, g, vl, h0, h1, hA, rfl, hrow⟩
  · (repeat (first | refine lw_pure hT rfl ?_ | refine lw_nil ?_ | refine cw_seq ?_ | refine cw_region ?_ | refine qw_then ?_))
    refine cw_cond rfl (fun h => ?_) (fun h => ?_)
    · (repeat (first | refine lw_pure hT rfl ?_ | refine lw_nil ?_ | refine cw_seq ?_ | refine cw_region ?_ | refine qw_then ?_ | refine cw_ret ?_ | refine qw_then_ret ?_))
      refine qw_ret rfl ⟨by rw [hc]; rfl, ?_⟩
      have : doA r a = r := by simp [doA, hk, h0]
      rw [this]; exact Mut.of_ex hR hx1
    · simp at h; exact absurd h h0
  · obtain ⟨g1, g2, g3, g4, g5⟩ := ask_ok h1
    rw [ha] at hA hrow g1 g3 g4 g5
    dsimp only at hrow g1 g3 g4 g5
    obtain ⟨hdb, hdu⟩ := g4 rfl
    obtain ⟨hnt, hne⟩ := g5 rfl
    have hR1 := hR.ex hx1
    have hE := hR1.ents i0 x g hA.l hA.gi
    have hf := hR.fpn i0 g hA.gi
    have hmem := List.mem_of_getElem? hA.l
    have hl1 := hx1.size
    have hfl : ∀ b ∈ g.fp, b < w1.heap.size := fun b hb => hE.lt (.inl hb)
    have hrl : ∀ b ∈ g.rd, b < w1.heap.size := fun b hb => hE.lt (.inr hb)
    have hrl0 : ∀ b ∈ g.fp, b < w.heap.size := fun b hb => (hR.ents i0 x g hA.l hA.gi).lt (.inl hb)
    have hSl : Sl (fun b => w.heap.size ≤ b) w1 vl 1 ((ixs a.index).map fun k => [ptrP g.e k]) := own_sl (by
      rw [List.length_map]
      have e : ((ixs a.index).map fun k => [ptrP g.e k]).flatten = (ixs a.index).map (ptrP g.e) := flat_single _ _
      rw [e]; exact hrow) (by simp) (fun b hb => (own_base hrow hb).1)
    have hvm := hSl.small
    obtain ⟨va, vcap, rfl, hvz, hvr⟩ := hSl.is
    simp only [List.length_map] at *
    unfold maxLen at hvm
    have hdo : doA r a = r.upd a.bill (·.after a) := by simp [doA, hk, h0]
    have h3 : (ixs a.index).length ≤ 3 := by rw [← ixs_eq]; exact Nat.le_trans (List.length_filter_le _ _) (by simp)
    (repeat (first | refine lw_pure hT rfl ?_ | refine lw_nil ?_ | refine cw_seq ?_ | refine cw_region ?_ | refine qw_then ?_))
    refine cw_cond_f rfl (by decide) ?_
    (repeat (first | refine lw_pure hT rfl ?_ | refine lw_nil ?_ | refine cw_seq ?_ | refine cw_region ?_ | refine qw_then ?_ | refine cw_skip ?_ | refine cw_block ?_))
    refine cw_loop (fun i : Nat => [(3, .string a.by_), (4, .string a.to_), (5, .int .i64 a.day), (33, .slice va (ixs a.index).length vcap), (34, .int .i64 ((ixs a.index).length : Nat)), (35, .int .i64 (i : Nat))])
      (fun i w' => i ≤ (ixs a.index).length ∧ Given w1 w' x g a.index a.by_ a.to_ a.day i) (fun i => (ixs a.index).length - i) 0 (by repeat (first | exact trivial | refine ⟨rfl, ?_⟩)) ⟨Nat.zero_le _, ⟨g, rfl, rfl, ?_, hf.1, fun b hb => .inl hb, fun b hb => hR.rdn i0 i0 g g hA.gi hA.gi b hb⟩, Ext.refl _ _⟩ ?_
    · have : given x a.index a.by_ a.to_ a.day 0 = x := by
        obtain ⟨q0, q1, q2, hq⟩ := three_cases hE.three
        cases x; simp only [given] at *; subst hq; rfl
      rw [this]; exact hE
    · rintro i w2 ⟨hi, hG⟩
      obtain ⟨⟨g', he', hrd', hE', hN', hfp', hfr'⟩, hx2⟩ := hG
      have hl2 := hx2.size
      (repeat (first | refine lw_pure hT rfl ?_ | refine lw_nil ?_ | refine cw_seq ?_ | refine cw_region ?_ | refine qw_then ?_))
      refine cw_cond rfl (fun h => ?_) (fun h => ?_)
      · have hlt : i < (ixs a.index).length := by simp at h; omega
        obtain ⟨k, hkk⟩ : ∃ k, (ixs a.index)[i]? = some k := ⟨_, List.getElem?_eq_getElem hlt⟩
        have hkm := List.mem_of_getElem? hkk
        have hk3 := ixs_lt hkm
        have hne' : ((ixs a.index).map fun k => [ptrP g.e k]) ≠ [] := by intro e; simp at e; rw [e] at hlt; simp at hlt
        obtain ⟨b, o, rfl, hbA, hrd⟩ := hvr hne'
        obtain ⟨_, hrd⟩ := hrd i [ptrP g.e k] (by simp [hkk])
        obtain ⟨st1, st2⟩ := onIx_step (endorseP a.by_ a.to_ a.day) hE.three hkk
        have h3' := given_len hE.three a.index a.by_ a.to_ a.day i
        obtain ⟨q, vc, p1, p2, p3, p4, p5⟩ := entCells_paper h3' hE'.three' hk3
        have hq0 : x.ps[k]? = some q := by rw [← st2]; exact p1
        have hqa : papAt x k = q := by have := papAt_get hE.three hk3; rw [hq0] at this; exact (Option.some.inj this).symm
        have hqm := List.mem_of_getElem? hq0
        have hqi := hinv x hmem q hqm
        have hqs := (hsm x hmem).1 q hqm
        obtain ⟨k1, k2⟩ := g3 k hkm
        rw [hqa] at k1 k2
        have hdu' := hdu k hkm
        rw [hqa] at hdu'
        obtain ⟨hinv', hfirst⟩ := endorse_inv (b := x.bill) hqi k2.symm hnt hne hdb hdu' hto
        have hch := hE'.chains k q vc p1 p2
        have heb : g.e ∈ g.fp := GhostE.fp_mem.2 (.inl rfl)
        have hebl := hfl _ heb
        (repeat (first | refine cw_seq ?_ | refine cw_region ?_ | refine qw_then ?_ | refine cw_skip ?_ | refine cw_block ?_))
        refine lw_index hT rfl rfl rfl i rfl hlt ?_
        skip
        refine lw_load hT rfl rfl (v := ptrP g.e k) (hx2.cell (hrd 0 _ rfl) (fun hb => by have := hrl0 b hb; omega)) ?_
        unfold ptrP
        (repeat (first | refine lw_pure hT rfl ?_ | refine lw_nil ?_ | refine cw_seq ?_ | refine cw_region ?_ | refine qw_then ?_))
        have hblk2 : Blk w2 g.e (entCells (given x a.index a.by_ a.to_ a.day i) g') 88 := he' ▸ hE'.blk
        refine lw_load hT rfl rfl (v := vc) ((hblk2.cell _).trans p5) ?_
        (repeat (refine lw_pure hT rfl ?_))
        refine lw_build bt104 rfl ?_
        skip
        refine lw_buildSlice sl51 rfl rfl rfl ?_
        intro bo w4 hbo hb4 hx4 hs4
        replace hb4 : Blk w4 bo (encE (newE a.by_ a.to_ a.day)) 104 := hb4
        skip
        have hch4 := own_ex hch hx4
        refine lw_append sl51 (by decide) rfl hch4 rfl (hb4.rd 0 4) rfl (by intro u hu; simp [encE] at hu; rcases hu with rfl | rfl | rfl | rfl <;> rfl) (by unfold maxLen; omega) (by omega) (by omega) ?_
        intro v' w5 m1 m2 m3 m4
        have hl5 := m2.size
        have hvce : vc.ownBlock ≠ some g.e := he' ▸ hN'.e k vc p2
        have hv'e : v'.ownBlock ≠ some g.e := by
          rcases m4 with m4 | m4 <;> rw [m4]
          · exact hvce
          · intro e; have := Option.some.inj e; omega
        have hblk5 : Blk w5 g.e (entCells (given x a.index a.by_ a.to_ a.day i) g') 88 := (hblk2.ex hx4).ext m2 (fun e => hvce e.symm)
        (repeat (refine lw_pure hT rfl ?_))
        refine lw_store (size := 1) hT rfl rfl rfl (own_one m1) hblk5 (show 10 + k * 3 + 2 < (entCells (given x a.index a.by_ a.to_ a.day i) g').length by rw [entCells_len h3' hE'.three']; omega) ?_
        intro w6 hb6 hx6 hs6
        have hlen6 : ((entCells (given x a.index a.by_ a.to_ a.day i) g').set (10 + k * 3 + 2) v').length = 19 := by rw [List.length_set, entCells_len h3' hE'.three']
        have hcs : ((entCells (given x a.index a.by_ a.to_ a.day i) g').set (10 + k * 3 + 2) v')[10 + k * 3 + 2]? = some v' := by
          rw [List.getElem?_set]; simp [entCells_len h3' hE'.three']; omega
        have hown6 : w6.ownsRow 0 104 4 v' (endorseP a.by_ a.to_ a.day q).chain.length ((endorseP a.by_ a.to_ a.day q).chain.map encE).flatten := by
          have := own_ext m1 hx6 (fun b hb e => hv'e (by rw [hb, e]))
          simp only [endorseP, List.length_append, List.length_singleton, List.map_append, List.flatten_append]
          exact this
        have hSle := ChainOk.sl (A := fun _ => True) hown6 (fun _ _ => trivial)
        have hcne : ∃ y l, (endorseP a.by_ a.to_ a.day q).chain = y :: l ∧ y.frm = firstOf (endorseP a.by_ a.to_ a.day q) := by
          cases hc : (endorseP a.by_ a.to_ a.day q).chain with
          | nil => simp [endorseP] at hc
          | cons y l => exact ⟨y, l, rfl, by simp [firstOf, hc]⟩
        obtain ⟨y, l, hyl, hyf⟩ := hcne
        obtain ⟨cb, co, ccap, hcv, _, hclt, _, hcrd⟩ := hSle.at (i := 0) (row := encE y) (by rw [hyl]; rfl)
        rw [List.length_map] at hcv hclt
        have hSle' := hSle
        have hcs2 := hcs.trans (congrArg some hcv)
        rw [hcv] at hSle'
        (repeat (first | refine lw_nil ?_ | refine qw_then ?_))
        refine cw_draw hM (fun w' => Ex w6 w') [15] rfl rfl (by repeat (first | with_reducible refine nop_then ?_ | with_reducible refine nop_block ?_ | with_reducible exact nop_body)) (fun w7 hx7 _ => ⟨hx7, ?_⟩)
        (refine rw_takeP 0 rfl rfl (by kernel_rfl) (by kernel_rfl) (by kernel_rfl) (by kernel_rfl) rfl (yo_pure hT rfl) ?_; refine rw_takeP 1 rfl rfl (by kernel_rfl) (by kernel_rfl) (by kernel_rfl) (by kernel_rfl) rfl (yo_pure hT rfl) ?_; refine rw_takeP 2 rfl rfl (by kernel_rfl) (by kernel_rfl) (by kernel_rfl) (by kernel_rfl) rfl (yo_pure hT rfl) ?_; refine rw_takeP 3 rfl rfl (by kernel_rfl) (by kernel_rfl) (by kernel_rfl) (by kernel_rfl) rfl (yo_pure hT rfl) ?_)
        refine rw_take 4 rfl rfl (by kernel_rfl) (by kernel_rfl) (by kernel_rfl) (by kernel_rfl) rfl (yo_load hT rfl rfl (fun w' hS => Ex.cell hS ((hb6.cell _).trans hcs2))) ?_
        refine rw_takeP 5 rfl rfl (by kernel_rfl) (by kernel_rfl) (by kernel_rfl) (by kernel_rfl) rfl (yo_index hT rfl rfl rfl 0 rfl hclt) ?_
        (refine rw_takeP 6 rfl rfl (by kernel_rfl) (by kernel_rfl) (by kernel_rfl) (by kernel_rfl) rfl (yo_pure hT rfl) ?_)
        refine rw_take 7 rfl rfl (by kernel_rfl) (by kernel_rfl) (by kernel_rfl) (by kernel_rfl) rfl (yo_load hT rfl rfl (v := .string y.frm) (fun w' hS => Ex.cell hS (hcrd 0 _ rfl))) ?_
        (refine rw_takeP 8 rfl rfl (by kernel_rfl) (by kernel_rfl) (by kernel_rfl) (by kernel_rfl) rfl (yo_pure hT rfl) ?_; refine rw_takeP 9 rfl rfl (by kernel_rfl) (by kernel_rfl) (by kernel_rfl) (by kernel_rfl) rfl (yo_pure hT rfl) ?_; refine rw_takeP 10 rfl rfl (by kernel_rfl) (by kernel_rfl) (by kernel_rfl) (by kernel_rfl) rfl (yo_pure hT rfl) ?_)
        refine rw_take 11 rfl rfl (by kernel_rfl) (by kernel_rfl) (by kernel_rfl) (by kernel_rfl) rfl (yo_load hT rfl rfl (fun w' hS => Ex.cell hS ((hb6.cell _).trans hcs2))) ?_
        refine rw_one 12 rfl (by kernel_rfl) rfl (fun hcl => ?_)
        skip
        refine lw_call hT rfl rfl (end_Holder y.frm w7 (hSle'.ex hx7) (by rw [hyf]; exact hinv'.fsize) hinv'.ok) ?_
        rintro _ w8 ⟨rfl, hx8⟩
        rw [hinv'.tells hyf]
        have hx68 := hx7.trans hx8
        (repeat (refine lw_nil ?_))
        refine qw_rw (by repeat (first | with_reducible refine nop_then ?_ | with_reducible refine nop_block ?_ | with_reducible exact nop_body)) hcl (fun _ => hx68) ?_
        (refine rw_takeP 13 rfl rfl (by kernel_rfl) (by kernel_rfl) (by kernel_rfl) (by kernel_rfl) rfl (yo_pure hT rfl) ?_; refine rw_takeP 14 rfl rfl (by kernel_rfl) (by kernel_rfl) (by kernel_rfl) (by kernel_rfl) rfl (yo_pure hT rfl) ?_)
        refine rw_one 15 rfl (by kernel_rfl) rfl (fun hcl => ?_)
        skip
        refine lw_store (size := 1) hT rfl rfl rfl rfl (hb6.ex hx68) (show 10 + k * 3 + 1 < _ by rw [hlen6]; omega) ?_
        intro w9 hb9 hx9 hs9
        replace hb9 : Blk w9 g.e ((((entCells (given x a.index a.by_ a.to_ a.day i) g').set (10 + k * 3 + 2) v').set (10 + k * 3 + 1) (.string a.to_))) 88 := hb9
        rw [set_pap h3' hE'.three' hk3 a.by_ a.to_ a.day v'] at hb9
        (repeat (refine lw_nil ?_))
        refine qw_rw (by repeat (first | with_reducible refine nop_then ?_ | with_reducible refine nop_block ?_ | with_reducible exact nop_body)) hcl (fun h => absurd h (by decide)) ?_
        refine rw_done (by kernel_rfl) ?_
        (repeat (first | (refine lw_add rfl rfl ?_ ?_ ?_; iterate 2 omega) | refine lw_pure hT rfl ?_ | refine lw_nil ?_ | refine cw_region ?_ | refine qw_then ?_ | refine qw_block ?_))
        have hl8 := hx68.size
        have est : given x a.index a.by_ a.to_ a.day (i + 1) = { given x a.index a.by_ a.to_ a.day i with ps := onIx [k] (endorseP a.by_ a.to_ a.day) (given x a.index a.by_ a.to_ a.day i).ps } := by simp only [given]; rw [st1]
        have hx29 : Ext (fun b => some b = vc.ownBlock ∨ b = g.e) w2 w9 :=
          ((((Ext.of_ex hx4).trans (m2.mono fun _ _ h => .inl h)).trans (hx6.mono fun _ _ h => .inr h)).trans (Ext.of_ex hx68)).trans (hx9.mono fun _ _ h => .inr h)
        have hvfp : ∀ b, some b = vc.ownBlock → b ∈ g'.fp := fun b hb => GhostE.fp_mem.2 (.inr ⟨k, vc, p2, hb.symm⟩)
        have hefp : g.e ∈ g'.fp := GhostE.fp_mem.2 (.inl he'.symm)
        have hkl : k < g'.vcs.length := by rw [hE'.three']; exact hk3
        have hset : ∀ {j : Nat} {u : Value}, (g'.vcs.set k v')[j]? = some u → (j = k ∧ u = v') ∨ (j ≠ k ∧ g'.vcs[j]? = some u) := by
          intro j u hu
          rw [List.getElem?_set] at hu
          by_cases e : k = j
          · subst e; rw [if_pos rfl, if_pos hkl] at hu; exact .inl ⟨rfl, (Option.some.inj hu).symm⟩
          · rw [if_neg e] at hu; exact .inr ⟨fun e' => e e'.symm, hu⟩
        have hv'b : ∀ b, v'.ownBlock = some b → vc.ownBlock = some b ∨ b = w4.heap.size := by
          intro b hb
          rcases m4 with m4 | m4
          · exact .inl (m4 ▸ hb)
          · exact .inr (Option.some.inj (hb.symm.trans m4))
        have hold : ∀ (j : Nat) (u : Value) (b : Nat), g'.vcs[j]? = some u → u.ownBlock = some b → b < w2.heap.size := fun j u b hu hb => hE'.lt (.inl (GhostE.fp_mem.2 (.inr ⟨j, u, hu, hb⟩)))
        have hl4 := hx4.size
        have hfp9 : ∀ b ∈ ({ g' with vcs := g'.vcs.set k v' } : GhostE).fp, b ∈ g'.fp ∨ b = w4.heap.size := by
          intro b hb
          rcases GhostE.fp_mem.1 hb with rfl | ⟨j, u, hu, hbu⟩
          · exact .inl (GhostE.fp_mem.2 (.inl rfl))
          · rcases hset hu with ⟨rfl, e⟩ | ⟨_, hu'⟩
            · rcases hv'b b (e ▸ hbu) with h | h
              · exact .inl (hvfp b h.symm)
              · exact .inr h
            · exact .inl (GhostE.fp_mem.2 (.inr ⟨j, u, hu', hbu⟩))
        refine qw_round (i + 1) (by repeat (first | exact trivial | refine ⟨rfl, ?_⟩)) ⟨hlt, ⟨{ g' with vcs := g'.vcs.set k v' }, he', hrd', ?_, ⟨?_, ?_⟩, ?_, ?_⟩, ?_⟩ (by omega)
        · rw [est]
          refine ⟨by simp only [he']; exact hb9, ?_, ?_, by simp [onIx_len, h3'], by simp [hE'.three'], ?_⟩
          · exact own_ext hE'.boxesO hx29 (fun b hb h => by
              have hbr : b ∈ g.rd := hrd' ▸ GhostE.rd_mem.2 (.inl hb)
              rcases h with h | h
              · exact hfr' b (hvfp b h) hbr
              · exact hfr' b (h ▸ hefp) hbr)
          · exact own_ext hE'.parentsO hx29 (fun b hb h => by
              have hbr : b ∈ g.rd := hrd' ▸ GhostE.rd_mem.2 (.inr hb)
              rcases h with h | h
              · exact hfr' b (hvfp b h) hbr
              · exact hfr' b (h ▸ hefp) hbr)
          · intro j q' u hq' hu
            rcases hset hu with ⟨rfl, rfl⟩ | ⟨hjk, hu⟩
            · rw [onIx_get p1] at hq'
              simp only [List.contains_cons, BEq.rfl, Bool.true_or, if_true, Option.some.injEq] at hq'
              subst hq'
              exact own_ext (own_ex hown6 hx68) hx9 (fun b hb e => hv'e (by rw [hb, e]))
            · have hjl : j < (given x a.index a.by_ a.to_ a.day i).ps.length := by have := (List.getElem?_eq_some_iff.1 hq').1; simpa [onIx_len] using this
              have hqj : (given x a.index a.by_ a.to_ a.day i).ps[j]? = some (given x a.index a.by_ a.to_ a.day i).ps[j] := List.getElem?_eq_getElem hjl
              rw [onIx_get hqj] at hq'
              have hcj : ([k] : List Nat).contains j = false := by simp; exact hjk
              rw [hcj] at hq'
              simp only [Bool.false_eq_true, if_false, Option.some.injEq] at hq'
              subst hq'
              refine own_ext (hE'.chains j _ u hqj hu) hx29 (fun b hb h => ?_)
              rcases h with h | h
              · exact hN'.vcs k j vc u b (Ne.symm hjk) p2 hu h.symm hb
              · exact hN'.e j u hu (by rw [hb, h, he'])
        · intro j u hu
          rcases hset hu with ⟨rfl, rfl⟩ | ⟨_, hu⟩
          · simp only [he']; exact hv'e
          · exact hN'.e j u hu
        · intro j1 j2 u1 u2 b hj hu1 hu2 hb1 hb2
          rcases hset hu1 with ⟨e1, f1⟩ | ⟨e1, hu1'⟩ <;> rcases hset hu2 with ⟨e2, f2⟩ | ⟨e2, hu2'⟩
          · exact hj (e1.trans e2.symm)
          · rcases hv'b b (f1 ▸ hb1) with h | h
            · exact hN'.vcs k j2 vc u2 b (fun e => e2 e.symm) p2 hu2' h hb2
            · have := hold j2 u2 b hu2' hb2; omega
          · rcases hv'b b (f2 ▸ hb2) with h | h
            · exact hN'.vcs k j1 vc u1 b (fun e => e1 e.symm) p2 hu1' h hb1
            · have := hold j1 u1 b hu1' hb1; omega
          · exact hN'.vcs j1 j2 u1 u2 b hj hu1' hu2' hb1 hb2
        · intro b hb
          rcases hfp9 b hb with h | h
          · exact hfp' b h
          · right; omega
        · intro b hb hbr
          rcases hfp9 b hb with h | h
          · exact hfr' b h hbr
          · have := hrl b hbr; omega
        · refine hx2.trans' hx29 (fun _ _ h => h) (fun b hbl h => ?_)
          have : b ∈ g'.fp := by
            rcases h with h | h
            · exact hvfp b h
            · exact h ▸ hefp
          rcases hfp' b this with h | h
          · exact h
          · omega
      · have : i = (ixs a.index).length := by simp at h; omega
        subst this
        (repeat (first | refine lw_pure hT rfl ?_ | refine lw_nil ?_ | refine cw_seq ?_ | refine cw_region ?_ | refine qw_then ?_ | refine cw_ret ?_ | refine cw_exit ?_ | refine qw_block_exit ?_ | refine qw_then_exit ?_))
        refine qw_ret rfl ⟨by rw [hc, h0]; rfl, ?_⟩
        rw [hdo]
        have eaf : given x a.index a.by_ a.to_ a.day (ixs a.index).length = x.after a := by simp [given, EntD.after, hk, List.take_length]
        rw [eaf] at hE'
        have hU := hR1.upd hA.l hA.gi hx2 (fun b _ h => h) (by simp [EntD.after, hk]) he' hrd' hE' hfp' hN'
        have e : ({ r with l := r.l.set i0 (x.after a) } : RegD) = r.upd a.bill (·.after a) := by
          have := upd_set hA hN (·.after a)
          unfold RegD.upd at *
          simp only at this
          rw [this]
        rw [e] at hU
        refine ⟨⟨_, hU, fun b hb => ?_⟩, ?_⟩
        · rcases foot_upd (N := w1.heap.size) hA.gi hfp' hrd' b hb with h | h
          · exact .inl h
          · right; omega
        · exact (Ext.of_ex hx1).trans (hx2.mono fun b _ hb => foot_mem.2 (.inr (.inr ⟨i0, g, hA.gi, .inl hb⟩)))
end
end Go.Proofs.YtfbjpfgglgffgaaGreat
