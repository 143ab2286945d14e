/- Contracts of package supercargoref23, first part: what is asked of a register. -/
import Derived.Test.YtfbjpfgglgffgaaGreatRo
set_option linter.unusedVariables false
set_option linter.unusedSimpArgs false
set_option linter.unusedSectionVars false
set_option linter.unnecessarySimpa false
namespace Go.Proofs.YtfbjpfgglgffgaaGreat
open Go Go.SK

/-! ### How the document's register lies in memory: it is read alone. -/
structure FG where
  vb : Value
  vp : Value
  vP : Value
  vcs : List Value
instance : Inhabited FG := ⟨⟨undef, undef, undef, []⟩⟩
def entF (x : EntD × FG) : List Value := encB x.1.bill x.2.vb x.2.vp ++ [.int .i64 x.1.state, x.2.vP]
structure FEnt (A : Nat → Prop) (w : World) (x : EntD) (g : FG) : Prop where
  boxes : SlS A w g.vb x.bill.boxes
  parents : SlS A w g.vp x.bill.parents
  three : x.ps.length = 3
  three' : g.vcs.length = 3
  papers : Sl A w g.vP 3 ((x.ps.zip g.vcs).map papRow)
  chains : ∀ (i : Nat) (q : PapD) (vc : Value), x.ps[i]? = some q → g.vcs[i]? = some vc → SlE A w vc q.chain
structure FRep (A : Nat → Prop) (w : World) (vL : Value) (l : List EntD) (gs : List FG) : Prop where
  len : l.length = gs.length
  cap : ∀ a n c, vL = .slice a n c → n ≤ c
  sl : Sl A w vL 11 ((l.zip gs).map entF)
  ents : ∀ (i : Nat) (x : EntD) (g : FG), l[i]? = some x → gs[i]? = some g → FEnt A w x g
section
variable {A F : Nat → Prop} {w w' : World} {vL : Value} {l : List EntD} {gs : List FG}
theorem FEnt.ext {x : EntD} {g : FG} (h : FEnt A w x g) (hx : Ext F w w') (hn : ∀ b, A b → ¬ F b) : FEnt A w' x g :=
  ⟨h.boxes.ext hx hn, h.parents.ext hx hn, h.three, h.three', h.papers.ext hx hn, fun i q vc h1 h2 => (h.chains i q vc h1 h2).ext hx hn⟩
theorem FRep.ext (h : FRep A w vL l gs) (hx : Ext F w w') (hn : ∀ b, A b → ¬ F b) : FRep A w' vL l gs :=
  ⟨h.len, h.cap, h.sl.ext hx hn, fun i x g h1 h2 => (h.ents i x g h1 h2).ext hx hn⟩
theorem FRep.ex (h : FRep A w vL l gs) (hx : Ex w w') : FRep A w' vL l gs := h.ext hx fun _ _ f => f
theorem FEnt.ex {x : EntD} {g : FG} (h : FEnt A w x g) (hx : Ex w w') : FEnt A w' x g := h.ext hx fun _ _ f => f
theorem FEnt.weaken {B : Nat → Prop} {x : EntD} {g : FG} (h : FEnt A w x g) (hn : ∀ b, A b → B b) : FEnt B w x g :=
  ⟨h.boxes.weaken hn, h.parents.weaken hn, h.three, h.three', h.papers.weaken hn, fun i q vc h1 h2 => (h.chains i q vc h1 h2).weaken hn⟩
theorem FRep.weaken {B : Nat → Prop} (h : FRep A w vL l gs) (hn : ∀ b, A b → B b) : FRep B w vL l gs :=
  ⟨h.len, h.cap, h.sl.weaken hn, fun i x g h1 h2 => (h.ents i x g h1 h2).weaken hn⟩
theorem FRep.row (h : FRep A w vL l gs) {i : Nat} (hi : i < l.length) : ∃ x g b o cap, l[i]? = some x ∧ gs[i]? = some g ∧ vL = .slice (some ⟨b, o, none⟩) l.length cap ∧ Rd w b (o + i * 11) (entF (x, g)) ∧ FEnt A w x g := by
  have hx : l[i]? = some l[i] := List.getElem?_eq_getElem hi
  have hig : i < gs.length := h.len ▸ hi
  have hg : gs[i]? = some gs[i] := List.getElem?_eq_getElem hig
  have hz : (l.zip gs)[i]? = some (l[i], gs[i]) := by rw [List.getElem?_zip_eq_some]; exact ⟨hx, hg⟩
  obtain ⟨b, o, cap, hv, _, _, _, hrd⟩ := h.sl.at (i := i) (row := entF (l[i], gs[i])) (by rw [List.getElem?_map, hz]; rfl)
  have hlen : ((l.zip gs).map entF).length = l.length := by simp [h.len]
  rw [hlen] at hv
  exact ⟨_, _, b, o, cap, hx, hg, hv, hrd, h.ents i _ _ hx hg⟩
theorem FRep.slice (h : FRep A w vL l gs) : ∃ a cap, vL = .slice a l.length cap ∧ l.length ≤ maxLen := by
  obtain ⟨a, cap, hv, _⟩ := h.sl.is
  have hlen : ((l.zip gs).map entF).length = l.length := by simp [h.len]
  have := h.sl.small
  rw [hlen] at hv this
  exact ⟨a, cap, hv, this⟩
end
def encR (c : ByteArray) (vL : Value) : List Value := [.string c, vL]

theorem r23_in {A : Nat → Prop} {v : Value} {l : List ByteArray} (s : ByteArray) (w : World) (hS : SlS A w v l) : Ret Tryz.prog 80 [v, .string s] w fun u w' => u = .bool (l.any fun y => decide (y = s)) ∧ w = w' := by
  have hm := hS.small
  obtain ⟨a, cap, rfl, hz, hr⟩ := hS.is
  simp only [List.length_map] at *
  unfold maxLen at hm
  refine ret_of Tryz.func80 Tryz.ntmps80 rfl rfl rfl ?_
  (repeat (first | refine lw_pure hT rfl ?_ | refine lw_nil ?_ | refine cw_seq ?_ | refine cw_region ?_ | refine qw_then ?_ | refine cw_block ?_))
  refine cw_loop (fun i : Nat => [(0, .slice a l.length cap), (1, .string s), (5, .int .i64 (i : Nat))]) (fun i w' => w = w' ∧ i ≤ l.length ∧ ∀ j (hj : j < l.length), j < i → decide (l[j] = s) = false) (fun i => l.length - i) 0 (by repeat (first | exact trivial | refine ⟨rfl, ?_⟩)) ⟨rfl, Nat.zero_le _, fun j _ hj => by omega⟩ ?_
  rintro i _ ⟨rfl, hi, hb⟩
  (repeat (first | refine lw_pure hT rfl ?_ | refine lw_nil ?_ | refine cw_seq ?_ | refine cw_region ?_ | refine qw_then ?_))
  refine cw_cond rfl (fun h => ?_) (fun h => ?_)
  · have hlt : i < l.length := by simp at h; omega
    have hne : l.map (fun s => [Value.string s]) ≠ [] := by intro e; simp at e; subst e; simp at hlt
    obtain ⟨b, o, rfl, hA, hrd⟩ := hr hne
    obtain ⟨hlen, hrd⟩ := hrd i [.string l[i]] (by simp [hlt])
    (repeat (first | refine lw_pure hT rfl ?_ | refine cw_seq ?_ | refine cw_region ?_ | refine qw_then ?_ | refine cw_skip ?_ | refine cw_block ?_))
    refine lw_index hT rfl rfl rfl i rfl hlt ?_
    skip
    refine lw_load hT rfl rfl (v := .string l[i]) (hrd 0 _ rfl) ?_
    (repeat (first | refine lw_pure hT rfl ?_ | refine lw_nil ?_ | refine qw_then ?_))
    refine cw_cond rfl (fun h' => ?_) (fun h' => ?_)
    · (repeat (first | refine lw_pure hT rfl ?_ | refine lw_nil ?_ | refine cw_seq ?_ | refine cw_region ?_ | refine qw_then ?_ | refine cw_ret ?_ | refine qw_then_ret ?_ | refine qw_block_ret ?_))
      refine qw_ret rfl ⟨?_, rfl⟩
      have : (l.any fun y => decide (y = s)) = true := by rw [List.any_eq_true]; exact ⟨l[i], List.getElem_mem hlt, h'⟩
      rw [this]; rfl
    · (repeat (first | (refine lw_add rfl rfl ?_ ?_ ?_; iterate 2 omega) | refine lw_pure hT rfl ?_ | refine lw_nil ?_ | refine cw_region ?_ | refine qw_then ?_ | refine cw_skip ?_ | refine qw_block ?_))
      refine qw_round (i + 1) (by repeat (first | exact trivial | refine ⟨rfl, ?_⟩)) ⟨rfl, hlt, fun j hj hji => ?_⟩ (by omega)
      by_cases e : j = i
      · subst e; exact h'
      · exact hb j hj (by omega)
  · have : i = l.length := by simp at h; omega
    subst this
    (repeat (first | refine lw_pure hT rfl ?_ | refine lw_nil ?_ | refine cw_seq ?_ | refine cw_region ?_ | refine qw_then ?_ | refine cw_ret ?_ | refine cw_exit ?_ | refine qw_block_exit ?_ | refine qw_then_exit ?_))
    refine qw_ret rfl ⟨?_, rfl⟩
    have : (l.any fun y => decide (y = s)) = false := by
      rw [List.any_eq_false]
      intro y hy
      obtain ⟨j, hj, rfl⟩ := List.getElem_of_mem hy
      rw [hb j hj hj]; decide
    rw [this]; rfl
theorem r23_names {A : Nat → Prop} {v : Value} {l : List ByteArray} (w : World) (hS : SlS A w v l) (hs : ∀ s ∈ l, s.size ≤ maxLen) : Ret Tryz.prog 119 [v] w fun u w' => u = .bool (l.all nameB) ∧ w = w' := by
  have hm := hS.small
  obtain ⟨a, cap, rfl, hz, hr⟩ := hS.is
  simp only [List.length_map] at *
  unfold maxLen at hm
  refine ret_of Tryz.func119 Tryz.ntmps119 rfl rfl rfl ?_
  (repeat (first | refine lw_pure hT rfl ?_ | refine lw_nil ?_ | refine cw_seq ?_ | refine cw_region ?_ | refine qw_then ?_ | refine cw_block ?_))
  refine cw_loop (fun i : Nat => [(0, .slice a l.length cap), (3, .int .i64 (i : Nat))]) (fun i w' => w = w' ∧ i ≤ l.length ∧ ∀ j (hj : j < l.length), j < i → nameB l[j] = true) (fun i => l.length - i) 0 (by repeat (first | exact trivial | refine ⟨rfl, ?_⟩)) ⟨rfl, Nat.zero_le _, fun j _ hj => by omega⟩ ?_
  rintro i _ ⟨rfl, hi, hb⟩
  (repeat (first | refine lw_pure hT rfl ?_ | refine lw_nil ?_ | refine cw_seq ?_ | refine cw_region ?_ | refine qw_then ?_))
  refine cw_cond rfl (fun h => ?_) (fun h => ?_)
  · have hlt : i < l.length := by simp at h; omega
    have hne : l.map (fun s => [Value.string s]) ≠ [] := by intro e; simp at e; subst e; simp at hlt
    obtain ⟨b, o, rfl, hA, hrd⟩ := hr hne
    obtain ⟨hlen, hrd⟩ := hrd i [.string l[i]] (by simp [hlt])
    (repeat (first | refine lw_pure hT rfl ?_ | refine cw_seq ?_ | refine cw_region ?_ | refine qw_then ?_ | refine cw_skip ?_ | refine cw_block ?_))
    refine lw_index hT rfl rfl rfl i rfl hlt ?_
    skip
    refine lw_load hT rfl rfl (v := .string l[i]) (hrd 0 _ rfl) ?_
    skip
    refine lw_call hT rfl rfl (r_Name l[i] w (hs _ (List.getElem_mem hlt))) ?_
    rintro _ _ ⟨rfl, rfl⟩
    (repeat (first | refine lw_pure hT rfl ?_ | refine lw_nil ?_ | refine qw_then ?_))
    refine cw_cond rfl (fun h' => ?_) (fun h' => ?_)
    · rw [Bool.not_eq_true'] at h'
      (repeat (first | refine lw_pure hT rfl ?_ | refine lw_nil ?_ | refine cw_seq ?_ | refine cw_region ?_ | refine qw_then ?_ | refine cw_ret ?_ | refine qw_then_ret ?_ | refine qw_block_ret ?_))
      refine qw_ret rfl ⟨?_, rfl⟩
      have : l.all nameB = false := by rw [List.all_eq_false]; exact ⟨l[i], List.getElem_mem hlt, by rw [h']; decide⟩
      rw [this]; rfl
    · rw [Bool.not_eq_false'] at h'
      (repeat (first | (refine lw_add rfl rfl ?_ ?_ ?_; iterate 2 omega) | refine lw_pure hT rfl ?_ | refine lw_nil ?_ | refine cw_region ?_ | refine qw_then ?_ | refine cw_skip ?_ | refine qw_block ?_))
      refine qw_round (i + 1) (by repeat (first | exact trivial | refine ⟨rfl, ?_⟩)) ⟨rfl, hlt, fun j hj hji => ?_⟩ (by omega)
      by_cases e : j = i
      · subst e; exact h'
      · exact hb j hj (by omega)
  · have : i = l.length := by simp at h; omega
    subst this
    (repeat (first | refine lw_pure hT rfl ?_ | refine lw_nil ?_ | refine cw_seq ?_ | refine cw_region ?_ | refine qw_then ?_ | refine cw_ret ?_ | refine cw_exit ?_ | refine qw_block_exit ?_ | refine qw_then_exit ?_))
    refine qw_ret rfl ⟨?_, rfl⟩
    have : l.all nameB = true := by
      rw [List.all_eq_true]
      intro y hy
      obtain ⟨j, hj, rfl⟩ := List.getElem_of_mem hy
      exact hb j hj hj
    rw [this]; rfl
theorem r23_Day (n : Int) (w : World) : Ret Tryz.prog 102 [.int .i64 n] w fun v w' => v = .bool (dayB n) ∧ w = w' := by
  refine ret_of Tryz.func102 Tryz.ntmps102 rfl rfl rfl ?_
  (repeat (first | refine lw_pure hT rfl ?_ | refine lw_nil ?_ | refine cw_seq ?_ | refine cw_region ?_ | refine qw_then ?_))
  refine lw_guard rfl (fun h => ?_) (fun h => ?_)
  · (repeat (first | refine lw_pure hT rfl ?_ | refine lw_nil ?_ | refine qw_then ?_ | refine cw_ret ?_ | (refine lw_gon_t rfl ?_ ?_; focus (first | with_reducible rfl | with_reducible exact Bool.not_false | with_reducible exact Bool.not_true))))
    exact qw_ret rfl ⟨by simp only [oneOr, dayB]; simp at h; simp [h], rfl⟩
  · (repeat (first | refine lw_pure hT rfl ?_ | refine lw_nil ?_ | refine qw_then ?_ | refine cw_ret ?_ | (refine lw_goff_f rfl ?_ ?_; focus (first | with_reducible rfl | with_reducible exact Bool.not_false | with_reducible exact Bool.not_true))))
    exact qw_ret rfl ⟨by simp only [oneOr, dayB]; simp at h; simp; omega, rfl⟩
section
variable {A : Nat → Prop} {w : World} {vL : Value} {l : List EntD} {gs : List FG}
theorem r23_Find (c n : ByteArray) (hF : FRep A w vL l gs) : Ret Tryz.prog 24 [.agg ⟨encR c vL⟩, .string n] w fun v w' => v = .int .i64 (fidx (fun e => decide (e.bill.number = n)) l) ∧ Ex w w' := by
  obtain ⟨a, cap, rfl, hm⟩ := hF.slice
  unfold maxLen at hm
  refine ret_of Tryz.func24 Tryz.ntmps24 rfl rfl rfl ?_
  (repeat (first | refine cw_seq ?_ | refine cw_region ?_))
  refine lw_box rfl ?_
  intro b2 w1 hbb hb2 hx1 hs1
  replace hb2 : Blk w1 b2 (encR c (.slice a l.length cap)) 28 := hb2
  have hF1 := hF.ex hx1
  (repeat (first | refine lw_pure hT rfl ?_ | refine lw_nil ?_ | refine cw_seq ?_ | refine cw_region ?_ | refine qw_then ?_ | refine cw_block ?_))
  refine cw_loop (fun i : Nat => [(1, .string n), (2, .pointer (some ⟨b2, 0, none⟩)), (5, .int .i64 (i : Nat))]) (fun i w' => w1 = w' ∧ i ≤ l.length ∧ ∀ j (hj : j < l.length), j < i → decide (l[j].bill.number = n) = false) (fun i => l.length - i) 0 (by repeat (first | exact trivial | refine ⟨rfl, ?_⟩)) ⟨rfl, Nat.zero_le _, fun j _ hj => by omega⟩ ?_
  rintro i _ ⟨rfl, hi, hb⟩
  (repeat (first | refine lw_pure hT rfl ?_ | refine cw_seq ?_ | refine cw_region ?_))
  refine lw_load hT rfl rfl (v := .slice a l.length cap) (hb2.cell 1) ?_
  (repeat (first | refine lw_pure hT rfl ?_ | refine lw_nil ?_ | refine qw_then ?_))
  refine cw_cond rfl (fun h => ?_) (fun h => ?_)
  · have hlt : i < l.length := by simp at h; omega
    obtain ⟨x, g, b, o, cap', h1, h2, hv, hrd, hE⟩ := hF1.row hlt
    cases hv
    have hxi : x = l[i] := by rw [List.getElem?_eq_getElem hlt] at h1; exact (Option.some.inj h1).symm
    (repeat (first | refine lw_pure hT rfl ?_ | refine cw_seq ?_ | refine cw_region ?_ | refine qw_then ?_ | refine cw_skip ?_ | refine cw_block ?_))
    refine lw_load hT rfl rfl (v := .slice (some ⟨b, o, none⟩) l.length cap) (hb2.cell 1) ?_
    (repeat (refine lw_pure hT rfl ?_))
    refine lw_index hT rfl rfl rfl i rfl hlt ?_
    (repeat (refine lw_pure hT rfl ?_))
    refine lw_load hT rfl rfl (v := .string x.bill.number) (hrd 0 _ rfl) ?_
    (repeat (first | refine lw_pure hT rfl ?_ | refine lw_nil ?_ | refine qw_then ?_))
    refine cw_cond rfl (fun h' => ?_) (fun h' => ?_)
    · (repeat (first | refine lw_pure hT rfl ?_ | refine lw_nil ?_ | refine cw_seq ?_ | refine cw_region ?_ | refine qw_then ?_ | refine cw_ret ?_ | refine qw_then_ret ?_ | refine qw_block_ret ?_))
      exact qw_ret rfl ⟨by rw [fidx_at hlt (hxi ▸ h') fun j hj => hb j (by omega) hj]; rfl, hx1⟩
    · (repeat (first | (refine lw_add rfl rfl ?_ ?_ ?_; iterate 2 omega) | refine lw_pure hT rfl ?_ | refine lw_nil ?_ | refine cw_region ?_ | refine qw_then ?_ | refine cw_skip ?_ | refine qw_block ?_))
      refine qw_round (i + 1) (by repeat (first | exact trivial | refine ⟨rfl, ?_⟩)) ⟨rfl, hlt, fun j hj hji => ?_⟩ (by omega)
      by_cases e : j = i
      · subst e; rw [← hxi]; exact h'
      · exact hb j hj (by omega)
  · have : i = l.length := by simp at h; omega
    subst this
    (repeat (first | refine lw_pure hT rfl ?_ | refine lw_nil ?_ | refine cw_seq ?_ | refine cw_region ?_ | refine qw_then ?_ | refine cw_ret ?_ | refine cw_exit ?_ | refine qw_block_exit ?_ | refine qw_then_exit ?_))
    exact qw_ret rfl ⟨by rw [fidx_none fun j hj => hb j hj hj]; rfl, hx1⟩
def EntD.hasF (e : EntD) (x : ByteArray) : Bool := decide (e.state = 0) && e.bill.boxes.any fun y => decide (y = x)
theorem hasF_eq (e : EntD) (x : ByteArray) : e.hasF x = e.has x := by
  unfold EntD.hasF EntD.has
  congr 1
  apply List.any_congr rfl
  intro y; simp [eq_comm]
theorem r23_Box (c n : ByteArray) (hF : FRep A w vL l gs) : Ret Tryz.prog 51 [.agg ⟨encR c vL⟩, .string n] w fun v w' => v = .int .i64 (fidx (fun e => e.hasF n) l) ∧ Ex w w' := by
  obtain ⟨a, cap, rfl, hm⟩ := hF.slice
  unfold maxLen at hm
  refine ret_of Tryz.func51 Tryz.ntmps51 rfl rfl rfl ?_
  (repeat (first | refine cw_seq ?_ | refine cw_region ?_))
  refine lw_box rfl ?_
  intro b2 w1 hbb hb2 hx1 hs1
  replace hb2 : Blk w1 b2 (encR c (.slice a l.length cap)) 28 := hb2
  have hF1 := hF.ex hx1
  (repeat (first | refine lw_pure hT rfl ?_ | refine lw_nil ?_ | refine cw_seq ?_ | refine cw_region ?_ | refine qw_then ?_ | refine cw_block ?_))
  refine cw_loop (fun i : Nat => [(1, .string n), (2, .pointer (some ⟨b2, 0, none⟩)), (5, .int .i64 (i : Nat))]) (fun i w' => w1 = w' ∧ i ≤ l.length ∧ ∀ j (hj : j < l.length), j < i → l[j].hasF n = false) (fun i => l.length - i) 0 (by repeat (first | exact trivial | refine ⟨rfl, ?_⟩)) ⟨rfl, Nat.zero_le _, fun j _ hj => by omega⟩ ?_
  rintro i _ ⟨rfl, hi, hb⟩
  (repeat (first | refine lw_pure hT rfl ?_ | refine cw_seq ?_ | refine cw_region ?_))
  refine lw_load hT rfl rfl (v := .slice a l.length cap) (hb2.cell 1) ?_
  (repeat (first | refine lw_pure hT rfl ?_ | refine lw_nil ?_ | refine qw_then ?_))
  refine cw_cond rfl (fun h => ?_) (fun h => ?_)
  · have hlt : i < l.length := by simp at h; omega
    obtain ⟨x, g, b, o, cap', h1, h2, hv, hrd, hE⟩ := hF1.row hlt
    cases hv
    have hxi : x = l[i] := by rw [List.getElem?_eq_getElem hlt] at h1; exact (Option.some.inj h1).symm
    have next : l[i].hasF n = false → ∀ j (hj : j < l.length), j < i + 1 → l[j].hasF n = false := by
      intro h' j hj hji
      by_cases e : j = i
      · subst e; exact h'
      · exact hb j hj (by omega)
    (repeat (first | refine lw_pure hT rfl ?_ | refine cw_seq ?_ | refine cw_region ?_ | refine qw_then ?_ | refine cw_skip ?_ | refine cw_block ?_))
    refine lw_load hT rfl rfl (v := .slice (some ⟨b, o, none⟩) l.length cap) (hb2.cell 1) ?_
    (repeat (refine lw_pure hT rfl ?_))
    refine lw_index hT rfl rfl rfl i rfl hlt ?_
    (repeat (refine lw_pure hT rfl ?_))
    refine lw_load hT rfl rfl (v := .int .i64 x.state) (hrd 9 _ rfl) ?_
    (repeat (refine lw_pure hT rfl ?_))
    refine lw_guard rfl (fun h3 => ?_) (fun h3 => ?_)
    · (repeat (first | refine lw_pure hT rfl ?_ | (refine lw_gon_t rfl ?_ ?_; focus (first | with_reducible rfl | with_reducible exact Bool.not_false | with_reducible exact Bool.not_true))))
      refine lw_load hT rfl rfl (v := .slice (some ⟨b, o, none⟩) l.length cap) (hb2.cell 1) ?_
      (repeat (first | refine lw_pure hT rfl ?_ | (refine lw_gon_t rfl ?_ ?_; focus (first | with_reducible rfl | with_reducible exact Bool.not_false | with_reducible exact Bool.not_true))))
      refine lw_index hT rfl rfl rfl i rfl hlt ?_
      (repeat (first | refine lw_pure hT rfl ?_ | (refine lw_gon_t rfl ?_ ?_; focus (first | with_reducible rfl | with_reducible exact Bool.not_false | with_reducible exact Bool.not_true))))
      refine lw_load hT rfl rfl (v := g.vb) (hrd 5 _ rfl) ?_
      (repeat (first | refine lw_pure hT rfl ?_ | (refine lw_gon_t rfl ?_ ?_; focus (first | with_reducible rfl | with_reducible exact Bool.not_false | with_reducible exact Bool.not_true))))
      refine lw_call hT rfl rfl (r23_in n w1 hE.boxes) ?_
      rintro _ _ ⟨rfl, rfl⟩
      (repeat (first | refine lw_pure hT rfl ?_ | refine lw_nil ?_ | refine qw_then ?_))
      refine cw_cond rfl (fun h' => ?_) (fun h' => ?_)
      · (repeat (first | refine lw_pure hT rfl ?_ | refine lw_nil ?_ | refine cw_seq ?_ | refine cw_region ?_ | refine qw_then ?_ | refine cw_ret ?_ | refine qw_then_ret ?_ | refine qw_block_ret ?_))
        exact qw_ret rfl ⟨by rw [fidx_at hlt (by rw [← hxi]; simp only [EntD.hasF, h3, h', Bool.true_and]) fun j hj => hb j (by omega) hj]; rfl, hx1⟩
      · (repeat (first | (refine lw_add rfl rfl ?_ ?_ ?_; iterate 2 omega) | refine lw_pure hT rfl ?_ | refine lw_nil ?_ | refine cw_region ?_ | refine qw_then ?_ | refine cw_skip ?_ | refine qw_block ?_))
        exact qw_round (i + 1) (by repeat (first | exact trivial | refine ⟨rfl, ?_⟩)) ⟨rfl, hlt, next (by rw [← hxi]; simp only [EntD.hasF, h', Bool.and_false])⟩ (by omega)
    · (repeat (first | (refine lw_add rfl rfl ?_ ?_ ?_; iterate 2 omega) | refine lw_pure hT rfl ?_ | refine lw_nil ?_ | refine cw_region ?_ | refine qw_then ?_ | refine cw_skip ?_ | (refine lw_goff_f rfl ?_ ?_; focus (first | with_reducible rfl | with_reducible exact Bool.not_false | with_reducible exact Bool.not_true)) | refine qw_block ?_ | (refine cw_cond_f rfl ?_ ?_; focus (first | with_reducible rfl | with_reducible exact Bool.not_false | with_reducible exact Bool.not_true))))
      exact qw_round (i + 1) (by repeat (first | exact trivial | refine ⟨rfl, ?_⟩)) ⟨rfl, hlt, next (by rw [← hxi]; simp only [EntD.hasF, h3, Bool.false_and])⟩ (by omega)
  · have : i = l.length := by simp at h; omega
    subst this
    (repeat (first | refine lw_pure hT rfl ?_ | refine lw_nil ?_ | refine cw_seq ?_ | refine cw_region ?_ | refine qw_then ?_ | refine cw_ret ?_ | refine cw_exit ?_ | refine qw_block_exit ?_ | refine qw_then_exit ?_))
    exact qw_ret rfl ⟨by rw [fidx_none fun j hj => hb j hj hj]; rfl, hx1⟩
end
end Go.Proofs.YtfbjpfgglgffgaaGreat
