/- Contracts of package supercargoref23, fourth part: Issue. -/
import Derived.Test.YtfbjpfgglgffgaaGreatFc
set_option linter.unusedVariables false
set_option linter.unusedSimpArgs false
set_option linter.unusedSectionVars false
set_option linter.unnecessarySimpa false
namespace Go.Proofs.YtfbjpfgglgffgaaGreat
open Go Go.SK

theorem Sl.one {A : Nat → Prop} {w : World} {v : Value} {size : Nat} {rows : List (List Value)} (h : Sl A w v size rows) : v.oneCell' = true := by
  obtain ⟨a, cap, rfl, _⟩ := h.is; rfl
theorem entF_one {A : Nat → Prop} {w : World} {x : EntD} {g : FG} (h : FEnt A w x g) : ∀ u ∈ entF (x, g), u.oneCell' = true := by
  intro u hu
  simp [entF, encB] at hu
  rcases hu with rfl | rfl | rfl | rfl | rfl | rfl | rfl | rfl | rfl | rfl | rfl <;> first | rfl | exact Sl.one h.boxes | exact Sl.one h.parents | exact Sl.one h.papers
theorem FRep.one {A : Nat → Prop} {w : World} {vL : Value} {l : List EntD} {gs : List FG} (h : FRep A w vL l gs) : ∀ r ∈ (l.zip gs).map entF, ∀ u ∈ r, u.oneCell' = true := by
  intro r hr
  obtain ⟨⟨x, g⟩, hz, rfl⟩ := List.mem_map.1 hr
  obtain ⟨i, hi⟩ := List.getElem?_of_mem hz
  rw [List.getElem?_zip_eq_some] at hi
  exact entF_one (h.ents i x g hi.1 hi.2)
theorem entF_len (x : EntD × FG) : (entF x).length = 11 := rfl
theorem FRep.len11 {l : List EntD} {gs : List FG} : ∀ r ∈ (l.zip gs).map entF, r.length = 11 := by
  intro r hr; obtain ⟨x, _, rfl⟩ := List.mem_map.1 hr; rfl
theorem own_cap {w : World} {base e size n : Nat} {v : Value} {xs : List Value} (h : w.ownsRow base e size v n xs) : ∀ a n c, v = .slice a n c → n ≤ c := by
  rcases h.2 with ⟨rfl, _⟩ | ⟨g, cap, cur, rfl, _, _, hc, _⟩ <;> intro a n c h <;> cases h
  · exact Nat.le_refl _
  · exact hc
/-- A list of entries made of old ones and new ones. -/
theorem FRep.append {A : Nat → Prop} {w : World} {vL v1 v2 : Value} {l1 l2 : List EntD} {gs1 gs2 : List FG} (h1 : FRep A w v1 l1 gs1) (h2 : FRep A w v2 l2 gs2) {base te : Nat} (ho : w.ownsRow base te 11 vL (l1.length + l2.length) (((l1.zip gs1).map entF).flatten ++ ((l2.zip gs2).map entF).flatten)) (hA : ∀ b, vL.ownBlock = some b → A b) :
    FRep A w vL (l1 ++ l2) (gs1 ++ gs2) := by
  refine ⟨by simp [h1.len, h2.len], own_cap ho, ?_, ?_⟩
  · have e : ((l1 ++ l2).zip (gs1 ++ gs2)).map entF = (l1.zip gs1).map entF ++ (l2.zip gs2).map entF := by rw [List.zip_append h1.len, List.map_append]
    rw [e]
    refine own_sl (base := base) (e := te) (rows := (l1.zip gs1).map entF ++ (l2.zip gs2).map entF) ?_ ?_ hA
    · rw [List.flatten_append, List.length_append, List.length_map, List.length_map, List.length_zip, List.length_zip, ← h1.len, ← h2.len, Nat.min_self, Nat.min_self]; exact ho
    · intro r hr
      rcases List.mem_append.1 hr with hr | hr <;> exact FRep.len11 r hr
  · intro i x g hx hg
    rw [List.getElem?_append] at hx hg
    rw [← h1.len] at hg
    split at hx
    · next hlt => rw [if_pos hlt] at hg; exact h1.ents i x g hx hg
    · next hlt => rw [if_neg hlt] at hg; exact h2.ents _ x g hx hg
theorem find_isSome {l : List EntD} {n : ByteArray} : (l.find? fun e => decide (n = e.bill.number)).isSome = l.any fun e => decide (e.bill.number = n) := by
  rw [Bool.eq_iff_iff, List.find?_isSome]
  simp only [List.any_eq_true, decide_eq_true_eq]
  constructor <;> (rintro ⟨e, h1, h2⟩; exact ⟨e, h1, h2.symm⟩)
def issueF (c : ByteArray) (l : List EntD) (b : BillD) (holder : ByteArray) : Int :=
  if (!mayF c b || !nameB holder) = true then 1 else if (l.any fun e => decide (e.bill.number = b.number)) = true then 5 else if (b.boxes.any fun x => l.any fun e => e.hasF x) = true then 9 else if l.length ≥ 256 then 7 else 0
theorem issueF_eq {c : ByteArray} {l : List EntD} {b : BillD} {holder : ByteArray} (hl : l.length ≤ 256) : issueF c l b holder = issueC ⟨c, l⟩ b holder := by
  unfold issueF issueC
  rw [mayF_eq]
  have e1 : (b.boxes.any fun x => l.any fun e => e.hasF x) = b.boxes.any (RegD.boxed ⟨c, l⟩) := by
    apply List.any_congr rfl; intro x; unfold RegD.boxed; apply List.any_congr rfl; intro e; exact hasF_eq e x
  rw [e1]
  unfold RegD.at?
  rw [find_isSome]
  have e2 : (l.length ≥ 256) = (l.length = 256) := by apply propext; omega
  simp only [e2]
set_option maxHeartbeats 2000000 in
theorem r23_Issue {A A0 : Nat → Prop} {w : World} {vL : Value} {l : List EntD} {gs : List FG} {b : BillD} {vb vp : Value} (c : ByteArray) (hF : FRep A w vL l gs) (hl : l.length ≤ 256) (hB : SlS A0 w vb b.boxes) (hP : SlS A0 w vp b.parents) (hok : b.Ok) (hcap : ∀ a n c, vb = .slice a n c → n ≤ c)
    (holder : ByteArray) (hh : holder.size ≤ maxLen) :
    Ret Tryz.prog 73 [.agg ⟨encR c vL⟩, .agg ⟨encB b vb vp⟩, .string holder] w fun v w' =>
      (∃ vL' gs', v = .tuple #[.agg ⟨encR c vL'⟩, .int .i64 (issueC ⟨c, l⟩ b holder)] ∧ FRep (fun b => A b ∨ w.heap.size ≤ b) w' vL' (issueD ⟨c, l⟩ b holder).l gs') ∧ Ex w w' := by
  rw [← issueF_eq hl]
  have hD : issueF c l b holder ≠ 0 → (issueD ⟨c, l⟩ b holder).l = l := fun h => by unfold issueD; rw [← issueF_eq hl, if_neg h]
  have hBm := hB.small
  have hB0 := hB
  obtain ⟨ab, cb, hvb, hzb, hrb⟩ := hB.is
  subst hvb
  obtain ⟨aL, cL, hvL, hLm⟩ := hF.slice
  subst hvL
  simp only [List.length_map] at *
  unfold maxLen at hBm hLm
  refine ret_of Tryz.func73 Tryz.ntmps73 rfl rfl rfl ?_
  (repeat (first | refine cw_seq ?_ | refine cw_region ?_))
  refine lw_box rfl ?_
  intro b3 w1 hbb3 hb3 hx1 hs1
  replace hb3 : Blk w1 b3 (encR c (.slice aL l.length cL)) 28 := hb3
  skip
  refine lw_box rfl ?_
  intro b4 w2 hbb4 hb4 hx2 hs2
  replace hb4 : Blk w2 b4 (encB b (.slice ab b.boxes.length cb) vp) 35 := hb4
  skip
  refine lw_alloc z28 ?_
  intro b6 w3 hbb6 hb6 hx3 hs3
  have hx03 := (hx1.trans hx2).trans hx3
  have hb33 := (hb3.ex hx2).ex hx3
  have hb43 := hb4.ex hx3
  (repeat (first | refine lw_pure hT rfl ?_ | refine lw_nil ?_ | refine cw_seq ?_ | refine cw_region ?_ | refine qw_then ?_))
  refine lw_load hT rfl rfl (v := .string c) (hb33.cell 0) ?_
  skip
  refine lw_load_agg hT rfl rfl rfl (vs := encB b (.slice ab b.boxes.length cb) vp) (hb43.rd 0 9) ?_
  skip
  refine lw_call hT rfl rfl (r23_May w3 c b _ vp (hB0.ex hx03) (hP.ex hx03) hok hcap) ?_
  rintro _ w4 ⟨rfl, hx4⟩
  have hx04 := hx03.trans hx4
  have hb34 := hb33.ex hx4
  have hb44 := hb43.ex hx4
  have hb64 := hb6.ex hx4
  have hF4 := hF.ex hx04
  have old : ∀ {n : Nat} {w5 : World} {code : Int}, Ex w4 w5 → issueF c l b holder = code → code ≠ 0 → ∀ w6, Blk w6 b6 (encR c (.slice aL l.length cL)) 28 → Ext (· = b6) w5 w6 →
      (∃ vL' gs', Value.tuple #[.agg ⟨encR c (.slice aL l.length cL)⟩, .int .i64 code] = .tuple #[.agg ⟨encR c vL'⟩, .int .i64 (issueF c l b holder)] ∧ FRep (fun b => A b ∨ w.heap.size ≤ b) w6 vL' (issueD ⟨c, l⟩ b holder).l gs') ∧ Ex w w6 := by
    intro n w5 code hx5 hc hne w6 hb hx6
    have hx06 : Ex w w6 := (hx04.trans hx5).up_new hx6 (fun i hi => by have := hx1.size; omega)
    refine ⟨⟨_, gs, by rw [hc], ?_⟩, hx06⟩
    rw [hD (by rw [hc]; exact hne)]
    exact (hF.ex hx06).weaken fun _ h => .inl h
  (repeat (refine lw_pure hT rfl ?_))
  have bad : (!mayF c b || !nameB holder) = true → issueF c l b holder = 1 := fun h => by unfold issueF; rw [if_pos h]
  refine lw_guard rfl (fun h1 => ?_) (fun h1 => ?_)
  · (repeat (first | refine lw_pure hT rfl ?_ | refine lw_nil ?_ | refine cw_seq ?_ | refine cw_region ?_ | refine qw_then ?_ | (refine lw_goff_t rfl ?_ ?_; focus (first | with_reducible rfl | with_reducible exact Bool.not_false | with_reducible exact Bool.not_true)) | (refine cw_cond_t rfl ?_ ?_; focus (first | with_reducible rfl | with_reducible exact Bool.not_false | with_reducible exact Bool.not_true))))
    refine lw_load_agg hT rfl rfl rfl (vs := encR c (.slice aL l.length cL)) (hb34.rd 0 2) ?_
    skip
    refine lw_store_agg hT rfl rfl rfl rfl (by intro v hv; simp [encR] at hv; rcases hv with rfl | rfl <;> rfl) hb64 (show (2 : Nat) ≤ 2 by decide) ?_
    intro w6 hb66 hx6 hs6
    (repeat (first | refine lw_pure hT rfl ?_ | refine lw_nil ?_ | refine qw_then ?_ | refine cw_ret ?_ | refine qw_then_ret ?_))
    exact qw_ret_cell hT rfl rfl rfl rfl (vs := encR c (.slice aL l.length cL)) (hb66.rd 0 2) rfl (old (n := 0) (Ext.refl _ _) (bad (by rw [h1]; rfl)) (by decide) w6 hb66 hx6)
  · (repeat (first | refine lw_pure hT rfl ?_ | (refine lw_gon_f rfl ?_ ?_; focus (first | with_reducible rfl | with_reducible exact Bool.not_false | with_reducible exact Bool.not_true))))
    refine lw_call hT rfl rfl (r_Name holder w4 hh) ?_
    rintro _ _ ⟨rfl, rfl⟩
    (repeat (first | refine lw_pure hT rfl ?_ | refine lw_nil ?_ | refine qw_then ?_ | (refine lw_gon_f rfl ?_ ?_; focus (first | with_reducible rfl | with_reducible exact Bool.not_false | with_reducible exact Bool.not_true))))
    refine cw_cond rfl (fun h2 => ?_) (fun h2 => ?_)
    · (repeat (first | refine cw_seq ?_ | refine cw_region ?_))
      refine lw_load_agg hT rfl rfl rfl (vs := encR c (.slice aL l.length cL)) (hb34.rd 0 2) ?_
      skip
      refine lw_store_agg hT rfl rfl rfl rfl (by intro v hv; simp [encR] at hv; rcases hv with rfl | rfl <;> rfl) hb64 (show (2 : Nat) ≤ 2 by decide) ?_
      intro w6 hb66 hx6 hs6
      (repeat (first | refine lw_pure hT rfl ?_ | refine lw_nil ?_ | refine qw_then ?_ | refine cw_ret ?_ | refine qw_then_ret ?_))
      exact qw_ret_cell hT rfl rfl rfl rfl (vs := encR c (.slice aL l.length cL)) (hb66.rd 0 2) rfl (old (n := 0) (Ext.refl _ _) (bad (by rw [h2]; simp)) (by decide) w6 hb66 hx6)
    · have hgood : ¬ (!mayF c b || !nameB holder) = true := by rw [h1, h2]; decide
      (repeat (first | refine cw_seq ?_ | refine cw_region ?_ | refine qw_then ?_ | refine cw_skip ?_))
      refine lw_load_agg hT rfl rfl rfl (vs := encR c (.slice aL l.length cL)) (hb34.rd 0 2) ?_
      (repeat (refine lw_pure hT rfl ?_))
      refine lw_load hT rfl rfl (v := .string b.number) (hb44.cell 0) ?_
      skip
      refine lw_call hT rfl rfl (r23_Find c b.number hF4) ?_
      rintro _ w5 ⟨rfl, hx5⟩
      have hx45 := hx5
      have hb35 := hb34.ex hx5
      have hb45 := hb44.ex hx5
      have hb65 := hb64.ex hx5
      (repeat (first | refine lw_pure hT rfl ?_ | refine lw_nil ?_ | refine qw_then ?_))
      refine cw_cond rfl (fun h3 => ?_) (fun h3 => ?_)
      · rw [fidx_ge] at h3
        (repeat (first | refine cw_seq ?_ | refine cw_region ?_))
        refine lw_load_agg hT rfl rfl rfl (vs := encR c (.slice aL l.length cL)) (hb35.rd 0 2) ?_
        skip
        refine lw_store_agg hT rfl rfl rfl rfl (by intro v hv; simp [encR] at hv; rcases hv with rfl | rfl <;> rfl) hb65 (show (2 : Nat) ≤ 2 by decide) ?_
        intro w6 hb66 hx6 hs6
        (repeat (first | refine lw_pure hT rfl ?_ | refine lw_nil ?_ | refine qw_then ?_ | refine cw_ret ?_ | refine qw_then_ret ?_))
        exact qw_ret_cell hT rfl rfl rfl rfl (vs := encR c (.slice aL l.length cL)) (hb66.rd 0 2) rfl (old (n := 0) hx45 (by unfold issueF; rw [if_neg hgood, if_pos h3]) (by decide) w6 hb66 hx6)
      · rw [fidx_ge] at h3
        have h3' : ¬ (l.any fun e => decide (e.bill.number = b.number)) = true := by rw [h3]; decide
        have hF5 := hF4.ex hx5
        (repeat (first | refine lw_pure hT rfl ?_ | refine lw_nil ?_ | refine cw_seq ?_ | refine cw_region ?_ | refine qw_then ?_ | refine cw_skip ?_ | refine cw_block ?_))
        refine cw_loop (fun i : Nat => [(2, .string holder), (3, .pointer (some ⟨b3, 0, none⟩)), (4, .pointer (some ⟨b4, 0, none⟩)), (6, .pointer (some ⟨b6, 0, none⟩)), (8, .int .i64 (i : Nat))])
          (fun i w' => Ex w5 w' ∧ i ≤ b.boxes.length ∧ ∀ j (hj : j < b.boxes.length), j < i → (l.any fun e => e.hasF b.boxes[j]) = false) (fun i => b.boxes.length - i) 0 (by repeat (first | exact trivial | refine ⟨rfl, ?_⟩)) ⟨Ext.refl _ _, Nat.zero_le _, fun j _ hj => by omega⟩ ?_
        rintro i w6 ⟨hx6, hi, hno⟩
        have hx46 := hx45.trans hx6
        have hb36 := hb35.ex hx6
        have hb46 := hb45.ex hx6
        have hb66 := hb65.ex hx6
        have hF6 := hF5.ex hx6
        (repeat (first | refine lw_pure hT rfl ?_ | refine cw_seq ?_ | refine cw_region ?_))
        refine lw_load hT rfl rfl (v := .slice ab b.boxes.length cb) (hb46.cell 5) ?_
        (repeat (first | refine lw_pure hT rfl ?_ | refine lw_nil ?_ | refine qw_then ?_))
        refine cw_cond rfl (fun h => ?_) (fun h => ?_)
        · have hlt : i < b.boxes.length := by simp at h; omega
          have hne : b.boxes.map (fun s => [Value.string s]) ≠ [] := by intro e; simp at e; rw [e] at hlt; simp at hlt
          obtain ⟨bb, o, rfl, hA, hrd⟩ := hrb hne
          obtain ⟨hlen, hrd⟩ := hrd i [.string b.boxes[i]] (by simp [hlt])
          have hrd6 := hrd.ex (hx04.trans hx46)
          (repeat (first | refine cw_seq ?_ | refine qw_then ?_ | refine cw_skip ?_ | refine cw_block ?_))
          refine cw_draw hM (fun w' => Ex w6 w') [] rfl rfl (by repeat (first | with_reducible refine nop_then ?_ | with_reducible refine nop_block ?_ | with_reducible exact nop_body)) (fun w7 hx7 _ => ⟨hx7, ?_⟩)
          refine rw_take 0 rfl rfl (by kernel_rfl) (by kernel_rfl) (by kernel_rfl) (by kernel_rfl) rfl (yo_load_agg hT rfl rfl rfl (vs := encR c (.slice aL l.length cL)) (fun w' hS => (hb36.ex hS).rd 0 2)) ?_
          (refine rw_takeP 1 rfl rfl (by kernel_rfl) (by kernel_rfl) (by kernel_rfl) (by kernel_rfl) rfl (yo_pure hT rfl) ?_)
          refine rw_take 2 rfl rfl (by kernel_rfl) (by kernel_rfl) (by kernel_rfl) (by kernel_rfl) rfl (yo_load hT rfl rfl (fun w' hS => Ex.cell hS (hb46.cell 5))) ?_
          (refine rw_takeP 3 rfl rfl (by kernel_rfl) (by kernel_rfl) (by kernel_rfl) (by kernel_rfl) rfl (yo_pure hT rfl) ?_)
          refine rw_takeP 4 rfl rfl (by kernel_rfl) (by kernel_rfl) (by kernel_rfl) (by kernel_rfl) rfl (yo_index hT rfl rfl rfl i rfl hlt) ?_
          refine rw_take 5 rfl rfl (by kernel_rfl) (by kernel_rfl) (by kernel_rfl) (by kernel_rfl) rfl (yo_load hT rfl rfl (v := .string b.boxes[i]) (fun w' hS => Ex.cell hS (hrd6 0 _ rfl))) ?_
          refine rw_one 6 rfl (by kernel_rfl) rfl (fun hcl => ?_)
          skip
          refine lw_call hT rfl rfl (r23_Box c b.boxes[i] (hF6.ex hx7)) ?_
          rintro _ w8 ⟨rfl, hx8⟩
          have hx68 := hx7.trans hx8
          (repeat (refine lw_nil ?_))
          refine qw_rw (by repeat (first | with_reducible refine nop_then ?_ | with_reducible refine nop_block ?_ | with_reducible exact nop_body)) hcl (fun _ => hx68) ?_
          (refine rw_takeP 7 rfl rfl (by kernel_rfl) (by kernel_rfl) (by kernel_rfl) (by kernel_rfl) rfl (yo_pure hT rfl) ?_)
          refine rw_done (by kernel_rfl) ?_
          (repeat (refine qw_then ?_))
          refine cw_cond rfl (fun h' => ?_) (fun h' => ?_)
          · rw [fidx_ge] at h'
            (repeat (first | refine cw_seq ?_ | refine cw_region ?_))
            refine lw_load_agg hT rfl rfl rfl (vs := encR c (.slice aL l.length cL)) ((hb36.ex hx68).rd 0 2) ?_
            skip
            refine lw_store_agg hT rfl rfl rfl rfl (by intro v hv; simp [encR] at hv; rcases hv with rfl | rfl <;> rfl) (hb66.ex hx68) (show (2 : Nat) ≤ 2 by decide) ?_
            intro w9 hb69 hx9 hs9
            (repeat (first | refine lw_pure hT rfl ?_ | refine lw_nil ?_ | refine qw_then ?_ | refine cw_ret ?_ | refine qw_then_ret ?_ | refine qw_block_ret ?_))
            exact qw_ret_cell hT rfl rfl rfl rfl (vs := encR c _) (hb69.rd 0 2) rfl (old (n := 0) (hx46.trans hx68) (by
              unfold issueF
              rw [if_neg hgood, if_neg h3', if_pos (List.any_eq_true.2 ⟨_, List.getElem_mem hlt, h'⟩)]) (by decide) w9 hb69 hx9)
          · rw [fidx_ge] at h'
            (repeat (first | (refine lw_add rfl rfl ?_ ?_ ?_; iterate 2 omega) | refine lw_pure hT rfl ?_ | refine lw_nil ?_ | refine cw_region ?_ | refine qw_then ?_ | refine cw_skip ?_ | refine qw_block ?_))
            refine qw_round (i + 1) (by repeat (first | exact trivial | refine ⟨rfl, ?_⟩)) ⟨hx6.trans hx68, hlt, fun j hj hji => ?_⟩ (by omega)
            by_cases e : j = i
            · subst e; exact h'
            · exact hno j hj (by omega)
        · have : i = b.boxes.length := by simp at h; omega
          subst this
          have h4 : ¬ (b.boxes.any fun x => l.any fun e => e.hasF x) = true := by
            rw [Bool.not_eq_true, List.any_eq_false]
            intro x hx
            obtain ⟨j, hj, rfl⟩ := List.getElem_of_mem hx
            rw [hno j hj hj]; decide
          (repeat (first | refine lw_pure hT rfl ?_ | refine cw_seq ?_ | refine cw_region ?_ | refine qw_then ?_ | refine cw_exit ?_ | refine qw_block_exit ?_ | refine qw_then_exit ?_))
          refine lw_load hT rfl rfl (v := .slice aL l.length cL) (hb36.cell 1) ?_
          (repeat (first | refine lw_pure hT rfl ?_ | refine lw_nil ?_ | refine qw_then ?_))
          refine cw_cond rfl (fun h5 => ?_) (fun h5 => ?_)
          · have h5 : l.length ≥ 256 := by have := of_decide_eq_true h5; omega
            (repeat (first | refine cw_seq ?_ | refine cw_region ?_))
            refine lw_load_agg hT rfl rfl rfl (vs := encR c (.slice aL l.length cL)) (hb36.rd 0 2) ?_
            skip
            refine lw_store_agg hT rfl rfl rfl rfl (by intro v hv; simp [encR] at hv; rcases hv with rfl | rfl <;> rfl) hb66 (show (2 : Nat) ≤ 2 by decide) ?_
            intro w9 hb69 hx9 hs9
            (repeat (first | refine lw_pure hT rfl ?_ | refine lw_nil ?_ | refine qw_then ?_ | refine cw_ret ?_ | refine qw_then_ret ?_))
            exact qw_ret_cell hT rfl rfl rfl rfl (vs := encR c _) (hb69.rd 0 2) rfl (old (n := 0) hx46 (by unfold issueF; rw [if_neg hgood, if_neg h3', if_neg h4, if_pos h5]) (by decide) w9 hb69 hx9)
          · have h5 : ¬ l.length ≥ 256 := by have := of_decide_eq_false h5; omega
            have hc : issueF c l b holder = 0 := by unfold issueF; rw [if_neg hgood, if_neg h3', if_neg h4, if_neg h5]
            have hD' : (issueD ⟨c, l⟩ b holder).l = l ++ [newEnt b holder] := by unfold issueD; rw [← issueF_eq hl, if_pos hc]
            have hmay : mayF c b = true := by simpa using h1
            have hlen : b.boxes.length ≤ 64 ∧ b.parents.length ≤ 64 := by
              simp only [mayF, Bool.and_eq_true, decide_eq_true_eq] at hmay
              exact ⟨hmay.1.1.1.1.2, hmay.1.1.1.2⟩
            have hx06 := hx04.trans hx46
            have hl06 := hx06.size
            (repeat (first | refine lw_pure hT rfl ?_ | refine cw_seq ?_ | refine cw_region ?_ | refine qw_then ?_ | refine cw_skip ?_))
            refine lw_build bt114 rfl ?_
            (repeat (refine lw_pure hT rfl ?_))
            refine lw_build bt114 rfl ?_
            (repeat (refine lw_pure hT rfl ?_))
            refine lw_build bt114 rfl ?_
            skip
            refine lw_buildSlice sl96 rfl rfl rfl ?_
            intro b9 w7 hbb9 hb9 hx7 hs7
            have hb37 := hb36.ex hx7
            have hb47 := hb46.ex hx7
            have hb67 := hb66.ex hx7
            (repeat (first | refine lw_pure hT rfl ?_ | refine lw_nil ?_ | refine cw_seq ?_ | refine qw_then ?_))
            refine cw_draw hM (fun w' => Ex w7 w') [11] rfl rfl (by repeat (first | with_reducible refine nop_then ?_ | with_reducible refine nop_block ?_ | with_reducible exact nop_body)) (fun w8 hx8 _ => ⟨hx8, ?_⟩)
            (refine rw_takeP 1 rfl rfl (by kernel_rfl) (by kernel_rfl) (by kernel_rfl) (by kernel_rfl) rfl (yo_pure hT rfl) ?_)
            refine rw_take 2 rfl rfl (by kernel_rfl) (by kernel_rfl) (by kernel_rfl) (by kernel_rfl) rfl (yo_load hT rfl rfl (fun w' hS => Ex.cell hS (hb37.cell 1))) ?_
            refine rw_take 4 rfl rfl (by kernel_rfl) (by kernel_rfl) (by kernel_rfl) (by kernel_rfl) rfl (yo_load_agg hT rfl rfl rfl (vs := encB b (.slice ab b.boxes.length cb) vp) (fun w' hS => (hb47.ex hS).rd 0 9)) ?_
            (refine rw_takeP 6 rfl rfl (by kernel_rfl) (by kernel_rfl) (by kernel_rfl) (by kernel_rfl) rfl (yo_pure hT rfl) ?_)
            refine rw_one 0 rfl (by kernel_rfl) rfl (fun hcl => ?_)
            refine lw_buildSlice sl26 rfl rfl rfl ?_
            intro e1 w9 he1 hbe1 hx9 hs9
            have hx79 := hx8.trans hx9
            (repeat (refine lw_nil ?_))
            refine qw_rw (by repeat (first | with_reducible refine nop_then ?_ | with_reducible refine nop_block ?_ | with_reducible exact nop_body)) hcl (fun _ => hx79) ?_
            refine rw_one 3 rfl (by kernel_rfl) rfl (fun hcl => ?_)
            have hx09 := (hx06.trans hx7).trans hx79
            have hown1 : w9.ownsRow w8.heap.size 98 11 (.slice (some ⟨e1, 0, none⟩) 0 0) 0 [] := own_lit hbe1 (by omega) rfl (by decide)
            have hlz : ((l.zip gs).map entF).length = l.length := by simp [hF.len]
            refine lw_append_sl sl26 (by decide) rfl hown1 rfl (hF.ex hx09).sl (hF.ex hx09).one (by rw [hlz]; unfold maxLen; omega) (by rw [hlz]; omega) (by omega) ?_
            intro u1 w10 g1 g2 g3 g4
            rw [hlz, Nat.zero_add, List.nil_append] at g1
            have hl8 := hx8.size
            have hl9 := hx79.size
            have hx710 : Ex w7 w10 := hx79.up_new g2 (fun i h => by simp [Value.ownBlock] at h; omega)
            (repeat (refine lw_nil ?_))
            refine qw_rw (by repeat (first | with_reducible refine nop_then ?_ | with_reducible refine nop_block ?_ | with_reducible exact nop_body)) hcl (fun _ => hx710) ?_
            refine rw_one 5 rfl (by kernel_rfl) rfl (fun hcl => ?_)
            skip
            have hx010 := (hx06.trans hx7).trans hx710
            refine lw_call hT rfl rfl (r23_Copy w10 (hB0.ex hx010) (hP.ex hx010) (by omega) (by omega)) ?_
            rintro _ w11 ⟨ub, up, rfl, hub, hup, hx11⟩
            have hx711 := hx710.trans hx11
            (repeat (refine lw_nil ?_))
            refine qw_rw (by repeat (first | with_reducible refine nop_then ?_ | with_reducible refine nop_block ?_ | with_reducible exact nop_body)) hcl (fun _ => hx711) ?_
            refine rw_takeP 7 rfl rfl (by kernel_rfl) (by kernel_rfl) (by kernel_rfl) (by kernel_rfl) rfl (yo_build bt98 rfl) ?_
            refine rw_one 8 rfl (by kernel_rfl) rfl (fun hcl => ?_)
            refine lw_buildSlice sl26 rfl rfl rfl ?_
            intro e2 w12 he2 hbe2 hx12 hs12
            replace hbe2 : Blk w12 e2 (entF (newEnt b holder, ⟨ub, up, .slice (some ⟨b9, 0, none⟩) 3 3, [.slice none 0 0, .slice none 0 0, .slice none 0 0]⟩)) 98 := hbe2
            have hx712 := hx711.trans hx12
            (repeat (refine lw_nil ?_))
            refine qw_rw (by repeat (first | with_reducible refine nop_then ?_ | with_reducible refine nop_block ?_ | with_reducible exact nop_body)) hcl (fun _ => hx712) ?_
            refine rw_one 9 rfl (by kernel_rfl) rfl (fun hcl => ?_)
            have hx1012 := hx11.trans hx12
            have hown2 := own_ex g1 hx1012
            have hub12 := own_ex hub hx12
            have hup12 := own_ex hup hx12
            have hl10 := hx710.size
            have hl11 := hx711.size
            have hl910 := g2.size
            have hl1011 := hx11.size
            have hrdn : Rd w12 e2 0 (entF (newEnt b holder, ⟨ub, up, .slice (some ⟨b9, 0, none⟩) 3 3, [.slice none 0 0, .slice none 0 0, .slice none 0 0]⟩)) := hbe2.rd 0 11
            refine lw_append sl26 (by decide) rfl hown2 rfl hrdn rfl (by
              intro u hu
              simp [entF, encB, newEnt] at hu
              have := own_one hub
              have := own_one hup
              rcases hu with rfl | rfl | rfl | rfl | rfl | rfl | rfl | rfl | rfl | rfl | rfl <;> first | rfl | assumption) (by unfold maxLen; omega) (by omega) (by omega) ?_
            intro u2 w13 k1 k2 k3 k4
            have hl12 := hx712.size
            have hu1b : ∀ k, u1.ownBlock = some k → w8.heap.size ≤ k := fun k hk => (own_base g1 hk).1
            have hx713 : Ex w7 w13 := hx712.up_new k2 (fun i h => by have := hu1b i h.symm; omega)
            (repeat (refine lw_nil ?_))
            refine qw_rw (by repeat (first | with_reducible refine nop_then ?_ | with_reducible refine nop_block ?_ | with_reducible exact nop_body)) hcl (fun _ => hx713) ?_
            (refine rw_takeP 10 rfl rfl (by kernel_rfl) (by kernel_rfl) (by kernel_rfl) (by kernel_rfl) rfl (yo_pure hT rfl) ?_)
            refine rw_one 11 rfl (by kernel_rfl) rfl (fun hcl => ?_)
            refine lw_store (size := 1) hT rfl rfl rfl (own_one k1) (hb37.ex hx713) (show (1 : Nat) < 2 by decide) ?_
            intro w14 hb314 hx14 hs14
            replace hb314 : Blk w14 b3 (encR c u2) 28 := hb314
            (repeat (refine lw_nil ?_))
            refine qw_rw (by repeat (first | with_reducible refine nop_then ?_ | with_reducible refine nop_block ?_ | with_reducible exact nop_body)) hcl (fun h => absurd h (by decide)) ?_
            refine rw_done (by kernel_rfl) ?_
            (repeat (first | refine cw_seq ?_ | refine cw_region ?_ | refine qw_then ?_))
            have hx014 : Ex w w14 := ((hx06.trans hx7).trans hx713).up_new hx14 (fun i h => by omega)
            have hl1 := hx1.size
            refine lw_load_agg hT rfl rfl rfl (vs := encR c u2) (hb314.rd 0 2) ?_
            skip
            refine lw_store_agg hT rfl rfl rfl rfl (by intro v hv; simp [encR] at hv; rcases hv with rfl | rfl <;> first | rfl | exact own_one k1) ((hb67.ex hx713).ext hx14 (by omega)) (show (2 : Nat) ≤ 2 by decide) ?_
            intro w15 hb615 hx15 hs15
            (repeat (first | refine lw_pure hT rfl ?_ | refine lw_nil ?_ | refine qw_then ?_ | refine cw_ret ?_))
            have hx015 : Ex w w15 := hx014.up_new hx15 (fun i h => by omega)
            have hl7 := hx7.size
            have hl36 := (hx4.trans hx46).size
            refine qw_ret_cell hT rfl rfl rfl rfl (vs := encR c u2) (hb615.rd 0 2) rfl ⟨⟨u2, gs ++ [⟨ub, up, .slice (some ⟨b9, 0, none⟩) 3 3, [.slice none 0 0, .slice none 0 0, .slice none 0 0]⟩], by rw [hc]; rfl, ?_⟩, hx015⟩
            rw [hD']
            have hu1l : ∀ k, u1.ownBlock = some k → k < w10.heap.size := fun k hk => (own_base g1 hk).2
            have hx1115 : Ext (fun k => some k = u1.ownBlock ∨ k = b3 ∨ k = b6) w12 w15 := ((k2.mono fun _ _ h => .inl h).trans (hx14.mono fun _ _ h => .inr (.inl h))).trans (hx15.mono fun _ _ h => .inr (.inr h))
            have hbe15 := hbe2.ext hx1115 (by rintro (h | h | h) <;> first | (have := hu1l _ h.symm; omega) | omega)
            have hb915 : Blk w15 b9 ([.int .i64 0, .string holder, .slice none 0 0] ++ [.int .i64 0, .string holder, .slice none 0 0] ++ [.int .i64 0, .string holder, .slice none 0 0]) 114 := (hb9.ex hx712).ext hx1115 (by rintro (h | h | h) <;> first | (have := hu1b _ h.symm; have := hb9.lt; omega) | omega)
            have hub15 := own_ext hub12 hx1115 (fun k hk h => by have := own_base hub hk; rcases h with h | h | h <;> first | (have := hu1l _ h.symm; omega) | omega)
            have hup15 := own_ext hup12 hx1115 (fun k hk h => by have := own_base hup hk; rcases h with h | h | h <;> first | (have := hu1l _ h.symm; omega) | omega)
            have hnew : FRep (fun b => A b ∨ w.heap.size ≤ b) w15 (.slice (some ⟨e2, 0, none⟩) 1 1) [newEnt b holder] [⟨ub, up, .slice (some ⟨b9, 0, none⟩) 3 3, [.slice none 0 0, .slice none 0 0, .slice none 0 0]⟩] := by
              refine ⟨rfl, (fun a n c h => by cases h; exact Nat.le_refl _), Sl.of_rd (A := fun b => A b ∨ w.heap.size ≤ b) (o := 0) (rows := [entF (newEnt b holder, _)]) (.inr (by omega)) (by intro r hr; simp at hr; subst hr; rfl) (hbe15.rd 0 11) (by simp [maxLen]), ?_⟩
              intro i x g hx hg
              cases i with
              | succ i => simp at hx
              | zero =>
                simp at hx hg
                subst hx hg
                refine ⟨sls_own hub15 (fun k hk => .inr (by have := own_base hub hk; omega)), sls_own hup15 (fun k hk => .inr (by have := own_base hup hk; omega)), rfl, rfl, ?_, ?_⟩
                · exact Sl.of_rd (A := fun b => A b ∨ w.heap.size ≤ b) (o := 0) (rows := [papRow (⟨0, holder, []⟩, .slice none 0 0), papRow (⟨0, holder, []⟩, .slice none 0 0), papRow (⟨0, holder, []⟩, .slice none 0 0)]) (.inr (by omega)) (by simp [papRow]) (hb915.rd 0 9) (by simp [maxLen])
                · intro j q vc hq hvc
                  have hv0 : vc = .slice none 0 0 := by
                    match j, hvc with
                    | 0, hvc => simpa using hvc.symm
                    | 1, hvc => simpa using hvc.symm
                    | 2, hvc => simpa using hvc.symm
                    | _ + 3, hvc => simp at hvc
                  have hq0 : q.chain = [] := by
                    match j, hq with
                    | 0, hq => simp [newEnt] at hq; subst hq; rfl
                    | 1, hq => simp [newEnt] at hq; subst hq; rfl
                    | 2, hq => simp [newEnt] at hq; subst hq; rfl
                    | _ + 3, hq => simp [newEnt] at hq
                  rw [hv0, hq0]
                  exact Sl.nil _ _ _
            have hold := ((hF.ex hx015).weaken (B := fun b => A b ∨ w.heap.size ≤ b) fun _ h => .inl h)
            have hu2 : ∀ k, u2.ownBlock = some k → w8.heap.size ≤ k := fun k hk => (own_base k1 hk).1
            have k15 := own_ext (own_ext k1 hx14 (fun k hk e => by have := hu2 k hk; omega)) hx15 (fun k hk e => by have := hu2 k hk; omega)
            exact hold.append hnew (by simpa using k15) (fun k hk => .inr (by have := hu2 k hk; omega))
end Go.Proofs.YtfbjpfgglgffgaaGreat
