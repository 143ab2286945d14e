import Derived.Test.YtnglkhnfmbnfeaaGreatMCs6
set_option linter.unusedVariables false
set_option linter.unusedSimpArgs false
set_option linter.unusedSectionVars false
set_option linter.unnecessarySimpa false
namespace Go.Proofs.YtnglkhnfmbnfeaaGreat
open Go Go.SK
theorem Mut.new {w0 w w' : World} {p m : Nat} {gs : List GhostE} {r' : RegD} (h : Mut w p m gs r' w') (hx : Ex w0 w) (hn : ∀ b ∈ foot p m gs, w0.heap.size ≤ b) : Ex w0 w' := hx.up_new h.ext hn
theorem foot_new {w0 w : World} {p m : Nat} {gs gs' : List GhostE} (hx : Ex w0 w) (hn : ∀ b ∈ foot p m gs, w0.heap.size ≤ b) (h : ∀ b ∈ foot p m gs', b ∈ foot p m gs ∨ w.heap.size ≤ b) : ∀ b ∈ foot p m gs', w0.heap.size ≤ b := fun b hb => by
  rcases h b hb with h | h
  · exact hn b h
  · have := hx.size; omega
theorem sls_two {w : World} {b1 b2 b3 : Nat} {x y : ByteArray} {e : Nat} (h1 : Blk w b1 [.string x] 9) (h2 : Blk w b2 [.string y] 9) (h3 : Blk w b3 [.slice (some ⟨b1, 0, none⟩) 1 1, .slice (some ⟨b2, 0, none⟩) 1 1] e) : SlsAt (fun _ => True) w (.slice (some ⟨b3, 0, none⟩) 2 2) [[x], [y]] := by
  refine ⟨⟨_, 2, rfl, fun i hi => ?_⟩, (show (2 : Nat) ≤ maxLen by decide), fun p n c h e => by cases h; cases e⟩
  match i, hi with
  | 0, _ => exact ⟨b3, 0, _, rfl, trivial, h3.rd 0 1, sls_of_blk (l := [x]) h1 (show (1 : Nat) ≤ maxLen by decide)⟩
  | 1, _ => exact ⟨b3, 0, _, rfl, trivial, h3.rd 1 1, sls_of_blk (l := [y]) h2 (show (1 : Nat) ≤ maxLen by decide)⟩
set_option maxHeartbeats 8000000 in
theorem l24_awake (w : World) : Ret Tryz.prog 10 [] w fun v w' => v = .bool true ∧ Ex w w' := by
  refine ret_of Tryz.func10 Tryz.ntmps10 rfl rfl rfl ?_
  (repeat (first | refine lw_pure hT rfl ?_ | refine lw_nil ?_ | refine cw_seq ?_ | refine cw_region ?_ | refine qw_then ?_))
  refine lw_call hT rfl rfl (reg_New w ⟨#[99]⟩) ?_
  rintro _ w1 ⟨p, m, rfl, hR, hp, hm, hx1⟩
  have n1 : ∀ b ∈ foot p m [], w.heap.size ≤ b := by
    intro b hb
    rcases foot_mem.1 hb with rfl | rfl | ⟨i, g, h1, _⟩
    · exact hp
    · exact hm
    · simp at h1
  (repeat (first | refine lw_pure hT rfl ?_ | refine lw_nil ?_ | refine cw_seq ?_ | refine cw_region ?_ | refine qw_then ?_ | (refine lw_gon_f rfl ?_ ?_; focus with_reducible (first | rfl | exact Bool.not_false | exact Bool.not_true)) | refine lw_eqp_some hT rfl rfl ?_))
  refine lw_buildSlice sl31 rfl rfl rfl ?_
  intro b2 w2 hbb2 hb2 hx2 hs2
  (repeat (refine lw_gon_f rfl ?_ ?_; focus with_reducible (first | rfl | exact Bool.not_false | exact Bool.not_true)))
  refine lw_build bt33 rfl ?_
  (repeat (refine lw_gon_f rfl ?_ ?_; focus with_reducible (first | rfl | exact Bool.not_false | exact Bool.not_true)))
  have hB : SlS (fun _ => True) w2 (.slice (some ⟨b2, 0, none⟩) 2 2) sB.boxes := sls_of_blk (l := sB.boxes) hb2 (by decide)
  refine lw_call hT rfl rfl (reg_Issue (b := sB) (vp := .slice none 0 0) (hR.ex hx2) hB (Sl.nil (fun _ => True) _ _) s_ok sa (by decide)) ?_
  rintro _ w3 ⟨rfl, hm3⟩
  obtain ⟨gs3, hR3, hf3⟩ := hm3.is
  rw [show issueC { carrier := { data := #[99] }, l := [] } sB sa = 0 from s_c0]
  replace hR3 : Rep w3 p sR0 m gs3 := hR3
  have hx03 := hm3.new (hx1.trans hx2) n1
  have n3 := foot_new (hx1.trans hx2) n1 hf3
  (repeat (first | refine lw_pure hT rfl ?_ | refine lw_nil ?_ | refine qw_then ?_ | (refine lw_gon_f rfl ?_ ?_; focus with_reducible (first | rfl | exact Bool.not_false | exact Bool.not_true))))
  refine cw_cond rfl (fun e => absurd e (by decide)) (fun _ => ?_)
  (repeat (first | refine lw_pure hT rfl ?_ | refine cw_seq ?_ | refine cw_region ?_ | refine qw_then ?_ | refine cw_skip ?_))
  refine lw_buildSlice sl31 rfl rfl rfl ?_
  intro b22 w4 hbb4 hb4 hx4 hs4
  (repeat (refine lw_pure hT rfl ?_))
  refine lw_buildSlice sl31 rfl rfl rfl ?_
  intro b24 w5 hbb5 hb5 hx5 hs5
  skip
  refine lw_buildSlice sl39 rfl rfl rfl ?_
  intro b25 w6 hbb6 hb6 hx6 hs6
  skip
  refine lw_buildSlice sl31 rfl rfl rfl ?_
  intro b26 w7 hbb7 hb7 hx7 hs7
  have hx37 := ((hx4.trans hx5).trans hx6).trans hx7
  have hp7 : SlsAt (fun _ => True) w7 (.slice (some ⟨b25, 0, none⟩) 2 2) [[sy], [sx]] := sls_two (((hb4.ex hx5).ex hx6).ex hx7) ((hb5.ex hx6).ex hx7) (hb6.ex hx7)
  have hn7 : SlS (fun _ => True) w7 (.slice (some ⟨b26, 0, none⟩) 2 2) [sn2, sn3] := sls_of_blk (l := [sn2, sn3]) hb7 (by decide)
  skip
  refine lw_call hT rfl rfl (spl_Split (hR3.ex hx37) s_good0 (by decide) sn1 sa 1 hp7 hn7 (by decide) (by decide) (by intro x hx; simp at hx; rcases hx with rfl | rfl <;> decide) (by intro q hq x hx; simp at hq; rcases hq with rfl | rfl <;> simp at hx <;> subst hx <;> decide) (by intro q hq; simp at hq; rcases hq with rfl | rfl <;> simp) (by decide)) ?_
  rintro _ w8 ⟨rfl, hm8⟩
  rw [s_calls.1]
  obtain ⟨gs8, hR8, hf8⟩ := hm8.is
  rw [s_calls.2.1] at hR8
  have hx08 := hm8.new (hx03.trans hx37) n3
  have n8 := foot_new (hx03.trans hx37) n3 hf8
  have hG1 : Good 66 sR1 := by
    have := good_steps s_good0 (l := sL1) (by
      intro a ha
      simp [sL1] at ha
      rcases ha with rfl | rfl | rfl
      · exact retiA_ok (by decide) (by decide)
      · exact issA_ok (nextB_ok s_ok (by decide) (by intro x hx; simp at hx; subst hx; decide) (by intro x hx; simp at hx; subst hx; decide)) (by decide)
      · exact issA_ok (nextB_ok s_ok (by decide) (by intro x hx; simp at hx; subst hx; decide) (by intro x hx; simp at hx; subst hx; decide)) (by decide))
    have e : stepsR sR0 sL1 = sR1 := by unfold stepsR; rw [if_pos s_c1]; rfl
    rw [e] at this
    exact this.mono (by decide)
  (repeat (first | refine lw_pure hT rfl ?_ | refine lw_nil ?_ | refine cw_seq ?_ | refine cw_region ?_ | refine qw_then ?_))
  refine lw_buildSlice sl31 rfl rfl rfl ?_
  intro b29 w9 hbb9 hb9 hx9 hs9
  have hn9 : SlS (fun _ => True) w9 (.slice (some ⟨b29, 0, none⟩) 2 2) [sn2, sn3] := sls_of_blk (l := [sn2, sn3]) hb9 (by decide)
  skip
  refine lw_call hT rfl rfl (spl_Join (hR8.ex hx9) hG1 (by decide) sa sn4 2 hn9 (by intro x hx; simp at hx; rcases hx with rfl | rfl <;> decide) (by decide) (by decide)) ?_
  rintro _ w10 ⟨rfl, hm10⟩
  rw [s_calls.2.2.1]
  obtain ⟨gs10, hR10, hf10⟩ := hm10.is
  rw [s_calls.2.2.2] at hR10
  have hx010 := hm10.new (hx08.trans hx9) n8
  have hG2 : Good 200 sR2 := by
    have := good_steps hG1 (l := sL2) (by
      intro a ha
      simp [sL2] at ha
      rcases ha with rfl | rfl | rfl
      · exact retiA_ok (by decide) (by decide)
      · exact retiA_ok (by decide) (by decide)
      · exact issA_ok (nextB_ok s_ok (by decide) (by intro x hx; simp at hx; rcases hx with rfl | rfl <;> decide) (by intro x hx; simp at hx; rcases hx with rfl | rfl <;> decide)) (by decide))
    have e : stepsR sR1 sL2 = sR2 := by unfold stepsR; rw [if_pos s_c2]; rfl
    rw [e] at this
    exact this.mono (by decide)
  (repeat (first | refine lw_pure hT rfl ?_ | refine lw_nil ?_ | refine cw_seq ?_ | refine cw_region ?_ | refine qw_then ?_))
  refine lw_call hT rfl rfl (reg_Get hR10 (hG2.small (by decide)) sn4) ?_
  rintro _ w11 ⟨hget, hx11⟩
  unfold GetR at hget
  rw [s_at4] at hget
  obtain ⟨ub, up, rfl, hub, hup⟩ := hget
  replace hub : w11.ownsRow w10.heap.size 9 1 ub [sy, sx].length ([sy, sx].map Value.string) := hub
  have o1 := own_one hub
  have o2 := own_one hup
  (repeat (refine lw_pure hT rfl ?_))
  refine lw_alloc z33 ?_
  intro b6 w12 hbb12 hb12 hx12 hs12
  skip
  refine lw_store_agg hT rfl rfl rfl rfl (encB_one (A := fun _ => True) (w := w) o1 o2) hb12 (show (9 : Nat) ≤ 9 by decide) ?_
  intro w13 hb13 hx13 hs13
  replace hb13 : Blk w13 b6 (encB sE4.bill ub up) 33 := hb13
  have hx1113 : Ex w11 w13 := hx12.up_new hx13 (fun i h => by omega)
  have hx013 := (hx010.trans hx11).trans hx1113
  have hR13 := (hR10.ex hx11).ex hx1113
  have hub13 := own_ex hub hx1113
  (repeat (first | refine lw_pure hT rfl ?_ | refine lw_nil ?_ | refine cw_seq ?_ | refine cw_region ?_ | refine qw_then ?_))
  refine lw_guard rfl (fun _ => ?_) (fun h => absurd h (by decide))
  (repeat (first | refine lw_pure hT rfl ?_ | (refine lw_gon_t rfl ?_ ?_; focus with_reducible (first | rfl | exact Bool.not_false | exact Bool.not_true))))
  refine lw_guard rfl (fun _ => ?_) (fun h => absurd h (by decide))
  (repeat (first | refine lw_pure hT rfl ?_ | (refine lw_gon_t rfl ?_ ?_; focus with_reducible (first | rfl | exact Bool.not_false | exact Bool.not_true))))
  refine lw_call hT rfl rfl (reg_State hR13 sn1) ?_
  rintro _ _ ⟨rfl, rfl⟩
  rw [s_st1]
  (repeat (first | refine lw_pure hT rfl ?_ | (refine lw_gon_t rfl ?_ ?_; focus with_reducible (first | rfl | exact Bool.not_false | exact Bool.not_true))))
  refine lw_guard rfl (fun _ => ?_) (fun h => absurd h (by decide))
  (repeat (first | refine lw_pure hT rfl ?_ | (refine lw_gon_t rfl ?_ ?_; focus with_reducible (first | rfl | exact Bool.not_false | exact Bool.not_true))))
  refine lw_load hT rfl rfl (v := ub) (hb13.cell 5) ?_
  (repeat (first | refine lw_pure hT rfl ?_ | (refine lw_gon_t rfl ?_ ?_; focus with_reducible (first | rfl | exact Bool.not_false | exact Bool.not_true))))
  refine lw_buildSlice sl31 rfl rfl rfl ?_
  intro b14 w14 hbb14 hb14 hx14 hs14
  have hs14 : SlS (fun _ => True) w14 (.slice (some ⟨b14, 0, none⟩) 2 2) [sy, sx] := sls_of_blk (l := [sy, sx]) hb14 (by decide)
  have hsu : SlS (fun _ => True) w14 ub [sy, sx] := sls_own (own_ex hub13 hx14) fun _ _ => trivial
  (repeat (refine lw_gon_t rfl ?_ ?_; focus with_reducible (first | rfl | exact Bool.not_false | exact Bool.not_true)))
  refine lw_call hT rfl rfl (r_Same w14 hsu hs14) ?_
  rintro _ w15 ⟨rfl, hx15⟩
  (repeat (refine lw_pure hT rfl ?_))
  refine lw_guard rfl (fun _ => ?_) (fun h => absurd h (by simp))
  (repeat (first | refine lw_pure hT rfl ?_ | (refine lw_gon_t rfl ?_ ?_; focus with_reducible (first | rfl | exact Bool.not_false | exact Bool.not_true))))
  refine lw_call hT rfl rfl (spl_Parents ((hR13.ex hx14).ex hx15) hG2 (by decide) (by rw [s_R2]; decide) sn4) ?_
  rintro vl w16 ⟨⟨L, hL, hown⟩, hx16⟩
  have eL : L = [sn1, sn2, sn3] := hL.eq ⟨s_rising, fun x => by rw [s_reach]; exact ⟨fun h => ⟨h, fun e => s_ne4 (e ▸ h)⟩, fun h => h.1⟩⟩
  subst eL
  (repeat (refine lw_gon_t rfl ?_ ?_; focus with_reducible (first | rfl | exact Bool.not_false | exact Bool.not_true)))
  refine lw_buildSlice sl31 rfl rfl rfl ?_
  intro b17 w17 hbb17 hb17 hx17 hs17
  have hs17 : SlS (fun _ => True) w17 (.slice (some ⟨b17, 0, none⟩) 3 3) [sn1, sn2, sn3] := sls_of_blk (l := [sn1, sn2, sn3]) hb17 (by decide)
  have hsl : SlS (fun _ => True) w17 vl [sn1, sn2, sn3] := sls_own (own_ex hown hx17) fun _ _ => trivial
  (repeat (refine lw_gon_t rfl ?_ ?_; focus with_reducible (first | rfl | exact Bool.not_false | exact Bool.not_true)))
  refine lw_call hT rfl rfl (r_Same w17 hsl hs17) ?_
  rintro _ w18 ⟨rfl, hx18⟩
  (repeat (first | refine lw_pure hT rfl ?_ | refine lw_nil ?_ | refine qw_then ?_ | refine cw_ret ?_))
  exact qw_ret rfl ⟨by simp [oneOr], ((((hx013.trans hx14).trans hx15).trans hx16).trans hx17).trans hx18⟩
end Go.Proofs.YtnglkhnfmbnfeaaGreat
namespace Go.Proofs.YtnglkhnfmbnfeaaGreat
open Go Go.SK
theorem encS_one {A : Nat → Prop} {w : World} {a : SActD} {vp vn : Value} (h : SActAt A w a vp vn) : ∀ u ∈ encS a vp vn, u.oneCell' = true := by
  have o6 : vp.oneCell' = true := by obtain ⟨p, c, e, _⟩ := h.parts.is; rw [e]; rfl
  have o7 : vn.oneCell' = true := Sl.one h.names
  intro u hu
  simp [encS] at hu
  rcases hu with rfl | rfl | rfl | rfl | rfl | rfl | rfl | rfl | rfl <;> first | rfl | assumption
end Go.Proofs.YtnglkhnfmbnfeaaGreat
namespace Go.Proofs.YtnglkhnfmbnfeaaGreat
open Go Go.SK Go.ChangeShapes Go.WideShapes
section
variable {H : Type} {enc : TypeId × Value → H} {w : World} {base : Nat} {spare : Nat → Bool} {held : Bool}
theorem open_strs {fuel : Nat} {cs : List Value} {x : DataW H × List MemPlace} (hsp : ∀ b, spare b = true) (h : DataW.trod enc Tryz.prog w base spare held fuel 31 cs = some x) :
    ∃ (v : Value) (l : List ByteArray), cs = [v] ∧ SlS (fun _ => True) w v l ∧ (∀ p n c, v = .slice p n c → n ≤ c) ∧ ∀ s ∈ l, s.size ≤ maxLen :=
  open_texts (e := 9) hsp (by kernel_rfl) (by kernel_rfl) (by kernel_rfl) h
theorem open_slss {fuel : Nat} {cs : List Value} {x : DataW H × List MemPlace} (hsp : ∀ b, spare b = true) (h : DataW.trod enc Tryz.prog w base spare held fuel 39 cs = some x) :
    ∃ (v : Value) (ps : List (List ByteArray)), cs = [v] ∧ SlsAt (fun _ => True) w v ps ∧ PCap (fun _ => True) w v ps ∧ ∀ p ∈ ps, ∀ s ∈ p, s.size ≤ maxLen := by
  have hC : Tryz.prog.cellsOf 31 = 1 := by kernel_rfl
  rcases Go.Deep.open_slice (e := 31) (by kernel_rfl) h with ⟨rfl, _⟩ | ⟨a, len, cap, m, n, D, Pl, rfl, _, hl, hm, hmm, _, hx⟩
  · exact ⟨_, [], rfl, ⟨⟨none, 0, rfl, fun i hi => by simp at hi⟩, Nat.zero_le _, fun p n c e _ => by cases e; rfl⟩, ⟨none, 0, rfl, fun i hi => by simp at hi⟩, fun p hp => by simp at hp⟩
  · rw [hsp, if_pos rfl] at hmm
    subst hmm
    rw [hC] at hx
    have each : ∀ i, i < m → ∃ q : Value × List ByteArray, w.cell? ((a.add (i * 1)).add 0) = some q.1 ∧ SlS (fun _ => True) w q.1 q.2 ∧ (∀ p n c, q.1 = .slice p n c → n ≤ c) ∧ ∀ s ∈ q.2, s.size ≤ maxLen := by
      intro i hi
      obtain ⟨cs', h1, h2⟩ := hx i hi
      obtain ⟨_, _, h3⟩ := World.cells?_some h1
      obtain ⟨v, l, rfl, h4, h5, h6⟩ := open_strs hsp h2
      exact ⟨(v, l), h3 0 (by omega), h4, h5, h6⟩
    have ex : ∃ f : Nat → Value × List ByteArray, ∀ i, i < m → w.cell? ((a.add (i * 1)).add 0) = some (f i).1 ∧ SlS (fun _ => True) w (f i).1 (f i).2 ∧ (∀ p n c, (f i).1 = .slice p n c → n ≤ c) ∧ ∀ s ∈ (f i).2, s.size ≤ maxLen := by
      classical
      refine ⟨fun i => if hi : i < m then Classical.choose (each i hi) else (undef, []), fun i hi => ?_⟩
      simp only [dif_pos hi]
      exact Classical.choose_spec (each i hi)
    obtain ⟨f, hf⟩ := ex
    have hgo : ∀ i, i < len → a = ⟨a.block, a.off, none⟩ ∧ Rd w a.block (a.off + i * 1) [(f i).1] := by
      intro i hi
      have hz := (hf 0 (by omega)).1
      have e0 : (a.add (0 * 1)).add 0 = a := rfl
      rw [e0] at hz
      have ea := spot_of hz
      refine ⟨ea, ?_⟩
      have := (hf i (by omega)).1
      rw [ea, addr_add, addr_add] at this
      exact Rd.one this
    refine ⟨_, (List.range len).map fun i => (f i).2, rfl, ⟨⟨some a, m, by simp, fun i hi => ?_⟩, by simp; omega, fun p n c e hp => by cases e; cases hp⟩, ⟨some a, m, by simp, fun i hi => ?_⟩, ?_⟩
    · have hi' : i < len := by simpa using hi
      obtain ⟨ea, hrd⟩ := hgo i hi'
      refine ⟨a.block, a.off, (f i).1, by rw [← ea], trivial, hrd, ?_⟩
      have e : ((List.range len).map fun i => (f i).2)[i] = (f i).2 := by simp
      rw [e]; exact (hf i (by omega)).2.1
    · have hi' : i < len := by simpa using hi
      obtain ⟨ea, hrd⟩ := hgo i hi'
      obtain ⟨au, cu, e, _⟩ := (hf i (by omega)).2.1.is
      refine ⟨a.block, a.off, au, _, cu, by rw [← ea], trivial, by rw [← e]; exact hrd, (hf i (by omega)).2.2.1 _ _ _ e⟩
    · intro p hp
      obtain ⟨i, hi, rfl⟩ := List.mem_map.1 hp
      exact (hf i (by have := List.mem_range.1 hi; omega)).2.2.2
theorem open_sact {fuel : Nat} {cs : List Value} {x : DataW H × List MemPlace} (hsp : ∀ b, spare b = true) (h : DataW.trod enc Tryz.prog w base spare held fuel 45 cs = some x) :
    ∃ a vp vn, cs = encS a vp vn ∧ SActAt (fun _ => True) w a vp vn := by
  obtain ⟨n0, y0, h0⟩ := open_part (j := 0) (ft := 5) (o := 0) (k := 1) (by kernel_rfl) h
  obtain ⟨n1, y1, h1⟩ := open_part (j := 1) (ft := 9) (o := 1) (k := 1) (by kernel_rfl) h
  obtain ⟨n2, y2, h2⟩ := open_part (j := 2) (ft := 9) (o := 2) (k := 1) (by kernel_rfl) h
  obtain ⟨n3, y3, h3⟩ := open_part (j := 3) (ft := 9) (o := 3) (k := 1) (by kernel_rfl) h
  obtain ⟨n4, y4, h4⟩ := open_part (j := 4) (ft := 9) (o := 4) (k := 1) (by kernel_rfl) h
  obtain ⟨n5, y5, h5⟩ := open_part (j := 5) (ft := 9) (o := 5) (k := 1) (by kernel_rfl) h
  obtain ⟨n6, y6, h6⟩ := open_part (j := 6) (ft := 39) (o := 6) (k := 1) (by kernel_rfl) h
  obtain ⟨n7, y7, h7⟩ := open_part (j := 7) (ft := 31) (o := 7) (k := 1) (by kernel_rfl) h
  obtain ⟨n8, y8, h8⟩ := open_part (j := 8) (ft := 3) (o := 8) (k := 1) (by kernel_rfl) h
  have hlen : cs.length = 9 := open_len (fs := (Tryz.prog.underlying 45).elim #[] fun d => match d with | .struct fs => fs | _ => #[]) (by kernel_rfl) (by kernel_rfl) h
  have us : Tryz.prog.underlying 9 = some .string := by kernel_rfl
  have ui : Tryz.prog.underlying 3 = some (.int .i64) := by kernel_rfl
  have u8 : Tryz.prog.underlying 5 = some (.int .u8) := by kernel_rfl
  match cs, hlen with
  | [c0, c1, c2, c3, c4, c5, c6, c7, c8], _ =>
    obtain ⟨i0, e0, _, k0⟩ := DataW.trod_int u8 h0
    obtain ⟨s1, e1, _, k1⟩ := DataW.trod_string us h1
    obtain ⟨s2, e2, _, k2⟩ := DataW.trod_string us h2
    obtain ⟨s3, e3, _, k3⟩ := DataW.trod_string us h3
    obtain ⟨s4, e4, _, k4⟩ := DataW.trod_string us h4
    obtain ⟨s5, e5, _, k5⟩ := DataW.trod_string us h5
    obtain ⟨v6, l6, e6, g6, q6, k6⟩ := open_slss hsp h6
    obtain ⟨v7, l7, e7, g7, q7, k7⟩ := open_strs hsp h7
    obtain ⟨i8, e8, _, _⟩ := DataW.trod_int ui h8
    simp at e0 e1 e2 e3 e4 e5 e6 e7 e8
    subst e0 e1 e2 e3 e4 e5 e6 e7 e8
    have hk0 : 0 ≤ i0 ∧ i0 ≤ 255 := by
      have a1 : IntKind.u8.min = 0 := rfl
      have a2 : IntKind.u8.max = 255 := rfl
      simp only [Lit.wf, Bool.and_eq_true, decide_eq_true_eq, a1, a2] at k0
      exact k0
    exact ⟨⟨i0, s1, s2, s3, s4, s5, l6, l7, i8⟩, c6, c7, rfl, ⟨g6, q6, g7, q7, ⟨hk0, k1, k2, k3, k4, k5, k6, k7⟩⟩⟩
theorem open_sacts {fuel : Nat} {cs : List Value} {x : DataW H × List MemPlace} (hsp : ∀ b, spare b = true) (h : DataW.trod enc Tryz.prog w base spare held fuel 47 cs = some x) :
    ∃ v l, cs = [v] ∧ SActsAt (fun _ => True) w v l := by
  have hC : Tryz.prog.cellsOf 45 = 9 := by kernel_rfl
  rcases Go.Deep.open_slice (e := 45) (by kernel_rfl) h with ⟨rfl, _⟩ | ⟨a, len, cap, m, n, D, Pl, rfl, _, hl, hm, hmm, _, hx⟩
  · exact ⟨_, [], rfl, ⟨none, 0, rfl, Nat.zero_le _, fun i hi => by simp at hi⟩⟩
  · rw [hsp, if_pos rfl] at hmm
    subst hmm
    rw [hC] at hx
    have each : ∀ i, i < m → ∃ q : (SActD × Value × Value), (∀ j, j < 9 → w.cell? ((a.add (i * 9)).add j) = (encS q.1 q.2.1 q.2.2)[j]?) ∧ SActAt (fun _ => True) w q.1 q.2.1 q.2.2 := by
      intro i hi
      obtain ⟨cs', h1, h2⟩ := hx i hi
      obtain ⟨_, _, h3⟩ := World.cells?_some h1
      obtain ⟨q, vb, vp, rfl, h4⟩ := open_sact hsp h2
      exact ⟨(q, vb, vp), h3, h4⟩
    have ex : ∃ f : Nat → SActD × Value × Value, ∀ i, i < m → (∀ j, j < 9 → w.cell? ((a.add (i * 9)).add j) = (encS (f i).1 (f i).2.1 (f i).2.2)[j]?) ∧ SActAt (fun _ => True) w (f i).1 (f i).2.1 (f i).2.2 := by
      classical
      refine ⟨fun i => if hi : i < m then Classical.choose (each i hi) else (⟨0, ⟨#[]⟩, ⟨#[]⟩, ⟨#[]⟩, ⟨#[]⟩, ⟨#[]⟩, [], [], 0⟩, undef, undef), fun i hi => ?_⟩
      simp only [dif_pos hi]
      exact Classical.choose_spec (each i hi)
    obtain ⟨f, hf⟩ := ex
    refine ⟨_, (List.range len).map fun i => (f i).1, rfl, ⟨some a, m, by simp, by simp; omega, fun i hi => ?_⟩⟩
    have hi' : i < len := by simpa using hi
    have hz := (hf 0 (by omega)).1 0 (by omega)
    have e0 : (a.add (0 * 9)).add 0 = a := rfl
    rw [e0] at hz
    have ea := spot_of (hz.trans rfl)
    obtain ⟨h1, h2⟩ := hf i (by omega)
    refine ⟨a.block, a.off, (f i).2.1, (f i).2.2, by rw [← ea], trivial, ?_, ?_⟩
    · have e : ((List.range len).map fun i => (f i).1)[i] = (f i).1 := by simp
      rw [e]
      intro j v hj
      have hj' : j < 9 := (List.getElem?_eq_some_iff.1 hj).1
      have := h1 j hj'
      rw [ea, addr_add, addr_add] at this
      rw [this]; exact hj
    · have e : ((List.range len).map fun i => (f i).1)[i] = (f i).1 := by simp
      rw [e]; exact h2
end
end Go.Proofs.YtnglkhnfmbnfeaaGreat
namespace Go.Proofs.YtnglkhnfmbnfeaaGreat
open Go Go.SK
theorem r24_in {A : Nat → Prop} {v : Value} {l : List ByteArray} (s : ByteArray) (w : World) (hS : SlS A w v l) : Ret Tryz.prog 56 [v, .string s] w fun u w' => u = .bool (l.any fun y => decide (y = s)) ∧ w = w' := by
  have hm := hS.small
  obtain ⟨a, cap, rfl, hz, hr⟩ := hS.is
  simp only [List.length_map] at *
  unfold maxLen at hm
  refine ret_of Tryz.func56 Tryz.ntmps56 rfl rfl rfl ?_
  (repeat (first | refine lw_pure hT rfl ?_ | refine lw_nil ?_ | refine cw_seq ?_ | refine cw_region ?_ | refine qw_then ?_ | refine cw_block ?_))
  refine cw_loop (fun i : Nat => [(0, .slice a l.length cap), (1, .string s), (5, .int .i64 (i : Nat))]) (fun i w' => w = w' ∧ i ≤ l.length ∧ ∀ j (hj : j < l.length), j < i → decide (l[j] = s) = false) (fun i => l.length - i) 0 (by repeat (first | exact trivial | refine ⟨rfl, ?_⟩)) ⟨rfl, Nat.zero_le _, fun j _ hj => by omega⟩ ?_
  rintro i _ ⟨rfl, hi, hb⟩
  (repeat (first | refine lw_pure hT rfl ?_ | refine lw_nil ?_ | refine cw_seq ?_ | refine cw_region ?_ | refine qw_then ?_))
  refine cw_cond rfl (fun h => ?_) (fun h => ?_)
  · have hlt : i < l.length := by simp at h; omega
    have hne : l.map (fun s => [Value.string s]) ≠ [] := by intro e; simp at e; subst e; simp at hlt
    obtain ⟨b, o, rfl, hA, hrd⟩ := hr hne
    obtain ⟨hlen, hrd⟩ := hrd i [.string l[i]] (by simp [hlt])
    (repeat (first | refine lw_pure hT rfl ?_ | refine cw_seq ?_ | refine cw_region ?_ | refine qw_then ?_ | refine cw_skip ?_ | refine cw_block ?_))
    refine lw_index hT rfl rfl rfl i rfl hlt ?_
    skip
    refine lw_load hT rfl rfl (v := .string l[i]) (hrd 0 _ rfl) ?_
    (repeat (first | refine lw_pure hT rfl ?_ | refine lw_nil ?_ | refine qw_then ?_))
    refine cw_cond rfl (fun h' => ?_) (fun h' => ?_)
    · (repeat (first | refine lw_pure hT rfl ?_ | refine lw_nil ?_ | refine cw_seq ?_ | refine cw_region ?_ | refine qw_then ?_ | refine cw_ret ?_ | refine qw_then_ret ?_ | refine qw_block_ret ?_))
      refine qw_ret rfl ⟨?_, rfl⟩
      have : (l.any fun y => decide (y = s)) = true := by rw [List.any_eq_true]; exact ⟨l[i], List.getElem_mem hlt, h'⟩
      rw [this]; rfl
    · (repeat (first | (refine lw_add rfl rfl ?_ ?_ ?_; iterate 2 omega) | refine lw_pure hT rfl ?_ | refine lw_nil ?_ | refine cw_region ?_ | refine qw_then ?_ | refine cw_skip ?_ | refine qw_block ?_))
      refine qw_round (i + 1) (by repeat (first | exact trivial | refine ⟨rfl, ?_⟩)) ⟨rfl, hlt, fun j hj hji => ?_⟩ (by omega)
      by_cases e : j = i
      · subst e; exact h'
      · exact hb j hj (by omega)
  · have : i = l.length := by simp at h; omega
    subst this
    (repeat (first | refine lw_pure hT rfl ?_ | refine lw_nil ?_ | refine cw_seq ?_ | refine cw_region ?_ | refine qw_then ?_ | refine cw_ret ?_ | refine cw_exit ?_ | refine qw_block_exit ?_ | refine qw_then_exit ?_))
    refine qw_ret rfl ⟨?_, rfl⟩
    have : (l.any fun y => decide (y = s)) = false := by
      rw [List.any_eq_false]
      intro y hy
      obtain ⟨j, hj, rfl⟩ := List.getElem_of_mem hy
      rw [hb j hj hj]; decide
    rw [this]; rfl
theorem nodup_take {l : List ByteArray} (h : ∀ i (hi : i < l.length), l[i] ∉ l.take i) : l.Nodup := by
  refine List.pairwise_iff_getElem.2 fun i j hi hj hij e => h j hj ?_
  rw [← e]
  exact List.mem_take_iff_getElem.2 ⟨i, by omega, rfl⟩
theorem take_nodup {l : List ByteArray} (h : l.Nodup) (i : Nat) (hi : i < l.length) : l[i] ∉ l.take i := by
  intro hm
  obtain ⟨j, hj, e⟩ := List.mem_take_iff_getElem.1 hm
  exact List.pairwise_iff_getElem.1 h j i (by omega) hi (by omega) e
theorem r24_unlike {A : Nat → Prop} {w : World} {v : Value} {l : List ByteArray} (hS : SlS A w v l) (hcap : ∀ p n c, v = .slice p n c → n ≤ c) : Ret Tryz.prog 98 [v] w fun u w' => u = .bool (decide l.Nodup) ∧ Ex w w' := by
  have hS0 := hS
  obtain ⟨a, c, rfl, _, hr⟩ := hS.is
  have hsm := hS.small
  have hc := hcap _ _ _ rfl
  simp only [List.length_map] at *
  unfold maxLen at hsm
  refine ret_of Tryz.func98 Tryz.ntmps98 rfl rfl rfl ?_
  (repeat (first | refine lw_pure hT rfl ?_ | refine lw_nil ?_ | refine cw_seq ?_ | refine cw_region ?_ | refine qw_then ?_ | refine cw_block ?_))
  refine cw_loop (fun i : Nat => [(0, .slice a l.length c), (3, .int .i64 (i : Nat))]) (fun i w' => i ≤ l.length ∧ Ex w w' ∧ ∀ j (hj : j < l.length), j < i → l[j] ∉ l.take j) (fun i => l.length - i) 0 (by repeat (first | exact trivial | refine ⟨rfl, ?_⟩)) ⟨Nat.zero_le _, Ext.refl _ _, fun j _ hj => by omega⟩ ?_
  rintro i w1 ⟨hi, hx1, hb⟩
  (repeat (first | refine lw_pure hT rfl ?_ | refine lw_nil ?_ | refine cw_seq ?_ | refine cw_region ?_ | refine qw_then ?_))
  refine cw_cond rfl (fun e => ?_) (fun e => ?_)
  · have hlt : i < l.length := by have := of_decide_eq_true e; omega
    have hne : l.map (fun s => [Value.string s]) ≠ [] := by intro e; simp at e; rw [e] at hlt; simp at hlt
    obtain ⟨bb, oo, rfl, _, hrd⟩ := hr hne
    have hri := (hrd i [.string l[i]] (by rw [List.getElem?_map, List.getElem?_eq_getElem hlt]; rfl)).2.ex hx1
    have hTk := (hS0.ex hx1).cutTo (i := i) (by rw [List.length_map]; omega)
    rw [← List.map_take] at hTk
    (repeat (first | refine cw_seq ?_ | refine qw_then ?_ | refine cw_skip ?_ | refine cw_block ?_))
    refine cw_cut_any (α := Unit) (fun _ => [(0, .slice (some ⟨bb, oo, none⟩) l.length c), (3, .int .i64 (i : Nat)), (17, .bool ((l.take i).any fun y => decide (y = l[i])))]) (fun _ w' => Ex w1 w') ?_ ?_
    · refine cw_draw hM (fun w' => Ex w1 w') [] rfl rfl (by repeat with_reducible (first | refine nop_then ?_ | refine nop_block ?_ | exact nop_body)) (fun w2 hx2 _ => ⟨hx2, ?_⟩)
      (refine rw_takeP 0 rfl rfl (by kernel_rfl) (by kernel_rfl) (by kernel_rfl) (by kernel_rfl) rfl (yo_pure hT rfl) ?_; refine rw_takeP 1 rfl rfl (by kernel_rfl) (by kernel_rfl) (by kernel_rfl) (by kernel_rfl) rfl (yo_pure hT rfl) ?_)
      refine rw_takeP 2 rfl rfl (by kernel_rfl) (by kernel_rfl) (by kernel_rfl) (by kernel_rfl) rfl (yo_slice_sl hT rfl rfl rfl rfl 0 i rfl rfl (Nat.zero_le _) (by omega)) ?_
      (refine rw_takeP 3 rfl rfl (by kernel_rfl) (by kernel_rfl) (by kernel_rfl) (by kernel_rfl) rfl (yo_pure hT rfl) ?_; refine rw_takeP 4 rfl rfl (by kernel_rfl) (by kernel_rfl) (by kernel_rfl) (by kernel_rfl) rfl (yo_pure hT rfl) ?_)
      refine rw_takeP 5 rfl rfl (by kernel_rfl) (by kernel_rfl) (by kernel_rfl) (by kernel_rfl) rfl (yo_index hT rfl rfl rfl i rfl hlt) ?_
      refine rw_take 6 rfl rfl (by kernel_rfl) (by kernel_rfl) (by kernel_rfl) (by kernel_rfl) rfl (yo_load hT rfl rfl (v := .string l[i]) (fun w' hS => (hri.ex hS) 0 _ rfl)) ?_
      refine rw_one 7 rfl (by kernel_rfl) rfl (fun hcl => ?_)
      refine lw_call hT rfl rfl (r24_in l[i] w2 (hTk.ex hx2)) ?_
      rintro _ _ ⟨rfl, rfl⟩
      (repeat (refine lw_nil ?_))
      refine qw_rw (by repeat with_reducible (first | refine nop_then ?_ | refine nop_block ?_ | exact nop_body)) hcl (fun _ => hx2) ?_
      refine rw_done (by kernel_rfl) ?_
      exact qw_cut () (by repeat (first | exact trivial | refine ⟨rfl, ?_⟩)) hx2
    · rintro _ w2 hx2
      (repeat (refine qw_then ?_))
      refine cw_cond rfl (fun e => ?_) (fun e => ?_)
      · have hm : l[i] ∈ l.take i := by
          obtain ⟨y, hy, h⟩ := List.any_eq_true.1 e
          rw [← of_decide_eq_true h]; exact hy
        (repeat (first | refine lw_pure hT rfl ?_ | refine lw_nil ?_ | refine cw_seq ?_ | refine cw_region ?_ | refine qw_then ?_ | refine cw_ret ?_ | refine qw_then_ret ?_ | refine qw_block_ret ?_))
        exact qw_ret rfl ⟨by rw [decide_eq_false (fun h => take_nodup h i hlt hm)]; rfl, hx1.trans hx2⟩
      · have hm : l[i] ∉ l.take i := fun hm => by
          rw [List.any_eq_true.2 ⟨_, hm, by simp⟩] at e; cases e
        (repeat (first | (refine lw_add rfl rfl ?_ ?_ ?_; iterate 2 omega) | refine lw_pure hT rfl ?_ | refine lw_nil ?_ | refine cw_region ?_ | refine qw_then ?_ | refine cw_skip ?_ | refine qw_block ?_))
        refine qw_round (i + 1) (by repeat (first | exact trivial | refine ⟨rfl, ?_⟩)) ⟨hlt, hx1.trans hx2, fun j hj hji => ?_⟩ (by omega)
        by_cases ej : j = i
        · subst ej; exact hm
        · exact hb j hj (by omega)
  · have hil : i = l.length := by have := of_decide_eq_false e; omega
    subst hil
    (repeat (first | refine lw_pure hT rfl ?_ | refine lw_nil ?_ | refine cw_seq ?_ | refine cw_region ?_ | refine qw_then ?_ | refine cw_ret ?_ | refine cw_exit ?_ | refine qw_block_exit ?_ | refine qw_then_exit ?_))
    exact qw_ret rfl ⟨by rw [decide_eq_true (nodup_take fun i hi => hb i hi hi)]; rfl, hx1⟩
def PartD (boxes : List ByteArray) (parts : List (List ByteArray)) : Prop := (∀ p ∈ parts, p ≠ []) ∧ parts.flatten.length = boxes.length ∧ parts.flatten.Nodup ∧ ∀ x ∈ parts.flatten, x ∈ boxes
set_option maxHeartbeats 4000000 in
theorem r24_partition {A B : Nat → Prop} {w : World} {vb vp : Value} {boxes : List ByteArray} {ps : List (List ByteArray)} (hB : SlS B w vb boxes) (hS : SlsAt A w vp ps) (hfl : ps.flatten.length ≤ 1000000) :
    Ret Tryz.prog 99 [vb, vp] w fun u w' => (∃ bb, u = .bool bb ∧ (bb = true ↔ PartD boxes ps)) ∧ Ex w w' := by
  obtain ⟨p, cap, rfl, hrow⟩ := hS.is
  have hsm := hS.small
  have hbm := hB.small
  unfold maxLen at hsm
  obtain ⟨ab, cb, rfl, _, _⟩ := hB.is
  simp only [List.length_map] at *
  unfold maxLen at hbm
  refine ret_of Tryz.func99 Tryz.ntmps99 rfl rfl rfl ?_
  (repeat (first | refine lw_pure hT rfl ?_ | refine lw_nil ?_ | refine cw_seq ?_ | refine cw_region ?_ | refine qw_then ?_))
  refine lw_buildSlice sl31 rfl rfl rfl ?_
  intro b5 w1 hbb5 hb5 hx1 hs1
  have hown1 : w1.ownsRow w.heap.size 9 1 (.slice (some ⟨b5, 0, none⟩) 0 0) 0 [] := own_lit hb5 (by omega) rfl (by decide)
  (repeat (first | refine lw_pure hT rfl ?_ | refine lw_nil ?_ | refine cw_seq ?_ | refine cw_region ?_ | refine qw_then ?_ | refine cw_block ?_))
  refine cw_loop (fun z : Nat × Value => [(0, .slice ab boxes.length cb), (1, .slice p ps.length cap), (5, z.2), (6, .int .i64 (z.1 : Nat))])
    (fun z w' => z.1 ≤ ps.length ∧ Ex w w' ∧ w'.ownsRow w.heap.size 9 1 z.2 (ps.take z.1).flatten.length ((ps.take z.1).flatten.map Value.string) ∧ ∀ q ∈ ps.take z.1, q ≠ []) (fun z => ps.length - z.1) (0, .slice (some ⟨b5, 0, none⟩) 0 0) (by repeat (first | exact trivial | refine ⟨rfl, ?_⟩)) ⟨Nat.zero_le _, hx1, hown1, fun q hq => by simp at hq⟩ ?_
  rintro ⟨i, va⟩ w2 ⟨hi, hx2, hown2, hne2⟩
  dsimp only at hi hown2 hne2 ⊢
  have hfi := flat_le ps i
  (repeat (first | refine lw_pure hT rfl ?_ | refine lw_nil ?_ | refine cw_seq ?_ | refine cw_region ?_ | refine qw_then ?_))
  refine cw_cond rfl (fun e => ?_) (fun e => ?_)
  · have hlt : i < ps.length := by have := of_decide_eq_true e; omega
    obtain ⟨b, o, u, rfl, _, hrd, hu⟩ := hrow i hlt
    have htk : ps.take (i + 1) = ps.take i ++ [ps[i]] := List.take_succ_eq_append_getElem hlt
    have hft := flat_take hlt
    have hfl2 := flat_le ps (i + 1)
    have hmem : ps[i] ∈ ps := List.getElem_mem hlt
    generalize ps[i] = q at hrd hu htk hft hmem
    rw [hft, List.length_append] at hfl2
    have hu0 := hu
    obtain ⟨au, cu, rfl, _⟩ := hu.is
    have hqm := hu.small
    simp only [List.length_map] at *
    unfold maxLen at hqm
    (repeat (first | refine lw_pure hT rfl ?_ | refine cw_seq ?_ | refine cw_region ?_ | refine qw_then ?_ | refine cw_skip ?_ | refine cw_block ?_))
    refine lw_index hT rfl rfl rfl i rfl hlt ?_
    skip
    refine lw_load hT rfl rfl (v := .slice au q.length cu) ((hrd.ex hx2) 0 _ rfl) ?_
    (repeat (first | refine lw_pure hT rfl ?_ | refine lw_nil ?_ | refine qw_then ?_))
    refine cw_cond rfl (fun e => ?_) (fun e => ?_)
    · have hq : q = [] := List.eq_nil_of_length_eq_zero (by have := of_decide_eq_true e; omega)
      (repeat (first | refine lw_pure hT rfl ?_ | refine lw_nil ?_ | refine cw_seq ?_ | refine cw_region ?_ | refine qw_then ?_ | refine cw_ret ?_ | refine qw_then_ret ?_ | refine qw_block_ret ?_))
      exact qw_ret rfl ⟨⟨false, rfl, ⟨fun h => absurd h (by decide), fun h => absurd hq (h.1 q hmem)⟩⟩, hx2⟩
    · have hq : q ≠ [] := fun h => by subst h; simp at e
      (repeat (first | refine lw_pure hT rfl ?_ | refine cw_region ?_ | refine qw_then ?_ | refine cw_skip ?_))
      refine lw_index hT rfl rfl rfl i rfl hlt ?_
      skip
      refine lw_load hT rfl rfl (v := .slice au q.length cu) ((hrd.ex hx2) 0 _ rfl) ?_
      skip
      refine lw_append_sl (rows := q.map fun s => [Value.string s]) (A := fun _ => True) sl31 (by decide) rfl hown2 rfl ((hu0.ex hx2).weaken fun _ _ => trivial) (by intro r hr x hx; simp at hr; obtain ⟨y, _, rfl⟩ := hr; simp at hx; subst hx; rfl) (by unfold maxLen; simp only [List.length_map]; omega) (by simp only [List.length_map]; omega) hx2.size ?_
      intro va' w3 k1 k2 k3 k4
      (repeat (first | (refine lw_add rfl rfl ?_ ?_ ?_; iterate 2 omega) | refine lw_pure hT rfl ?_ | refine lw_nil ?_ | refine cw_region ?_ | refine qw_then ?_ | refine qw_block ?_))
      refine qw_round (x := (i, va)) (i + 1, va') (by repeat (first | exact trivial | refine ⟨rfl, ?_⟩)) ⟨hlt, hx2.up_new k2 (fun b hb => (own_base hown2 hb.symm).1), ?_, fun r hr => ?_⟩ (by show ps.length - (i + 1) < ps.length - i; omega)
      · rw [hft, List.length_append, List.map_append]
        rw [flat4, List.length_map] at k1
        exact k1
      · rw [htk] at hr
        rcases List.mem_append.1 hr with hr | hr
        · exact hne2 r hr
        · rw [List.mem_singleton.1 hr]; exact hq
  · have hil : i = ps.length := by have := of_decide_eq_false e; omega
    subst hil
    rw [List.take_length] at hown2 hne2
    obtain ⟨aa, ca, rfl⟩ := own_slice0 hown2
    have hac := own_cap hown2
    have hsl2 : SlS (fun _ => True) w2 (.slice aa ps.flatten.length ca) ps.flatten := sls_own hown2 fun _ _ => trivial
    obtain ⟨aa', ca', hve, _, har⟩ := hsl2.is
    simp only [Value.slice.injEq, List.length_map] at hve
    obtain ⟨rfl, _, rfl⟩ := hve
    (repeat (first | refine lw_pure hT rfl ?_ | refine cw_seq ?_ | refine cw_region ?_ | refine qw_then ?_ | refine cw_exit ?_ | refine qw_block_exit ?_ | refine qw_then_exit ?_))
    refine lw_guard rfl (fun e => ?_) (fun e => ?_)
    · (repeat (first | refine lw_pure hT rfl ?_ | refine lw_nil ?_ | refine cw_seq ?_ | refine cw_region ?_ | refine qw_then ?_ | refine cw_ret ?_ | refine qw_then_ret ?_ | (refine lw_goff_t rfl ?_ ?_; focus with_reducible (first | rfl | exact Bool.not_false | exact Bool.not_true)) | (refine cw_cond_t rfl ?_ ?_; focus with_reducible (first | rfl | exact Bool.not_false | exact Bool.not_true))))
      exact qw_ret rfl ⟨⟨false, rfl, ⟨fun h => absurd h (by decide), fun h => by have := of_decide_eq_true e; exact absurd h.2.1 (by omega)⟩⟩, hx2⟩
    have hlen : ps.flatten.length = boxes.length := by have := of_decide_eq_false e; omega
    (repeat (first | refine lw_pure hT rfl ?_ | (refine lw_gon_f rfl ?_ ?_; focus with_reducible (first | rfl | exact Bool.not_false | exact Bool.not_true))))
    refine lw_call hT rfl rfl (r24_unlike hsl2 hac) ?_
    rintro _ w3 ⟨rfl, hx3⟩
    have hx03 := hx2.trans hx3
    (repeat (first | refine lw_pure hT rfl ?_ | refine lw_nil ?_ | refine qw_then ?_ | (refine lw_gon_f rfl ?_ ?_; focus with_reducible (first | rfl | exact Bool.not_false | exact Bool.not_true))))
    refine cw_cond rfl (fun e => ?_) (fun e => ?_)
    · (repeat (first | refine lw_pure hT rfl ?_ | refine lw_nil ?_ | refine cw_seq ?_ | refine cw_region ?_ | refine qw_then ?_ | refine cw_ret ?_ | refine qw_then_ret ?_))
      exact qw_ret rfl ⟨⟨false, rfl, ⟨fun h => absurd h (by decide), fun h => by simp [h.2.2.1] at e⟩⟩, hx03⟩
    have hnd : ps.flatten.Nodup := by simpa using e
    (repeat (first | refine lw_pure hT rfl ?_ | refine lw_nil ?_ | refine cw_seq ?_ | refine cw_region ?_ | refine qw_then ?_ | refine cw_skip ?_ | refine cw_block ?_))
    refine cw_loop (fun j : Nat => [(0, .slice ab boxes.length cb), (5, .slice aa ps.flatten.length ca), (7, .int .i64 (j : Nat))])
      (fun j w' => j ≤ ps.flatten.length ∧ Ex w3 w' ∧ ∀ x ∈ ps.flatten.take j, x ∈ boxes) (fun j => ps.flatten.length - j) 0 (by repeat (first | exact trivial | refine ⟨rfl, ?_⟩)) ⟨Nat.zero_le _, Ext.refl _ _, fun x hx => by simp at hx⟩ ?_
    rintro j w4 ⟨hj, hx4, hin⟩
    (repeat (first | refine lw_pure hT rfl ?_ | refine lw_nil ?_ | refine cw_seq ?_ | refine cw_region ?_ | refine qw_then ?_))
    refine cw_cond rfl (fun e => ?_) (fun e => ?_)
    · have hlt : j < ps.flatten.length := by have := of_decide_eq_true e; omega
      have hne : ps.flatten.map (fun s => [Value.string s]) ≠ [] := by intro e; rw [List.map_eq_nil_iff] at e; rw [e] at hlt; simp at hlt
      obtain ⟨bb, oo, rfl, _, hrd⟩ := har hne
      have hri := ((hrd j [.string ps.flatten[j]] (by rw [List.getElem?_map, List.getElem?_eq_getElem hlt]; rfl)).2.ex hx3).ex hx4
      have htk : ps.flatten.take (j + 1) = ps.flatten.take j ++ [ps.flatten[j]] := List.take_succ_eq_append_getElem hlt
      have hmem : ps.flatten[j] ∈ ps.flatten := List.getElem_mem hlt
      generalize ps.flatten[j] = x at hri htk hmem
      (repeat (first | refine lw_pure hT rfl ?_ | refine cw_seq ?_ | refine cw_region ?_ | refine qw_then ?_ | refine cw_skip ?_ | refine cw_block ?_))
      refine lw_index hT rfl rfl rfl j rfl hlt ?_
      skip
      refine lw_load hT rfl rfl (v := .string x) (hri 0 _ rfl) ?_
      skip
      refine lw_call hT rfl rfl (r24_in x w4 ((hB.ex hx03).ex hx4)) ?_
      rintro _ _ ⟨rfl, rfl⟩
      (repeat (first | refine lw_pure hT rfl ?_ | refine lw_nil ?_ | refine qw_then ?_))
      refine cw_cond rfl (fun e => ?_) (fun e => ?_)
      · have hno : x ∉ boxes := fun hm => by
          rw [List.any_eq_true.2 ⟨x, hm, by simp⟩] at e; cases e
        (repeat (first | refine lw_pure hT rfl ?_ | refine lw_nil ?_ | refine cw_seq ?_ | refine cw_region ?_ | refine qw_then ?_ | refine cw_ret ?_ | refine qw_then_ret ?_ | refine qw_block_ret ?_))
        exact qw_ret rfl ⟨⟨false, rfl, ⟨fun h => absurd h (by decide), fun h => absurd (h.2.2.2 x hmem) hno⟩⟩, hx03.trans hx4⟩
      · have hyes : x ∈ boxes := by
          have e : (boxes.any fun y => decide (y = x)) = true := by simpa using e
          obtain ⟨y, hy, h⟩ := List.any_eq_true.1 e
          rw [← of_decide_eq_true h]; exact hy
        (repeat (first | (refine lw_add rfl rfl ?_ ?_ ?_; iterate 2 omega) | refine lw_pure hT rfl ?_ | refine lw_nil ?_ | refine cw_region ?_ | refine qw_then ?_ | refine cw_skip ?_ | refine qw_block ?_))
        refine qw_round (j + 1) (by repeat (first | exact trivial | refine ⟨rfl, ?_⟩)) ⟨hlt, hx4, fun y hy => ?_⟩ (by omega)
        rw [htk] at hy
        rcases List.mem_append.1 hy with hy | hy
        · exact hin y hy
        · rw [List.mem_singleton.1 hy]; exact hyes
    · have hjl : j = ps.flatten.length := by have := of_decide_eq_false e; omega
      subst hjl
      rw [List.take_length] at hin
      (repeat (first | refine lw_pure hT rfl ?_ | refine lw_nil ?_ | refine cw_seq ?_ | refine cw_region ?_ | refine qw_then ?_ | refine cw_ret ?_ | refine cw_exit ?_ | refine qw_block_exit ?_ | refine qw_then_exit ?_))
      exact qw_ret rfl ⟨⟨true, rfl, ⟨fun _ => ⟨hne2, hlen, hnd, hin⟩, fun _ => rfl⟩⟩, hx03.trans hx4⟩
def retiF (bill by_ : ByteArray) (day : Int) : ActD := ⟨5, 0, day, bill, by_, ⟨#[]⟩, zeroB⟩
theorem retiF_C (r : RegD) (n b : ByteArray) (d : Int) : actC r (retiF n b d) = actC r (retiA n b d) := rfl
theorem retiF_A (r : RegD) (n b : ByteArray) (d : Int) : doA r (retiF n b d) = doA r (retiA n b d) := rfl
theorem reg_eta (c : ByteArray) (r : RegD) (h : r.carrier = c) : (⟨c, r.l⟩ : RegD) = r := by cases r; cases h; rfl
set_option maxHeartbeats 8000000 in
theorem r24_retire {A B : Nat → Prop} {w : World} {vL vn : Value} {k : Nat} {r : RegD} {gs : List FG} {bills : List ByteArray} (hF : FRep A w vL r.l gs) (hG : Good k r) (hk : k + 64 ≤ 1000000) (hl : r.l.length ≤ 256) (hN : SlS B w vn bills) (h64 : bills.length ≤ 64) (h1 : ∀ n ∈ bills, n.size ≤ maxLen) (by_ : ByteArray) (hby : by_.size ≤ maxLen) (day : Int) :
    Ret Tryz.prog 139 [.agg ⟨encR r.carrier vL⟩, vn, .string by_, .int .i64 day] w fun v w' =>
      (∃ vL' l' gs', v = .tuple #[.agg ⟨encR r.carrier vL'⟩, .int .i64 (stepsC r (bills.map (retiA · by_ day)))] ∧ FRep (fun b => A b ∨ w.heap.size ≤ b) w' vL' l' gs' ∧ (stepsC r (bills.map (retiA · by_ day)) = 0 → l' = (runA r (bills.map (retiA · by_ day))).l)) ∧ Ex w w' := by
  have hF0 := hF.lt
  obtain ⟨pn, cn, rfl, _, hnr⟩ := hN.is
  simp only [List.length_map] at *
  obtain ⟨L, hL⟩ : ∃ L, L = bills.map (retiA · by_ day) := ⟨_, rfl⟩
  rw [← hL]
  have hLl : L.length = bills.length := by rw [hL, List.length_map]
  have hLo : ∀ a ∈ L, StepOk a := by
    intro a ha
    rw [hL] at ha
    obtain ⟨n, hn, rfl⟩ := List.mem_map.1 ha
    exact retiA_ok (h1 n hn) hby
  have good : ∀ i, i ≤ L.length → Good (k + 64) (runA r (L.take i)) := fun i hi => by
    have := good_run (l := L.take i) hG (fun a ha => (hLo a (List.mem_of_mem_take ha)).2) (fun a ha => by have := (hLo a (List.mem_of_mem_take ha)).1; omega)
    exact this.mono (by rw [List.length_take]; omega)
  refine ret_of Tryz.func139 Tryz.ntmps139 rfl rfl rfl ?_
  (repeat (first | refine cw_seq ?_ | refine cw_region ?_))
  refine lw_box rfl ?_
  intro b4 w1 hbb4 hb4 hx1 hs1
  replace hb4 : Blk w1 b4 (encR r.carrier vL) 28 := hb4
  skip
  refine lw_alloc z28 ?_
  intro b8 w2 hbb8 hb8 hx2 hs2
  have hx02 := hx1.trans hx2
  have hA4 : ∀ b, (A b ∧ b < w.heap.size) ∨ w2.heap.size ≤ b → b ≠ b4 ∧ b ≠ b8 := fun b hb => by
    rcases hb with hb | hb
    · have := hb.2; omega
    · omega
  (repeat (first | refine lw_pure hT rfl ?_ | refine lw_nil ?_ | refine cw_seq ?_ | refine cw_region ?_ | refine qw_then ?_ | refine cw_block ?_))
  refine cw_loop (fun i : Nat => [(1, .slice pn bills.length cn), (2, .string by_), (3, .int .i64 day), (4, pB b4), (8, pB b8), (10, .int .i64 (i : Nat))])
    (fun i w' => i ≤ bills.length ∧ Ex w w' ∧ w2.heap.size ≤ w'.heap.size ∧ (∃ cs, cs.length = 2 ∧ Blk w' b8 cs 28) ∧ stepsC r (L.take i) = 0 ∧ ∃ vL' gs', FRep (fun b => (A b ∧ b < w.heap.size) ∨ w2.heap.size ≤ b) w' vL' (runA r (L.take i)).l gs' ∧ Blk w' b4 (encR r.carrier vL') 28) (fun i => bills.length - i) 0 (by repeat (first | exact trivial | refine ⟨rfl, ?_⟩))
    ⟨Nat.zero_le _, hx02, Nat.le_refl _, ⟨_, rfl, hb8⟩, rfl, vL, gs, (hF0.ex hx02).weaken fun b hb => .inl hb, hb4.ex hx2⟩ ?_
  rintro i w3 ⟨hi, hx3, hl3, ⟨cs8, hcs8, hb83⟩, hst, vL', gs', hF3, hb43⟩
  unfold pB
  have hG3 := good i (by omega)
  have hl3' : (runA r (L.take i)).l.length ≤ 256 := run_len hl
  have ec : (runA r (L.take i)).carrier = r.carrier := runA_carrier _ _
  have hl33 := hb83.lt
  (repeat (first | refine lw_pure hT rfl ?_ | refine lw_nil ?_ | refine cw_seq ?_ | refine cw_region ?_ | refine qw_then ?_))
  refine cw_cond rfl (fun e => ?_) (fun e => ?_)
  · have hlt : i < bills.length := by have := of_decide_eq_true e; omega
    have hltL : i < L.length := by omega
    have hne : bills.map (fun s => [Value.string s]) ≠ [] := by intro e; simp at e; rw [e] at hlt; simp at hlt
    obtain ⟨bn, on, rfl, _, hnrd⟩ := hnr hne
    have hni := (hnrd i [.string bills[i]] (by rw [List.getElem?_map, List.getElem?_eq_getElem hlt]; rfl)).2
    have hLi : L[i] = retiA bills[i] by_ day := by simp [hL]
    generalize bills[i] = nb at hni hLi
    have hdo := fun (w4 : World) (hx : Ex w3 w4) => r23_Do (A0 := fun _ => True) (vb := .slice none 0 0) (vp := .slice none 0 0) r.carrier (hF3.lt.ex hx) hl3' (show RegD.Nd ⟨r.carrier, _⟩ by rw [reg_eta _ _ ec]; exact hG3.nd) (show RegD.Small ⟨r.carrier, _⟩ by rw [reg_eta _ _ ec]; exact hG3.small (by omega)) (retiF nb by_ day) (Sl.nil _ _ _) (Sl.nil _ _ _) zeroB_ok (fun a n c h => by cases h; exact Nat.le_refl _) (show (0 : Int) ≤ 5 ∧ (5 : Int) ≤ 5 by decide) (Nat.zero_le _)
    rw [reg_eta _ _ ec, retiF_C, retiF_A, ← hLi, ← runA_take hltL] at hdo
    (repeat (first | refine cw_seq ?_ | refine qw_then ?_ | refine cw_skip ?_ | refine cw_block ?_))
    refine cw_cut_any (α := Nat × Value) (fun z => [(1, .slice (some ⟨bn, on, none⟩) bills.length cn), (2, .string by_), (3, .int .i64 day), (4, pB b4), (8, pB b8), (10, .int .i64 (i : Nat)), (11, pB z.1), (12, .int .i64 (actC (runA r (L.take i)) L[i]))])
      (fun z w' => Ex w3 w' ∧ (∃ g, FRep (fun b => (A b ∧ b < w.heap.size) ∨ w2.heap.size ≤ b) w' z.2 (runA r (L.take (i + 1))).l g) ∧ Blk w' z.1 (encR r.carrier z.2) 28) ?_ ?_
    · unfold pB
      refine cw_draw hM (fun w' => Ex w3 w') [] rfl rfl (by repeat with_reducible (first | refine nop_then ?_ | refine nop_block ?_ | exact nop_body)) (fun w4 hx4 _ => ⟨hx4, ?_⟩)
      have hl4 := hx4.size
      refine rw_take 0 rfl rfl (by kernel_rfl) (by kernel_rfl) (by kernel_rfl) (by kernel_rfl) rfl (yo_load_agg hT rfl rfl rfl (vs := encR r.carrier vL') (fun w' hS => (hb43.ex hS).rd 0 2)) ?_
      (refine rw_takeP 1 rfl rfl (by kernel_rfl) (by kernel_rfl) (by kernel_rfl) (by kernel_rfl) rfl (yo_pure hT rfl) ?_; refine rw_takeP 2 rfl rfl (by kernel_rfl) (by kernel_rfl) (by kernel_rfl) (by kernel_rfl) rfl (yo_pure hT rfl) ?_)
      refine rw_takeP 3 rfl rfl (by kernel_rfl) (by kernel_rfl) (by kernel_rfl) (by kernel_rfl) rfl (yo_index hT rfl rfl rfl i rfl hlt) ?_
      refine rw_take 4 rfl rfl (by kernel_rfl) (by kernel_rfl) (by kernel_rfl) (by kernel_rfl) rfl (yo_load hT rfl rfl (v := .string nb) (fun w' hS => ((hni.ex hx3).ex hS) 0 _ rfl)) ?_
      (refine rw_takeP 5 rfl rfl (by kernel_rfl) (by kernel_rfl) (by kernel_rfl) (by kernel_rfl) rfl (yo_pure hT rfl) ?_; refine rw_takeP 6 rfl rfl (by kernel_rfl) (by kernel_rfl) (by kernel_rfl) (by kernel_rfl) rfl (yo_pure hT rfl) ?_)
      refine rw_takeP 7 rfl rfl (by kernel_rfl) (by kernel_rfl) (by kernel_rfl) (by kernel_rfl) rfl (yo_build bt73 rfl) ?_
      refine rw_two 8 12 rfl rfl (by kernel_rfl) rfl rfl (fun hcl => ?_) (fun hcl => ?_)
      · refine lw_call hT rfl rfl (hdo w4 hx4) ?_
        rintro _ w5 ⟨⟨vL2, g2, rfl, hF5⟩, hx5⟩
        have hx35 := hx4.trans hx5
        (repeat (refine lw_nil ?_))
        refine qw_rw (by repeat with_reducible (first | refine nop_then ?_ | refine nop_block ?_ | exact nop_body)) hcl (fun _ => hx35) ?_
        (refine rw_takeP 9 rfl rfl (by kernel_rfl) (by kernel_rfl) (by kernel_rfl) (by kernel_rfl) rfl (yo_pure hT rfl) ?_; refine rw_takeP 10 rfl rfl (by kernel_rfl) (by kernel_rfl) (by kernel_rfl) (by kernel_rfl) rfl (yo_pure hT rfl) ?_; refine rw_takeP 11 rfl rfl (by kernel_rfl) (by kernel_rfl) (by kernel_rfl) (by kernel_rfl) rfl (yo_pure hT rfl) ?_)
        refine rw_one 12 rfl (by kernel_rfl) rfl (fun hcl => ?_)
        refine lw_alloc z28 ?_
        intro b11 w6 hbb11 hb11 hx6 hs6
        have hx36 := hx35.trans hx6
        have hl5 := hx5.size
        (repeat (refine lw_nil ?_))
        refine qw_rw (by repeat with_reducible (first | refine nop_then ?_ | refine nop_block ?_ | exact nop_body)) hcl (fun _ => hx36) ?_
        refine rw_one 13 rfl (by kernel_rfl) rfl (fun hcl => ?_)
        refine lw_store_agg hT rfl rfl rfl rfl (by intro v hv; simp [encR] at hv; rcases hv with rfl | rfl <;> first | rfl | exact Sl.one hF5.sl) hb11 (show (2 : Nat) ≤ 2 by decide) ?_
        intro w7 hb117 hx7 hs7
        have hx57 : Ex w5 w7 := hx6.up_new hx7 (fun i h => by omega)
        (repeat (refine lw_nil ?_))
        refine qw_rw (by repeat with_reducible (first | refine nop_then ?_ | refine nop_block ?_ | exact nop_body)) hcl (fun _ => hx35.trans hx57) ?_
        (refine rw_takeP 14 rfl rfl (by kernel_rfl) (by kernel_rfl) (by kernel_rfl) (by kernel_rfl) rfl (yo_pure hT rfl) ?_)
        refine rw_done (by kernel_rfl) ?_
        exact qw_cut (b11, vL2) (by repeat (first | exact trivial | refine ⟨rfl, ?_⟩)) ⟨hx35.trans hx57, ⟨g2, (hF5.ex hx57).weaken fun b hb => by (rcases hb with hb | hb; exact hb.1; exact .inr (by omega))⟩, hb117⟩
      · refine lw_alloc z28 ?_
        intro b11 w5 hbb11 hb11 hx5 hs5
        have hx35 := hx4.trans hx5
        (repeat (refine lw_nil ?_))
        refine qw_rw (by repeat with_reducible (first | refine nop_then ?_ | refine nop_block ?_ | exact nop_body)) hcl (fun _ => hx35) ?_
        refine rw_one 8 rfl (by kernel_rfl) rfl (fun hcl => ?_)
        refine lw_call hT rfl rfl (hdo w5 hx35) ?_
        rintro _ w6 ⟨⟨vL2, g2, rfl, hF6⟩, hx6⟩
        have hx36 := hx35.trans hx6
        have hl6 := hx6.size
        (repeat (refine lw_nil ?_))
        refine qw_rw (by repeat with_reducible (first | refine nop_then ?_ | refine nop_block ?_ | exact nop_body)) hcl (fun _ => hx36) ?_
        (refine rw_takeP 9 rfl rfl (by kernel_rfl) (by kernel_rfl) (by kernel_rfl) (by kernel_rfl) rfl (yo_pure hT rfl) ?_; refine rw_takeP 10 rfl rfl (by kernel_rfl) (by kernel_rfl) (by kernel_rfl) (by kernel_rfl) rfl (yo_pure hT rfl) ?_; refine rw_takeP 11 rfl rfl (by kernel_rfl) (by kernel_rfl) (by kernel_rfl) (by kernel_rfl) rfl (yo_pure hT rfl) ?_)
        refine rw_one 13 rfl (by kernel_rfl) rfl (fun hcl => ?_)
        refine lw_store_agg hT rfl rfl rfl rfl (by intro v hv; simp [encR] at hv; rcases hv with rfl | rfl <;> first | rfl | exact Sl.one hF6.sl) (hb11.ex hx6) (show (2 : Nat) ≤ 2 by decide) ?_
        intro w7 hb117 hx7 hs7
        have hx37 : Ex w3 w7 := hx36.up_new hx7 (fun i h => by omega)
        (repeat (refine lw_nil ?_))
        refine qw_rw (by repeat with_reducible (first | refine nop_then ?_ | refine nop_block ?_ | exact nop_body)) hcl (fun _ => hx37) ?_
        (refine rw_takeP 14 rfl rfl (by kernel_rfl) (by kernel_rfl) (by kernel_rfl) (by kernel_rfl) rfl (yo_pure hT rfl) ?_)
        refine rw_done (by kernel_rfl) ?_
        have hl5 := hx5.size
        refine qw_cut (b11, vL2) (by repeat (first | exact trivial | refine ⟨rfl, ?_⟩)) ⟨hx37, ⟨g2, (hF6.ext hx7 (fun b hb e => ?_)).weaken fun b hb => by (rcases hb with hb | hb; exact hb.1; exact .inr (by omega))⟩, hb117⟩
        rcases hb with hb | hb
        · have := hb.2; omega
        · omega
    · rintro ⟨b11, vL2⟩ w7 ⟨hx37, ⟨g2, hF7⟩, hb11⟩
      dsimp only at hF7 hb11 ⊢
      unfold pB
      have hb47 := hb43.ex hx37
      have hb87 := hb83.ex hx37
      have hx07 := hx3.trans hx37
      have hl7 := hx37.size
      (repeat (first | refine lw_pure hT rfl ?_ | refine lw_nil ?_ | refine cw_seq ?_ | refine cw_region ?_ | refine qw_then ?_))
      refine cw_cond rfl (fun e => ?_) (fun e => ?_)
      · have hne0 : actC (runA r (L.take i)) L[i] ≠ 0 := of_decide_eq_true e
        have hs := stepsC_at hltL hst hne0
        (repeat (first | refine cw_seq ?_ | refine cw_region ?_))
        refine lw_load_agg hT rfl rfl rfl (vs := encR r.carrier vL') (hb47.rd 0 2) ?_
        (repeat (refine lw_pure hT rfl ?_))
        refine lw_store_agg hT rfl rfl rfl rfl (by intro v hv; simp [encR] at hv; rcases hv with rfl | rfl <;> first | rfl | exact Sl.one hF3.sl) hb87 (show (0 : Nat) + 2 ≤ cs8.length by rw [hcs8]; decide) ?_
        intro w8 hb88 hx8 hs8
        (repeat (first | refine lw_pure hT rfl ?_ | refine lw_nil ?_ | refine qw_then ?_ | refine cw_ret ?_ | refine qw_then_ret ?_ | refine qw_block_ret ?_))
        match cs8, hcs8 with
        | [q1, q2], _ =>
          replace hb88 : Blk w8 b8 (encR r.carrier vL') 28 := hb88
          refine qw_ret_cell hT rfl rfl rfl rfl (vs := encR r.carrier vL') (hb88.rd 0 2) rfl ⟨⟨vL', _, gs', by rw [hs]; rfl, ((hF3.ex hx37).ext hx8 (fun b hb e => (hA4 b hb).2 e)).weaken fun b hb => ?_, fun h => absurd (hs ▸ h) hne0⟩, hx07.up_new hx8 (fun i h => by omega)⟩
          rcases hb with hb | hb
          · exact .inl hb.1
          · exact .inr (by have := hx02.size; omega)
      · have he0 : actC (runA r (L.take i)) L[i] = 0 := by simpa using e
        (repeat (first | refine cw_region ?_ | refine qw_then ?_ | refine cw_skip ?_))
        refine lw_load_agg hT rfl rfl rfl (vs := encR r.carrier vL2) (hb11.rd 0 2) ?_
        skip
        refine lw_store_agg hT rfl rfl rfl rfl (by intro v hv; simp [encR] at hv; rcases hv with rfl | rfl <;> first | rfl | exact Sl.one hF7.sl) hb47 (show (2 : Nat) ≤ 2 by decide) ?_
        intro w8 hb48 hx8 hs8
        replace hb48 : Blk w8 b4 (encR r.carrier vL2) 28 := hb48
        (repeat (first | (refine lw_add rfl rfl ?_ ?_ ?_; iterate 2 omega) | refine lw_pure hT rfl ?_ | refine lw_nil ?_ | refine cw_region ?_ | refine qw_then ?_ | refine qw_block ?_))
        exact qw_round (i + 1) (by repeat (first | exact trivial | refine ⟨rfl, ?_⟩)) ⟨hlt, hx07.up_new hx8 (fun i h => by omega), by omega, ⟨cs8, hcs8, hb87.ext hx8 (by omega)⟩, stepsC_take hltL hst he0, vL2, g2, hF7.ext hx8 (fun b hb e => (hA4 b hb).1 e), hb48⟩ (by omega)
  · have hil : i = bills.length := by have := of_decide_eq_false e; omega
    subst hil
    rw [← hLl, List.take_length] at hst hF3
    (repeat (first | refine cw_seq ?_ | refine cw_region ?_ | refine qw_then ?_ | refine cw_exit ?_ | refine qw_block_exit ?_ | refine qw_then_exit ?_))
    refine lw_load_agg hT rfl rfl rfl (vs := encR r.carrier vL') (hb43.rd 0 2) ?_
    skip
    refine lw_store_agg hT rfl rfl rfl rfl (by intro v hv; simp [encR] at hv; rcases hv with rfl | rfl <;> first | rfl | exact Sl.one hF3.sl) hb83 (show (0 : Nat) + 2 ≤ cs8.length by rw [hcs8]; decide) ?_
    intro w8 hb88 hx8 hs8
    (repeat (first | refine lw_pure hT rfl ?_ | refine lw_nil ?_ | refine qw_then ?_ | refine cw_ret ?_))
    match cs8, hcs8 with
    | [q1, q2], _ =>
      replace hb88 : Blk w8 b8 (encR r.carrier vL') 28 := hb88
      refine qw_ret_cell hT rfl rfl rfl rfl (vs := encR r.carrier vL') (hb88.rd 0 2) rfl ⟨⟨vL', _, gs', by rw [hst]; rfl, (hF3.ext hx8 (fun b hb e => (hA4 b hb).2 e)).weaken fun b hb => ?_, fun _ => rfl⟩, hx3.up_new hx8 (fun i h => by omega)⟩
      rcases hb with hb | hb
      · exact .inl hb.1
      · exact .inr (by have := hx02.size; omega)
end Go.Proofs.YtnglkhnfmbnfeaaGreat
namespace Go.Proofs.YtnglkhnfmbnfeaaGreat
open Go Go.SK
structure BillsAt (A : Nat → Prop) (w : World) (v : Value) (N : List BillD) : Prop where
  is : ∃ p cap, v = .slice p N.length cap ∧ ∀ i (hi : i < N.length), ∃ b o vb vp, p = some ⟨b, o, none⟩ ∧ Rd w b (o + i * 9) (encB N[i] vb vp) ∧ SlS A w vb N[i].boxes ∧ SlS A w vp N[i].parents ∧ ∀ a n c, vb = .slice a n c → n ≤ c
  small : N.length ≤ 64
theorem BillsAt.ex {A : Nat → Prop} {w w' : World} {v : Value} {N : List BillD} (h : BillsAt A w v N) (hx : Ex w w') : BillsAt A w' v N := by
  obtain ⟨p, cap, h1, h2⟩ := h.is
  refine ⟨⟨p, cap, h1, fun i hi => ?_⟩, h.small⟩
  obtain ⟨b, o, vb, vp, e1, e2, e3, e4, e5⟩ := h2 i hi
  exact ⟨b, o, vb, vp, e1, e2.ex hx, e3.ex hx, e4.ex hx, e5⟩
theorem stepsC_goL {r : RegD} {P : List ByteArray} {b : ByteArray} {d : Int} {N : List BillD} : stepsC r (goL P b d N) = if stepsC r (P.map (retiA · b d)) = 0 then stepsC (runA r (P.map (retiA · b d))) (N.map (issA · b)) else stepsC r (P.map (retiA · b d)) := stepsC_append _ _ _
theorem runA_goL {r : RegD} {P : List ByteArray} {b : ByteArray} {d : Int} {N : List BillD} : runA r (goL P b d N) = runA (runA r (P.map (retiA · b d))) (N.map (issA · b)) := runA_append _ _ _
set_option maxHeartbeats 8000000 in
theorem r24_Go {A B C : Nat → Prop} {w : World} {vL vn vo : Value} {k : Nat} {r : RegD} {gs : List FG} {bills : List ByteArray} {N : List BillD} (hF : FRep A w vL r.l gs) (hG : Good k r) (hk : k + 64 ≤ 1000000) (hl : r.l.length ≤ 256) (hN : SlS B w vn bills) (h64 : bills.length ≤ 64) (h1 : ∀ n ∈ bills, n.size ≤ maxLen) (by_ : ByteArray) (hby : by_.size ≤ maxLen) (day : Int)
    (hO : BillsAt C w vo N) (hok : ∀ b ∈ N, b.Ok) :
    Ret Tryz.prog 101 [.agg ⟨encR r.carrier vL⟩, vn, .string by_, .int .i64 day, vo] w fun v w' =>
      (∃ vL' gs', v = .tuple #[.agg ⟨encR r.carrier vL'⟩, .int .i64 (stepsC r (goL bills by_ day N))] ∧ FRep (fun b => A b ∨ w.heap.size ≤ b) w' vL' (stepsR r (goL bills by_ day N)).l gs') ∧ Ex w w' := by
  have hF0 := hF.lt
  obtain ⟨pn, cn, rfl, _⟩ := hN.is
  have hO0 := hO
  obtain ⟨po, co, rfl, horow⟩ := hO.is
  have hom := hO.small
  simp only [List.length_map] at *
  obtain ⟨P, hP⟩ : ∃ P, P = bills.map (retiA · by_ day) := ⟨_, rfl⟩
  obtain ⟨L, hL⟩ : ∃ L, L = N.map (issA · by_) := ⟨_, rfl⟩
  have hLl : L.length = N.length := by rw [hL, List.length_map]
  have eC : stepsC r (goL bills by_ day N) = if stepsC r P = 0 then stepsC (runA r P) L else stepsC r P := by rw [hP, hL]; exact stepsC_goL
  have eR : runA r (goL bills by_ day N) = runA (runA r P) L := by rw [hP, hL]; exact runA_goL
  refine ret_of Tryz.func101 Tryz.ntmps101 rfl rfl rfl ?_
  (repeat (first | refine cw_seq ?_ | refine cw_region ?_))
  refine lw_box rfl ?_
  intro b5 w1 hbb5 hb5 hx1 hs1
  replace hb5 : Blk w1 b5 (encR r.carrier vL) 28 := hb5
  skip
  refine lw_alloc z28 ?_
  intro b10 w2 hbb10 hb10 hx2 hs2
  have hx02 := hx1.trans hx2
  have hb52 := hb5.ex hx2
  (repeat (first | refine lw_pure hT rfl ?_ | refine lw_nil ?_ | refine cw_seq ?_ | refine cw_region ?_ | refine qw_then ?_))
  refine lw_load_agg hT rfl rfl rfl (vs := encR r.carrier vL) (hb52.rd 0 2) ?_
  (repeat (refine lw_pure hT rfl ?_))
  refine lw_call hT rfl rfl (r24_retire (hF0.ex hx02) hG hk hl (hN.ex hx02) h64 h1 by_ hby day) ?_
  rintro _ w3 ⟨⟨vL3, l3, gs3, rfl, hF3, hl3⟩, hx3⟩
  have hx03 := hx02.trans hx3
  rw [← hP] at hl3 ⊢
  (repeat (refine lw_pure hT rfl ?_))
  refine lw_alloc z28 ?_
  intro b12 w4 hbb12 hb12 hx4 hs4
  skip
  refine lw_store_agg hT rfl rfl rfl rfl (by intro v hv; simp [encR] at hv; rcases hv with rfl | rfl <;> first | rfl | exact Sl.one hF3.sl) hb12 (show (2 : Nat) ≤ 2 by decide) ?_
  intro w5 hb125 hx5 hs5
  replace hb125 : Blk w5 b12 (encR r.carrier vL3) 28 := hb125
  have hx35 : Ex w3 w5 := hx4.up_new hx5 (fun i h => by omega)
  have hx05 := hx03.trans hx35
  have hx25 := hx3.trans hx35
  have hb55 := hb52.ex hx25
  have hb105 := hb10.ex hx25
  have l02 := hx02.size
  have l3' := hx3.size
  have hF5 := (hF3.lt.ex hx35)
  have hF05 := hF0.ex hx05
  (repeat (first | refine lw_pure hT rfl ?_ | refine lw_nil ?_ | refine cw_seq ?_ | refine cw_region ?_ | refine qw_then ?_))
  refine cw_cond rfl (fun e => ?_) (fun e => ?_)
  · have hne : stepsC r P ≠ 0 := of_decide_eq_true e
    have eC' : stepsC r (goL bills by_ day N) = stepsC r P := by rw [eC, if_neg hne]
    have eR' : stepsR r (goL bills by_ day N) = r := by unfold stepsR; rw [if_neg (by rw [eC']; exact hne)]
    (repeat (first | refine cw_seq ?_ | refine cw_region ?_))
    refine lw_load_agg hT rfl rfl rfl (vs := encR r.carrier vL) (hb55.rd 0 2) ?_
    (repeat (refine lw_pure hT rfl ?_))
    refine lw_store_agg hT rfl rfl rfl rfl (by intro v hv; simp [encR] at hv; rcases hv with rfl | rfl <;> first | rfl | exact Sl.one hF.sl) hb105 (show (2 : Nat) ≤ 2 by decide) ?_
    intro w6 hb106 hx6 hs6
    replace hb106 : Blk w6 b10 (encR r.carrier vL) 28 := hb106
    (repeat (first | refine lw_pure hT rfl ?_ | refine lw_nil ?_ | refine qw_then ?_ | refine cw_ret ?_ | refine qw_then_ret ?_))
    exact qw_ret_cell hT rfl rfl rfl rfl (vs := encR r.carrier vL) (hb106.rd 0 2) rfl ⟨⟨vL, gs, by rw [eC']; rfl, by rw [eR']; exact (hF05.ext hx6 (fun b hb e => by have := hb.2; omega)).weaken fun b hb => .inl hb.1⟩, hx05.up_new hx6 (fun i h => by omega)⟩
  have hz : stepsC r P = 0 := by simpa using e
  have hl3 := hl3 hz
  subst hl3
  obtain ⟨r1, hr1⟩ : ∃ r1, r1 = runA r P := ⟨_, rfl⟩
  rw [← hr1] at hF5 eR eC
  rw [if_pos hz] at eC
  have ec1 : r1.carrier = r.carrier := by rw [hr1]; exact runA_carrier _ _
  have hl1 : r1.l.length ≤ 256 := by rw [hr1]; exact run_len hl
  have l35 := hx35.size
  (repeat (first | refine lw_pure hT rfl ?_ | refine lw_nil ?_ | refine cw_seq ?_ | refine cw_region ?_ | refine qw_then ?_ | refine cw_skip ?_ | refine cw_block ?_))
  refine cw_loop (fun i : Nat => [(2, .string by_), (4, .slice po N.length co), (5, pB b5), (10, pB b10), (12, pB b12), (14, .int .i64 (i : Nat))])
    (fun i w' => i ≤ N.length ∧ Ex w w' ∧ Ext (· = b12) w5 w' ∧ stepsC r1 (L.take i) = 0 ∧ ∃ vL' gs', FRep (fun b => (((A b ∧ b < w.heap.size) ∨ w2.heap.size ≤ b) ∧ b < w3.heap.size) ∨ w5.heap.size ≤ b) w' vL' (runA r1 (L.take i)).l gs' ∧ Blk w' b12 (encR r.carrier vL') 28) (fun i => N.length - i) 0 (by repeat (first | exact trivial | refine ⟨rfl, ?_⟩))
    ⟨Nat.zero_le _, hx05, Ext.refl _ _, rfl, vL3, gs3, hF5.weaken fun b hb => .inl hb, hb125⟩ ?_
  rintro i w6 ⟨hi, hx06, hx56, hst, vL', gs', hF6, hb126⟩
  unfold pB
  have ec6 : (runA r1 (L.take i)).carrier = r.carrier := by rw [runA_carrier, ec1]
  have hl6 : (runA r1 (L.take i)).l.length ≤ 256 := run_len hl1
  have hb56 := hb55.ext hx56 (by omega)
  have hb106 := hb105.ext hx56 (by omega)
  have l56 := hx56.size
  have nA : ∀ b, (((A b ∧ b < w.heap.size) ∨ w2.heap.size ≤ b) ∧ b < w3.heap.size) ∨ w5.heap.size ≤ b → b ≠ b12 ∧ b ≠ b10 ∧ b ≠ b5 := fun b hb => by
    rcases hb with ⟨hb | hb, hb'⟩ | hb
    · have := hb.2; omega
    · omega
    · omega
  (repeat (first | refine lw_pure hT rfl ?_ | refine lw_nil ?_ | refine cw_seq ?_ | refine cw_region ?_ | refine qw_then ?_))
  refine cw_cond rfl (fun e => ?_) (fun e => ?_)
  · have hlt : i < N.length := by have := of_decide_eq_true e; omega
    have hltL : i < L.length := by omega
    obtain ⟨bo, oo, vb, vp, rfl, hrd, hvb, hvp, hcap⟩ := horow i hlt
    have hLi : L[i] = issA N[i] by_ := by simp [hL]
    have hokb := hok _ (List.getElem_mem hlt)
    generalize N[i] = nb at hrd hvb hvp hLi hokb
    have hrt := runA_take (r := r1) hltL
    have hiss := fun (w7 : World) (hx : Ex w6 w7) => r23_Issue (A0 := C) (vb := vb) (vp := vp) r.carrier (hF6.lt.ex hx) hl6 ((hvb.ex hx06).ex hx) ((hvp.ex hx06).ex hx) hokb hcap by_ hby
    rw [reg_eta _ _ ec6, ← iss_actC, ← iss_doA, ← hLi, ← hrt] at hiss
    (repeat (first | refine cw_seq ?_ | refine qw_then ?_ | refine cw_skip ?_ | refine cw_block ?_))
    refine cw_cut_any (α := Nat × Value) (fun z => [(2, .string by_), (4, .slice (some ⟨bo, oo, none⟩) N.length co), (5, pB b5), (10, pB b10), (12, pB b12), (14, .int .i64 (i : Nat)), (15, pB z.1), (16, .int .i64 (actC (runA r1 (L.take i)) L[i]))])
      (fun z w' => Ex w6 w' ∧ (∃ g, FRep (fun b => (((A b ∧ b < w.heap.size) ∨ w2.heap.size ≤ b) ∧ b < w3.heap.size) ∨ w5.heap.size ≤ b) w' z.2 (runA r1 (L.take (i + 1))).l g) ∧ Blk w' z.1 (encR r.carrier z.2) 28) ?_ ?_
    · unfold pB
      refine cw_draw hM (fun w' => Ex w6 w') [] rfl rfl (by repeat with_reducible (first | refine nop_then ?_ | refine nop_block ?_ | exact nop_body)) (fun w7 hx7 _ => ⟨hx7, ?_⟩)
      have hl7 := hx7.size
      refine rw_take 0 rfl rfl (by kernel_rfl) (by kernel_rfl) (by kernel_rfl) (by kernel_rfl) rfl (yo_load_agg hT rfl rfl rfl (vs := encR r.carrier vL') (fun w' hS => (hb126.ex hS).rd 0 2)) ?_
      (refine rw_takeP 1 rfl rfl (by kernel_rfl) (by kernel_rfl) (by kernel_rfl) (by kernel_rfl) rfl (yo_pure hT rfl) ?_; refine rw_takeP 2 rfl rfl (by kernel_rfl) (by kernel_rfl) (by kernel_rfl) (by kernel_rfl) rfl (yo_pure hT rfl) ?_)
      refine rw_takeP 3 rfl rfl (by kernel_rfl) (by kernel_rfl) (by kernel_rfl) (by kernel_rfl) rfl (yo_index hT rfl rfl rfl i rfl hlt) ?_
      refine rw_take 4 rfl rfl (by kernel_rfl) (by kernel_rfl) (by kernel_rfl) (by kernel_rfl) rfl (yo_load_agg hT rfl rfl rfl (vs := encB nb vb vp) (fun w' hS => (hrd.ex hx06).ex hS)) ?_
      (refine rw_takeP 5 rfl rfl (by kernel_rfl) (by kernel_rfl) (by kernel_rfl) (by kernel_rfl) rfl (yo_pure hT rfl) ?_)
      refine rw_two 6 10 rfl rfl (by kernel_rfl) rfl rfl (fun hcl => ?_) (fun hcl => ?_)
      · refine lw_call hT rfl rfl (hiss w7 hx7) ?_
        rintro _ w8 ⟨⟨vL2, g2, rfl, hF8⟩, hx8⟩
        have hx68 := hx7.trans hx8
        (repeat (refine lw_nil ?_))
        refine qw_rw (by repeat with_reducible (first | refine nop_then ?_ | refine nop_block ?_ | exact nop_body)) hcl (fun _ => hx68) ?_
        (refine rw_takeP 7 rfl rfl (by kernel_rfl) (by kernel_rfl) (by kernel_rfl) (by kernel_rfl) rfl (yo_pure hT rfl) ?_; refine rw_takeP 8 rfl rfl (by kernel_rfl) (by kernel_rfl) (by kernel_rfl) (by kernel_rfl) rfl (yo_pure hT rfl) ?_; refine rw_takeP 9 rfl rfl (by kernel_rfl) (by kernel_rfl) (by kernel_rfl) (by kernel_rfl) rfl (yo_pure hT rfl) ?_)
        refine rw_one 10 rfl (by kernel_rfl) rfl (fun hcl => ?_)
        refine lw_alloc z28 ?_
        intro b15 w9 hbb15 hb15 hx9 hs9
        have hx69 := hx68.trans hx9
        have hl8 := hx8.size
        (repeat (refine lw_nil ?_))
        refine qw_rw (by repeat with_reducible (first | refine nop_then ?_ | refine nop_block ?_ | exact nop_body)) hcl (fun _ => hx69) ?_
        refine rw_one 11 rfl (by kernel_rfl) rfl (fun hcl => ?_)
        refine lw_store_agg hT rfl rfl rfl rfl (by intro v hv; simp [encR] at hv; rcases hv with rfl | rfl <;> first | rfl | exact Sl.one hF8.sl) hb15 (show (2 : Nat) ≤ 2 by decide) ?_
        intro w10 hb1510 hx10 hs10
        have hx810 : Ex w8 w10 := hx9.up_new hx10 (fun i h => by omega)
        (repeat (refine lw_nil ?_))
        refine qw_rw (by repeat with_reducible (first | refine nop_then ?_ | refine nop_block ?_ | exact nop_body)) hcl (fun _ => hx68.trans hx810) ?_
        (refine rw_takeP 12 rfl rfl (by kernel_rfl) (by kernel_rfl) (by kernel_rfl) (by kernel_rfl) rfl (yo_pure hT rfl) ?_)
        refine rw_done (by kernel_rfl) ?_
        exact qw_cut (b15, vL2) (by repeat (first | exact trivial | refine ⟨rfl, ?_⟩)) ⟨hx68.trans hx810, ⟨g2, (hF8.ex hx810).weaken fun b hb => by (rcases hb with hb | hb; exact hb.1; exact .inr (by omega))⟩, hb1510⟩
      · refine lw_alloc z28 ?_
        intro b15 w8 hbb15 hb15 hx8 hs8
        have hx68 := hx7.trans hx8
        (repeat (refine lw_nil ?_))
        refine qw_rw (by repeat with_reducible (first | refine nop_then ?_ | refine nop_block ?_ | exact nop_body)) hcl (fun _ => hx68) ?_
        refine rw_one 6 rfl (by kernel_rfl) rfl (fun hcl => ?_)
        refine lw_call hT rfl rfl (hiss w8 hx68) ?_
        rintro _ w9 ⟨⟨vL2, g2, rfl, hF9⟩, hx9⟩
        have hx69 := hx68.trans hx9
        have hl8 := hx8.size
        have hl9 := hx9.size
        (repeat (refine lw_nil ?_))
        refine qw_rw (by repeat with_reducible (first | refine nop_then ?_ | refine nop_block ?_ | exact nop_body)) hcl (fun _ => hx69) ?_
        (refine rw_takeP 7 rfl rfl (by kernel_rfl) (by kernel_rfl) (by kernel_rfl) (by kernel_rfl) rfl (yo_pure hT rfl) ?_; refine rw_takeP 8 rfl rfl (by kernel_rfl) (by kernel_rfl) (by kernel_rfl) (by kernel_rfl) rfl (yo_pure hT rfl) ?_; refine rw_takeP 9 rfl rfl (by kernel_rfl) (by kernel_rfl) (by kernel_rfl) (by kernel_rfl) rfl (yo_pure hT rfl) ?_)
        refine rw_one 11 rfl (by kernel_rfl) rfl (fun hcl => ?_)
        refine lw_store_agg hT rfl rfl rfl rfl (by intro v hv; simp [encR] at hv; rcases hv with rfl | rfl <;> first | rfl | exact Sl.one hF9.sl) (hb15.ex hx9) (show (2 : Nat) ≤ 2 by decide) ?_
        intro w10 hb1510 hx10 hs10
        have hx610 : Ex w6 w10 := hx69.up_new hx10 (fun i h => by omega)
        (repeat (refine lw_nil ?_))
        refine qw_rw (by repeat with_reducible (first | refine nop_then ?_ | refine nop_block ?_ | exact nop_body)) hcl (fun _ => hx610) ?_
        (refine rw_takeP 12 rfl rfl (by kernel_rfl) (by kernel_rfl) (by kernel_rfl) (by kernel_rfl) rfl (yo_pure hT rfl) ?_)
        refine rw_done (by kernel_rfl) ?_
        refine qw_cut (b15, vL2) (by repeat (first | exact trivial | refine ⟨rfl, ?_⟩)) ⟨hx610, ⟨g2, (hF9.ext hx10 (fun b hb e => ?_)).weaken fun b hb => by (rcases hb with hb | hb; exact hb.1; exact .inr (by omega))⟩, hb1510⟩
        rcases hb with hb | hb
        · have := hb.2; omega
        · omega
    · rintro ⟨b15, vL2⟩ w7 ⟨hx67, ⟨g2, hF7⟩, hb15⟩
      dsimp only at hF7 hb15 ⊢
      unfold pB
      have hb57 := hb56.ex hx67
      have hb107 := hb106.ex hx67
      have hb127 := hb126.ex hx67
      have hx07 := hx06.trans hx67
      have hl7 := hx67.size
      (repeat (first | refine lw_pure hT rfl ?_ | refine lw_nil ?_ | refine cw_seq ?_ | refine cw_region ?_ | refine qw_then ?_))
      refine cw_cond rfl (fun e => ?_) (fun e => ?_)
      · have hne0 : actC (runA r1 (L.take i)) L[i] ≠ 0 := of_decide_eq_true e
        have hs := stepsC_at hltL hst hne0
        have eR' : stepsR r (goL bills by_ day N) = r := by unfold stepsR; rw [if_neg (by rw [eC, hs]; exact hne0)]
        (repeat (first | refine cw_seq ?_ | refine cw_region ?_))
        refine lw_load_agg hT rfl rfl rfl (vs := encR r.carrier vL) (hb57.rd 0 2) ?_
        (repeat (refine lw_pure hT rfl ?_))
        refine lw_store_agg hT rfl rfl rfl rfl (by intro v hv; simp [encR] at hv; rcases hv with rfl | rfl <;> first | rfl | exact Sl.one hF.sl) hb107 (show (2 : Nat) ≤ 2 by decide) ?_
        intro w8 hb108 hx8 hs8
        replace hb108 : Blk w8 b10 (encR r.carrier vL) 28 := hb108
        (repeat (first | refine lw_pure hT rfl ?_ | refine lw_nil ?_ | refine qw_then ?_ | refine cw_ret ?_ | refine qw_then_ret ?_ | refine qw_block_ret ?_))
        exact qw_ret_cell hT rfl rfl rfl rfl (vs := encR r.carrier vL) (hb108.rd 0 2) rfl ⟨⟨vL, gs, by rw [eC, hs]; rfl, by rw [eR']; exact ((hF0.ex hx07).ext hx8 (fun b hb e => by have := hb.2; omega)).weaken fun b hb => .inl hb.1⟩, hx07.up_new hx8 (fun i h => by omega)⟩
      · have he0 : actC (runA r1 (L.take i)) L[i] = 0 := by simpa using e
        (repeat (first | refine cw_region ?_ | refine qw_then ?_ | refine cw_skip ?_))
        refine lw_load_agg hT rfl rfl rfl (vs := encR r.carrier vL2) (hb15.rd 0 2) ?_
        skip
        refine lw_store_agg hT rfl rfl rfl rfl (by intro v hv; simp [encR] at hv; rcases hv with rfl | rfl <;> first | rfl | exact Sl.one hF7.sl) hb127 (show (2 : Nat) ≤ 2 by decide) ?_
        intro w8 hb128 hx8 hs8
        replace hb128 : Blk w8 b12 (encR r.carrier vL2) 28 := hb128
        (repeat (first | (refine lw_add rfl rfl ?_ ?_ ?_; iterate 2 omega) | refine lw_pure hT rfl ?_ | refine lw_nil ?_ | refine cw_region ?_ | refine qw_then ?_ | refine qw_block ?_))
        exact qw_round (i + 1) (by repeat (first | exact trivial | refine ⟨rfl, ?_⟩)) ⟨hlt, hx07.up_new hx8 (fun i h => by omega), (hx56.up hx67).trans hx8, stepsC_take hltL hst he0, vL2, g2, hF7.ext hx8 (fun b hb e => (nA b hb).1 e), hb128⟩ (by omega)
  · have hil : i = N.length := by have := of_decide_eq_false e; omega
    subst hil
    rw [← hLl, List.take_length] at hst hF6
    have eR' : stepsR r (goL bills by_ day N) = runA r1 L := by unfold stepsR; rw [if_pos (by rw [eC]; exact hst), eR]
    (repeat (first | refine cw_seq ?_ | refine cw_region ?_ | refine qw_then ?_ | refine cw_exit ?_ | refine qw_block_exit ?_ | refine qw_then_exit ?_))
    refine lw_load_agg hT rfl rfl rfl (vs := encR r.carrier vL') (hb126.rd 0 2) ?_
    skip
    refine lw_store_agg hT rfl rfl rfl rfl (by intro v hv; simp [encR] at hv; rcases hv with rfl | rfl <;> first | rfl | exact Sl.one hF6.sl) hb106 (show (2 : Nat) ≤ 2 by decide) ?_
    intro w7 hb107 hx7 hs7
    replace hb107 : Blk w7 b10 (encR r.carrier vL') 28 := hb107
    (repeat (first | refine lw_pure hT rfl ?_ | refine lw_nil ?_ | refine qw_then ?_ | refine cw_ret ?_))
    have hfin : FRep (fun b => A b ∨ w.heap.size ≤ b) w7 vL' (runA r1 L).l gs' := (hF6.ext hx7 (fun b hb e => (nA b hb).2.1 e)).weaken fun b hb => by
      rcases hb with ⟨hb | hb, hb'⟩ | hb
      · exact .inl hb.1
      · exact .inr (by omega)
      · exact .inr (by omega)
    exact qw_ret_cell hT rfl rfl rfl rfl (vs := encR r.carrier vL') (hb107.rd 0 2) rfl ⟨⟨vL', gs', by rw [eC, hst]; rfl, by rw [eR']; exact hfin⟩, hx06.up_new hx7 (fun i h => by omega)⟩
theorem bills_one {A B : Nat → Prop} {w : World} {b e : Nat} {x : BillD} {vb vp : Value} (h : Blk w b (encB x vb vp) e) (h1 : SlS A w vb x.boxes) (h2 : SlS B w vp x.parents) (hc : ∀ a n c, vb = .slice a n c → n ≤ c) : BillsAt (fun _ => True) w (.slice (some ⟨b, 0, none⟩) 1 1) [x] := by
  refine ⟨⟨_, 1, rfl, fun i hi => ?_⟩, (show (1 : Nat) ≤ 64 by decide)⟩
  match i, hi with
  | 0, _ => exact ⟨b, 0, vb, vp, rfl, h.rd 0 9, h1.weaken fun _ _ => trivial, h2.weaken fun _ _ => trivial, hc⟩
theorem fidx_at' (r : RegD) (n : ByteArray) : (fidx (fun e => decide (e.bill.number = n)) r.l = -1 ∧ r.at? n = none) ∨ ∃ (i : Nat) (hi : i < r.l.length), fidx (fun e => decide (e.bill.number = n)) r.l = i ∧ r.at? n = some r.l[i] := fidx_cases r.l n
set_option maxHeartbeats 8000000 in
theorem r24_Switch {A : Nat → Prop} {w : World} {vL : Value} {k : Nat} {r : RegD} {gs : List FG} (hF : FRep A w vL r.l gs) (hG : Good k r) (hk : k + 64 ≤ 1000000) (hl : r.l.length ≤ 256) (bill by_ number shipper frm : ByteArray) (day : Int) (h1 : bill.size ≤ maxLen) (h2 : by_.size ≤ maxLen) (h3 : number.size ≤ maxLen) (h4 : shipper.size ≤ maxLen) (h5 : frm.size ≤ maxLen) :
    Ret Tryz.prog 52 [.agg ⟨encR r.carrier vL⟩, .string bill, .string by_, .string number, .string shipper, .string frm, .int .i64 day] w fun v w' =>
      (∃ vL' gs', v = .tuple #[.agg ⟨encR r.carrier vL'⟩, .int .i64 (callC r (switchC r bill by_ number shipper frm day))] ∧ FRep (fun b => A b ∨ w.heap.size ≤ b) w' vL' (callR r (switchC r bill by_ number shipper frm day)).l gs') ∧ Ex w w' := by
  have hF0 := hF.lt
  obtain ⟨aL, cL, rfl, _⟩ := hF.slice
  refine ret_of Tryz.func52 Tryz.ntmps52 rfl rfl rfl ?_
  (repeat (first | refine cw_seq ?_ | refine cw_region ?_))
  refine lw_box rfl ?_
  intro b7 w1 hbb7 hb7 hx1 hs1
  replace hb7 : Blk w1 b7 (encR r.carrier (.slice aL r.l.length cL)) 28 := hb7
  skip
  refine lw_alloc z28 ?_
  intro b14 w2 hbb14 hb14 hx2 hs2
  have hx02 := hx1.trans hx2
  have hb72 := hb7.ex hx2
  (repeat (first | refine lw_pure hT rfl ?_ | refine lw_nil ?_ | refine cw_seq ?_ | refine cw_region ?_ | refine qw_then ?_))
  refine lw_load_agg hT rfl rfl rfl (vs := encR r.carrier (.slice aL r.l.length cL)) (hb72.rd 0 2) ?_
  (repeat (refine lw_pure hT rfl ?_))
  refine lw_call hT rfl rfl (r23_Find r.carrier bill (hF0.ex hx02)) ?_
  rintro _ w3 ⟨rfl, hx3⟩
  have hx03 := hx02.trans hx3
  have hb73 := hb72.ex hx3
  have hb143 := hb14.ex hx3
  have l02 := hx02.size
  rcases fidx_at' r bill with ⟨hi, hat⟩ | ⟨i, hil, hi, hat⟩
  · have e1 : switchC r bill by_ number shipper frm day = (4, []) := by unfold switchC; rw [hat]
    rw [hi]
    (repeat (first | refine lw_pure hT rfl ?_ | refine lw_nil ?_ | refine cw_seq ?_ | refine cw_region ?_ | refine qw_then ?_))
    refine cw_cond rfl (fun _ => ?_) (fun e => absurd e (by decide))
    (repeat (first | refine cw_seq ?_ | refine cw_region ?_))
    refine lw_load_agg hT rfl rfl rfl (vs := encR r.carrier (.slice aL r.l.length cL)) (hb73.rd 0 2) ?_
    skip
    refine lw_store_agg hT rfl rfl rfl rfl (by intro v hv; simp [encR] at hv; rcases hv with rfl | rfl <;> first | rfl | exact Sl.one hF.sl) hb143 (show (2 : Nat) ≤ 2 by decide) ?_
    intro w4 hb144 hx4 hs4
    replace hb144 : Blk w4 b14 (encR r.carrier (.slice aL r.l.length cL)) 28 := hb144
    (repeat (first | refine lw_pure hT rfl ?_ | refine lw_nil ?_ | refine qw_then ?_ | refine cw_ret ?_ | refine qw_then_ret ?_))
    exact qw_ret_cell hT rfl rfl rfl rfl (vs := encR r.carrier (.slice aL r.l.length cL)) (hb144.rd 0 2) rfl ⟨⟨_, gs, by rw [e1]; rfl, by rw [e1]; exact ((hF0.ex hx03).ext hx4 (fun b hb e => by have := hb.2; omega)).weaken fun b hb => .inl hb.1⟩, hx03.up_new hx4 (fun i h => by omega)⟩
  · obtain ⟨x, g, bL, oL, cap, hxl, hgl, heq, hrd, hE⟩ := hF0.row hil
    simp only [Value.slice.injEq] at heq
    obtain ⟨rfl, _, rfl⟩ := heq
    have hx : r.l[i] = x := by rw [List.getElem?_eq_getElem hil] at hxl; exact Option.some.inj hxl
    rw [hx] at hat
    have hxm : x ∈ r.l := List.mem_of_getElem? hxl
    have hxok := (hG.ent x hxm).ok
    obtain ⟨b0, hb0⟩ : ∃ b0, b0 = nextB { x.bill with shipper := shipper, frm := frm } number x.bill.boxes [bill] day := ⟨_, rfl⟩
    have e1 : switchC r bill by_ number shipper frm day = (0, goL [bill] by_ day [b0]) := by unfold switchC; rw [hat, hb0]; rfl
    have hrd3 := hrd.ex hx03
    have hE3 := hE.ex hx03
    have hbok : ∀ b ∈ [b0], b.Ok := by
      intro b hb
      rw [List.mem_singleton.1 hb, hb0]
      exact ⟨h3, hxok.carrier, h4, h5, hxok.to_, hxok.boxes, by intro y hy; rw [List.mem_singleton.1 hy]; exact h1⟩
    have o1 : g.vb.oneCell' = true := Sl.one hE.boxes
    have o2 : g.vp.oneCell' = true := Sl.one hE.parents
    rw [hi]
    (repeat (first | refine lw_pure hT rfl ?_ | refine lw_nil ?_ | refine cw_seq ?_ | refine cw_region ?_ | refine qw_then ?_))
    refine cw_cond rfl (fun e => by have := of_decide_eq_true e; omega) (fun _ => ?_)
    (repeat (first | refine lw_pure hT rfl ?_ | refine cw_seq ?_ | refine cw_region ?_ | refine qw_then ?_ | refine cw_skip ?_))
    refine lw_load hT rfl rfl (v := .slice (some ⟨bL, oL, none⟩) r.l.length cL) (hb73.cell 1) ?_
    (repeat (refine lw_pure hT rfl ?_))
    refine lw_index hT rfl rfl rfl i rfl hil ?_
    (repeat (refine lw_pure hT rfl ?_))
    refine lw_load_agg hT rfl rfl rfl (vs := encB x.bill g.vb g.vp) (fun j v hj => hrd3 j v (by (simp only [entF]; rw [List.getElem?_append_left (List.getElem?_eq_some_iff.1 hj).1]; exact hj))) ?_
    skip
    refine lw_alloc z33 ?_
    intro b17 w4 hbb17 hb17 hx4 hs4
    skip
    refine lw_store_agg hT rfl rfl rfl rfl (encB_one (A := fun _ => True) (w := w) o1 o2) hb17 (show (9 : Nat) ≤ 9 by decide) ?_
    intro w5 hb175 hx5 hs5
    replace hb175 : Blk w5 b17 (encB x.bill g.vb g.vp) 33 := hb175
    have hx35 : Ex w3 w5 := hx4.up_new hx5 (fun i h => by omega)
    have hb75 := hb73.ex hx35
    (repeat (first | refine lw_nil ?_ | refine cw_seq ?_ | refine cw_region ?_ | refine qw_then ?_))
    refine lw_load_agg hT rfl rfl rfl (vs := encR r.carrier (.slice (some ⟨bL, oL, none⟩) r.l.length cL)) (hb75.rd 0 2) ?_
    (repeat (refine lw_pure hT rfl ?_))
    refine lw_buildSlice sl31 rfl rfl rfl ?_
    intro b32 w6 hbb32 hb32 hx6 hs6
    have hb176 := hb175.ex hx6
    (repeat (refine lw_pure hT rfl ?_))
    refine lw_load hT rfl rfl (v := .string x.bill.carrier) (hb176.cell 1) ?_
    (repeat (refine lw_pure hT rfl ?_))
    refine lw_load hT rfl rfl (v := .string x.bill.to_) (hb176.cell 4) ?_
    (repeat (refine lw_pure hT rfl ?_))
    refine lw_load hT rfl rfl (v := g.vb) (hb176.cell 5) ?_
    (repeat (refine lw_pure hT rfl ?_))
    refine lw_load hT rfl rfl (v := .bool x.bill.clean) (hb176.cell 8) ?_
    (repeat (refine lw_pure hT rfl ?_))
    refine lw_buildSlice sl31 rfl rfl rfl ?_
    intro b48 w7 hbb48 hb48 hx7 hs7
    obtain ⟨avb, cvb, evb, _⟩ := hE.boxes.is
    simp only [List.length_map] at evb
    rw [evb]
    skip
    refine lw_build bt33 rfl ?_
    skip
    refine lw_buildSlice sl103 rfl rfl rfl ?_
    intro b50 w8 hbb50 hb50 hx8 hs8
    replace hb50 : Blk w8 b50 (encB b0 (.slice avb x.bill.boxes.length cvb) (.slice (some ⟨b48, 0, none⟩) 1 1)) 33 := by rw [hb0]; exact hb50
    have hx58 := (hx6.trans hx7).trans hx8
    have hx08 := (hx03.trans hx35).trans hx58
    have hF8 := hF0.ex hx08
    have hbx8 : SlS (fun b => A b ∧ b < w.heap.size) w8 (.slice avb x.bill.boxes.length cvb) b0.boxes := by
      have h9 := hE.boxes.ex hx08
      rw [evb] at h9
      rw [hb0]; exact h9
    have hpr8 : SlS (fun _ => True) w8 (.slice (some ⟨b48, 0, none⟩) 1 1) b0.parents := by
      rw [hb0]; exact sls_of_blk (l := [bill]) (hb48.ex hx8) (show (1 : Nat) ≤ maxLen by decide)
    skip
    refine lw_call hT rfl rfl (r24_Go hF8 hG hk hl (sls_of_blk (l := [bill]) ((hb32.ex hx7).ex hx8) (show (1 : Nat) ≤ maxLen by decide)) (by simp) (by intro n hn; rw [List.mem_singleton.1 hn]; exact h1) by_ h2 day (bills_one hb50 hbx8 hpr8 (fun a n c e => by cases e; exact hE.bcap _ _ _ evb)) hbok) ?_
    rintro _ w9 ⟨⟨vL', gs', rfl, hF9⟩, hx9⟩
    have hb149 := (((hb143.ex hx35).ex hx58).ex hx9)
    have l03 := hx03.size
    have l35 := hx35.size
    have l58 := hx58.size
    (repeat (refine lw_pure hT rfl ?_))
    refine lw_store_agg hT rfl rfl rfl rfl (by intro v hv; simp [encR] at hv; rcases hv with rfl | rfl <;> first | rfl | exact Sl.one hF9.sl) hb149 (show (2 : Nat) ≤ 2 by decide) ?_
    intro w10 hb1410 hx10 hs10
    replace hb1410 : Blk w10 b14 (encR r.carrier vL') 28 := hb1410
    (repeat (first | refine lw_pure hT rfl ?_ | refine lw_nil ?_ | refine qw_then ?_ | refine cw_ret ?_))
    refine qw_ret_cell hT rfl rfl rfl rfl (vs := encR r.carrier vL') (hb1410.rd 0 2) rfl ⟨⟨vL', gs', by rw [e1]; rfl, ?_⟩, (hx08.trans hx9).up_new hx10 (fun i h => by omega)⟩
    rw [e1]
    refine (hF9.ext hx10 (fun b hb e => ?_)).weaken fun b hb => ?_
    · rcases hb with hb | hb
      · have := hb.2; omega
      · omega
    · rcases hb with hb | hb
      · exact .inl hb.1
      · exact .inr (by omega)
end Go.Proofs.YtnglkhnfmbnfeaaGreat
namespace Go.Proofs.YtnglkhnfmbnfeaaGreat
open Go Go.SK
structure BillsO (C : Nat → Prop) (base : Nat) (w : World) (ov : Value) (N : List BillD) (rows : List (List Value)) : Prop where
  own : w.ownsRow base 33 9 ov N.length rows.flatten
  c : ∀ b, C b → b < w.heap.size
  apart : ∀ b, ov.ownBlock = some b → ¬ C b
  len : rows.length = N.length
  each : ∀ i (hi : i < N.length), ∃ vb vp, rows[i]? = some (encB N[i] vb vp) ∧ SlS C w vb N[i].boxes ∧ SlS C w vp N[i].parents ∧ ∀ a n c, vb = .slice a n c → n ≤ c
theorem BillsO.ext {C : Nat → Prop} {base : Nat} {w w' : World} {ov : Value} {N : List BillD} {rows : List (List Value)} {F : Nat → Prop} (h : BillsO C base w ov N rows) (hx : Ext F w w') (h1 : ∀ b, C b → ¬ F b) (h2 : ∀ b, ov.ownBlock = some b → ¬ F b) : BillsO C base w' ov N rows :=
  ⟨own_ext h.own hx h2, fun b hb => Nat.lt_of_lt_of_le (h.c b hb) hx.size, h.apart, h.len, fun i hi => let ⟨vb, vp, g1, g2, g3, g4⟩ := h.each i hi; ⟨vb, vp, g1, g2.ext hx h1, g3.ext hx h1, g4⟩⟩
theorem BillsO.ex {C : Nat → Prop} {base : Nat} {w w' : World} {ov : Value} {N : List BillD} {rows : List (List Value)} (h : BillsO C base w ov N rows) (hx : Ex w w') : BillsO C base w' ov N rows := h.ext hx (fun _ _ f => f) (fun _ _ f => f)
theorem BillsO.snoc {C D : Nat → Prop} {base : Nat} {w w' : World} {ov ov' vb vp : Value} {N : List BillD} {rows : List (List Value)} {x : BillD} (h : BillsO C base w ov N rows) (h1 : SlS D w vb x.boxes) (h2 : SlS D w vp x.parents) (hc : ∀ a n c, vb = .slice a n c → n ≤ c) (hD : ∀ b, D b → b < w.heap.size) (hDs : ∀ b, ov.ownBlock = some b → ¬ D b)
    (hown : w'.ownsRow base 33 9 ov' (N.length + 1) (rows.flatten ++ [encB x vb vp].flatten)) (hx : Ext (fun k => some k = ov.ownBlock) w w') (hb : ov'.ownBlock = ov.ownBlock ∨ ov'.ownBlock = some w.heap.size) : BillsO (fun b => C b ∨ D b) base w' ov' (N ++ [x]) (rows ++ [encB x vb vp]) := by
  have hC : ∀ b, C b → ¬ some b = ov.ownBlock := fun b hb e => h.apart b e.symm hb
  have hD' : ∀ b, D b → ¬ some b = ov.ownBlock := fun b hb e => hDs b e.symm hb
  refine ⟨by rw [List.length_append, List.flatten_append]; exact hown, ?_, ?_, by simp [h.len], ?_⟩
  · rintro b (h' | h')
    · exact Nat.lt_of_lt_of_le (h.c b h') hx.size
    · exact Nat.lt_of_lt_of_le (hD b h') hx.size
  · rintro b hb' (h' | h') <;> rcases hb with e | e
    · exact h.apart b (e ▸ hb') h'
    · rw [e] at hb'; cases hb'; have := h.c _ h'; omega
    · exact hDs b (e ▸ hb') h'
    · rw [e] at hb'; cases hb'; have := hD _ h'; omega
  · intro i hi
    rw [List.length_append, List.length_singleton] at hi
    by_cases hlt : i < N.length
    · obtain ⟨ub, up, g1, g2, g3, g4⟩ := h.each i hlt
      refine ⟨ub, up, ?_, ?_, ?_, g4⟩
      · rw [List.getElem?_append_left (by rw [h.len]; exact hlt), List.getElem_append_left hlt]; exact g1
      · rw [List.getElem_append_left hlt]; exact (g2.ext hx hC).weaken fun b hb => .inl hb
      · rw [List.getElem_append_left hlt]; exact (g3.ext hx hC).weaken fun b hb => .inl hb
    · have : i = N.length := by omega
      subst this
      have e : (N ++ [x])[N.length] = x := by rw [List.getElem_append_right (Nat.le_refl _)]; simp
      refine ⟨vb, vp, by rw [List.getElem?_append_right (by rw [h.len]; exact Nat.le_refl _), h.len, e]; simp, ?_, ?_, hc⟩
      · rw [e]; exact (h1.ext hx hD').weaken fun b hb => .inr hb
      · rw [e]; exact (h2.ext hx hD').weaken fun b hb => .inr hb
theorem BillsO.at {C : Nat → Prop} {base : Nat} {w : World} {ov : Value} {N : List BillD} {rows : List (List Value)} (h : BillsO C base w ov N rows) (h0 : 0 < N.length) (h64 : N.length ≤ 64) : BillsAt C w ov N := by
  obtain ⟨g, cap, rfl⟩ := own_slice h.own h0
  have hs : ∀ r ∈ rows, r.length = 9 := by
    intro r hr
    obtain ⟨i, hi, rfl⟩ := List.getElem_of_mem hr
    obtain ⟨vb, vp, e, _⟩ := h.each i (by rw [← h.len]; exact hi)
    rw [List.getElem?_eq_getElem hi] at e
    have e := Option.some.inj e
    rw [e]; rfl
  have hSl : Sl (fun _ => True) w (.slice (some ⟨g, 0, none⟩) N.length cap) 9 rows := own_sl (by rw [h.len]; exact h.own) hs fun _ _ => trivial
  refine ⟨⟨_, cap, rfl, fun i hi => ?_⟩, h64⟩
  obtain ⟨vb, vp, g1, g2, g3, g4⟩ := h.each i hi
  obtain ⟨b, o, cc, e, _, _, _, hrd⟩ := hSl.at g1
  simp only [Value.slice.injEq, Option.some.injEq, Addr.mk.injEq, and_true] at e
  obtain ⟨⟨rfl, rfl⟩, _⟩ := e
  exact ⟨g, 0, vb, vp, rfl, hrd, g2, g3, g4⟩
set_option maxRecDepth 20000 in
set_option maxHeartbeats 16000000 in
theorem r24_Split {A A1 A2 : Nat → Prop} {w : World} {vL vp vn : Value} {k : Nat} {r : RegD} {gs : List FG} {parts : List (List ByteArray)} {numbers : List ByteArray} (hF : FRep A w vL r.l gs) (hG : Good k r) (hk : k + 64 ≤ 1000000) (hl : r.l.length ≤ 256) (bill by_ : ByteArray) (day : Int) (hP : SlsAt A1 w vp parts) (hPC : PCap A1 w vp parts) (hN : SlS A2 w vn numbers) (hNC : ∀ p n c, vn = .slice p n c → n ≤ c)
    (h1 : bill.size ≤ maxLen) (h2 : by_.size ≤ maxLen) (h3 : ∀ x ∈ numbers, x.size ≤ maxLen) (h4 : ∀ q ∈ parts, ∀ x ∈ q, x.size ≤ maxLen) (h5 : ∀ q ∈ parts, q.length ≤ 1000) (h6 : parts.length ≤ 1000) :
    Ret Tryz.prog 50 [.agg ⟨encR r.carrier vL⟩, .string bill, .string by_, vp, vn, .int .i64 day] w fun v w' =>
      (∃ vL' gs', v = .tuple #[.agg ⟨encR r.carrier vL'⟩, .int .i64 (callC r (splitC r bill by_ parts numbers day))] ∧ FRep (fun b => A b ∨ w.heap.size ≤ b) w' vL' (callR r (splitC r bill by_ parts numbers day)).l gs') ∧ Ex w w' := by
  have hF0 := hF.lt
  have hP0 := hP.lt
  have hPC0 := hPC.lt
  have hflat : parts.flatten.length ≤ 1000 * parts.length := by
    clear hP hPC hP0 hPC0 h4 h6
    induction parts with
    | nil => simp
    | cons q parts ih =>
      have e1 := h5 q List.mem_cons_self
      have e2 := ih (fun q hq => h5 q (List.mem_cons_of_mem _ hq))
      rw [List.flatten_cons, List.length_append, List.length_cons]; omega
  obtain ⟨aL, cL, rfl, _⟩ := hF.slice
  obtain ⟨pp, cp, rfl, _⟩ := hP.is
  obtain ⟨_, _, hve, hprow⟩ := hP0.is
  simp only [Value.slice.injEq] at hve
  obtain ⟨rfl, _, rfl⟩ := hve
  obtain ⟨_, _, hve, hpcap⟩ := hPC0
  simp only [Value.slice.injEq] at hve
  obtain ⟨rfl, _, rfl⟩ := hve
  obtain ⟨pn, cn, rfl, _, hnrow⟩ := hN.is
  have hnm := hN.small
  simp only [List.length_map] at *
  unfold maxLen at hnm
  refine ret_of Tryz.func50 Tryz.ntmps50 rfl rfl rfl ?_
  (repeat (first | refine cw_seq ?_ | refine cw_region ?_))
  refine lw_box rfl ?_
  intro b6 w1 hbb6 hb6 hx1 hs1
  replace hb6 : Blk w1 b6 (encR r.carrier (.slice aL r.l.length cL)) 28 := hb6
  skip
  refine lw_alloc z28 ?_
  intro b12 w2 hbb12 hb12 hx2 hs2
  have hx02 := hx1.trans hx2
  have hb62 := hb6.ex hx2
  have l02 := hx02.size
  (repeat (first | refine lw_pure hT rfl ?_ | refine lw_nil ?_ | refine cw_seq ?_ | refine cw_region ?_ | refine qw_then ?_))
  refine lw_load_agg hT rfl rfl rfl (vs := encR r.carrier (.slice aL r.l.length cL)) (hb62.rd 0 2) ?_
  (repeat (refine lw_pure hT rfl ?_))
  refine lw_call hT rfl rfl (r23_Find r.carrier bill (hF0.ex hx02)) ?_
  rintro _ w3 ⟨rfl, hx3⟩
  have hx03 := hx02.trans hx3
  have hx23 := hx3
  have fin : ∀ {code : Int} {wa wb : World}, Ex w2 wa → Ext (· = b12) wa wb → callC r (splitC r bill by_ parts numbers day) = code → code ≠ 0 → (∃ vL' gs', oneOr [.agg ⟨encR r.carrier (.slice aL r.l.length cL)⟩, .int .i64 code] = .tuple #[.agg ⟨encR r.carrier vL'⟩, .int .i64 (callC r (splitC r bill by_ parts numbers day))] ∧ FRep (fun b => A b ∨ w.heap.size ≤ b) wb vL' (callR r (splitC r bill by_ parts numbers day)).l gs') ∧ Ex w wb := by
    intro code wa wb hx hxb hc hne
    have hx0 := hx02.trans hx
    refine ⟨⟨_, gs, by rw [hc]; rfl, by rw [callR_ne (by rw [hc]; exact hne)]; exact ((hF0.ex hx0).ext hxb (fun b hb e => by have := hb.2; omega)).weaken fun b hb => .inl hb.1⟩, hx0.up_new hxb (fun i h => by omega)⟩
  rcases fidx_at' r bill with ⟨hi, hat⟩ | ⟨ix, hil, hi, hat⟩
  · have e1 : splitC r bill by_ parts numbers day = (4, []) := by unfold splitC; rw [hat]
    rw [hi]
    (repeat (first | refine lw_pure hT rfl ?_ | refine lw_nil ?_ | refine cw_seq ?_ | refine cw_region ?_ | refine qw_then ?_))
    refine cw_cond rfl (fun _ => ?_) (fun e => absurd e (by decide))
    (repeat (first | refine cw_seq ?_ | refine cw_region ?_))
    refine lw_load_agg hT rfl rfl rfl (vs := encR r.carrier (.slice aL r.l.length cL)) ((hb62.ex hx3).rd 0 2) ?_
    skip
    refine lw_store_agg hT rfl rfl rfl rfl (by intro v hv; simp [encR] at hv; rcases hv with rfl | rfl <;> first | rfl | exact Sl.one hF.sl) (hb12.ex hx3) (show (2 : Nat) ≤ 2 by decide) ?_
    intro w4 hb124 hx4 hs4
    replace hb124 : Blk w4 b12 (encR r.carrier (.slice aL r.l.length cL)) 28 := hb124
    (repeat (first | refine lw_pure hT rfl ?_ | refine lw_nil ?_ | refine qw_then ?_ | refine cw_ret ?_ | refine qw_then_ret ?_))
    exact qw_ret_cell hT rfl rfl rfl rfl (vs := encR r.carrier (.slice aL r.l.length cL)) (hb124.rd 0 2) rfl (fin hx3 hx4 (by rw [e1]; rfl) (by decide))
  obtain ⟨x, g, bL, oL, cap, hxl, hgl, heq, hrd, hE⟩ := hF0.row hil
  simp only [Value.slice.injEq] at heq
  obtain ⟨rfl, _, rfl⟩ := heq
  have hxe : r.l[ix] = x := by rw [List.getElem?_eq_getElem hil] at hxl; exact Option.some.inj hxl
  rw [hxe] at hat
  have hxm : x ∈ r.l := List.mem_of_getElem? hxl
  have hxok := (hG.ent x hxm).ok
  have hxn : x.bill.boxes.Nodup := once_nd (may_len (hG.ent x hxm).may).2.2.1
  have hrd3 := hrd.ex hx03
  have o1 : g.vb.oneCell' = true := Sl.one hE.boxes
  have o2 : g.vp.oneCell' = true := Sl.one hE.parents
  have hbad : (parts.length < 2 ∨ 64 < parts.length ∨ numbers.length ≠ parts.length ∨ (∃ n ∈ numbers, nameB n = false) ∨ ¬ numbers.Nodup ∨ ¬ PartP x.bill.boxes parts) → callC r (splitC r bill by_ parts numbers day) = 1 := by
    intro h
    have e1 : splitC r bill by_ parts numbers day = (1, []) := by unfold splitC; rw [hat]; dsimp only; rw [if_pos h]
    rw [e1]; rfl
  rw [hi]
  (repeat (first | refine lw_pure hT rfl ?_ | refine lw_nil ?_ | refine cw_seq ?_ | refine cw_region ?_ | refine qw_then ?_))
  refine cw_cond rfl (fun e => by have := of_decide_eq_true e; omega) (fun _ => ?_)
  (repeat (first | refine lw_pure hT rfl ?_ | refine cw_seq ?_ | refine cw_region ?_ | refine qw_then ?_ | refine cw_skip ?_))
  refine lw_load hT rfl rfl (v := .slice (some ⟨bL, oL, none⟩) r.l.length cL) ((hb62.ex hx3).cell 1) ?_
  (repeat (refine lw_pure hT rfl ?_))
  refine lw_index hT rfl rfl rfl ix rfl hil ?_
  (repeat (refine lw_pure hT rfl ?_))
  refine lw_load_agg hT rfl rfl rfl (vs := encB x.bill g.vb g.vp) (fun j v hj => hrd3 j v (by (simp only [entF]; rw [List.getElem?_append_left (List.getElem?_eq_some_iff.1 hj).1]; exact hj))) ?_
  skip
  refine lw_alloc z33 ?_
  intro b15 w4 hbb15 hb15 hx4 hs4
  skip
  refine lw_store_agg hT rfl rfl rfl rfl (encB_one (A := fun _ => True) (w := w) o1 o2) hb15 (show (9 : Nat) ≤ 9 by decide) ?_
  intro w5 hb155 hx5 hs5
  replace hb155 : Blk w5 b15 (encB x.bill g.vb g.vp) 33 := hb155
  have hx35 : Ex w3 w5 := hx4.up_new hx5 (fun i h => by omega)
  have hx25 := hx3.trans hx35
  have hx05 := hx02.trans hx25
  have hb65 := hb62.ex hx25
  have hb125 := hb12.ex hx25
  (repeat (first | refine lw_pure hT rfl ?_ | refine lw_nil ?_ | refine cw_seq ?_ | refine cw_region ?_ | refine qw_then ?_))
  refine lw_guard rfl (fun e => ?_) (fun e => ?_)
  · (repeat (first | refine lw_pure hT rfl ?_ | refine lw_nil ?_ | refine cw_seq ?_ | refine cw_region ?_ | refine qw_then ?_ | (refine lw_goff_t rfl ?_ ?_; focus with_reducible (first | rfl | exact Bool.not_false | exact Bool.not_true)) | (refine cw_cond_t rfl ?_ ?_; focus with_reducible (first | rfl | exact Bool.not_false | exact Bool.not_true))))
    refine lw_load_agg hT rfl rfl rfl (vs := encR r.carrier (.slice (some ⟨bL, oL, none⟩) r.l.length cL)) (hb65.rd 0 2) ?_
    skip
    refine lw_store_agg hT rfl rfl rfl rfl (by intro v hv; simp [encR] at hv; rcases hv with rfl | rfl <;> first | rfl | exact Sl.one hF.sl) hb125 (show (2 : Nat) ≤ 2 by decide) ?_
    intro w6 hb126 hx6 hs6
    replace hb126 : Blk w6 b12 (encR r.carrier (.slice (some ⟨bL, oL, none⟩) r.l.length cL)) 28 := hb126
    (repeat (first | refine lw_pure hT rfl ?_ | refine lw_nil ?_ | refine qw_then ?_ | refine cw_ret ?_ | refine qw_then_ret ?_))
    exact qw_ret_cell hT rfl rfl rfl rfl (vs := encR r.carrier (.slice (some ⟨bL, oL, none⟩) r.l.length cL)) (hb126.rd 0 2) rfl (fin hx25 hx6 (hbad (.inl (by have := of_decide_eq_true e; omega))) (by decide))
  have g1 : 2 ≤ parts.length := by have := of_decide_eq_false e; omega
  (repeat (first | refine lw_pure hT rfl ?_ | (refine lw_gon_f rfl ?_ ?_; focus with_reducible (first | rfl | exact Bool.not_false | exact Bool.not_true))))
  refine lw_guard rfl (fun e => ?_) (fun e => ?_)
  · (repeat (first | refine lw_pure hT rfl ?_ | refine lw_nil ?_ | refine cw_seq ?_ | refine cw_region ?_ | refine qw_then ?_ | (refine lw_goff_t rfl ?_ ?_; focus with_reducible (first | rfl | exact Bool.not_false | exact Bool.not_true)) | (refine cw_cond_t rfl ?_ ?_; focus with_reducible (first | rfl | exact Bool.not_false | exact Bool.not_true))))
    refine lw_load_agg hT rfl rfl rfl (vs := encR r.carrier (.slice (some ⟨bL, oL, none⟩) r.l.length cL)) (hb65.rd 0 2) ?_
    skip
    refine lw_store_agg hT rfl rfl rfl rfl (by intro v hv; simp [encR] at hv; rcases hv with rfl | rfl <;> first | rfl | exact Sl.one hF.sl) hb125 (show (2 : Nat) ≤ 2 by decide) ?_
    intro w6 hb126 hx6 hs6
    replace hb126 : Blk w6 b12 (encR r.carrier (.slice (some ⟨bL, oL, none⟩) r.l.length cL)) 28 := hb126
    (repeat (first | refine lw_pure hT rfl ?_ | refine lw_nil ?_ | refine qw_then ?_ | refine cw_ret ?_ | refine qw_then_ret ?_))
    exact qw_ret_cell hT rfl rfl rfl rfl (vs := encR r.carrier (.slice (some ⟨bL, oL, none⟩) r.l.length cL)) (hb126.rd 0 2) rfl (fin hx25 hx6 (hbad (.inr (.inl (by have := of_decide_eq_true e; omega)))) (by decide))
  have g2 : parts.length ≤ 64 := by have := of_decide_eq_false e; omega
  (repeat (first | refine lw_pure hT rfl ?_ | (refine lw_gon_f rfl ?_ ?_; focus with_reducible (first | rfl | exact Bool.not_false | exact Bool.not_true))))
  refine lw_guard rfl (fun e => ?_) (fun e => ?_)
  · (repeat (first | refine lw_pure hT rfl ?_ | refine lw_nil ?_ | refine cw_seq ?_ | refine cw_region ?_ | refine qw_then ?_ | (refine lw_goff_t rfl ?_ ?_; focus with_reducible (first | rfl | exact Bool.not_false | exact Bool.not_true)) | (refine cw_cond_t rfl ?_ ?_; focus with_reducible (first | rfl | exact Bool.not_false | exact Bool.not_true))))
    refine lw_load_agg hT rfl rfl rfl (vs := encR r.carrier (.slice (some ⟨bL, oL, none⟩) r.l.length cL)) (hb65.rd 0 2) ?_
    skip
    refine lw_store_agg hT rfl rfl rfl rfl (by intro v hv; simp [encR] at hv; rcases hv with rfl | rfl <;> first | rfl | exact Sl.one hF.sl) hb125 (show (2 : Nat) ≤ 2 by decide) ?_
    intro w6 hb126 hx6 hs6
    replace hb126 : Blk w6 b12 (encR r.carrier (.slice (some ⟨bL, oL, none⟩) r.l.length cL)) 28 := hb126
    (repeat (first | refine lw_pure hT rfl ?_ | refine lw_nil ?_ | refine qw_then ?_ | refine cw_ret ?_ | refine qw_then_ret ?_))
    exact qw_ret_cell hT rfl rfl rfl rfl (vs := encR r.carrier (.slice (some ⟨bL, oL, none⟩) r.l.length cL)) (hb126.rd 0 2) rfl (fin hx25 hx6 (hbad (.inr (.inr (.inl (by have := of_decide_eq_true e; omega))))) (by decide))
  have g3 : numbers.length = parts.length := by have := of_decide_eq_false e; omega
  (repeat (first | refine lw_pure hT rfl ?_ | (refine lw_gon_f rfl ?_ ?_; focus with_reducible (first | rfl | exact Bool.not_false | exact Bool.not_true))))
  refine lw_call hT rfl rfl (r24_unlike (hN.ex hx05) hNC) ?_
  rintro _ w6 ⟨rfl, hx6⟩
  have hx26 := hx25.trans hx6
  (repeat (first | refine lw_pure hT rfl ?_ | (refine lw_gon_f rfl ?_ ?_; focus with_reducible (first | rfl | exact Bool.not_false | exact Bool.not_true))))
  refine lw_guard rfl (fun e => ?_) (fun e => ?_)
  · (repeat (first | refine lw_pure hT rfl ?_ | refine lw_nil ?_ | refine cw_seq ?_ | refine cw_region ?_ | refine qw_then ?_ | (refine lw_goff_t rfl ?_ ?_; focus with_reducible (first | rfl | exact Bool.not_false | exact Bool.not_true)) | (refine cw_cond_t rfl ?_ ?_; focus with_reducible (first | rfl | exact Bool.not_false | exact Bool.not_true))))
    refine lw_load_agg hT rfl rfl rfl (vs := encR r.carrier (.slice (some ⟨bL, oL, none⟩) r.l.length cL)) ((hb65.ex hx6).rd 0 2) ?_
    skip
    refine lw_store_agg hT rfl rfl rfl rfl (by intro v hv; simp [encR] at hv; rcases hv with rfl | rfl <;> first | rfl | exact Sl.one hF.sl) (hb125.ex hx6) (show (2 : Nat) ≤ 2 by decide) ?_
    intro w7 hb127 hx7 hs7
    replace hb127 : Blk w7 b12 (encR r.carrier (.slice (some ⟨bL, oL, none⟩) r.l.length cL)) 28 := hb127
    (repeat (first | refine lw_pure hT rfl ?_ | refine lw_nil ?_ | refine qw_then ?_ | refine cw_ret ?_ | refine qw_then_ret ?_))
    exact qw_ret_cell hT rfl rfl rfl rfl (vs := encR r.carrier (.slice (some ⟨bL, oL, none⟩) r.l.length cL)) (hb127.rd 0 2) rfl (fin hx26 hx7 (hbad (.inr (.inr (.inr (.inr (.inl (by simpa using e))))))) (by decide))
  have g5 : numbers.Nodup := by simpa using e
  have hx06 := hx02.trans hx26
  (repeat (first | refine lw_pure hT rfl ?_ | (refine lw_gon_f rfl ?_ ?_; focus with_reducible (first | rfl | exact Bool.not_false | exact Bool.not_true))))
  refine lw_load hT rfl rfl (v := g.vb) ((hb155.ex hx6).cell 5) ?_
  (repeat (first | refine lw_pure hT rfl ?_ | (refine lw_gon_f rfl ?_ ?_; focus with_reducible (first | rfl | exact Bool.not_false | exact Bool.not_true))))
  refine lw_call hT rfl rfl (r24_partition (hE.boxes.ex hx06) (hP.ex hx06) (by omega)) ?_
  rintro _ w7 ⟨⟨bb, rfl, hbb⟩, hx7⟩
  have hx27 := hx26.trans hx7
  have hx07 := hx02.trans hx27
  have hb67 := (hb65.ex hx6).ex hx7
  have hb127 := (hb125.ex hx6).ex hx7
  have hb157 := (hb155.ex hx6).ex hx7
  have epart : PartP x.bill.boxes parts ↔ PartD x.bill.boxes parts := part_iff hxn
  (repeat (first | refine lw_pure hT rfl ?_ | refine lw_nil ?_ | refine qw_then ?_ | (refine lw_gon_f rfl ?_ ?_; focus with_reducible (first | rfl | exact Bool.not_false | exact Bool.not_true))))
  refine cw_cond rfl (fun e => ?_) (fun e => ?_)
  · (repeat (first | refine cw_seq ?_ | refine cw_region ?_))
    refine lw_load_agg hT rfl rfl rfl (vs := encR r.carrier (.slice (some ⟨bL, oL, none⟩) r.l.length cL)) (hb67.rd 0 2) ?_
    skip
    refine lw_store_agg hT rfl rfl rfl rfl (by intro v hv; simp [encR] at hv; rcases hv with rfl | rfl <;> first | rfl | exact Sl.one hF.sl) hb127 (show (2 : Nat) ≤ 2 by decide) ?_
    intro w8 hb128 hx8 hs8
    replace hb128 : Blk w8 b12 (encR r.carrier (.slice (some ⟨bL, oL, none⟩) r.l.length cL)) 28 := hb128
    (repeat (first | refine lw_pure hT rfl ?_ | refine lw_nil ?_ | refine qw_then ?_ | refine cw_ret ?_ | refine qw_then_ret ?_))
    exact qw_ret_cell hT rfl rfl rfl rfl (vs := encR r.carrier (.slice (some ⟨bL, oL, none⟩) r.l.length cL)) (hb128.rd 0 2) rfl (fin hx27 hx8 (hbad (.inr (.inr (.inr (.inr (.inr (fun h => by rw [hbb.2 (epart.1 h)] at e; cases e))))))) (by decide))
  have g6 : PartP x.bill.boxes parts := epart.2 (hbb.1 (by simpa using e))
  obtain ⟨NL, hNL⟩ : ∃ NL, NL = (parts.zip numbers).map fun q => nextB x.bill q.2 q.1 [bill] day := ⟨_, rfl⟩
  have hNLl : NL.length = parts.length := by rw [hNL, List.length_map, List.length_zip]; omega
  have hNtake : ∀ i (hi : i < parts.length) (hi' : i < numbers.length), NL.take (i + 1) = NL.take i ++ [nextB x.bill numbers[i] parts[i] [bill] day] := by
    intro i hi hi'
    have hz : i < (parts.zip numbers).length := by rw [List.length_zip]; omega
    rw [List.take_succ_eq_append_getElem (by rw [hNLl]; exact hi)]
    have e : NL[i]'(by rw [hNLl]; exact hi) = nextB x.bill numbers[i] parts[i] [bill] day := by simp [hNL]
    rw [e]
  (repeat (first | refine cw_seq ?_ | refine cw_region ?_ | refine qw_then ?_ | refine cw_skip ?_))
  refine lw_buildSlice sl103 rfl rfl rfl ?_
  intro b16 w8 hbb16 hb16 hx8 hs8
  have hx78 := hx8
  have hx08 := hx07.trans hx8
  have l07 := hx07.size
  have l27 := hx27.size
  have l25 := hx25.size
  have hbO : BillsO (fun b => A1 b ∧ b < w.heap.size) w.heap.size w8 (.slice (some ⟨b16, 0, none⟩) 0 0) (NL.take 0) [] := ⟨own_lit hb16 (by omega) rfl (by decide), fun b hb => by have := hb.2; omega, fun b hb hc => by (simp only [Value.ownBlock, Option.some.injEq] at hb; have := hc.2; omega), rfl, fun i hi => by simp at hi⟩
  (repeat (first | refine lw_pure hT rfl ?_ | refine lw_nil ?_ | refine cw_seq ?_ | refine cw_region ?_ | refine qw_then ?_ | refine cw_block ?_))
  refine cw_loop (fun z : Nat × Value => [(1, .string bill), (2, .string by_), (3, .slice pp parts.length cp), (4, .slice pn numbers.length cn), (5, .int .i64 day), (6, pB b6), (12, pB b12), (15, pB b15), (16, z.2), (17, .int .i64 (z.1 : Nat))])
    (fun z w' => z.1 ≤ parts.length ∧ Ex w7 w' ∧ (∀ j (hj : j < numbers.length), j < z.1 → nameB numbers[j] = true) ∧ ∃ C rows, (∀ b, C b → (A1 b ∧ b < w.heap.size) ∨ w7.heap.size ≤ b) ∧ (∀ b, z.2.ownBlock = some b → w7.heap.size ≤ b) ∧ BillsO C w.heap.size w' z.2 (NL.take z.1) rows) (fun z => parts.length - z.1) (0, .slice (some ⟨b16, 0, none⟩) 0 0) (by repeat (first | exact trivial | refine ⟨rfl, ?_⟩))
    ⟨Nat.zero_le _, hx78, fun j _ hj => by omega, _, _, fun b hb => .inl hb, fun b hb => by (simp only [Value.ownBlock, Option.some.injEq] at hb; omega), hbO⟩ ?_
  rintro ⟨i, ov⟩ w9 ⟨hi, hx79, hnam, C, rows, hC, hov, hO⟩
  dsimp only at hi hnam hov hO ⊢
  unfold pB
  have hx29 := hx27.trans hx79
  have hx09 := hx07.trans hx79
  have hb69 := hb67.ex hx79
  have hb129 := hb127.ex hx79
  have hb159 := hb157.ex hx79
  have l79 := hx79.size
  have htl : (NL.take i).length = i := by rw [List.length_take]; omega
  (repeat (first | refine lw_pure hT rfl ?_ | refine lw_nil ?_ | refine cw_seq ?_ | refine cw_region ?_ | refine qw_then ?_))
  refine cw_cond rfl (fun e => ?_) (fun e => ?_)
  · have hlt : i < parts.length := by have := of_decide_eq_true e; omega
    have hlt' : i < numbers.length := by omega
    obtain ⟨bp, op, u, rfl, hpA, hprd, hu⟩ := hprow i hlt
    obtain ⟨bp', op', au, nu, cu, hpe, _, hprd2, hcap⟩ := hpcap i hlt
    simp only [Option.some.injEq, Addr.mk.injEq, and_true] at hpe
    obtain ⟨rfl, rfl⟩ := hpe
    have hueq : u = .slice au nu cu := by
      have a1 := hprd 0 _ rfl
      have a2 := hprd2 0 _ rfl
      rw [a1] at a2
      exact Option.some.inj a2
    subst hueq
    have hnul : nu = parts[i].length := by
      obtain ⟨_, _, e, _⟩ := hu.is
      simp only [Value.slice.injEq, List.length_map] at e
      exact e.2.1
    have hnne : numbers.map (fun s => [Value.string s]) ≠ [] := by intro e; simp at e; rw [e] at hlt'; simp at hlt'
    obtain ⟨bn, on, rfl, _, hnrd⟩ := hnrow hnne
    have hni := (hnrd i [.string numbers[i]] (by rw [List.getElem?_map, List.getElem?_eq_getElem hlt']; rfl)).2
    have hntk := hNtake i hlt hlt'
    have hnmem : numbers[i] ∈ numbers := List.getElem_mem hlt'
    have hpok := h4 _ (List.getElem_mem hlt)
    have hnamN : nameB numbers[i] = true → ∀ j (hj : j < numbers.length), j < i + 1 → nameB numbers[j] = true := fun h j hj hji => by
      by_cases ej : j = i
      · subst ej; exact h
      · exact hnam j hj (by omega)
    generalize parts[i] = q at hu hnul hntk hpok
    generalize numbers[i] = nb at hni hntk hnmem hnamN
    (repeat (first | refine lw_pure hT rfl ?_ | refine cw_seq ?_ | refine cw_region ?_ | refine qw_then ?_ | refine cw_skip ?_ | refine cw_block ?_))
    refine lw_index hT rfl rfl rfl i rfl hlt' ?_
    skip
    refine lw_load hT rfl rfl (v := .string nb) ((hni.ex hx09) 0 _ rfl) ?_
    skip
    refine lw_call hT rfl rfl (r_Name nb w9 (h3 nb hnmem)) ?_
    rintro _ _ ⟨rfl, rfl⟩
    (repeat (first | refine lw_pure hT rfl ?_ | refine lw_nil ?_ | refine qw_then ?_))
    refine cw_cond rfl (fun e => ?_) (fun e => ?_)
    · (repeat (first | refine cw_seq ?_ | refine cw_region ?_))
      refine lw_load_agg hT rfl rfl rfl (vs := encR r.carrier (.slice (some ⟨bL, oL, none⟩) r.l.length cL)) (hb69.rd 0 2) ?_
      skip
      refine lw_store_agg hT rfl rfl rfl rfl (by intro v hv; simp [encR] at hv; rcases hv with rfl | rfl <;> first | rfl | exact Sl.one hF.sl) hb129 (show (2 : Nat) ≤ 2 by decide) ?_
      intro w10 hb1210 hx10 hs10
      replace hb1210 : Blk w10 b12 (encR r.carrier (.slice (some ⟨bL, oL, none⟩) r.l.length cL)) 28 := hb1210
      (repeat (first | refine lw_pure hT rfl ?_ | refine lw_nil ?_ | refine qw_then ?_ | refine cw_ret ?_ | refine qw_then_ret ?_ | refine qw_block_ret ?_))
      exact qw_ret_cell hT rfl rfl rfl rfl (vs := encR r.carrier (.slice (some ⟨bL, oL, none⟩) r.l.length cL)) (hb1210.rd 0 2) rfl (fin hx29 hx10 (hbad (.inr (.inr (.inr (.inl ⟨nb, hnmem, by simpa using e⟩))))) (by decide))
    have hnb : nameB nb = true := by simpa using e
    (repeat (first | refine qw_then ?_ | refine cw_skip ?_))
    refine cw_cut_any (α := Value) (fun z => [(1, .string bill), (2, .string by_), (3, .slice (some ⟨bp, op, none⟩) parts.length cp), (4, .slice (some ⟨bn, on, none⟩) numbers.length cn), (5, .int .i64 day), (6, pB b6), (12, pB b12), (15, pB b15), (16, z), (17, .int .i64 (i : Nat))])
      (fun z w' => Ex w7 w' ∧ ∃ C rows, (∀ b, C b → (A1 b ∧ b < w.heap.size) ∨ w7.heap.size ≤ b) ∧ (∀ b, z.ownBlock = some b → w7.heap.size ≤ b) ∧ BillsO C w.heap.size w' z (NL.take (i + 1)) rows) ?_ ?_
    · unfold pB
      refine cw_draw hM (fun w' => Ex w9 w') [24] rfl rfl (by repeat with_reducible (first | refine nop_then ?_ | refine nop_block ?_ | exact nop_body)) (fun w10 hx10 _ => ⟨hx10, ?_⟩)
      have l10 := hx10.size
      (refine rw_takeP 0 rfl rfl (by kernel_rfl) (by kernel_rfl) (by kernel_rfl) (by kernel_rfl) rfl (yo_pure hT rfl) ?_; refine rw_takeP 1 rfl rfl (by kernel_rfl) (by kernel_rfl) (by kernel_rfl) (by kernel_rfl) rfl (yo_pure hT rfl) ?_; refine rw_takeP 2 rfl rfl (by kernel_rfl) (by kernel_rfl) (by kernel_rfl) (by kernel_rfl) rfl (yo_pure hT rfl) ?_)
      refine rw_takeP 3 rfl rfl (by kernel_rfl) (by kernel_rfl) (by kernel_rfl) (by kernel_rfl) rfl (yo_index hT rfl rfl rfl i rfl hlt') ?_
      refine rw_take 4 rfl rfl (by kernel_rfl) (by kernel_rfl) (by kernel_rfl) (by kernel_rfl) rfl (yo_load hT rfl rfl (v := .string nb) (fun w' hS => ((hni.ex hx09).ex hS) 0 _ rfl)) ?_
      (refine rw_takeP 5 rfl rfl (by kernel_rfl) (by kernel_rfl) (by kernel_rfl) (by kernel_rfl) rfl (yo_pure hT rfl) ?_)
      refine rw_take 6 rfl rfl (by kernel_rfl) (by kernel_rfl) (by kernel_rfl) (by kernel_rfl) rfl (yo_load hT rfl rfl (v := .string x.bill.carrier) (fun w' hS => (hb159.ex hS).cell 1)) ?_
      (refine rw_takeP 7 rfl rfl (by kernel_rfl) (by kernel_rfl) (by kernel_rfl) (by kernel_rfl) rfl (yo_pure hT rfl) ?_)
      refine rw_take 8 rfl rfl (by kernel_rfl) (by kernel_rfl) (by kernel_rfl) (by kernel_rfl) rfl (yo_load hT rfl rfl (v := .string x.bill.shipper) (fun w' hS => (hb159.ex hS).cell 2)) ?_
      (refine rw_takeP 9 rfl rfl (by kernel_rfl) (by kernel_rfl) (by kernel_rfl) (by kernel_rfl) rfl (yo_pure hT rfl) ?_)
      refine rw_take 10 rfl rfl (by kernel_rfl) (by kernel_rfl) (by kernel_rfl) (by kernel_rfl) rfl (yo_load hT rfl rfl (v := .string x.bill.frm) (fun w' hS => (hb159.ex hS).cell 3)) ?_
      (refine rw_takeP 11 rfl rfl (by kernel_rfl) (by kernel_rfl) (by kernel_rfl) (by kernel_rfl) rfl (yo_pure hT rfl) ?_)
      refine rw_take 12 rfl rfl (by kernel_rfl) (by kernel_rfl) (by kernel_rfl) (by kernel_rfl) rfl (yo_load hT rfl rfl (v := .string x.bill.to_) (fun w' hS => (hb159.ex hS).cell 4)) ?_
      (refine rw_takeP 13 rfl rfl (by kernel_rfl) (by kernel_rfl) (by kernel_rfl) (by kernel_rfl) rfl (yo_pure hT rfl) ?_; refine rw_takeP 14 rfl rfl (by kernel_rfl) (by kernel_rfl) (by kernel_rfl) (by kernel_rfl) rfl (yo_pure hT rfl) ?_)
      refine rw_takeP 15 rfl rfl (by kernel_rfl) (by kernel_rfl) (by kernel_rfl) (by kernel_rfl) rfl (yo_index hT rfl rfl rfl i rfl hlt) ?_
      refine rw_take 16 rfl rfl (by kernel_rfl) (by kernel_rfl) (by kernel_rfl) (by kernel_rfl) rfl (yo_load hT rfl rfl (v := .slice au nu cu) (fun w' hS => ((hprd.ex hx09).ex hS) 0 _ rfl)) ?_
      (refine rw_takeP 17 rfl rfl (by kernel_rfl) (by kernel_rfl) (by kernel_rfl) (by kernel_rfl) rfl (yo_pure hT rfl) ?_; refine rw_takeP 18 rfl rfl (by kernel_rfl) (by kernel_rfl) (by kernel_rfl) (by kernel_rfl) rfl (yo_pure hT rfl) ?_)
      refine rw_take 19 rfl rfl (by kernel_rfl) (by kernel_rfl) (by kernel_rfl) (by kernel_rfl) rfl (yo_load hT rfl rfl (v := .bool x.bill.clean) (fun w' hS => (hb159.ex hS).cell 8)) ?_
      (refine rw_takeP 20 rfl rfl (by kernel_rfl) (by kernel_rfl) (by kernel_rfl) (by kernel_rfl) rfl (yo_pure hT rfl) ?_)
      refine rw_one 21 rfl (by kernel_rfl) rfl (fun hcl => ?_)
      refine lw_buildSlice sl31 rfl rfl rfl ?_
      intro b93 w11 hbb93 hb93 hx11 hs11
      have hx911 := hx10.trans hx11
      (repeat (refine lw_nil ?_))
      refine qw_rw (by repeat with_reducible (first | refine nop_then ?_ | refine nop_block ?_ | exact nop_body)) hcl (fun _ => hx911) ?_
      refine rw_takeP 22 rfl rfl (by kernel_rfl) (by kernel_rfl) (by kernel_rfl) (by kernel_rfl) rfl (yo_build bt33 rfl) ?_
      refine rw_one 23 rfl (by kernel_rfl) rfl (fun hcl => ?_)
      refine lw_buildSlice sl103 rfl rfl rfl ?_
      intro b95 w12 hbb95 hb95 hx12 hs12
      have hx912 := hx911.trans hx12
      (repeat (refine lw_nil ?_))
      refine qw_rw (by repeat with_reducible (first | refine nop_then ?_ | refine nop_block ?_ | exact nop_body)) hcl (fun _ => hx912) ?_
      refine rw_one 24 rfl (by kernel_rfl) rfl (fun hcl => ?_)
      have hO12 := hO.ex hx912
      have hone := hO12.own
      rw [htl] at hone
      refine lw_append_sl (rows := [encB (nextB x.bill nb q [bill] day) (.slice au nu cu) (.slice (some ⟨b93, 0, none⟩) 1 1)]) (A := fun _ => True) sl103 (by decide) rfl hone rfl (Sl.of_rd (rows := [encB (nextB x.bill nb q [bill] day) (.slice au nu cu) (.slice (some ⟨b93, 0, none⟩) 1 1)]) trivial (by intro r hr; simp at hr; subst hr; rfl) (hb95.rd 0 9) (show (1 : Nat) ≤ maxLen by decide)) (by intro r hr; simp at hr; subst hr; exact encB_one (A := fun _ => True) (w := w) rfl rfl) (by unfold maxLen; simp only [List.length_singleton]; omega) (by simp only [List.length_singleton]; omega) (by omega) ?_
      intro ov' w13 k1 k2 k3 k4
      (repeat (refine lw_nil ?_))
      refine qw_rw (by repeat with_reducible (first | refine nop_then ?_ | refine nop_block ?_ | exact nop_body)) hcl (fun h => absurd h (by decide)) ?_
      (refine rw_takeP 25 rfl rfl (by kernel_rfl) (by kernel_rfl) (by kernel_rfl) (by kernel_rfl) rfl (yo_pure hT rfl) ?_)
      refine rw_done (by kernel_rfl) ?_
      have l912 := hx912.size
      refine qw_cut ov' (by repeat (first | exact trivial | refine ⟨rfl, ?_⟩)) ⟨(hx79.trans hx912).up_new k2 (fun b hb => hov b hb.symm), fun b => C b ∨ ((A1 b ∧ b < w.heap.size) ∨ b = b93), rows ++ [encB (nextB x.bill nb q [bill] day) (.slice au nu cu) (.slice (some ⟨b93, 0, none⟩) 1 1)], fun b hb => ?_, fun b hb => ?_, ?_⟩
      · rcases hb with hb | hb | hb
        · exact hC b hb
        · exact .inl hb
        · exact .inr (by omega)
      · rcases k4 with e | e
        · exact hov b (e ▸ hb)
        · rw [e] at hb; cases hb; omega
      · rw [hntk]
        refine hO12.snoc (D := fun b => (A1 b ∧ b < w.heap.size) ∨ b = b93) ?_ ?_ (fun a n c e => by cases e; exact hcap) (fun b hb => ?_) (fun b hb hd => ?_) (by rw [htl]; exact k1) k2 k4
        · exact ((hu.ex hx09).ex hx912).weaken fun b hb => .inl hb
        · exact Sl.of_rd (rows := [[.string bill]]) (.inr rfl) (by simp) ((hb93.ex hx12).rd 0 1) (show (1 : Nat) ≤ maxLen by decide)
        · rcases hb with hb | hb
          · have := hb.2; omega
          · omega
        · have h9 := (own_base hO.own hb).2
          have h7 := hov b hb
          rcases hd with hd | hd
          · have := hd.2; omega
          · omega
    · rintro ov' w10 ⟨hx710, C', rows', hC', hov', hO'⟩
      unfold pB
      (repeat (first | (refine lw_add rfl rfl ?_ ?_ ?_; iterate 2 omega) | refine lw_pure hT rfl ?_ | refine lw_nil ?_ | refine cw_region ?_ | refine qw_then ?_ | refine qw_block ?_))
      exact qw_round (x := (i, ov)) (i + 1, ov') (by repeat (first | exact trivial | refine ⟨rfl, ?_⟩)) ⟨hlt, hx710, hnamN hnb, C', rows', hC', hov', hO'⟩ (by show parts.length - (i + 1) < parts.length - i; omega)
  · have hil' : i = parts.length := by have := of_decide_eq_false e; omega
    subst hil'
    rw [← hNLl, List.take_length] at hO
    have hBA := hO.at (by omega) (by omega)
    have g4 : ¬ ∃ n ∈ numbers, nameB n = false := by
      rintro ⟨n, hn, h⟩
      obtain ⟨j, hj, rfl⟩ := List.getElem_of_mem hn
      rw [hnam j hj (by omega)] at h; cases h
    have e1 : splitC r bill by_ parts numbers day = (0, goL [bill] by_ day NL) := by
      unfold splitC
      rw [hat]
      dsimp only
      rw [if_neg]
      · rw [hNL]
        simp [goL, List.map_map, Function.comp_def]
      · simp only [not_or, Decidable.not_not]
        exact ⟨by omega, by omega, g3, g4, g5, fun h => h g6⟩
    have hNok : ∀ b ∈ NL, b.Ok := by
      intro b hb
      rw [hNL] at hb
      obtain ⟨q, hq, rfl⟩ := List.mem_map.1 hb
      have hq' := List.of_mem_zip hq
      exact nextB_ok hxok (h3 _ hq'.2) (h4 _ hq'.1) (by intro y hy; rw [List.mem_singleton.1 hy]; exact h1)
    (repeat (first | refine cw_seq ?_ | refine cw_region ?_ | refine qw_then ?_ | refine cw_exit ?_ | refine qw_block_exit ?_ | refine qw_then_exit ?_))
    refine lw_load_agg hT rfl rfl rfl (vs := encR r.carrier (.slice (some ⟨bL, oL, none⟩) r.l.length cL)) (hb69.rd 0 2) ?_
    (repeat (refine lw_pure hT rfl ?_))
    refine lw_buildSlice sl31 rfl rfl rfl ?_
    intro b99 w10 hbb99 hb99 hx10 hs10
    have hx010 := hx09.trans hx10
    obtain ⟨go, co, hoe⟩ := own_slice hO.own (by omega)
    subst hoe
    (repeat (refine lw_pure hT rfl ?_))
    refine lw_call hT rfl rfl (r24_Go (hF0.ex hx010) hG hk hl (sls_of_blk (l := [bill]) hb99 (show (1 : Nat) ≤ maxLen by decide)) (by simp) (by intro n hn; rw [List.mem_singleton.1 hn]; exact h1) by_ h2 day (hBA.ex hx10) hNok) ?_
    rintro _ w11 ⟨⟨vL', gs', rfl, hF11⟩, hx11⟩
    have l010 := hx010.size
    have l910 := hx10.size
    have l23 := hx23.size
    (repeat (refine lw_pure hT rfl ?_))
    refine lw_store_agg hT rfl rfl rfl rfl (by intro v hv; simp [encR] at hv; rcases hv with rfl | rfl <;> first | rfl | exact Sl.one hF11.sl) ((hb129.ex hx10).ex hx11) (show (2 : Nat) ≤ 2 by decide) ?_
    intro w12 hb1212 hx12 hs12
    replace hb1212 : Blk w12 b12 (encR r.carrier vL') 28 := hb1212
    (repeat (first | refine lw_pure hT rfl ?_ | refine lw_nil ?_ | refine qw_then ?_ | refine cw_ret ?_))
    refine qw_ret_cell hT rfl rfl rfl rfl (vs := encR r.carrier vL') (hb1212.rd 0 2) rfl ⟨⟨vL', gs', by rw [e1]; rfl, ?_⟩, (hx010.trans hx11).up_new hx12 (fun i h => by omega)⟩
    rw [e1]
    refine (hF11.ext hx12 (fun b hb e => ?_)).weaken fun b hb => ?_
    · rcases hb with hb | hb
      · have := hb.2; omega
      · omega
    · rcases hb with hb | hb
      · exact .inl hb.1
      · exact .inr (by omega)
end Go.Proofs.YtnglkhnfmbnfeaaGreat
namespace Go.Proofs.YtnglkhnfmbnfeaaGreat
open Go Go.SK
theorem found_of {r : RegD} : ∀ {bills : List ByteArray}, (∀ n ∈ bills, r.at? n ≠ none) → ∃ es : List EntD, bills.map r.at? = es.map some
  | [], _ => ⟨[], rfl⟩
  | n :: bills, h => by
    obtain ⟨es, ih⟩ := found_of (bills := bills) fun m hm => h m (List.mem_cons_of_mem _ hm)
    cases hn : r.at? n with
    | none => exact absurd hn (h n List.mem_cons_self)
    | some e => exact ⟨e :: es, by rw [List.map_cons, List.map_cons, hn, ih]⟩
theorem flatMap_take {es : List EntD} {i : Nat} (hi : i < es.length) : (es.take (i + 1)).flatMap (fun y => y.bill.boxes) = (es.take i).flatMap (fun y => y.bill.boxes) ++ es[i].bill.boxes := by
  rw [List.take_succ_eq_append_getElem hi, List.flatMap_append, List.flatMap_singleton]
set_option maxRecDepth 20000 in
set_option maxHeartbeats 16000000 in
theorem r24_Join {A A2 : Nat → Prop} {w : World} {vL vn : Value} {k : Nat} {r : RegD} {gs : List FG} {bills : List ByteArray} (hF : FRep A w vL r.l gs) (hG : Good k r) (hk : k + 64 ≤ 1000000) (hl : r.l.length ≤ 256) (by_ number : ByteArray) (day : Int) (hN : SlS A2 w vn bills) (hNC : ∀ p n c, vn = .slice p n c → n ≤ c)
    (h1 : ∀ x ∈ bills, x.size ≤ maxLen) (h2 : by_.size ≤ maxLen) (h3 : number.size ≤ maxLen) :
    Ret Tryz.prog 51 [.agg ⟨encR r.carrier vL⟩, vn, .string by_, .string number, .int .i64 day] w fun v w' =>
      (∃ vL' gs', v = .tuple #[.agg ⟨encR r.carrier vL'⟩, .int .i64 (callC r (joinC r bills by_ number day))] ∧ FRep (fun b => A b ∨ w.heap.size ≤ b) w' vL' (callR r (joinC r bills by_ number day)).l gs') ∧ Ex w w' := by
  have hF0 := hF.lt
  obtain ⟨aL, cL, rfl, _⟩ := hF.slice
  obtain ⟨pn, cn, rfl, _, hnrow⟩ := hN.is
  have hnm := hN.small
  simp only [List.length_map] at *
  unfold maxLen at hnm
  refine ret_of Tryz.func51 Tryz.ntmps51 rfl rfl rfl ?_
  (repeat (first | refine cw_seq ?_ | refine cw_region ?_))
  refine lw_box rfl ?_
  intro b5 w1 hbb5 hb5 hx1 hs1
  replace hb5 : Blk w1 b5 (encR r.carrier (.slice aL r.l.length cL)) 28 := hb5
  skip
  refine lw_alloc z28 ?_
  intro b10 w2 hbb10 hb10 hx2 hs2
  have hx02 := hx1.trans hx2
  have hb52 := hb5.ex hx2
  have l02 := hx02.size
  have fin : ∀ {code : Int} {wa wb : World}, Ex w2 wa → Ext (· = b10) wa wb → callC r (joinC r bills by_ number day) = code → code ≠ 0 → (∃ vL' gs', oneOr [.agg ⟨encR r.carrier (.slice aL r.l.length cL)⟩, .int .i64 code] = .tuple #[.agg ⟨encR r.carrier vL'⟩, .int .i64 (callC r (joinC r bills by_ number day))] ∧ FRep (fun b => A b ∨ w.heap.size ≤ b) wb vL' (callR r (joinC r bills by_ number day)).l gs') ∧ Ex w wb := by
    intro code wa wb hx hxb hc hne
    have hx0 := hx02.trans hx
    refine ⟨⟨_, gs, by rw [hc]; rfl, by rw [callR_ne (by rw [hc]; exact hne)]; exact ((hF0.ex hx0).ext hxb (fun b hb e => by have := hb.2; omega)).weaken fun b hb => .inl hb.1⟩, hx0.up_new hxb (fun i h => by omega)⟩
  have hbad : (bills.length < 2 ∨ 64 < bills.length ∨ ¬ bills.Nodup) → callC r (joinC r bills by_ number day) = 1 := by
    intro h
    have e1 : joinC r bills by_ number day = (1, []) := by unfold joinC; rw [if_pos h]
    rw [e1]; rfl
  (repeat (first | refine lw_pure hT rfl ?_ | refine lw_nil ?_ | refine cw_seq ?_ | refine cw_region ?_ | refine qw_then ?_))
  refine lw_guard rfl (fun e => ?_) (fun e => ?_)
  · (repeat (first | refine lw_pure hT rfl ?_ | refine lw_nil ?_ | refine cw_seq ?_ | refine cw_region ?_ | refine qw_then ?_ | (refine lw_goff_t rfl ?_ ?_; focus with_reducible (first | rfl | exact Bool.not_false | exact Bool.not_true)) | (refine cw_cond_t rfl ?_ ?_; focus with_reducible (first | rfl | exact Bool.not_false | exact Bool.not_true))))
    refine lw_load_agg hT rfl rfl rfl (vs := encR r.carrier (.slice aL r.l.length cL)) (hb52.rd 0 2) ?_
    skip
    refine lw_store_agg hT rfl rfl rfl rfl (by intro v hv; simp [encR] at hv; rcases hv with rfl | rfl <;> first | rfl | exact Sl.one hF.sl) hb10 (show (2 : Nat) ≤ 2 by decide) ?_
    intro wZ hbZ hxZ hsZ
    replace hbZ : Blk wZ b10 (encR r.carrier (.slice aL r.l.length cL)) 28 := hbZ
    (repeat (first | refine lw_pure hT rfl ?_ | refine lw_nil ?_ | refine qw_then ?_ | refine cw_ret ?_ | refine qw_then_ret ?_))
    exact qw_ret_cell hT rfl rfl rfl rfl (vs := encR r.carrier (.slice aL r.l.length cL)) (hbZ.rd 0 2) rfl (fin (Ext.refl _ _) hxZ (hbad (.inl (by have := of_decide_eq_true e; omega))) (by decide))
  have g1 : 2 ≤ bills.length := by have := of_decide_eq_false e; omega
  (repeat (first | refine lw_pure hT rfl ?_ | (refine lw_gon_f rfl ?_ ?_; focus with_reducible (first | rfl | exact Bool.not_false | exact Bool.not_true))))
  refine lw_guard rfl (fun e => ?_) (fun e => ?_)
  · (repeat (first | refine lw_pure hT rfl ?_ | refine lw_nil ?_ | refine cw_seq ?_ | refine cw_region ?_ | refine qw_then ?_ | (refine lw_goff_t rfl ?_ ?_; focus with_reducible (first | rfl | exact Bool.not_false | exact Bool.not_true)) | (refine cw_cond_t rfl ?_ ?_; focus with_reducible (first | rfl | exact Bool.not_false | exact Bool.not_true))))
    refine lw_load_agg hT rfl rfl rfl (vs := encR r.carrier (.slice aL r.l.length cL)) (hb52.rd 0 2) ?_
    skip
    refine lw_store_agg hT rfl rfl rfl rfl (by intro v hv; simp [encR] at hv; rcases hv with rfl | rfl <;> first | rfl | exact Sl.one hF.sl) hb10 (show (2 : Nat) ≤ 2 by decide) ?_
    intro wZ hbZ hxZ hsZ
    replace hbZ : Blk wZ b10 (encR r.carrier (.slice aL r.l.length cL)) 28 := hbZ
    (repeat (first | refine lw_pure hT rfl ?_ | refine lw_nil ?_ | refine qw_then ?_ | refine cw_ret ?_ | refine qw_then_ret ?_))
    exact qw_ret_cell hT rfl rfl rfl rfl (vs := encR r.carrier (.slice aL r.l.length cL)) (hbZ.rd 0 2) rfl (fin (Ext.refl _ _) hxZ (hbad (.inr (.inl (by have := of_decide_eq_true e; omega)))) (by decide))
  have g2 : bills.length ≤ 64 := by have := of_decide_eq_false e; omega
  (repeat (first | refine lw_pure hT rfl ?_ | (refine lw_gon_f rfl ?_ ?_; focus with_reducible (first | rfl | exact Bool.not_false | exact Bool.not_true))))
  refine lw_call hT rfl rfl (r24_unlike (hN.ex hx02) hNC) ?_
  rintro _ w3 ⟨rfl, hx3⟩
  have hx03 := hx02.trans hx3
  have hb53 := hb52.ex hx3
  have hb103 := hb10.ex hx3
  (repeat (first | refine lw_pure hT rfl ?_ | refine lw_nil ?_ | refine qw_then ?_ | (refine lw_gon_f rfl ?_ ?_; focus with_reducible (first | rfl | exact Bool.not_false | exact Bool.not_true))))
  refine cw_cond rfl (fun e => ?_) (fun e => ?_)
  · (repeat (first | refine cw_seq ?_ | refine cw_region ?_))
    refine lw_load_agg hT rfl rfl rfl (vs := encR r.carrier (.slice aL r.l.length cL)) (hb53.rd 0 2) ?_
    skip
    refine lw_store_agg hT rfl rfl rfl rfl (by intro v hv; simp [encR] at hv; rcases hv with rfl | rfl <;> first | rfl | exact Sl.one hF.sl) hb103 (show (2 : Nat) ≤ 2 by decide) ?_
    intro wZ hbZ hxZ hsZ
    replace hbZ : Blk wZ b10 (encR r.carrier (.slice aL r.l.length cL)) 28 := hbZ
    (repeat (first | refine lw_pure hT rfl ?_ | refine lw_nil ?_ | refine qw_then ?_ | refine cw_ret ?_ | refine qw_then_ret ?_))
    exact qw_ret_cell hT rfl rfl rfl rfl (vs := encR r.carrier (.slice aL r.l.length cL)) (hbZ.rd 0 2) rfl (fin hx3 hxZ (hbad (.inr (.inr (by simpa using e)))) (by decide))
  have g3 : bills.Nodup := by simpa using e
  have hc0 : ¬ (bills.length < 2 ∨ 64 < bills.length ∨ ¬ bills.Nodup) := by simp only [not_or, Decidable.not_not]; exact ⟨by omega, by omega, g3⟩
  have hne : bills.map (fun s => [Value.string s]) ≠ [] := by intro e; simp at e; rw [e] at g1; simp at g1
  obtain ⟨bn, on, rfl, _, hnrd⟩ := hnrow hne
  have hni : ∀ i (hi : i < bills.length) (w' : World), Ex w w' → w'.cell? ⟨bn, on + i * 1, none⟩ = some (.string bills[i]) := fun i hi w' hx => by
    have := ((hnrd i [.string bills[i]] (by rw [List.getElem?_map, List.getElem?_eq_getElem hi]; rfl)).2.ex hx) 0 _ rfl
    exact this
  (repeat (first | refine lw_pure hT rfl ?_ | refine lw_nil ?_ | refine cw_seq ?_ | refine cw_region ?_ | refine qw_then ?_ | refine cw_skip ?_ | refine cw_block ?_))
  refine cw_loop (fun i : Nat => [(1, .slice (some ⟨bn, on, none⟩) bills.length cn), (2, .string by_), (3, .string number), (4, .int .i64 day), (5, pB b5), (10, pB b10), (12, .int .i64 (i : Nat))])
    (fun i w' => i ≤ bills.length ∧ Ex w3 w' ∧ ∀ j (hj : j < bills.length), j < i → r.at? bills[j] ≠ none) (fun i => bills.length - i) 0 (by repeat (first | exact trivial | refine ⟨rfl, ?_⟩)) ⟨Nat.zero_le _, Ext.refl _ _, fun j _ hj => by omega⟩ ?_
  rintro i w4 ⟨hi, hx34, hfnd⟩
  unfold pB
  have hx04 := hx03.trans hx34
  have hx24 := hx3.trans hx34
  have hb54 := hb53.ex hx34
  have hb104 := hb103.ex hx34
  (repeat (first | refine lw_pure hT rfl ?_ | refine lw_nil ?_ | refine cw_seq ?_ | refine cw_region ?_ | refine qw_then ?_))
  refine cw_cond rfl (fun e => ?_) (fun e => ?_)
  · have hlt : i < bills.length := by have := of_decide_eq_true e; omega
    (repeat (first | refine cw_seq ?_ | refine qw_then ?_ | refine cw_skip ?_ | refine cw_block ?_))
    refine cw_cut_any (α := Unit) (fun _ => [(1, .slice (some ⟨bn, on, none⟩) bills.length cn), (2, .string by_), (3, .string number), (4, .int .i64 day), (5, pB b5), (10, pB b10), (12, .int .i64 (i : Nat)), (43, .bool (decide (fidx (fun e => decide (e.bill.number = bills[i])) r.l < 0)))]) (fun _ w' => Ex w4 w') ?_ ?_
    · unfold pB
      refine cw_draw hM (fun w' => Ex w4 w') [] rfl rfl (by repeat with_reducible (first | refine nop_then ?_ | refine nop_block ?_ | exact nop_body)) (fun w5 hx5 _ => ⟨hx5, ?_⟩)
      refine rw_take 0 rfl rfl (by kernel_rfl) (by kernel_rfl) (by kernel_rfl) (by kernel_rfl) rfl (yo_load_agg hT rfl rfl rfl (vs := encR r.carrier (.slice aL r.l.length cL)) (fun w' hS => (hb54.ex hS).rd 0 2)) ?_
      (refine rw_takeP 1 rfl rfl (by kernel_rfl) (by kernel_rfl) (by kernel_rfl) (by kernel_rfl) rfl (yo_pure hT rfl) ?_; refine rw_takeP 2 rfl rfl (by kernel_rfl) (by kernel_rfl) (by kernel_rfl) (by kernel_rfl) rfl (yo_pure hT rfl) ?_)
      refine rw_takeP 3 rfl rfl (by kernel_rfl) (by kernel_rfl) (by kernel_rfl) (by kernel_rfl) rfl (yo_index hT rfl rfl rfl i rfl hlt) ?_
      refine rw_take 4 rfl rfl (by kernel_rfl) (by kernel_rfl) (by kernel_rfl) (by kernel_rfl) rfl (yo_load hT rfl rfl (v := .string bills[i]) (fun w' hS => hni i hlt w' (hx04.trans hS))) ?_
      refine rw_one 5 rfl (by kernel_rfl) rfl (fun hcl => ?_)
      refine lw_call hT rfl rfl (r23_Find r.carrier bills[i] ((hF0.ex hx04).ex hx5)) ?_
      rintro _ w6 ⟨rfl, hx6⟩
      (repeat (refine lw_nil ?_))
      refine qw_rw (by repeat with_reducible (first | refine nop_then ?_ | refine nop_block ?_ | exact nop_body)) hcl (fun _ => hx5.trans hx6) ?_
      (refine rw_takeP 6 rfl rfl (by kernel_rfl) (by kernel_rfl) (by kernel_rfl) (by kernel_rfl) rfl (yo_pure hT rfl) ?_)
      refine rw_done (by kernel_rfl) ?_
      exact qw_cut () (by repeat (first | exact trivial | refine ⟨rfl, ?_⟩)) (hx5.trans hx6)
    · rintro _ w6 hx46
      unfold pB
      have hx26 := hx24.trans hx46
      (repeat (refine qw_then ?_))
      refine cw_cond rfl (fun e => ?_) (fun e => ?_)
      · have hnone : r.at? bills[i] = none := by
          rcases fidx_at' r bills[i] with ⟨_, h⟩ | ⟨q, _, h, _⟩
          · exact h
          · have := of_decide_eq_true e; omega
        have e1 : joinC r bills by_ number day = (4, []) := by unfold joinC; rw [if_neg hc0, if_pos ⟨bills[i], List.getElem_mem hlt, hnone⟩]
        (repeat (first | refine cw_seq ?_ | refine cw_region ?_))
        refine lw_load_agg hT rfl rfl rfl (vs := encR r.carrier (.slice aL r.l.length cL)) ((hb54.ex hx46).rd 0 2) ?_
        skip
        refine lw_store_agg hT rfl rfl rfl rfl (by intro v hv; simp [encR] at hv; rcases hv with rfl | rfl <;> first | rfl | exact Sl.one hF.sl) (hb104.ex hx46) (show (2 : Nat) ≤ 2 by decide) ?_
        intro wZ hbZ hxZ hsZ
        replace hbZ : Blk wZ b10 (encR r.carrier (.slice aL r.l.length cL)) 28 := hbZ
        (repeat (first | refine lw_pure hT rfl ?_ | refine lw_nil ?_ | refine qw_then ?_ | refine cw_ret ?_ | refine qw_then_ret ?_ | refine qw_block_ret ?_))
        exact qw_ret_cell hT rfl rfl rfl rfl (vs := encR r.carrier (.slice aL r.l.length cL)) (hbZ.rd 0 2) rfl (fin hx26 hxZ (by rw [e1]; rfl) (by decide))
      · have hsome : r.at? bills[i] ≠ none := by
          rcases fidx_at' r bills[i] with ⟨h, _⟩ | ⟨q, hq, _, h⟩
          · have := of_decide_eq_false e; omega
          · rw [h]; simp
        (repeat (first | (refine lw_add rfl rfl ?_ ?_ ?_; iterate 2 omega) | refine lw_pure hT rfl ?_ | refine lw_nil ?_ | refine cw_region ?_ | refine qw_then ?_ | refine cw_skip ?_ | refine qw_block ?_))
        refine qw_round (i + 1) (by repeat (first | exact trivial | refine ⟨rfl, ?_⟩)) ⟨hlt, hx34.trans hx46, fun j hj hji => ?_⟩ (by omega)
        by_cases ej : j = i
        · subst ej; exact hsome
        · exact hfnd j hj (by omega)
  have hil' : i = bills.length := by have := of_decide_eq_false e; omega
  subst hil'
  obtain ⟨es, hfound⟩ := found_of (r := r) (bills := bills) fun n hn => by
    obtain ⟨j, hj, rfl⟩ := List.getElem_of_mem hn
    exact hfnd j hj hj
  have hesl := found_len hfound
  have hfilt := found_filter hfound
  have hesat : ∀ j (hj : j < bills.length), r.at? bills[j] = some (es[j]'(by omega)) := fun j hj => by
    have := congrArg (·[j]?) hfound
    simp only [List.getElem?_map, List.getElem?_eq_getElem hj, List.getElem?_eq_getElem (show j < es.length by omega), Option.map_some, Option.some.injEq] at this
    exact this
  have hesok : ∀ e ∈ es, e ∈ r.l := fun e he => by
    obtain ⟨n, _, hn⟩ := found_mem hfound he
    exact at_mem hn
  have hes64 : ∀ e ∈ es, e.bill.boxes.length ≤ 64 := fun e he => (may_len (hG.ent e (hesok e he)).may).1
  have hfb := flat_boxes_le hes64
  obtain ⟨x, xs, hxs⟩ : ∃ x xs, es = x :: xs := by
    cases es with
    | nil => simp at hesl; omega
    | cons x xs => exact ⟨x, xs, rfl⟩
  have hx0e : es[0]'(by omega) = x := by simp [hxs]
  have hxok := (hG.ent x (hesok x (by rw [hxs]; simp))).ok
  -- where a bill's cells lie
  have row : ∀ j (hj : j < bills.length), ∃ (q : Nat) (g : FG) (bL oL cap : Nat), q < r.l.length ∧ fidx (fun e => decide (e.bill.number = bills[j])) r.l = q ∧ Value.slice aL r.l.length cL = .slice (some ⟨bL, oL, none⟩) r.l.length cap ∧ (∀ w', Ex w w' → Rd w' bL (oL + q * 11) (encB (es[j]'(by omega)).bill g.vb g.vp)) ∧ SlS (fun b => A b ∧ b < w.heap.size) w g.vb (es[j]'(by omega)).bill.boxes ∧ g.vb.oneCell' = true ∧ g.vp.oneCell' = true := by
    intro j hj
    have hat := hesat j hj
    rcases fidx_at' r bills[j] with ⟨_, h⟩ | ⟨q, hq, hf, h⟩
    · rw [h] at hat; cases hat
    · rw [h] at hat
      have hqe := Option.some.inj hat
      obtain ⟨x2, g, bL, oL, cap, hxl, hgl, heq, hrd, hE⟩ := hF0.row hq
      have hx2 : x2 = es[j]'(by omega) := by rw [List.getElem?_eq_getElem hq, hqe] at hxl; exact (Option.some.inj hxl).symm
      subst hx2
      refine ⟨q, g, bL, oL, cap, hq, hf, heq, fun w' hx i v hi => ?_, hE.boxes, Sl.one hE.boxes, Sl.one hE.parents⟩
      exact (hrd.ex hx) i v (by simp only [entF]; rw [List.getElem?_append_left (List.getElem?_eq_some_iff.1 hi).1]; exact hi)
  obtain ⟨q0, g0, bL, oL, cap, hq0, hf0, heq, hrd0, hsb0, o1, o2⟩ := row 0 (by omega)
  simp only [Value.slice.injEq] at heq
  obtain ⟨rfl, _, rfl⟩ := heq
  rw [hx0e] at hrd0 hsb0
  (repeat (first | refine cw_seq ?_ | refine qw_then ?_ | refine cw_exit ?_ | refine qw_block_exit ?_ | refine qw_then_exit ?_))
  refine cw_cut_any (α := Nat) (fun z => [(1, .slice (some ⟨bn, on, none⟩) bills.length cn), (2, .string by_), (3, .string number), (4, .int .i64 day), (5, pB b5), (10, pB b10), (13, pB z)]) (fun z w' => Ex w4 w' ∧ Blk w' z (encB x.bill g0.vb g0.vp) 33) ?_ ?_
  · unfold pB
    refine cw_draw hM (fun w' => Ex w4 w') [] rfl rfl (by repeat with_reducible (first | refine nop_then ?_ | refine nop_block ?_ | exact nop_body)) (fun w5 hx5 _ => ⟨hx5, ?_⟩)
    (refine rw_takeP 0 rfl rfl (by kernel_rfl) (by kernel_rfl) (by kernel_rfl) (by kernel_rfl) rfl (yo_pure hT rfl) ?_)
    refine rw_take 1 rfl rfl (by kernel_rfl) (by kernel_rfl) (by kernel_rfl) (by kernel_rfl) rfl (yo_load hT rfl rfl (v := .slice (some ⟨bL, oL, none⟩) r.l.length cL) (fun w' hS => (hb54.ex hS).cell 1)) ?_
    refine rw_take 2 rfl rfl (by kernel_rfl) (by kernel_rfl) (by kernel_rfl) (by kernel_rfl) rfl (yo_load_agg hT rfl rfl rfl (vs := encR r.carrier (.slice (some ⟨bL, oL, none⟩) r.l.length cL)) (fun w' hS => (hb54.ex hS).rd 0 2)) ?_
    (refine rw_takeP 3 rfl rfl (by kernel_rfl) (by kernel_rfl) (by kernel_rfl) (by kernel_rfl) rfl (yo_pure hT rfl) ?_)
    refine rw_takeP 4 rfl rfl (by kernel_rfl) (by kernel_rfl) (by kernel_rfl) (by kernel_rfl) rfl (yo_index hT rfl rfl rfl 0 rfl (show 0 < bills.length by omega)) ?_
    refine rw_take 5 rfl rfl (by kernel_rfl) (by kernel_rfl) (by kernel_rfl) (by kernel_rfl) rfl (yo_load hT rfl rfl (v := .string bills[0]) (fun w' hS => hni 0 (by omega) w' (hx04.trans hS))) ?_
    refine rw_two 6 10 rfl rfl (by kernel_rfl) rfl rfl (fun hcl => ?_) (fun hcl => ?_)
    · refine lw_call hT rfl rfl (r23_Find r.carrier bills[0] ((hF0.ex hx04).ex hx5)) ?_
      rintro _ w6 ⟨rfl, hx6⟩
      have hx46 := hx5.trans hx6
      rw [hf0]
      (repeat (refine lw_nil ?_))
      refine qw_rw (by repeat with_reducible (first | refine nop_then ?_ | refine nop_block ?_ | exact nop_body)) hcl (fun _ => hx46) ?_
      refine rw_takeP 7 rfl rfl (by kernel_rfl) (by kernel_rfl) (by kernel_rfl) (by kernel_rfl) rfl (yo_index hT rfl rfl rfl q0 rfl hq0) ?_
      (refine rw_takeP 8 rfl rfl (by kernel_rfl) (by kernel_rfl) (by kernel_rfl) (by kernel_rfl) rfl (yo_pure hT rfl) ?_)
      refine rw_take 9 rfl rfl (by kernel_rfl) (by kernel_rfl) (by kernel_rfl) (by kernel_rfl) rfl (yo_load_agg hT rfl rfl rfl (vs := encB x.bill g0.vb g0.vp) (fun w' hS => hrd0 w' (hx04.trans hS))) ?_
      refine rw_one 10 rfl (by kernel_rfl) rfl (fun hcl => ?_)
      refine lw_alloc z33 ?_
      intro b13 w7 hbb13 hb13 hx7 hs7
      have hx47 := hx46.trans hx7
      (repeat (refine lw_nil ?_))
      refine qw_rw (by repeat with_reducible (first | refine nop_then ?_ | refine nop_block ?_ | exact nop_body)) hcl (fun _ => hx47) ?_
      refine rw_one 11 rfl (by kernel_rfl) rfl (fun hcl => ?_)
      refine lw_store_agg hT rfl rfl rfl rfl (encB_one (A := fun _ => True) (w := w) o1 o2) hb13 (show (9 : Nat) ≤ 9 by decide) ?_
      intro w8 hb138 hx8 hs8
      have hx68 : Ex w6 w8 := hx7.up_new hx8 (fun i h => by omega)
      (repeat (refine lw_nil ?_))
      refine qw_rw (by repeat with_reducible (first | refine nop_then ?_ | refine nop_block ?_ | exact nop_body)) hcl (fun _ => hx46.trans hx68) ?_
      refine rw_done (by kernel_rfl) ?_
      exact qw_cut b13 (by repeat (first | exact trivial | refine ⟨rfl, ?_⟩)) ⟨hx46.trans hx68, hb138⟩
    · refine lw_alloc z33 ?_
      intro b13 w6 hbb13 hb13 hx6 hs6
      have hx46 := hx5.trans hx6
      (repeat (refine lw_nil ?_))
      refine qw_rw (by repeat with_reducible (first | refine nop_then ?_ | refine nop_block ?_ | exact nop_body)) hcl (fun _ => hx46) ?_
      refine rw_one 6 rfl (by kernel_rfl) rfl (fun hcl => ?_)
      refine lw_call hT rfl rfl (r23_Find r.carrier bills[0] ((hF0.ex hx04).ex hx46)) ?_
      rintro _ w7 ⟨rfl, hx7⟩
      have hx47 := hx46.trans hx7
      rw [hf0]
      (repeat (refine lw_nil ?_))
      refine qw_rw (by repeat with_reducible (first | refine nop_then ?_ | refine nop_block ?_ | exact nop_body)) hcl (fun _ => hx47) ?_
      refine rw_takeP 7 rfl rfl (by kernel_rfl) (by kernel_rfl) (by kernel_rfl) (by kernel_rfl) rfl (yo_index hT rfl rfl rfl q0 rfl hq0) ?_
      (refine rw_takeP 8 rfl rfl (by kernel_rfl) (by kernel_rfl) (by kernel_rfl) (by kernel_rfl) rfl (yo_pure hT rfl) ?_)
      refine rw_take 9 rfl rfl (by kernel_rfl) (by kernel_rfl) (by kernel_rfl) (by kernel_rfl) rfl (yo_load_agg hT rfl rfl rfl (vs := encB x.bill g0.vb g0.vp) (fun w' hS => hrd0 w' (hx04.trans hS))) ?_
      refine rw_one 11 rfl (by kernel_rfl) rfl (fun hcl => ?_)
      refine lw_store_agg hT rfl rfl rfl rfl (encB_one (A := fun _ => True) (w := w) o1 o2) (hb13.ex hx7) (show (9 : Nat) ≤ 9 by decide) ?_
      intro w8 hb138 hx8 hs8
      have l5 := hx5.size
      have hx48 : Ex w4 w8 := hx47.up_new hx8 (fun i h => by omega)
      (repeat (refine lw_nil ?_))
      refine qw_rw (by repeat with_reducible (first | refine nop_then ?_ | refine nop_block ?_ | exact nop_body)) hcl (fun _ => hx48) ?_
      refine rw_done (by kernel_rfl) ?_
      exact qw_cut b13 (by repeat (first | exact trivial | refine ⟨rfl, ?_⟩)) ⟨hx48, hb138⟩
  rintro b13 w5 ⟨hx45, hb13⟩
  unfold pB
  have hx05 := hx04.trans hx45
  have hx25 := hx24.trans hx45
  have hb55 := hb54.ex hx45
  have hb105 := hb104.ex hx45
  have l05 := hx05.size
  (repeat (first | refine cw_seq ?_ | refine cw_region ?_ | refine qw_then ?_))
  refine lw_buildSlice sl31 rfl rfl rfl ?_
  intro b14 w6 hbb14 hb14 hx6 hs6
  (repeat (first | refine lw_pure hT rfl ?_ | refine lw_nil ?_ | refine cw_seq ?_ | refine cw_region ?_ | refine qw_then ?_ | refine cw_block ?_))
  refine cw_loop (fun z : Nat × Value => [(1, .slice (some ⟨bn, on, none⟩) bills.length cn), (2, .string by_), (3, .string number), (4, .int .i64 day), (5, pB b5), (10, pB b10), (13, pB b13), (14, z.2), (15, .int .i64 (z.1 : Nat))])
    (fun z w' => z.1 ≤ bills.length ∧ Ex w5 w' ∧ w'.ownsRow w5.heap.size 9 1 z.2 ((es.take z.1).flatMap fun y => y.bill.boxes).length (((es.take z.1).flatMap fun y => y.bill.boxes).map Value.string) ∧ ∀ y ∈ es.take z.1, sameB x.bill y.bill) (fun z => bills.length - z.1) (0, .slice (some ⟨b14, 0, none⟩) 0 0) (by repeat (first | exact trivial | refine ⟨rfl, ?_⟩))
    ⟨Nat.zero_le _, hx6, own_lit hb14 (by omega) rfl (by decide), fun y hy => by simp at hy⟩ ?_
  rintro ⟨i, bv⟩ w7 ⟨hi, hx57, hown, hsame⟩
  dsimp only at hi hown hsame ⊢
  unfold pB
  have hx07 := hx05.trans hx57
  have hx27 := hx25.trans hx57
  have hb57 := hb55.ex hx57
  have hb107 := hb105.ex hx57
  have hb137 := hb13.ex hx57
  have hfbi : ((es.take i).flatMap fun y => y.bill.boxes).length ≤ 64 * i := by
    have := flat_boxes_le (es := es.take i) fun e he => hes64 e (List.mem_of_mem_take he)
    rw [List.length_take] at this
    omega
  (repeat (first | refine lw_pure hT rfl ?_ | refine lw_nil ?_ | refine cw_seq ?_ | refine cw_region ?_ | refine qw_then ?_))
  refine cw_cond rfl (fun e => ?_) (fun e => ?_)
  · have hlt : i < bills.length := by have := of_decide_eq_true e; omega
    have hlte : i < es.length := by omega
    obtain ⟨q, g, bL', oL', cap', hq, hf, heq, hrd, hsb, o3, o4⟩ := row i hlt
    simp only [Value.slice.injEq, Option.some.injEq, Addr.mk.injEq, and_true] at heq
    obtain ⟨⟨rfl, rfl⟩, _, _⟩ := heq
    have hft := flatMap_take hlte
    have htk : es.take (i + 1) = es.take i ++ [es[i]] := List.take_succ_eq_append_getElem hlte
    have hym : es[i] ∈ es := List.getElem_mem hlte
    generalize es[i] = y at hrd hsb hft htk hym
    have hy64 := hes64 y hym
    have badS : ¬ sameB x.bill y.bill → callC r (joinC r bills by_ number day) = 12 := by
      intro hns
      have h4 : ¬ ∃ n ∈ bills, r.at? n = none := by
        rintro ⟨n, hn, e⟩
        obtain ⟨j, hj, rfl⟩ := List.getElem_of_mem hn
        rw [hesat j hj] at e; cases e
      have hy : y ∈ xs := by
        rw [hxs] at hym
        rcases List.mem_cons.1 hym with rfl | h
        · exact absurd ⟨rfl, rfl, rfl, rfl⟩ hns
        · exact h
      have e1 : joinC r bills by_ number day = (12, []) := by
        unfold joinC
        rw [if_neg hc0, if_neg h4, hfilt, hxs]
        dsimp only
        rw [if_pos ⟨y, hy, hns⟩]
      rw [e1]; rfl
    (repeat (first | refine cw_seq ?_ | refine qw_then ?_ | refine cw_skip ?_ | refine cw_block ?_))
    refine cw_cut_any (α := Nat) (fun z => [(1, .slice (some ⟨bn, on, none⟩) bills.length cn), (2, .string by_), (3, .string number), (4, .int .i64 day), (5, pB b5), (10, pB b10), (13, pB b13), (14, bv), (15, .int .i64 (i : Nat)), (16, pB z)]) (fun z w' => Ex w7 w' ∧ Blk w' z (encB y.bill g.vb g.vp) 33) ?_ ?_
    · unfold pB
      refine cw_draw hM (fun w' => Ex w7 w') [] rfl rfl (by repeat with_reducible (first | refine nop_then ?_ | refine nop_block ?_ | exact nop_body)) (fun w8 hx8 _ => ⟨hx8, ?_⟩)
      (refine rw_takeP 0 rfl rfl (by kernel_rfl) (by kernel_rfl) (by kernel_rfl) (by kernel_rfl) rfl (yo_pure hT rfl) ?_)
      refine rw_take 1 rfl rfl (by kernel_rfl) (by kernel_rfl) (by kernel_rfl) (by kernel_rfl) rfl (yo_load hT rfl rfl (v := .slice (some ⟨bL, oL, none⟩) r.l.length cL) (fun w' hS => (hb57.ex hS).cell 1)) ?_
      refine rw_take 2 rfl rfl (by kernel_rfl) (by kernel_rfl) (by kernel_rfl) (by kernel_rfl) rfl (yo_load_agg hT rfl rfl rfl (vs := encR r.carrier (.slice (some ⟨bL, oL, none⟩) r.l.length cL)) (fun w' hS => (hb57.ex hS).rd 0 2)) ?_
      (refine rw_takeP 3 rfl rfl (by kernel_rfl) (by kernel_rfl) (by kernel_rfl) (by kernel_rfl) rfl (yo_pure hT rfl) ?_; refine rw_takeP 4 rfl rfl (by kernel_rfl) (by kernel_rfl) (by kernel_rfl) (by kernel_rfl) rfl (yo_pure hT rfl) ?_)
      refine rw_takeP 5 rfl rfl (by kernel_rfl) (by kernel_rfl) (by kernel_rfl) (by kernel_rfl) rfl (yo_index hT rfl rfl rfl i rfl hlt) ?_
      refine rw_take 6 rfl rfl (by kernel_rfl) (by kernel_rfl) (by kernel_rfl) (by kernel_rfl) rfl (yo_load hT rfl rfl (v := .string bills[i]) (fun w' hS => hni i hlt w' (hx07.trans hS))) ?_
      refine rw_two 7 11 rfl rfl (by kernel_rfl) rfl rfl (fun hcl => ?_) (fun hcl => ?_)
      · refine lw_call hT rfl rfl (r23_Find r.carrier bills[i] ((hF0.ex hx07).ex hx8)) ?_
        rintro _ w9 ⟨rfl, hx9⟩
        have hx79 := hx8.trans hx9
        rw [hf]
        (repeat (refine lw_nil ?_))
        refine qw_rw (by repeat with_reducible (first | refine nop_then ?_ | refine nop_block ?_ | exact nop_body)) hcl (fun _ => hx79) ?_
        refine rw_takeP 8 rfl rfl (by kernel_rfl) (by kernel_rfl) (by kernel_rfl) (by kernel_rfl) rfl (yo_index hT rfl rfl rfl q rfl hq) ?_
        (refine rw_takeP 9 rfl rfl (by kernel_rfl) (by kernel_rfl) (by kernel_rfl) (by kernel_rfl) rfl (yo_pure hT rfl) ?_)
        refine rw_take 10 rfl rfl (by kernel_rfl) (by kernel_rfl) (by kernel_rfl) (by kernel_rfl) rfl (yo_load_agg hT rfl rfl rfl (vs := encB y.bill g.vb g.vp) (fun w' hS => hrd w' (hx07.trans hS))) ?_
        refine rw_one 11 rfl (by kernel_rfl) rfl (fun hcl => ?_)
        refine lw_alloc z33 ?_
        intro b16 w10 hbb16 hb16 hx10 hs10
        have hx710 := hx79.trans hx10
        (repeat (refine lw_nil ?_))
        refine qw_rw (by repeat with_reducible (first | refine nop_then ?_ | refine nop_block ?_ | exact nop_body)) hcl (fun _ => hx710) ?_
        refine rw_one 12 rfl (by kernel_rfl) rfl (fun hcl => ?_)
        refine lw_store_agg hT rfl rfl rfl rfl (encB_one (A := fun _ => True) (w := w) o3 o4) hb16 (show (9 : Nat) ≤ 9 by decide) ?_
        intro w11 hb1611 hx11 hs11
        have hx911 : Ex w9 w11 := hx10.up_new hx11 (fun i h => by omega)
        (repeat (refine lw_nil ?_))
        refine qw_rw (by repeat with_reducible (first | refine nop_then ?_ | refine nop_block ?_ | exact nop_body)) hcl (fun _ => hx79.trans hx911) ?_
        refine rw_done (by kernel_rfl) ?_
        exact qw_cut b16 (by repeat (first | exact trivial | refine ⟨rfl, ?_⟩)) ⟨hx79.trans hx911, hb1611⟩
      · refine lw_alloc z33 ?_
        intro b16 w9 hbb16 hb16 hx9 hs9
        have hx79 := hx8.trans hx9
        (repeat (refine lw_nil ?_))
        refine qw_rw (by repeat with_reducible (first | refine nop_then ?_ | refine nop_block ?_ | exact nop_body)) hcl (fun _ => hx79) ?_
        refine rw_one 7 rfl (by kernel_rfl) rfl (fun hcl => ?_)
        refine lw_call hT rfl rfl (r23_Find r.carrier bills[i] ((hF0.ex hx07).ex hx79)) ?_
        rintro _ w10 ⟨rfl, hx10⟩
        have hx710 := hx79.trans hx10
        rw [hf]
        (repeat (refine lw_nil ?_))
        refine qw_rw (by repeat with_reducible (first | refine nop_then ?_ | refine nop_block ?_ | exact nop_body)) hcl (fun _ => hx710) ?_
        refine rw_takeP 8 rfl rfl (by kernel_rfl) (by kernel_rfl) (by kernel_rfl) (by kernel_rfl) rfl (yo_index hT rfl rfl rfl q rfl hq) ?_
        (refine rw_takeP 9 rfl rfl (by kernel_rfl) (by kernel_rfl) (by kernel_rfl) (by kernel_rfl) rfl (yo_pure hT rfl) ?_)
        refine rw_take 10 rfl rfl (by kernel_rfl) (by kernel_rfl) (by kernel_rfl) (by kernel_rfl) rfl (yo_load_agg hT rfl rfl rfl (vs := encB y.bill g.vb g.vp) (fun w' hS => hrd w' (hx07.trans hS))) ?_
        refine rw_one 12 rfl (by kernel_rfl) rfl (fun hcl => ?_)
        refine lw_store_agg hT rfl rfl rfl rfl (encB_one (A := fun _ => True) (w := w) o3 o4) (hb16.ex hx10) (show (9 : Nat) ≤ 9 by decide) ?_
        intro w11 hb1611 hx11 hs11
        have l8 := hx8.size
        have hx711 : Ex w7 w11 := hx710.up_new hx11 (fun i h => by omega)
        (repeat (refine lw_nil ?_))
        refine qw_rw (by repeat with_reducible (first | refine nop_then ?_ | refine nop_block ?_ | exact nop_body)) hcl (fun _ => hx711) ?_
        refine rw_done (by kernel_rfl) ?_
        exact qw_cut b16 (by repeat (first | exact trivial | refine ⟨rfl, ?_⟩)) ⟨hx711, hb1611⟩
    · rintro b16 w8 ⟨hx78, hb16⟩
      unfold pB
      have hb138 := hb137.ex hx78
      have hx28 := hx27.trans hx78
      (repeat (first | refine lw_pure hT rfl ?_ | refine cw_seq ?_ | refine cw_region ?_ | refine qw_then ?_))
      refine lw_load hT rfl rfl (v := .string y.bill.shipper) (hb16.cell 2) ?_
      (repeat (refine lw_pure hT rfl ?_))
      refine lw_load hT rfl rfl (v := .string x.bill.shipper) (hb138.cell 2) ?_
      (repeat (refine lw_pure hT rfl ?_))
      refine lw_guard rfl (fun e1 => ?_) (fun e1 => ?_)
      · (repeat (first | refine lw_pure hT rfl ?_ | refine lw_nil ?_ | refine cw_seq ?_ | refine cw_region ?_ | refine qw_then ?_ | (refine lw_goff_t rfl ?_ ?_; focus with_reducible (first | rfl | exact Bool.not_false | exact Bool.not_true)) | (refine cw_cond_t rfl ?_ ?_; focus with_reducible (first | rfl | exact Bool.not_false | exact Bool.not_true))))
        refine lw_load_agg hT rfl rfl rfl (vs := encR r.carrier (.slice (some ⟨bL, oL, none⟩) r.l.length cL)) ((hb57.ex hx78).rd 0 2) ?_
        skip
        refine lw_store_agg hT rfl rfl rfl rfl (by intro v hv; simp [encR] at hv; rcases hv with rfl | rfl <;> first | rfl | exact Sl.one hF.sl) (hb107.ex hx78) (show (2 : Nat) ≤ 2 by decide) ?_
        intro wZ hbZ hxZ hsZ
        replace hbZ : Blk wZ b10 (encR r.carrier (.slice (some ⟨bL, oL, none⟩) r.l.length cL)) 28 := hbZ
        (repeat (first | refine lw_pure hT rfl ?_ | refine lw_nil ?_ | refine qw_then ?_ | refine cw_ret ?_ | refine qw_then_ret ?_ | refine qw_block_ret ?_))
        exact qw_ret_cell hT rfl rfl rfl rfl (vs := encR r.carrier (.slice (some ⟨bL, oL, none⟩) r.l.length cL)) (hbZ.rd 0 2) rfl (fin hx28 hxZ (badS (fun h => absurd h.1 (by simpa using e1))) (by decide))
      have e1 : y.bill.shipper = x.bill.shipper := by simpa using e1
      (repeat (first | refine lw_pure hT rfl ?_ | (refine lw_gon_f rfl ?_ ?_; focus with_reducible (first | rfl | exact Bool.not_false | exact Bool.not_true))))
      refine lw_load hT rfl rfl (v := .string y.bill.frm) (hb16.cell 3) ?_
      (repeat (first | refine lw_pure hT rfl ?_ | (refine lw_gon_f rfl ?_ ?_; focus with_reducible (first | rfl | exact Bool.not_false | exact Bool.not_true))))
      refine lw_load hT rfl rfl (v := .string x.bill.frm) (hb138.cell 3) ?_
      (repeat (first | refine lw_pure hT rfl ?_ | (refine lw_gon_f rfl ?_ ?_; focus with_reducible (first | rfl | exact Bool.not_false | exact Bool.not_true))))
      refine lw_guard rfl (fun e2 => ?_) (fun e2 => ?_)
      · (repeat (first | refine lw_pure hT rfl ?_ | refine lw_nil ?_ | refine cw_seq ?_ | refine cw_region ?_ | refine qw_then ?_ | (refine lw_goff_t rfl ?_ ?_; focus with_reducible (first | rfl | exact Bool.not_false | exact Bool.not_true)) | (refine cw_cond_t rfl ?_ ?_; focus with_reducible (first | rfl | exact Bool.not_false | exact Bool.not_true))))
        refine lw_load_agg hT rfl rfl rfl (vs := encR r.carrier (.slice (some ⟨bL, oL, none⟩) r.l.length cL)) ((hb57.ex hx78).rd 0 2) ?_
        skip
        refine lw_store_agg hT rfl rfl rfl rfl (by intro v hv; simp [encR] at hv; rcases hv with rfl | rfl <;> first | rfl | exact Sl.one hF.sl) (hb107.ex hx78) (show (2 : Nat) ≤ 2 by decide) ?_
        intro wZ hbZ hxZ hsZ
        replace hbZ : Blk wZ b10 (encR r.carrier (.slice (some ⟨bL, oL, none⟩) r.l.length cL)) 28 := hbZ
        (repeat (first | refine lw_pure hT rfl ?_ | refine lw_nil ?_ | refine qw_then ?_ | refine cw_ret ?_ | refine qw_then_ret ?_ | refine qw_block_ret ?_))
        exact qw_ret_cell hT rfl rfl rfl rfl (vs := encR r.carrier (.slice (some ⟨bL, oL, none⟩) r.l.length cL)) (hbZ.rd 0 2) rfl (fin hx28 hxZ (badS (fun h => absurd h.2.1 (by simpa using e2))) (by decide))
      have e2 : y.bill.frm = x.bill.frm := by simpa using e2
      (repeat (first | refine lw_pure hT rfl ?_ | (refine lw_gon_f rfl ?_ ?_; focus with_reducible (first | rfl | exact Bool.not_false | exact Bool.not_true))))
      refine lw_load hT rfl rfl (v := .string y.bill.to_) (hb16.cell 4) ?_
      (repeat (first | refine lw_pure hT rfl ?_ | (refine lw_gon_f rfl ?_ ?_; focus with_reducible (first | rfl | exact Bool.not_false | exact Bool.not_true))))
      refine lw_load hT rfl rfl (v := .string x.bill.to_) (hb138.cell 4) ?_
      (repeat (first | refine lw_pure hT rfl ?_ | (refine lw_gon_f rfl ?_ ?_; focus with_reducible (first | rfl | exact Bool.not_false | exact Bool.not_true))))
      refine lw_guard rfl (fun e3 => ?_) (fun e3 => ?_)
      · (repeat (first | refine lw_pure hT rfl ?_ | refine lw_nil ?_ | refine cw_seq ?_ | refine cw_region ?_ | refine qw_then ?_ | (refine lw_goff_t rfl ?_ ?_; focus with_reducible (first | rfl | exact Bool.not_false | exact Bool.not_true)) | (refine cw_cond_t rfl ?_ ?_; focus with_reducible (first | rfl | exact Bool.not_false | exact Bool.not_true))))
        refine lw_load_agg hT rfl rfl rfl (vs := encR r.carrier (.slice (some ⟨bL, oL, none⟩) r.l.length cL)) ((hb57.ex hx78).rd 0 2) ?_
        skip
        refine lw_store_agg hT rfl rfl rfl rfl (by intro v hv; simp [encR] at hv; rcases hv with rfl | rfl <;> first | rfl | exact Sl.one hF.sl) (hb107.ex hx78) (show (2 : Nat) ≤ 2 by decide) ?_
        intro wZ hbZ hxZ hsZ
        replace hbZ : Blk wZ b10 (encR r.carrier (.slice (some ⟨bL, oL, none⟩) r.l.length cL)) 28 := hbZ
        (repeat (first | refine lw_pure hT rfl ?_ | refine lw_nil ?_ | refine qw_then ?_ | refine cw_ret ?_ | refine qw_then_ret ?_ | refine qw_block_ret ?_))
        exact qw_ret_cell hT rfl rfl rfl rfl (vs := encR r.carrier (.slice (some ⟨bL, oL, none⟩) r.l.length cL)) (hbZ.rd 0 2) rfl (fin hx28 hxZ (badS (fun h => absurd h.2.2.1 (by simpa using e3))) (by decide))
      have e3 : y.bill.to_ = x.bill.to_ := by simpa using e3
      (repeat (first | refine lw_pure hT rfl ?_ | (refine lw_gon_f rfl ?_ ?_; focus with_reducible (first | rfl | exact Bool.not_false | exact Bool.not_true))))
      refine lw_load hT rfl rfl (v := .bool y.bill.clean) (hb16.cell 8) ?_
      (repeat (first | refine lw_pure hT rfl ?_ | (refine lw_gon_f rfl ?_ ?_; focus with_reducible (first | rfl | exact Bool.not_false | exact Bool.not_true))))
      refine lw_load hT rfl rfl (v := .bool x.bill.clean) (hb138.cell 8) ?_
      refine lw_gon_f rfl rfl ?_
      refine lw_neq_bool (by kernel_rfl) rfl rfl ?_
      (repeat (first | refine lw_pure hT rfl ?_ | refine lw_nil ?_ | refine qw_then ?_))
      refine cw_cond rfl (fun e4 => ?_) (fun e4 => ?_)
      · (repeat (first | refine cw_seq ?_ | refine cw_region ?_))
        refine lw_load_agg hT rfl rfl rfl (vs := encR r.carrier (.slice (some ⟨bL, oL, none⟩) r.l.length cL)) ((hb57.ex hx78).rd 0 2) ?_
        skip
        refine lw_store_agg hT rfl rfl rfl rfl (by intro v hv; simp [encR] at hv; rcases hv with rfl | rfl <;> first | rfl | exact Sl.one hF.sl) (hb107.ex hx78) (show (2 : Nat) ≤ 2 by decide) ?_
        intro wZ hbZ hxZ hsZ
        replace hbZ : Blk wZ b10 (encR r.carrier (.slice (some ⟨bL, oL, none⟩) r.l.length cL)) 28 := hbZ
        (repeat (first | refine lw_pure hT rfl ?_ | refine lw_nil ?_ | refine qw_then ?_ | refine cw_ret ?_ | refine qw_then_ret ?_ | refine qw_block_ret ?_))
        exact qw_ret_cell hT rfl rfl rfl rfl (vs := encR r.carrier (.slice (some ⟨bL, oL, none⟩) r.l.length cL)) (hbZ.rd 0 2) rfl (fin hx28 hxZ (badS (fun h => by rw [h.2.2.2] at e4; simp at e4)) (by decide))
      have e4 : y.bill.clean = x.bill.clean := by simpa using e4
      (repeat (first | refine lw_pure hT rfl ?_ | refine cw_region ?_ | refine qw_then ?_ | refine cw_skip ?_))
      refine lw_load hT rfl rfl (v := g.vb) (hb16.cell 5) ?_
      skip
      refine lw_append_sl (rows := y.bill.boxes.map fun s => [Value.string s]) (A := fun _ => True) sl31 (by decide) rfl (own_ex hown hx78) rfl ((hsb.ex (hx07.trans hx78)).weaken fun _ _ => trivial) (by intro r hr x hx; simp at hr; obtain ⟨y, _, rfl⟩ := hr; simp at hx; subst hx; rfl) (by unfold maxLen; simp only [List.length_map]; omega) (by simp only [List.length_map]; omega) (by have := (hx57.trans hx78).size; omega) ?_
      intro bv' w9 k1 k2 k3 k4
      (repeat (first | (refine lw_add rfl rfl ?_ ?_ ?_; iterate 2 omega) | refine lw_pure hT rfl ?_ | refine lw_nil ?_ | refine cw_region ?_ | refine qw_then ?_ | refine qw_block ?_))
      refine qw_round (x := (i, bv)) (i + 1, bv') (by repeat (first | exact trivial | refine ⟨rfl, ?_⟩)) ⟨hlt, (hx57.trans hx78).up_new k2 (fun b hb => (own_base hown hb.symm).1), ?_, fun z hz => ?_⟩ (by show bills.length - (i + 1) < bills.length - i; omega)
      · rw [flat4, List.length_map] at k1
        rw [hft, List.length_append, List.map_append]
        exact k1
      · rw [htk] at hz
        rcases List.mem_append.1 hz with hz | hz
        · exact hsame z hz
        · rw [List.mem_singleton.1 hz]; exact ⟨e1, e2, e3, e4⟩
  · have hil' : i = bills.length := by have := of_decide_eq_false e; omega
    subst hil'
    rw [← hesl, List.take_length] at hown hsame
    obtain ⟨bx, hbx⟩ : ∃ bx, bx = es.flatMap fun y => y.bill.boxes := ⟨_, rfl⟩
    rw [← hbx] at hown
    have h4 : ¬ ∃ n ∈ bills, r.at? n = none := by
      rintro ⟨n, hn, e⟩
      obtain ⟨j, hj, rfl⟩ := List.getElem_of_mem hn
      rw [hesat j hj] at e; cases e
    obtain ⟨b0, hb0⟩ : ∃ b0, b0 = nextB x.bill number bx bills day := ⟨_, rfl⟩
    have e1 : joinC r bills by_ number day = (0, goL bills by_ day [b0]) := by
      unfold joinC
      rw [if_neg hc0, if_neg h4, hfilt, hxs]
      dsimp only
      rw [if_neg (fun ⟨y, hy, hns⟩ => hns (hsame y (by rw [hxs]; exact List.mem_cons_of_mem _ hy))), ← hxs, ← hbx, hb0]
      rfl
    have hbok : ∀ b ∈ [b0], b.Ok := by
      intro b hb
      rw [List.mem_singleton.1 hb, hb0]
      refine nextB_ok hxok h3 (fun z hz => ?_) h1
      rw [hbx] at hz
      obtain ⟨y, hy, hz⟩ := List.mem_flatMap.1 hz
      exact (hG.ent y (hesok y hy)).ok.boxes z hz
    obtain ⟨ab, cb, rfl⟩ := own_slice0 hown
    have hcapb := own_cap hown
    (repeat (first | refine cw_seq ?_ | refine cw_region ?_ | refine qw_then ?_ | refine cw_exit ?_ | refine qw_block_exit ?_ | refine qw_then_exit ?_))
    refine lw_load_agg hT rfl rfl rfl (vs := encR r.carrier (.slice (some ⟨bL, oL, none⟩) r.l.length cL)) (hb57.rd 0 2) ?_
    (repeat (refine lw_pure hT rfl ?_))
    refine lw_load hT rfl rfl (v := .string x.bill.carrier) (hb137.cell 1) ?_
    (repeat (refine lw_pure hT rfl ?_))
    refine lw_load hT rfl rfl (v := .string x.bill.shipper) (hb137.cell 2) ?_
    (repeat (refine lw_pure hT rfl ?_))
    refine lw_load hT rfl rfl (v := .string x.bill.frm) (hb137.cell 3) ?_
    (repeat (refine lw_pure hT rfl ?_))
    refine lw_load hT rfl rfl (v := .string x.bill.to_) (hb137.cell 4) ?_
    (repeat (refine lw_pure hT rfl ?_))
    refine lw_load hT rfl rfl (v := .bool x.bill.clean) (hb137.cell 8) ?_
    (repeat (refine lw_pure hT rfl ?_))
    refine lw_build bt33 rfl ?_
    skip
    refine lw_buildSlice sl103 rfl rfl rfl ?_
    intro b23 w8 hbb23 hb23 hx8 hs8
    replace hb23 : Blk w8 b23 (encB b0 (.slice ab bx.length cb) (.slice (some ⟨bn, on, none⟩) bills.length cn)) 33 := by rw [hb0]; exact hb23
    have hx08 := hx07.trans hx8
    have hbx8 : SlS (fun _ => True) w8 (.slice ab bx.length cb) b0.boxes := by rw [hb0]; exact sls_own (own_ex hown hx8) fun _ _ => trivial
    have hpr8 : SlS A2 w8 (.slice (some ⟨bn, on, none⟩) bills.length cn) b0.parents := by rw [hb0]; exact hN.ex hx08
    skip
    refine lw_call hT rfl rfl (r24_Go (hF0.ex hx08) hG hk hl (hN.ex hx08) g2 h1 by_ h2 day (bills_one hb23 hbx8 hpr8 hcapb) hbok) ?_
    rintro _ w9 ⟨⟨vL', gs', rfl, hF9⟩, hx9⟩
    have l08 := hx08.size
    have l78 := hx8.size
    have l27 := hx27.size
    (repeat (refine lw_pure hT rfl ?_))
    refine lw_store_agg hT rfl rfl rfl rfl (by intro v hv; simp [encR] at hv; rcases hv with rfl | rfl <;> first | rfl | exact Sl.one hF9.sl) ((hb107.ex hx8).ex hx9) (show (2 : Nat) ≤ 2 by decide) ?_
    intro w10 hb1010 hx10 hs10
    replace hb1010 : Blk w10 b10 (encR r.carrier vL') 28 := hb1010
    (repeat (first | refine lw_pure hT rfl ?_ | refine lw_nil ?_ | refine qw_then ?_ | refine cw_ret ?_))
    refine qw_ret_cell hT rfl rfl rfl rfl (vs := encR r.carrier vL') (hb1010.rd 0 2) rfl ⟨⟨vL', gs', by rw [e1]; rfl, ?_⟩, (hx08.trans hx9).up_new hx10 (fun i h => by omega)⟩
    rw [e1]
    refine (hF9.ext hx10 (fun b hb e => ?_)).weaken fun b hb => ?_
    · rcases hb with hb | hb
      · have := hb.2; omega
      · omega
    · rcases hb with hb | hb
      · exact .inl hb.1
      · exact .inr (by omega)
end Go.Proofs.YtnglkhnfmbnfeaaGreat
namespace Go.Proofs.YtnglkhnfmbnfeaaGreat
open Go Go.SK
set_option maxHeartbeats 4000000 in
theorem l24_want {A B : Nat → Prop} {w : World} {vL vp vn : Value} {k : Nat} {r : RegD} {gs : List FG} {a : SActD} (hF : FRep A w vL r.l gs) (hG : Good k r) (hk : k + 64 ≤ 1000000) (hl : r.l.length ≤ 256) (hat : SActAt B w a vp vn) (hf : FewA a) :
    Ret Tryz.prog 23 [.agg ⟨encR r.carrier vL⟩, .agg ⟨encS a vp vn⟩] w fun v w' =>
      (∃ vL' gs', v = .tuple #[.agg ⟨encR r.carrier vL'⟩, .int .i64 (callC r (callD r a))] ∧ FRep (fun b => A b ∨ w.heap.size ≤ b) w' vL' (callR r (callD r a)).l gs') ∧ Ex w w' := by
  have hF0 := hF.lt
  obtain ⟨aL, cL, rfl, _⟩ := hF.slice
  have o6 : vp.oneCell' = true := by obtain ⟨p, c, e, _⟩ := hat.parts.is; rw [e]; rfl
  have o7 : vn.oneCell' = true := Sl.one hat.names
  refine ret_of Tryz.func23 Tryz.ntmps23 rfl rfl rfl ?_
  (repeat (first | refine cw_seq ?_ | refine cw_region ?_))
  refine lw_box rfl ?_
  intro b2 w1 hbb2 hb2 hx1 hs1
  replace hb2 : Blk w1 b2 (encR r.carrier (.slice aL r.l.length cL)) 28 := hb2
  skip
  refine lw_box rfl ?_
  intro b3 w2 hbb3 hb3 hx2 hs2
  replace hb3 : Blk w2 b3 (encS a vp vn) 45 := hb3
  skip
  refine lw_alloc z28 ?_
  intro b4 w3 hbb4 hb4 hx3 hs3
  have hx03 := (hx1.trans hx2).trans hx3
  replace hb2 := (hb2.ex hx2).ex hx3
  replace hb3 := hb3.ex hx3
  have hF3 := hF0.ex hx03
  have hat3 := hat.ex hx03
  have l03 := hx03.size
  have fin : ∀ {c : Int × List ActD} {w4 w5 : World} {vL' : Value} {gs' : List FG}, callD r a = c → FRep (fun b => (A b ∧ b < w.heap.size) ∨ w3.heap.size ≤ b) w4 vL' (callR r c).l gs' → Ex w3 w4 → Ext (· = b4) w4 w5 → (∃ vL'' gs'', oneOr [.agg ⟨encR r.carrier vL'⟩, .int .i64 (callC r c)] = .tuple #[.agg ⟨encR r.carrier vL''⟩, .int .i64 (callC r (callD r a))] ∧ FRep (fun b => A b ∨ w.heap.size ≤ b) w5 vL'' (callR r (callD r a)).l gs'') ∧ Ex w w5 := by
    intro c w4 w5 vL' gs' e h4 hx4 hx5
    have l34 := hx4.size
    rw [e]
    refine ⟨⟨vL', gs', rfl, (h4.ext hx5 (fun b hb e => ?_)).weaken fun b hb => ?_⟩, (hx03.trans hx4).up_new hx5 (fun i h => by omega)⟩
    · rcases hb with hb | hb
      · have := hb.2; omega
      · omega
    · rcases hb with hb | hb
      · exact .inl hb.1
      · exact .inr (by omega)
  (repeat (first | refine lw_pure hT rfl ?_ | refine lw_nil ?_ | refine cw_seq ?_ | refine cw_region ?_ | refine qw_then ?_))
  refine lw_load hT rfl rfl (v := .int .u8 a.kind) (hb3.cell 0) ?_
  skip
  refine lw_rem8 rfl rfl (by decide) ?_
  (repeat (first | refine lw_pure hT rfl ?_ | refine lw_nil ?_ | refine cw_seq ?_ | refine cw_region ?_ | refine qw_then ?_ | refine cw_block ?_))
  refine cw_cond rfl (fun h0 => ?_) (fun h0 => ?_)
  · have h0 : a.kind.tmod 3 = 0 := by simpa using h0
    have e : callD r a = splitC r a.bill a.by_ a.parts a.names a.day := by unfold callD; rw [if_pos h0]
    (repeat (first | refine cw_seq ?_ | refine cw_region ?_))
    refine lw_load_agg hT rfl rfl rfl (vs := encR r.carrier (.slice aL r.l.length cL)) (hb2.rd 0 2) ?_
    (repeat (refine lw_pure hT rfl ?_))
    refine lw_load hT rfl rfl (v := .string a.bill) (hb3.cell 1) ?_
    (repeat (refine lw_pure hT rfl ?_))
    refine lw_load hT rfl rfl (v := .string a.by_) (hb3.cell 2) ?_
    (repeat (refine lw_pure hT rfl ?_))
    refine lw_load hT rfl rfl (v := vp) (hb3.cell 6) ?_
    (repeat (refine lw_pure hT rfl ?_))
    refine lw_load hT rfl rfl (v := vn) (hb3.cell 7) ?_
    (repeat (refine lw_pure hT rfl ?_))
    refine lw_load hT rfl rfl (v := .int .i64 a.day) (hb3.cell 8) ?_
    skip
    refine lw_call hT rfl rfl (r24_Split hF3 hG hk hl a.bill a.by_ a.day hat3.parts hat3.cap hat3.names hat.ncap hat.ok.bill hat.ok.by_ hat.ok.names hat.ok.parts (fun q hq => by have := hf.2.2 q hq; omega) (by have := hf.1; omega)) ?_
    rintro _ w4 ⟨⟨vL', gs', rfl, hF4⟩, hx4⟩
    (repeat (refine lw_pure hT rfl ?_))
    refine lw_store_agg hT rfl rfl rfl rfl (by intro v hv; simp [encR] at hv; rcases hv with rfl | rfl <;> first | rfl | exact Sl.one hF4.sl) (hb4.ex hx4) (show (2 : Nat) ≤ 2 by decide) ?_
    intro w5 hb5 hx5 hs5
    replace hb5 : Blk w5 b4 (encR r.carrier vL') 28 := hb5
    (repeat (first | refine lw_pure hT rfl ?_ | refine lw_nil ?_ | refine qw_then ?_ | refine cw_ret ?_ | refine qw_then_ret ?_ | refine qw_block_ret ?_))
    exact qw_ret_cell hT rfl rfl rfl rfl (vs := encR r.carrier vL') (hb5.rd 0 2) rfl (fin e hF4 hx4 hx5)
  have h0 : ¬ a.kind.tmod 3 = 0 := by simpa using h0
  (repeat (first | refine lw_pure hT rfl ?_ | refine lw_nil ?_ | refine cw_seq ?_ | refine cw_region ?_ | refine qw_then ?_))
  refine cw_cond rfl (fun h1 => ?_) (fun h1 => ?_)
  · have h1 : a.kind.tmod 3 = 1 := by simpa using h1
    have e : callD r a = joinC r a.names a.by_ a.number a.day := by unfold callD; rw [if_neg h0, if_pos h1]
    (repeat (first | refine cw_seq ?_ | refine cw_region ?_))
    refine lw_load_agg hT rfl rfl rfl (vs := encR r.carrier (.slice aL r.l.length cL)) (hb2.rd 0 2) ?_
    (repeat (refine lw_pure hT rfl ?_))
    refine lw_load hT rfl rfl (v := vn) (hb3.cell 7) ?_
    (repeat (refine lw_pure hT rfl ?_))
    refine lw_load hT rfl rfl (v := .string a.by_) (hb3.cell 2) ?_
    (repeat (refine lw_pure hT rfl ?_))
    refine lw_load hT rfl rfl (v := .string a.number) (hb3.cell 3) ?_
    (repeat (refine lw_pure hT rfl ?_))
    refine lw_load hT rfl rfl (v := .int .i64 a.day) (hb3.cell 8) ?_
    skip
    refine lw_call hT rfl rfl (r24_Join hF3 hG hk hl a.by_ a.number a.day hat3.names hat.ncap hat.ok.names hat.ok.by_ hat.ok.number) ?_
    rintro _ w4 ⟨⟨vL', gs', rfl, hF4⟩, hx4⟩
    (repeat (refine lw_pure hT rfl ?_))
    refine lw_store_agg hT rfl rfl rfl rfl (by intro v hv; simp [encR] at hv; rcases hv with rfl | rfl <;> first | rfl | exact Sl.one hF4.sl) (hb4.ex hx4) (show (2 : Nat) ≤ 2 by decide) ?_
    intro w5 hb5 hx5 hs5
    replace hb5 : Blk w5 b4 (encR r.carrier vL') 28 := hb5
    (repeat (first | refine lw_pure hT rfl ?_ | refine lw_nil ?_ | refine qw_then ?_ | refine cw_ret ?_ | refine qw_then_ret ?_ | refine qw_block_ret ?_))
    exact qw_ret_cell hT rfl rfl rfl rfl (vs := encR r.carrier vL') (hb5.rd 0 2) rfl (fin e hF4 hx4 hx5)
  · have h1 : ¬ a.kind.tmod 3 = 1 := by simpa using h1
    have e : callD r a = switchC r a.bill a.by_ a.number a.shipper a.frm a.day := by unfold callD; rw [if_neg h0, if_neg h1]
    (repeat (first | refine cw_seq ?_ | refine cw_region ?_ | refine qw_then ?_ | refine cw_skip ?_ | refine qw_block ?_))
    refine lw_load_agg hT rfl rfl rfl (vs := encR r.carrier (.slice aL r.l.length cL)) (hb2.rd 0 2) ?_
    (repeat (refine lw_pure hT rfl ?_))
    refine lw_load hT rfl rfl (v := .string a.bill) (hb3.cell 1) ?_
    (repeat (refine lw_pure hT rfl ?_))
    refine lw_load hT rfl rfl (v := .string a.by_) (hb3.cell 2) ?_
    (repeat (refine lw_pure hT rfl ?_))
    refine lw_load hT rfl rfl (v := .string a.number) (hb3.cell 3) ?_
    (repeat (refine lw_pure hT rfl ?_))
    refine lw_load hT rfl rfl (v := .string a.shipper) (hb3.cell 4) ?_
    (repeat (refine lw_pure hT rfl ?_))
    refine lw_load hT rfl rfl (v := .string a.frm) (hb3.cell 5) ?_
    (repeat (refine lw_pure hT rfl ?_))
    refine lw_load hT rfl rfl (v := .int .i64 a.day) (hb3.cell 8) ?_
    skip
    refine lw_call hT rfl rfl (r24_Switch hF3 hG hk hl a.bill a.by_ a.number a.shipper a.frm a.day hat.ok.bill hat.ok.by_ hat.ok.number hat.ok.shipper hat.ok.frm) ?_
    rintro _ w4 ⟨⟨vL', gs', rfl, hF4⟩, hx4⟩
    (repeat (refine lw_pure hT rfl ?_))
    refine lw_store_agg hT rfl rfl rfl rfl (by intro v hv; simp [encR] at hv; rcases hv with rfl | rfl <;> first | rfl | exact Sl.one hF4.sl) (hb4.ex hx4) (show (2 : Nat) ≤ 2 by decide) ?_
    intro w5 hb5 hx5 hs5
    replace hb5 : Blk w5 b4 (encR r.carrier vL') 28 := hb5
    (repeat (first | refine lw_pure hT rfl ?_ | refine lw_nil ?_ | refine qw_then ?_ | refine cw_ret ?_))
    exact qw_ret_cell hT rfl rfl rfl rfl (vs := encR r.carrier vL') (hb5.rd 0 2) rfl (fin e hF4 hx4 hx5)
end Go.Proofs.YtnglkhnfmbnfeaaGreat
