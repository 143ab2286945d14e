/- Contracts of register.Of, and of supercargoref23.Full and Same (of a bill and itself). -/
import Derived.Test.YtfbjpfgglgffgaaGreatHb
set_option linter.unusedVariables false
set_option linter.unusedSimpArgs false
set_option linter.unusedSectionVars false
set_option linter.unnecessarySimpa false
namespace Go.SK
open Go
attribute [local semireducible] CW LW QW Ret Kn
section
variable {P : Program} {T : Tab} {n : Nat} {fr : Fr} {w : World} {Q : Exit → Act → World → Prop} {ops : Array Oper} {rest : List Oper}
theorem lw_lookup_some {d t e b : Nat} {z v : Value} {es : List (ByteArray × Value)} {ks : ByteArray} {x y : Operand} {ty : TypeId} {ps : String} {af : Array Edge} (hM : MpT P t e z) (hx : ev n fr x = some (.map (some b))) (hy : ev n fr y = some (.string ks)) (hm : Mp w b es) (hg : mget es ks = some v)
    (k : LW P ops Q rest n ((d, v) :: fr) w) :
    LW P ops Q ({ dst := some d, op := .lookup t x y false, type := ty, pos := ps, after := af, guard := none } :: rest) n fr w :=
  lw_lookup hM hx hy hm (by rw [hg]; exact k)
end
end Go.SK
namespace Go.Proofs.YtfbjpfgglgffgaaGreat
open Go Go.SK
section
variable {w : World} {p : Nat} {r : RegD} {m : Nat} {gs : List GhostE}
theorem reg_Of1 (q : PapD × Value) (b : Nat) (who : ByteArray) (w : World) (hb : w.cell? ⟨b, 0, none⟩ = some (.string who)) : Ret Tryz.prog 79 ([] ++ [.agg ⟨papRow q⟩] ++ [.pointer (some ⟨b, 0, none⟩)]) w fun v w' =>
    v = .bool (decide (q.1.state = 0) && decide (q.1.holder = who)) ∧ Ex w w' := by
  refine ret_of Tryz.func79 Tryz.ntmps79 rfl rfl rfl ?_
  (repeat (first | refine cw_seq ?_ | refine cw_region ?_))
  refine lw_box rfl ?_
  intro bq w1 hbq hb1 hx1 hs1
  replace hb1 : Blk w1 bq (papRow q) 85 := hb1
  (repeat (first | refine lw_pure hT rfl ?_ | refine lw_nil ?_ | refine cw_seq ?_ | refine cw_region ?_ | refine qw_then ?_))
  refine lw_load hT rfl rfl (v := .int .i64 q.1.state) (hb1.cell 0) ?_
  (repeat (refine lw_pure hT rfl ?_))
  refine lw_guard rfl (fun h => ?_) (fun h => ?_)
  · (repeat (first | refine lw_pure hT rfl ?_ | (refine lw_gon_t rfl ?_ ?_; focus (first | with_reducible rfl | with_reducible exact Bool.not_false | with_reducible exact Bool.not_true))))
    refine lw_load hT rfl rfl (v := .string q.1.holder) (hb1.cell 1) ?_
    (repeat (refine lw_gon_t rfl ?_ ?_; focus (first | with_reducible rfl | with_reducible exact Bool.not_false | with_reducible exact Bool.not_true)))
    refine lw_load hT rfl rfl (v := .string who) (Ex.cell hx1 hb) ?_
    (repeat (first | refine lw_pure hT rfl ?_ | refine lw_nil ?_ | refine qw_then ?_ | refine cw_ret ?_ | (refine lw_gon_t rfl ?_ ?_; focus (first | with_reducible rfl | with_reducible exact Bool.not_false | with_reducible exact Bool.not_true))))
    exact qw_ret rfl ⟨by rw [h]; rfl, hx1⟩
  · (repeat (first | refine lw_pure hT rfl ?_ | refine lw_nil ?_ | refine qw_then ?_ | refine cw_ret ?_ | (refine lw_goff_f rfl ?_ ?_; focus (first | with_reducible rfl | with_reducible exact Bool.not_false | with_reducible exact Bool.not_true))))
    exact qw_ret rfl ⟨by rw [h]; rfl, hx1⟩
def OfR (r : RegD) (who : ByteArray) (N : Nat) (w' : World) (v : Value) : Prop := ∃ L, Rising L ∧ L.Perm r.nums ∧ w'.ownsRow N 9 1 v (L.filter (r.holdsN who)).length ((L.filter (r.holdsN who)).map Value.string)
set_option maxHeartbeats 1000000 in
theorem reg_Of (hR : Rep w p r m gs) (hsz : ∀ e ∈ r.l, e.bill.number.size ≤ maxLen) (hl : r.l.length ≤ 256) (who : ByteArray) : Ret Tryz.prog 49 [.pointer (some ⟨p, 0, none⟩), .string who] w fun v w' => OfR r who w.heap.size w' v ∧ Ex w w' := by
  obtain ⟨es, hmp, hpm⟩ := hR.map
  refine ret_of Tryz.func49 Tryz.ntmps49 rfl rfl rfl ?_
  (repeat (first | refine cw_seq ?_ | refine cw_region ?_))
  refine lw_box rfl ?_
  intro bq w1 hbq hb1 hx1 hs1
  replace hb1 : Blk w1 bq [.string who] 9 := hb1
  (repeat (first | refine lw_pure hT rfl ?_ | refine lw_nil ?_ | refine cw_seq ?_ | refine cw_region ?_ | refine qw_then ?_))
  refine lw_call hT rfl rfl (reg_Bills (hR.ex hx1) hsz hl) ?_
  rintro vb w2 ⟨⟨L, hL1, hL2, hown⟩, hx2⟩
  have hx02 := hx1.trans hx2
  have hLl : L.length ≤ 256 := by have := hL2.length_eq; simp [RegD.nums] at this; omega
  have hsl : SlS (fun _ => True) w2 vb L := sls_own hown fun _ _ => trivial
  obtain ⟨a2, c2, rfl, _, hr2⟩ := hsl.is
  simp only [List.length_map] at *
  have hb12 := hb1.ex hx2
  (repeat (first | refine lw_pure hT rfl ?_ | refine lw_nil ?_ | refine qw_then ?_ | refine cw_block ?_))
  refine cw_loop (fun z : Nat × Value => [(0, .pointer (some ⟨p, 0, none⟩)), (3, .pointer (some ⟨bq, 0, none⟩)), (5, z.2), (10, .slice a2 L.length c2), (11, .int .i64 (L.length : Nat)), (12, .int .i64 (z.1 : Nat))])
    (fun z w' => z.1 ≤ L.length ∧ Ex w2 w' ∧ w'.ownsRow w2.heap.size 9 1 z.2 ((L.take z.1).filter (r.holdsN who)).length (((L.take z.1).filter (r.holdsN who)).map Value.string)) (fun z => L.length - z.1) (0, .slice none 0 0) (by repeat (first | exact trivial | refine ⟨rfl, ?_⟩)) ⟨Nat.zero_le _, Ext.refl _ _, ⟨rfl, .inl ⟨rfl, rfl⟩⟩⟩ ?_
  rintro ⟨i, u⟩ w3 ⟨hi, hx3, hu⟩
  dsimp only at hi hu ⊢
  have hx03 := hx02.trans hx3
  (repeat (first | refine lw_pure hT rfl ?_ | refine lw_nil ?_ | refine cw_seq ?_ | refine cw_region ?_ | refine qw_then ?_))
  refine cw_cond rfl (fun e => ?_) (fun e => ?_)
  · have hlt : i < L.length := by have := of_decide_eq_true e; omega
    have hne : L.map (fun s => [Value.string s]) ≠ [] := by intro e; simp at e; rw [e] at hlt; simp at hlt
    obtain ⟨bb, oo, rfl, _, hrd2⟩ := hr2 hne
    have hri := (hrd2 i [.string L[i]] (by simp [hlt])).2.ex hx3
    generalize hn : L[i] = num at hri
    have hmem : num ∈ r.nums := hL2.mem_iff.1 (hn ▸ List.getElem_mem hlt)
    have etake : L.take (i + 1) = L.take i ++ [num] := by rw [List.take_succ_eq_append_getElem hlt, hn]
    have hfl := List.length_filter_le (r.holdsN who) (L.take i)
    rw [List.length_take] at hfl
    rcases hR.at num with ⟨h1, _⟩ | ⟨ix, x, g, hA⟩
    · exfalso
      obtain ⟨y, hy, hyn⟩ := List.mem_map.1 hmem
      exact at_none h1 y hy hyn.symm
    have hE := hR.ents ix x g hA.l hA.gi
    have hh : r.holdsN who num = x.holds who := by unfold RegD.holdsN; rw [hA.at_]
    have no : x.holds who = false → w3.ownsRow w2.heap.size 9 1 u ((L.take (i + 1)).filter (r.holdsN who)).length (((L.take (i + 1)).filter (r.holdsN who)).map Value.string) := by
      intro h
      rw [etake, List.filter_append]
      simpa [List.filter_cons, hh, h] using hu
    (repeat (first | refine cw_seq ?_ | refine cw_region ?_ | refine qw_then ?_ | refine cw_skip ?_ | refine cw_block ?_))
    refine lw_index hT rfl rfl rfl i rfl hlt ?_
    skip
    refine lw_load hT rfl rfl (v := .string num) (hri 0 _ rfl) ?_
    (repeat (first | refine lw_pure hT rfl ?_ | refine lw_nil ?_ | refine cw_seq ?_ | refine cw_region ?_ | refine qw_then ?_))
    refine lw_load hT rfl rfl (v := .map (some m)) (Ex.cell hx03 (hR.blk.cell 1)) ?_
    (repeat (refine lw_pure hT rfl ?_))
    refine lw_lookup_some mp78 rfl rfl (hmp.ex hx03) ((hR.get hpm _).trans hA.get) ?_
    (repeat (first | refine lw_pure hT rfl ?_ | refine lw_nil ?_ | refine cw_seq ?_ | refine cw_region ?_ | refine qw_then ?_))
    refine lw_load hT rfl rfl (v := .int .i64 x.state) (Ex.cell hx03 (hE.blk.cell 9)) ?_
    (repeat (refine lw_pure hT rfl ?_))
    refine lw_guard rfl (fun h => ?_) (fun h => ?_)
    · (repeat (first | refine lw_pure hT rfl ?_ | (refine lw_gon_t rfl ?_ ?_; focus (first | with_reducible rfl | with_reducible exact Bool.not_false | with_reducible exact Bool.not_true))))
      refine lw_slice_arr hT rfl rfl ?_
      (repeat (first | refine lw_pure hT rfl ?_ | (refine lw_gon_t rfl ?_ ?_; focus (first | with_reducible rfl | with_reducible exact Bool.not_false | with_reducible exact Bool.not_true))))
      refine lw_call hT rfl rfl (cnf_pap papRow (fun q => .agg ⟨papRow q⟩) (fun _ => rfl) (fun q => decide (q.1.state = 0) && decide (q.1.holder = who)) (fi := []) (cp := [.pointer (some ⟨bq, 0, none⟩)]) w3 ((papers_sl hE).ex hx03) rfl
        (fun q _ w4 hx4 => reg_Of1 q bq who w4 (Ex.cell (hx3.trans hx4) (hb12.cell 0)))) ?_
      rintro _ w4 ⟨rfl, hx4⟩
      rw [zip_any (fun q => decide (q.state = 0) && decide (q.holder = who)) hE.three hE.three']
      have eh : x.holds who = (x.ps.any fun q => decide (q.state = 0) && decide (q.holder = who)) := by unfold EntD.holds; rw [h, Bool.true_and]
      rw [← eh]
      have hu4 := own_ex hu hx4
      (repeat (first | refine lw_pure hT rfl ?_ | refine lw_nil ?_ | refine qw_then ?_))
      refine cw_cond rfl (fun h' => ?_) (fun h' => ?_)
      · (repeat (first | refine lw_pure hT rfl ?_ | refine cw_region ?_))
        refine lw_buildSlice sl32 rfl rfl rfl ?_
        intro b5 w5 hbb5 hb5 hx5 hs5
        skip
        refine lw_append sl32 (by decide) rfl (own_ex hu4 hx5) rfl (hb5.rd 0 1) rfl (by intro v hv; simp at hv; subst hv; rfl) (by unfold maxLen; omega) (by omega) (by have := ((hx3.trans hx4).trans hx5).size; omega) ?_
        intro u6 w6 k1 k2 k3 k4
        (repeat (first | (refine lw_add rfl rfl ?_ ?_ ?_; iterate 2 omega) | refine lw_pure hT rfl ?_ | refine lw_nil ?_ | refine cw_region ?_ | refine qw_then ?_ | refine qw_block ?_))
        refine qw_round (x := (i, u)) (i + 1, u6) (by repeat (first | exact trivial | refine ⟨rfl, ?_⟩)) ⟨hlt, ?_, ?_⟩ (by show L.length - (i + 1) < L.length - i; omega)
        · exact ((hx3.trans hx4).trans hx5).up_new k2 (fun k hk => (own_base hu hk.symm).1)
        · rw [etake, List.filter_append]
          simpa [List.filter_cons, hh, h'] using k1
      · (repeat (first | (refine lw_add rfl rfl ?_ ?_ ?_; iterate 2 omega) | refine lw_pure hT rfl ?_ | refine lw_nil ?_ | refine cw_region ?_ | refine qw_then ?_ | refine cw_skip ?_ | refine qw_block ?_))
        exact qw_round (x := (i, u)) (i + 1, u) (by repeat (first | exact trivial | refine ⟨rfl, ?_⟩)) ⟨hlt, hx3.trans hx4, own_ex (no h') hx4⟩ (by show L.length - (i + 1) < L.length - i; omega)
    · (repeat (first | (refine lw_add rfl rfl ?_ ?_ ?_; iterate 2 omega) | refine lw_pure hT rfl ?_ | refine lw_nil ?_ | refine cw_region ?_ | refine qw_then ?_ | refine cw_skip ?_ | (refine lw_goff_f rfl ?_ ?_; focus (first | with_reducible rfl | with_reducible exact Bool.not_false | with_reducible exact Bool.not_true)) | refine qw_block ?_ | (refine cw_cond_f rfl ?_ ?_; focus (first | with_reducible rfl | with_reducible exact Bool.not_false | with_reducible exact Bool.not_true))))
      exact qw_round (x := (i, u)) (i + 1, u) (by repeat (first | exact trivial | refine ⟨rfl, ?_⟩)) ⟨hlt, hx3, no (by unfold EntD.holds; rw [h, Bool.false_and])⟩ (by show L.length - (i + 1) < L.length - i; omega)
  · have : i = L.length := by have := of_decide_eq_false e; omega
    subst this
    rw [List.take_length] at hu
    (repeat (first | refine lw_pure hT rfl ?_ | refine lw_nil ?_ | refine cw_seq ?_ | refine cw_region ?_ | refine qw_then ?_ | refine cw_ret ?_ | refine cw_exit ?_ | refine qw_block_exit ?_ | refine qw_then_exit ?_))
    exact qw_ret rfl ⟨⟨L, hL1, hL2, own_mono hu hx02.size⟩, hx03⟩
end
theorem full_at {x : EntD} (h3 : x.ps.length = 3) {who : ByteArray} : x.full who = (decide (x.state = 0) && ((x.ps.take 3).all fun q => decide (q.state = 0) && decide (q.holder = who))) := by
  have e : x.ps.take 3 = x.ps := by rw [← h3]; exact List.take_length
  rw [e]
  unfold EntD.full
  congr 1
  rw [Bool.eq_iff_iff]
  simp only [Bool.not_eq_true', List.any_eq_false, List.all_eq_true, Bool.or_eq_true, Bool.and_eq_true, decide_eq_true_eq, not_or, ne_eq, Decidable.not_not]
set_option maxHeartbeats 1000000 in
theorem r23_Full {A : Nat → Prop} {w : World} {vL : Value} {l : List EntD} {gs : List FG} (c num who : ByteArray) (hF : FRep A w vL l gs) : Ret Tryz.prog 52 [.agg ⟨encR c vL⟩, .string num, .string who] w fun v w' => v = .bool (RegD.fullOf ⟨c, l⟩ num who) ∧ Ex w w' := by
  have hF0 := hF
  obtain ⟨aL, cL, hvL, hLm⟩ := hF.slice
  subst hvL
  refine ret_of Tryz.func52 Tryz.ntmps52 rfl rfl rfl ?_
  (repeat (first | refine cw_seq ?_ | refine cw_region ?_))
  refine lw_box rfl ?_
  intro b3 w1 hbb3 hb3 hx1 hs1
  replace hb3 : Blk w1 b3 (encR c (.slice aL l.length cL)) 28 := hb3
  (repeat (first | refine lw_pure hT rfl ?_ | refine lw_nil ?_ | refine cw_seq ?_ | refine cw_region ?_ | refine qw_then ?_))
  refine lw_load_agg hT rfl rfl rfl (vs := encR c (.slice aL l.length cL)) (hb3.rd 0 2) ?_
  (repeat (refine lw_pure hT rfl ?_))
  refine lw_call hT rfl rfl (r23_Find c num (hF.ex hx1)) ?_
  rintro _ w2 ⟨rfl, hx2⟩
  have hx02 := hx1.trans hx2
  have hb32 := hb3.ex hx2
  rcases fidx_cases l num with ⟨hi, hat⟩ | ⟨i, hil, hi, hat⟩
  · have hf : RegD.fullOf ⟨c, l⟩ num who = false := by
      unfold RegD.fullOf
      have : RegD.at? ⟨c, l⟩ num = none := hat
      rw [this]
    rw [hi, hf]
    (repeat (first | refine lw_pure hT rfl ?_ | refine lw_nil ?_ | refine cw_seq ?_ | refine cw_region ?_ | refine qw_then ?_))
    refine lw_guard rfl (fun _ => ?_) (fun e => absurd e (by decide))
    (repeat (first | refine lw_pure hT rfl ?_ | refine lw_nil ?_ | refine cw_seq ?_ | refine cw_region ?_ | refine qw_then ?_ | refine cw_ret ?_ | refine qw_then_ret ?_ | (refine lw_goff_t rfl ?_ ?_; focus (first | with_reducible rfl | with_reducible exact Bool.not_false | with_reducible exact Bool.not_true)) | (refine cw_cond_t rfl ?_ ?_; focus (first | with_reducible rfl | with_reducible exact Bool.not_false | with_reducible exact Bool.not_true))))
    exact qw_ret rfl ⟨rfl, hx02⟩
  · obtain ⟨x, g, bL, oL, cL', hx_, hg_, hv, hrd, hE⟩ := (hF0.ex hx02).row hil
    cases hv
    have hxi : x = l[i] := by rw [List.getElem?_eq_getElem hil] at hx_; exact (Option.some.inj hx_).symm
    have hf : RegD.fullOf ⟨c, l⟩ num who = x.full who := by
      unfold RegD.fullOf
      have : RegD.at? ⟨c, l⟩ num = some l[i] := hat
      rw [this, hxi]
    rw [hi, hf, full_at hE.three]
    have hc9 : w2.cell? ⟨bL, oL + i * 11 + 9, none⟩ = some (.int .i64 x.state) := hrd 9 _ rfl
    have hc10 : w2.cell? ⟨bL, oL + i * 11 + 10, none⟩ = some g.vP := hrd 10 _ rfl
    (repeat (first | refine lw_pure hT rfl ?_ | refine lw_nil ?_ | refine cw_seq ?_ | refine cw_region ?_ | refine qw_then ?_))
    refine lw_guard rfl (fun e => by have := of_decide_eq_true e; omega) (fun _ => ?_)
    (repeat (first | refine lw_pure hT rfl ?_ | (refine lw_gon_f rfl ?_ ?_; focus (first | with_reducible rfl | with_reducible exact Bool.not_false | with_reducible exact Bool.not_true))))
    refine lw_load hT rfl rfl (v := .slice (some ⟨bL, oL, none⟩) l.length cL) (hb32.cell 1) ?_
    (repeat (first | refine lw_pure hT rfl ?_ | (refine lw_gon_f rfl ?_ ?_; focus (first | with_reducible rfl | with_reducible exact Bool.not_false | with_reducible exact Bool.not_true))))
    refine lw_index hT rfl rfl rfl i rfl hil ?_
    (repeat (first | refine lw_pure hT rfl ?_ | (refine lw_gon_f rfl ?_ ?_; focus (first | with_reducible rfl | with_reducible exact Bool.not_false | with_reducible exact Bool.not_true))))
    refine lw_load hT rfl rfl hc9 ?_
    (repeat (first | refine lw_pure hT rfl ?_ | refine lw_nil ?_ | refine qw_then ?_ | (refine lw_gon_f rfl ?_ ?_; focus (first | with_reducible rfl | with_reducible exact Bool.not_false | with_reducible exact Bool.not_true))))
    refine cw_cond rfl (fun e => ?_) (fun e => ?_)
    · have e : ¬ x.state = 0 := by simpa using e
      (repeat (first | refine lw_pure hT rfl ?_ | refine lw_nil ?_ | refine cw_seq ?_ | refine cw_region ?_ | refine qw_then ?_ | refine cw_ret ?_ | refine qw_then_ret ?_))
      exact qw_ret rfl ⟨by rw [decide_eq_false e]; rfl, hx02⟩
    have e : x.state = 0 := by simpa using e
    rw [decide_eq_true e, Bool.true_and]
    (repeat (first | refine lw_pure hT rfl ?_ | refine lw_nil ?_ | refine cw_seq ?_ | refine cw_region ?_ | refine qw_then ?_ | refine cw_skip ?_ | refine cw_block ?_))
    refine cw_loop (fun k : Nat => [(2, .string who), (3, .pointer (some ⟨b3, 0, none⟩)), (7, .int .i64 (i : Nat)), (8, .int .i64 (k : Nat))]) (fun k w' => k ≤ 3 ∧ w2 = w' ∧ ((x.ps.take k).all fun q => decide (q.state = 0) && decide (q.holder = who)) = true) (fun k => 3 - k) 0 (by repeat (first | exact trivial | refine ⟨rfl, ?_⟩)) ⟨Nat.zero_le _, rfl, rfl⟩ ?_
    rintro k _ ⟨hk, rfl, hall⟩
    (repeat (first | refine lw_pure hT rfl ?_ | refine lw_nil ?_ | refine cw_seq ?_ | refine cw_region ?_ | refine qw_then ?_))
    refine cw_cond rfl (fun e => ?_) (fun e => ?_)
    · have hk3 : k < 3 := by have := of_decide_eq_true e; omega
      obtain ⟨vc, bP, oP, cP, hvP, _, hrP, hvk, _⟩ := hE.paper hk3
      rw [hvP] at hc10
      have hmem := List.mem_of_getElem? (papAt_get hE.three hk3)
      have hpk := papAt_get hE.three hk3
      have htk : x.ps.take (k + 1) = x.ps.take k ++ [papAt x k] := by
        have hkl : k < x.ps.length := by rw [hE.three]; exact hk3
        rw [List.take_succ_eq_append_getElem hkl]
        rw [List.getElem?_eq_getElem hkl] at hpk
        rw [Option.some.inj hpk]
      have bad : (decide ((papAt x k).state = 0) && decide ((papAt x k).holder = who)) = false → ((x.ps.take 3).all fun q => decide (q.state = 0) && decide (q.holder = who)) = false := by
        intro h
        rw [List.all_eq_false]
        have e3 : x.ps.take 3 = x.ps := by rw [← hE.three]; exact List.take_length
        exact ⟨papAt x k, by rw [e3]; exact hmem, by rw [h]; decide⟩
      (repeat (first | refine lw_pure hT rfl ?_ | refine cw_seq ?_ | refine cw_region ?_ | refine qw_then ?_ | refine cw_skip ?_ | refine cw_block ?_))
      refine lw_load hT rfl rfl (v := .slice (some ⟨bL, oL, none⟩) l.length cL) (hb32.cell 1) ?_
      (repeat (refine lw_pure hT rfl ?_))
      refine lw_index hT rfl rfl rfl i rfl hil ?_
      (repeat (refine lw_pure hT rfl ?_))
      refine lw_load hT rfl rfl hc10 ?_
      (repeat (refine lw_pure hT rfl ?_))
      refine lw_index hT rfl rfl rfl k rfl hk3 ?_
      (repeat (refine lw_pure hT rfl ?_))
      refine lw_load hT rfl rfl (v := .int .i64 (papAt x k).state) (hrP 0 _ rfl) ?_
      (repeat (refine lw_pure hT rfl ?_))
      refine lw_guard rfl (fun e => ?_) (fun e => ?_)
      · (repeat (first | refine lw_pure hT rfl ?_ | refine lw_nil ?_ | refine cw_seq ?_ | refine cw_region ?_ | refine qw_then ?_ | refine cw_ret ?_ | refine qw_then_ret ?_ | (refine lw_goff_t rfl ?_ ?_; focus (first | with_reducible rfl | with_reducible exact Bool.not_false | with_reducible exact Bool.not_true)) | refine qw_block_ret ?_ | (refine cw_cond_t rfl ?_ ?_; focus (first | with_reducible rfl | with_reducible exact Bool.not_false | with_reducible exact Bool.not_true))))
        exact qw_ret rfl ⟨by rw [bad (by rw [decide_eq_false (of_decide_eq_true e)]; rfl)]; rfl, hx02⟩
      have e1 : (papAt x k).state = 0 := by simpa using e
      (repeat (first | refine lw_pure hT rfl ?_ | (refine lw_gon_f rfl ?_ ?_; focus (first | with_reducible rfl | with_reducible exact Bool.not_false | with_reducible exact Bool.not_true))))
      refine lw_load hT rfl rfl (v := .slice (some ⟨bL, oL, none⟩) l.length cL) (hb32.cell 1) ?_
      (repeat (first | refine lw_pure hT rfl ?_ | (refine lw_gon_f rfl ?_ ?_; focus (first | with_reducible rfl | with_reducible exact Bool.not_false | with_reducible exact Bool.not_true))))
      refine lw_index hT rfl rfl rfl i rfl hil ?_
      (repeat (first | refine lw_pure hT rfl ?_ | (refine lw_gon_f rfl ?_ ?_; focus (first | with_reducible rfl | with_reducible exact Bool.not_false | with_reducible exact Bool.not_true))))
      refine lw_load hT rfl rfl hc10 ?_
      (repeat (first | refine lw_pure hT rfl ?_ | (refine lw_gon_f rfl ?_ ?_; focus (first | with_reducible rfl | with_reducible exact Bool.not_false | with_reducible exact Bool.not_true))))
      refine lw_index hT rfl rfl rfl k rfl hk3 ?_
      (repeat (first | refine lw_pure hT rfl ?_ | (refine lw_gon_f rfl ?_ ?_; focus (first | with_reducible rfl | with_reducible exact Bool.not_false | with_reducible exact Bool.not_true))))
      refine lw_load hT rfl rfl (v := .string (papAt x k).holder) (hrP 1 _ rfl) ?_
      (repeat (first | refine lw_pure hT rfl ?_ | refine lw_nil ?_ | refine qw_then ?_ | (refine lw_gon_f rfl ?_ ?_; focus (first | with_reducible rfl | with_reducible exact Bool.not_false | with_reducible exact Bool.not_true))))
      refine cw_cond rfl (fun e => ?_) (fun e => ?_)
      · (repeat (first | refine lw_pure hT rfl ?_ | refine lw_nil ?_ | refine cw_seq ?_ | refine cw_region ?_ | refine qw_then ?_ | refine cw_ret ?_ | refine qw_then_ret ?_ | refine qw_block_ret ?_))
        exact qw_ret rfl ⟨by rw [bad (by rw [decide_eq_false (of_decide_eq_true e), Bool.and_false])]; rfl, hx02⟩
      have e2 : (papAt x k).holder = who := by simpa using e
      (repeat (first | (refine lw_add rfl rfl ?_ ?_ ?_; iterate 2 omega) | refine lw_pure hT rfl ?_ | refine lw_nil ?_ | refine cw_region ?_ | refine qw_then ?_ | refine cw_skip ?_ | refine qw_block ?_))
      exact qw_round (k + 1) (by repeat (first | exact trivial | refine ⟨rfl, ?_⟩)) ⟨hk3, rfl, by rw [htk, List.all_append, hall]; simp [e1, e2]⟩ (by omega)
    · have : k = 3 := by have := of_decide_eq_false e; omega
      subst this
      (repeat (first | refine lw_pure hT rfl ?_ | refine lw_nil ?_ | refine cw_seq ?_ | refine cw_region ?_ | refine qw_then ?_ | refine cw_ret ?_ | refine cw_exit ?_ | refine qw_block_exit ?_ | refine qw_then_exit ?_))
      exact qw_ret rfl ⟨by rw [hall]; rfl, hx02⟩
/-- A bill, and itself in other memory. -/
theorem r23_Same {A B : Nat → Prop} {w : World} {b : BillD} {vb vp ub up : Value} (h1 : SlS A w vb b.boxes) (h2 : SlS A w vp b.parents) (h3 : SlS B w ub b.boxes) (h4 : SlS B w up b.parents) : Ret Tryz.prog 26 [.agg ⟨encB b vb vp⟩, .agg ⟨encB b ub up⟩] w fun v w' => v = .bool true ∧ Ex w w' := by
  refine ret_of Tryz.func26 Tryz.ntmps26 rfl rfl rfl ?_
  (repeat (first | refine cw_seq ?_ | refine cw_region ?_))
  refine lw_box rfl ?_
  intro b2 w1 hbb2 hb2 hx1 hs1
  replace hb2 : Blk w1 b2 (encB b vb vp) 35 := hb2
  skip
  refine lw_box rfl ?_
  intro b3 w2 hbb3 hb3 hx2 hs2
  replace hb3 : Blk w2 b3 (encB b ub up) 35 := hb3
  have hb22 := hb2.ex hx2
  have hx02 := hx1.trans hx2
  (repeat (first | refine lw_pure hT rfl ?_ | refine lw_nil ?_ | refine cw_seq ?_ | refine cw_region ?_ | refine qw_then ?_))
  refine lw_load hT rfl rfl (v := .string b.number) (hb22.cell 0) ?_
  (repeat (refine lw_pure hT rfl ?_))
  refine lw_load hT rfl rfl (v := .string b.number) (hb3.cell 0) ?_
  (repeat (refine lw_pure hT rfl ?_))
  refine lw_guard rfl (fun _ => ?_) (fun e => absurd rfl (of_decide_eq_false e))
  (repeat (first | refine lw_pure hT rfl ?_ | (refine lw_gon_t rfl ?_ ?_; focus (first | with_reducible rfl | with_reducible exact Bool.not_false | with_reducible exact Bool.not_true))))
  refine lw_load hT rfl rfl (v := .string b.carrier) (hb22.cell 1) ?_
  (repeat (first | refine lw_pure hT rfl ?_ | (refine lw_gon_t rfl ?_ ?_; focus (first | with_reducible rfl | with_reducible exact Bool.not_false | with_reducible exact Bool.not_true))))
  refine lw_load hT rfl rfl (v := .string b.carrier) (hb3.cell 1) ?_
  (repeat (first | refine lw_pure hT rfl ?_ | (refine lw_gon_t rfl ?_ ?_; focus (first | with_reducible rfl | with_reducible exact Bool.not_false | with_reducible exact Bool.not_true))))
  refine lw_guard rfl (fun _ => ?_) (fun e => absurd rfl (of_decide_eq_false e))
  (repeat (first | refine lw_pure hT rfl ?_ | (refine lw_gon_t rfl ?_ ?_; focus (first | with_reducible rfl | with_reducible exact Bool.not_false | with_reducible exact Bool.not_true))))
  refine lw_load hT rfl rfl (v := .string b.shipper) (hb22.cell 2) ?_
  (repeat (first | refine lw_pure hT rfl ?_ | (refine lw_gon_t rfl ?_ ?_; focus (first | with_reducible rfl | with_reducible exact Bool.not_false | with_reducible exact Bool.not_true))))
  refine lw_load hT rfl rfl (v := .string b.shipper) (hb3.cell 2) ?_
  (repeat (first | refine lw_pure hT rfl ?_ | (refine lw_gon_t rfl ?_ ?_; focus (first | with_reducible rfl | with_reducible exact Bool.not_false | with_reducible exact Bool.not_true))))
  refine lw_guard rfl (fun _ => ?_) (fun e => absurd rfl (of_decide_eq_false e))
  (repeat (first | refine lw_pure hT rfl ?_ | (refine lw_gon_t rfl ?_ ?_; focus (first | with_reducible rfl | with_reducible exact Bool.not_false | with_reducible exact Bool.not_true))))
  refine lw_load hT rfl rfl (v := .string b.frm) (hb22.cell 3) ?_
  (repeat (first | refine lw_pure hT rfl ?_ | (refine lw_gon_t rfl ?_ ?_; focus (first | with_reducible rfl | with_reducible exact Bool.not_false | with_reducible exact Bool.not_true))))
  refine lw_load hT rfl rfl (v := .string b.frm) (hb3.cell 3) ?_
  (repeat (first | refine lw_pure hT rfl ?_ | (refine lw_gon_t rfl ?_ ?_; focus (first | with_reducible rfl | with_reducible exact Bool.not_false | with_reducible exact Bool.not_true))))
  refine lw_guard rfl (fun _ => ?_) (fun e => absurd rfl (of_decide_eq_false e))
  (repeat (first | refine lw_pure hT rfl ?_ | (refine lw_gon_t rfl ?_ ?_; focus (first | with_reducible rfl | with_reducible exact Bool.not_false | with_reducible exact Bool.not_true))))
  refine lw_load hT rfl rfl (v := .string b.to_) (hb22.cell 4) ?_
  (repeat (first | refine lw_pure hT rfl ?_ | (refine lw_gon_t rfl ?_ ?_; focus (first | with_reducible rfl | with_reducible exact Bool.not_false | with_reducible exact Bool.not_true))))
  refine lw_load hT rfl rfl (v := .string b.to_) (hb3.cell 4) ?_
  (repeat (first | refine lw_pure hT rfl ?_ | (refine lw_gon_t rfl ?_ ?_; focus (first | with_reducible rfl | with_reducible exact Bool.not_false | with_reducible exact Bool.not_true))))
  refine lw_guard rfl (fun _ => ?_) (fun e => absurd rfl (of_decide_eq_false e))
  (repeat (first | refine lw_pure hT rfl ?_ | (refine lw_gon_t rfl ?_ ?_; focus (first | with_reducible rfl | with_reducible exact Bool.not_false | with_reducible exact Bool.not_true))))
  refine lw_load hT rfl rfl (v := vb) (hb22.cell 5) ?_
  (repeat (first | refine lw_pure hT rfl ?_ | (refine lw_gon_t rfl ?_ ?_; focus (first | with_reducible rfl | with_reducible exact Bool.not_false | with_reducible exact Bool.not_true))))
  refine lw_load hT rfl rfl (v := ub) (hb3.cell 5) ?_
  (repeat (refine lw_gon_t rfl ?_ ?_; focus (first | with_reducible rfl | with_reducible exact Bool.not_false | with_reducible exact Bool.not_true)))
  refine lw_call hT rfl rfl (r_Same w2 (h1.ex hx02) (h3.ex hx02)) ?_
  rintro _ w3 ⟨rfl, hx3⟩
  (repeat (refine lw_pure hT rfl ?_))
  refine lw_guard rfl (fun _ => ?_) (fun e => absurd rfl (of_decide_eq_false e))
  (repeat (first | refine lw_pure hT rfl ?_ | (refine lw_gon_t rfl ?_ ?_; focus (first | with_reducible rfl | with_reducible exact Bool.not_false | with_reducible exact Bool.not_true))))
  refine lw_load hT rfl rfl (v := vp) ((hb22.ex hx3).cell 6) ?_
  (repeat (first | refine lw_pure hT rfl ?_ | (refine lw_gon_t rfl ?_ ?_; focus (first | with_reducible rfl | with_reducible exact Bool.not_false | with_reducible exact Bool.not_true))))
  refine lw_load hT rfl rfl (v := up) ((hb3.ex hx3).cell 6) ?_
  (repeat (refine lw_gon_t rfl ?_ ?_; focus (first | with_reducible rfl | with_reducible exact Bool.not_false | with_reducible exact Bool.not_true)))
  refine lw_call hT rfl rfl (r_Same w3 ((h2.ex hx02).ex hx3) ((h4.ex hx02).ex hx3)) ?_
  rintro _ w4 ⟨rfl, hx4⟩
  have hx34 := hx3.trans hx4
  (repeat (refine lw_pure hT rfl ?_))
  refine lw_guard rfl (fun _ => ?_) (fun e => absurd rfl (of_decide_eq_false e))
  (repeat (first | refine lw_pure hT rfl ?_ | (refine lw_gon_t rfl ?_ ?_; focus (first | with_reducible rfl | with_reducible exact Bool.not_false | with_reducible exact Bool.not_true))))
  refine lw_load hT rfl rfl (v := .int .i64 b.issued) ((hb22.ex hx34).cell 7) ?_
  (repeat (first | refine lw_pure hT rfl ?_ | (refine lw_gon_t rfl ?_ ?_; focus (first | with_reducible rfl | with_reducible exact Bool.not_false | with_reducible exact Bool.not_true))))
  refine lw_load hT rfl rfl (v := .int .i64 b.issued) ((hb3.ex hx34).cell 7) ?_
  (repeat (first | refine lw_pure hT rfl ?_ | (refine lw_gon_t rfl ?_ ?_; focus (first | with_reducible rfl | with_reducible exact Bool.not_false | with_reducible exact Bool.not_true))))
  refine lw_guard rfl (fun _ => ?_) (fun e => absurd rfl (of_decide_eq_false e))
  (repeat (first | refine lw_pure hT rfl ?_ | (refine lw_gon_t rfl ?_ ?_; focus (first | with_reducible rfl | with_reducible exact Bool.not_false | with_reducible exact Bool.not_true))))
  refine lw_load hT rfl rfl (v := .bool b.clean) ((hb22.ex hx34).cell 8) ?_
  (repeat (first | refine lw_pure hT rfl ?_ | (refine lw_gon_t rfl ?_ ?_; focus (first | with_reducible rfl | with_reducible exact Bool.not_false | with_reducible exact Bool.not_true))))
  refine lw_load hT rfl rfl (v := .bool b.clean) ((hb3.ex hx34).cell 8) ?_
  (repeat (refine lw_gon_t rfl ?_ ?_; focus (first | with_reducible rfl | with_reducible exact Bool.not_false | with_reducible exact Bool.not_true)))
  refine lw_eq_bool (by kernel_rfl) rfl rfl ?_
  (repeat (first | refine lw_pure hT rfl ?_ | refine lw_nil ?_ | refine qw_then ?_ | refine cw_ret ?_))
  exact qw_ret rfl ⟨by simp [oneOr], hx02.trans hx34⟩
end Go.Proofs.YtfbjpfgglgffgaaGreat
