/- A bill that went into others goes into none again, by nobody, on no day, of at most 41 calls. -/
import Derived.Test.YtnglkhnfmbnfeaaGreatM8
import Derived.Test.YtnglkhnfmbnfeaaGreatRows
import Derived.WalkKit
import Derived.ProofKit
import Derived.OpenShut
import Derived.ShutString
import Derived.ChangeOld
import Derived.Below
import Derived.SizedLaws
set_option linter.unusedVariables false
set_option linter.unusedSimpArgs false
set_option linter.unusedSectionVars false
set_option linter.unnecessarySimpa false
/- Vf -/
namespace Go.Proofs.YtnglkhnfmbnfeaaGreat
open Go Go.SK

def once_more : ByteArray := ⟨#[111, 110, 99, 101, 45, 109, 111, 114, 101]⟩
def twice : ByteArray := ⟨#[116, 119, 105, 99, 101]⟩
def leftT : ByteArray := ⟨#[108, 101, 102, 116]⟩
def rightT : ByteArray := ⟨#[114, 105, 103, 104, 116]⟩
set_option maxHeartbeats 16000000 in
theorem l24_Once {A1 A2 : Nat → Prop} {w : World} {v1 : Value} {l : List ActD} (h1 : ActsAt A1 w v1 l) {a : SActD} {vp vn : Value} (h2 : SActAt A2 w a vp vn) (by_ : ByteArray) (hby : by_.size ≤ maxLen) (day : Int) (_ : (Lit.int .i64 day).wf = true) :
    Ret Tryz.prog 4 [v1, .agg ⟨encS a vp vn⟩, .string by_, .int .i64 day] w fun v w' => v = .bool true ∧ Ex w w' := by
  obtain ⟨p1, cap1, rfl, _, _⟩ := h1.is
  obtain ⟨pp, cpp, rfl, _⟩ := h2.parts.is
  obtain ⟨pn, cpn, rfl, _, _⟩ := h2.names.is
  simp only [List.length_map] at *
  obtain ⟨vp, hvp⟩ : ∃ vp, vp = Value.slice pp a.parts.length cpp := ⟨_, rfl⟩
  obtain ⟨vn, hvn⟩ : ∃ vn, vn = Value.slice pn a.names.length cpn := ⟨_, rfl⟩
  rw [← hvp, ← hvn] at h2 ⊢
  have h2' := h2.lt
  refine ret_of Tryz.func4 Tryz.ntmps4 rfl rfl rfl ?_
  (repeat (first | refine cw_seq ?_ | refine cw_region ?_))
  refine lw_box rfl ?_
  intro b3 w0 hbb3 hb3 hx0 hs0
  replace hb3 : Blk w0 b3 (encS a vp vn) 45 := hb3
  (repeat (first | refine lw_pure hT rfl ?_ | refine lw_nil ?_ | refine cw_seq ?_ | refine cw_region ?_ | refine qw_then ?_))
  refine lw_call hT rfl rfl (l24_awake w0) ?_
  rintro _ w1 ⟨rfl, hx1⟩
  have hx01 : Ex w w1 := hx0.trans hx1
  (repeat (first | refine lw_pure hT rfl ?_ | (refine lw_gon_f rfl ?_ ?_; focus (first | with_reducible rfl | with_reducible exact Bool.not_false | with_reducible exact Bool.not_true))))
  refine lw_call hT rfl rfl (r23_Few (h1.ex hx01)) ?_
  rintro _ w2 ⟨⟨b1, rfl, hr1⟩, hx2⟩
  have hx02 := hx01.trans hx2
  (repeat (first | refine lw_pure hT rfl ?_ | (refine lw_gon_f rfl ?_ ?_; focus (first | with_reducible rfl | with_reducible exact Bool.not_false | with_reducible exact Bool.not_true))))
  refine lw_guard rfl (fun e => ?_) (fun e => ?_)
  · (repeat (first | refine lw_pure hT rfl ?_ | refine lw_nil ?_ | refine cw_seq ?_ | refine cw_region ?_ | refine qw_then ?_ | (refine lw_goff_t rfl ?_ ?_; focus (first | with_reducible rfl | with_reducible exact Bool.not_false | with_reducible exact Bool.not_true)) | (refine cw_cond_t rfl ?_ ?_; focus (first | with_reducible rfl | with_reducible exact Bool.not_false | with_reducible exact Bool.not_true))))
    refine lw_call hT rfl rfl (l24_awake w2) ?_
    rintro _ wz ⟨rfl, hxz⟩
    (repeat (first | refine lw_pure hT rfl ?_ | refine lw_nil ?_ | refine qw_then ?_ | refine cw_ret ?_ | refine qw_then_ret ?_))
    exact qw_ret rfl ⟨rfl, hx02.trans hxz⟩
  replace hr1 := hr1 (by simpa using e)
  (repeat (refine lw_gon_f rfl ?_ ?_; focus (first | with_reducible rfl | with_reducible exact Bool.not_false | with_reducible exact Bool.not_true)))
  refine lw_load_agg hT rfl rfl rfl (vs := encS a vp vn) (((hb3.ex hx1).ex hx2).rd 0 9) ?_
  (repeat (refine lw_gon_f rfl ?_ ?_; focus (first | with_reducible rfl | with_reducible exact Bool.not_false | with_reducible exact Bool.not_true)))
  refine lw_buildSlice sl47 rfl rfl rfl ?_
  intro bf wf hbbf hbf hxf hsf
  have hx0f := hx02.trans hxf
  (repeat (refine lw_gon_f rfl ?_ ?_; focus (first | with_reducible rfl | with_reducible exact Bool.not_false | with_reducible exact Bool.not_true)))
  refine lw_call hT rfl rfl (l24_few (sacts_one (show Blk wf bf (encS a vp vn) 45 from hbf) (h2.ex hx0f))) ?_
  rintro _ w3 ⟨⟨b2, rfl, hr2⟩, hx3⟩
  have hx03 := hx0f.trans hx3
  (repeat (first | refine lw_pure hT rfl ?_ | refine lw_nil ?_ | refine qw_then ?_ | (refine lw_gon_f rfl ?_ ?_; focus (first | with_reducible rfl | with_reducible exact Bool.not_false | with_reducible exact Bool.not_true))))
  refine cw_cond rfl (fun e => ?_) (fun e => ?_)
  · (repeat (first | refine cw_seq ?_ | refine cw_region ?_))
    refine lw_call hT rfl rfl (l24_awake w3) ?_
    rintro _ wz ⟨rfl, hxz⟩
    (repeat (first | refine lw_pure hT rfl ?_ | refine lw_nil ?_ | refine qw_then ?_ | refine cw_ret ?_ | refine qw_then_ret ?_))
    exact qw_ret rfl ⟨rfl, hx03.trans hxz⟩
  have hfa : FewA a := (hr2 (by simpa using e)).2 a (by simp)
  (repeat (first | refine lw_pure hT rfl ?_ | refine cw_seq ?_ | refine cw_region ?_ | refine qw_then ?_ | refine cw_skip ?_))
  refine lw_call hT rfl rfl (l24_begin (h1.ex hx03) hr1) ?_
  rintro _ w4 ⟨⟨p, m, gs, vL, fgs, A', rfl, hP⟩, hx4⟩
  have hx04 := hx03.trans hx4
  have hgood := good_kept h1.ok
  have hlen := hr1.1
  have ec : (runA regC (keptA l)).carrier = ⟨#[99]⟩ := runA_carrier _ _
  obtain ⟨r0, hr0⟩ : ∃ r0, r0 = runA regC (keptA l) := ⟨_, rfl⟩
  rw [← hr0] at hgood hP ec
  have hl0 := hgood.len
  have hn04 : ∀ b ∈ foot p m gs, w.heap.size ≤ b := fun b hb => by have := hP.new b hb; have := (hx03).size; omega
  (repeat (refine lw_pure hT rfl ?_))
  refine lw_alloc z28 ?_
  intro b6 w5 hbb8 hb8 hx5 hs5
  (repeat (refine lw_pure hT rfl ?_))
  refine lw_store_agg hT rfl rfl rfl rfl (by intro v hv; simp [encR] at hv; rcases hv with rfl | rfl <;> first | rfl | exact Sl.one hP.frep.sl) hb8 (show (2 : Nat) ≤ 2 by decide) ?_
  intro w6 hb86 hx6 hs6
  replace hb86 : Blk w6 b6 (encR ⟨#[99]⟩ vL) 28 := hb86
  have hx46 : Ex w4 w6 := hx5.up_new hx6 (fun i h => by omega)
  have hx06 := hx04.trans hx46
  have hR6 := hP.rep.ex hx46
  have hF6 := hP.frep.lt.ex hx46
  have hfl4 : ∀ b ∈ foot p m gs, b < w4.heap.size := fun b hb => hP.rep.foot_lt hb
  have l46 := hx46.size
  have hx06' : Ex w0 w6 := ((((hx1.trans hx2).trans hxf).trans hx3).trans hx4).trans hx46
  have l03 := (((hx1.trans hx2).trans hxf).trans hx3).size
  have hb36 := hb3.ex hx06'
  have hb3n : b3 ∉ foot p m gs := fun h => by have h3 := hP.new _ h; have := hb3.lt; omega
  (repeat (first | refine lw_pure hT rfl ?_ | refine lw_nil ?_ | refine cw_seq ?_ | refine cw_region ?_ | refine qw_then ?_))
  refine lw_load_agg hT rfl rfl rfl (vs := encS a vp vn) (hb36.rd 0 9) ?_
  skip
  refine lw_call hT rfl rfl (l24_do hR6 hgood (by omega) (h2.ex hx06) hfa) ?_
  rintro _ w9 ⟨rfl, hm9⟩
  obtain ⟨gs9, hR9, hf9⟩ := hm9.is
  have hx09 : Ex w w9 := hm9.new hx06 hn04
  have hn9 := foot_new hx06 hn04 hf9
  have hb39 : Blk w9 b3 (encS a vp vn) 45 := hb36.ext hm9.ext hb3n
  have h29 : SActAt (fun b => A2 b ∧ b < w.heap.size) w9 a vp vn := (h2'.ex hx06).ext hm9.ext (fun b hb h => by have := hn04 b h; have := hb.2; omega)
  have hb3n9 : b3 ∉ foot p m gs9 := fun h => by
    rcases hf9 _ h with h | h
    · exact hb3n h
    · have := hb36.lt; omega
  (repeat (first | refine lw_pure hT rfl ?_ | refine lw_nil ?_ | refine qw_then ?_))
  refine cw_cond rfl (fun e => ?_) (fun e => ?_)
  · (repeat (first | refine lw_pure hT rfl ?_ | refine lw_nil ?_ | refine cw_seq ?_ | refine cw_region ?_ | refine qw_then ?_ | refine cw_ret ?_ | refine qw_then_ret ?_))
    exact qw_ret rfl ⟨rfl, hx09⟩
  have hz : callC r0 (callD r0 a) = 0 := by simpa using e
  obtain ⟨N, hg⟩ := call_gone hgood h2.ok hz
  have hG1 : Good (l.length + 65) (callR r0 (callD r0 a)) := good_call hgood h2.ok
  have hl1 : (callR r0 (callD r0 a)).l.length ≤ 256 := callR_len (by omega) _
  obtain ⟨r1, hr1'⟩ : ∃ r1, r1 = callR r0 (callD r0 a) := ⟨_, rfl⟩
  rw [← hr1'] at hg hR9 hG1 hl1
  have hnsz : ∀ e ∈ r1.l, e.bill.number.size ≤ maxLen := fun e he => (hG1.ent e he).ok.number
  have hgone : ∀ n ∈ goneL a, ∃ e, r1.at? n = some e ∧ e.state = 4 := fun n hn => by
    obtain ⟨x, _, _, _, _, h⟩ := hg.old n hn
    exact ⟨_, h, rfl⟩
  have hgsz : ∀ n ∈ goneL a, n.size ≤ maxLen := by
    intro n hn
    unfold goneL at hn
    split at hn
    · exact h2.ok.names n hn
    · rw [List.mem_singleton.1 hn]; exact h2.ok.bill
  (repeat (first | refine lw_pure hT rfl ?_ | refine cw_seq ?_ | refine cw_region ?_ | refine qw_then ?_ | refine cw_skip ?_))
  refine lw_load hT rfl rfl (v := .string a.bill) (hb39.cell 1) ?_
  skip
  refine lw_buildSlice sl31 rfl rfl rfl ?_
  intro bg w10 hbbg hbg hx10 hsg
  have hx010 := hx09.trans hx10
  have hb310 := hb39.ex hx10
  have hR10 := hR9.ex hx10
  have hfl9 : ∀ b ∈ foot p m gs9, b < w9.heap.size := fun b hb => hR9.foot_lt hb
  (repeat (first | refine lw_pure hT rfl ?_ | refine lw_nil ?_ | refine cw_seq ?_ | refine cw_region ?_ | refine qw_then ?_))
  refine lw_load hT rfl rfl (v := .int .u8 a.kind) (hb310.cell 0) ?_
  skip
  refine lw_rem8 rfl rfl (by decide) ?_
  (repeat (first | refine lw_pure hT rfl ?_ | refine lw_nil ?_ | refine qw_then ?_))
  refine cw_cut_any (α := Value) (fun v => [(2, .string by_), (3, .int .i64 day), (5, pB b3), (9, .pointer (some ⟨p, 0, none⟩)), (11, v)]) (fun v w' => w10 = w' ∧ SlS (fun b => b ∉ foot p m gs9 ∧ b < w10.heap.size) w10 v (goneL a)) ?_ ?_
  · unfold pB
    refine cw_cond rfl (fun hk => ?_) (fun hk => ?_)
    · have hk : a.kind.tmod 3 = 1 := by simpa using hk
      have eg : goneL a = a.names := by unfold goneL; rw [if_pos hk]
      (repeat (first | refine lw_pure hT rfl ?_ | refine cw_region ?_))
      refine lw_load hT rfl rfl (v := vn) (hb310.cell 7) ?_
      (repeat (first | refine lw_pure hT rfl ?_ | refine lw_nil ?_))
      refine qw_cut vn (by repeat (first | exact trivial | refine ⟨rfl, ?_⟩)) ⟨rfl, by rw [eg]; exact ((h29.ex hx10).names.lt (by decide)).weaken fun b hb => ⟨fun h => by have := hn9 b h; have := hb.1.2; omega, hb.2⟩⟩
    · have hk : ¬ a.kind.tmod 3 = 1 := by simpa using hk
      have eg : goneL a = [a.bill] := by unfold goneL; rw [if_neg hk]
      (repeat (refine cw_skip ?_))
      refine qw_cut _ (by repeat (first | exact trivial | refine ⟨rfl, ?_⟩)) ⟨rfl, by rw [eg]; exact Sl.of_rd (rows := [[.string a.bill]]) ⟨fun h => by have := hfl9 _ h; omega, by omega⟩ (by simp) (hbg.rd 0 1) (show (1 : Nat) ≤ maxLen by decide)⟩
  rintro vg _ ⟨rfl, hvg⟩
  unfold pB
  obtain ⟨pg, cg, rfl, _, hgrow⟩ := hvg.is
  have hgm := hvg.small
  simp only [List.length_map] at *
  unfold maxLen at hgm
  (repeat (first | refine lw_pure hT rfl ?_ | refine lw_nil ?_ | refine cw_seq ?_ | refine cw_region ?_ | refine qw_then ?_ | refine cw_block ?_))
  refine cw_loop (fun i : Nat => [(2, .string by_), (3, .int .i64 day), (5, .pointer (some ⟨b3, 0, none⟩)), (9, .pointer (some ⟨p, 0, none⟩)), (49, .slice pg (goneL a).length cg), (50, .int .i64 ((goneL a).length : Nat)), (51, .int .i64 (i : Nat))])
    (fun i w' => i ≤ (goneL a).length ∧ Ex w w' ∧ ∃ gs', Rep w' p r1 m gs' ∧ (∀ b ∈ foot p m gs', b ∈ foot p m gs9 ∨ w10.heap.size ≤ b) ∧ Ext (fun b => b ∈ foot p m gs9 ∨ w10.heap.size ≤ b) w10 w') (fun i => (goneL a).length - i) 0 (by repeat (first | exact trivial | refine ⟨rfl, ?_⟩)) ⟨Nat.zero_le _, hx010, gs9, hR10, fun b hb => .inl hb, Ext.refl _ _⟩ ?_
  rintro i w11 ⟨hi, hx011, gs11, hR11, hf11, hxt11⟩
  have hn11 : ∀ b ∈ foot p m gs11, w.heap.size ≤ b := fun b hb => by
    rcases hf11 b hb with h | h
    · exact hn9 b h
    · have := hx010.size; omega
  have l1011 := hxt11.size
  (repeat (first | refine lw_pure hT rfl ?_ | refine lw_nil ?_ | refine cw_seq ?_ | refine cw_region ?_ | refine qw_then ?_))
  refine cw_cond rfl (fun e => ?_) (fun e => ?_)
  · have hlt : i < (goneL a).length := by have := of_decide_eq_true e; omega
    have hne : (goneL a).map (fun s => [Value.string s]) ≠ [] := by intro e; simp at e; rw [e] at hlt; simp at hlt
    obtain ⟨bn, on, rfl, hbn, hnrd⟩ := hgrow hne
    have hni := ((hnrd i [.string (goneL a)[i]] (by rw [List.getElem?_map, List.getElem?_eq_getElem hlt]; rfl)).2).ext hxt11 (fun h => by rcases h with h | h; exact hbn.1 h; have := hbn.2; omega)
    have hmem : (goneL a)[i] ∈ goneL a := List.getElem_mem hlt
    generalize (goneL a)[i] = nb at hni hmem
    obtain ⟨eb, hat, hst⟩ := hgone nb hmem
    have hnbs := hgsz nb hmem
    have hdead : eb.state ≠ 0 := by rw [hst]; decide
    have hebm := at_mem hat
    have hebok := (hG1.ent eb hebm).ok
    have hebl := (may_len (hG1.ent eb hebm).may).1
    have hb311 : Blk w11 b3 (encS a vp vn) 45 := hb310.ext hxt11 (fun h => by rcases h with h | h; exact hb3n9 h; have := hb310.lt; omega)
    have hb3n11 : b3 ∉ foot p m gs11 := fun h => by
      rcases hf11 _ h with h | h
      · exact hb3n9 h
      · have := hb310.lt; omega
    (repeat (first | refine cw_seq ?_ | refine cw_region ?_ | refine qw_then ?_ | refine cw_skip ?_ | refine cw_block ?_))
    refine lw_index hT rfl rfl rfl i rfl hlt ?_
    skip
    refine lw_load hT rfl rfl (v := .string nb) (hni 0 _ rfl) ?_
    (repeat (first | refine lw_pure hT rfl ?_ | refine lw_nil ?_ | refine cw_seq ?_ | refine cw_region ?_ | refine qw_then ?_))
    refine lw_call hT rfl rfl (reg_Get hR11 (hG1.small (by omega)) nb) ?_
    rintro _ w12 ⟨hget, hx12⟩
    unfold GetR at hget
    rw [hat] at hget
    obtain ⟨ub, up, rfl, hub, hup⟩ := hget
    have o1 := own_one hub
    have o2 := own_one hup
    (repeat (refine lw_pure hT rfl ?_))
    refine lw_alloc z33 ?_
    intro b14 w13 hbb14 hb14 hx13 hs13
    skip
    refine lw_store_agg hT rfl rfl rfl rfl (encB_one (A := fun _ => True) (w := w) o1 o2) hb14 (show (9 : Nat) ≤ 9 by decide) ?_
    intro w14 hb14' hx14 hs14
    replace hb14' : Blk w14 b14 (encB eb.bill ub up) 33 := hb14'
    have hx1214 : Ex w12 w14 := hx13.up_new hx14 (fun i h => by omega)
    have hx1114 := hx12.trans hx1214
    have hub14 := own_ex hub hx1214
    have hR14 := hR11.ex hx1114
    (repeat (first | refine lw_pure hT rfl ?_ | refine lw_nil ?_ | refine cw_seq ?_ | refine cw_region ?_ | refine qw_then ?_ | (refine lw_gon_f rfl ?_ ?_; focus (first | with_reducible rfl | with_reducible exact Bool.not_false | with_reducible exact Bool.not_true))))
    refine lw_call hT rfl rfl (reg_State hR14 nb) ?_
    rintro _ _ ⟨rfl, rfl⟩
    rw [state_of hat, hst]
    (repeat (first | refine lw_pure hT rfl ?_ | refine lw_nil ?_ | refine qw_then ?_ | (refine lw_gon_f rfl ?_ ?_; focus (first | with_reducible rfl | with_reducible exact Bool.not_false | with_reducible exact Bool.not_true))))
    refine cw_cond rfl (fun h => absurd h (by decide)) (fun _ => ?_)
    (repeat (first | refine lw_pure hT rfl ?_ | refine cw_seq ?_ | refine cw_region ?_ | refine qw_then ?_ | refine cw_skip ?_))
    refine lw_call hT rfl rfl (reg_Bills hR14 hnsz hl1) ?_
    rintro _ w15 ⟨⟨Lb, _, hLp, hLo⟩, hx15⟩
    obtain ⟨aL, cL, rfl⟩ := own_slice0 hLo
    have hLl : Lb.length = r1.nums.length := hLp.length_eq
    rw [hLl]
    have hx1115 := hx1114.trans hx15
    have hb1415 := hb14'.ex hx15
    have hub15 := own_ex hub14 hx15
    have hnl : r1.nums.length ≤ 256 := by unfold RegD.nums; rw [List.length_map]; exact hl1
    (repeat (first | refine lw_pure hT rfl ?_ | refine lw_nil ?_ | refine cw_seq ?_ | refine cw_region ?_ | refine qw_then ?_))
    refine lw_load hT rfl rfl (v := .string eb.bill.shipper) (hb1415.cell 2) ?_
    (repeat (refine lw_pure hT rfl ?_))
    refine lw_load hT rfl rfl (v := .string eb.bill.frm) (hb1415.cell 3) ?_
    (repeat (refine lw_pure hT rfl ?_))
    have d1 := switch_dead hG1 (by_ := by_) (number := once_more) (day := day) hnbs hby (by decide) hebok.shipper hebok.frm hat hdead
    have hsw := spl_Switch (hR14.ex hx15) hG1 (by omega) nb by_ once_more eb.bill.shipper eb.bill.frm day hnbs hby (by decide) hebok.shipper hebok.frm
    rw [callR_ne d1] at hsw
    refine lw_call hT rfl rfl hsw ?_
    rintro _ w16 ⟨rfl, hm16⟩
    obtain ⟨gs16, hR16, hf16⟩ := hm16.is
    have l15 := hx1115.size
    have hb316 : Blk w16 b3 (encS a vp vn) 45 := (hb311.ex hx1115).ext hm16.ext hb3n11
    have hfl11 : ∀ b ∈ foot p m gs11, b < w11.heap.size := fun b hb => hR11.foot_lt hb
    have n11 : ∀ b, w11.heap.size ≤ b → b ∉ foot p m gs11 := fun b hb h => by have := hfl11 b h; omega
    have hb1416 : Blk w16 b14 (encB eb.bill ub up) 33 := hb1415.ext hm16.ext (n11 _ (by have := hx12.size; omega))
    have ubn : ∀ b, ub.ownBlock = some b → w11.heap.size ≤ b ∧ b < w12.heap.size := fun b hb => own_base hub hb
    have hub16 := own_ext hub15 hm16.ext (fun b hb => n11 b (ubn b hb).1)
    have hx016 : Ex w w16 := hm16.new (hx011.trans hx1115) hn11
    have hn16 := foot_new (hx011.trans hx1115) hn11 hf16
    (repeat (refine lw_pure hT rfl ?_))
    refine lw_guard rfl (fun h => absurd (of_decide_eq_true h) d1) (fun _ => ?_)
    (repeat (first | refine lw_pure hT rfl ?_ | (refine lw_gon_f rfl ?_ ?_; focus (first | with_reducible rfl | with_reducible exact Bool.not_false | with_reducible exact Bool.not_true))))
    refine lw_load hT rfl rfl (v := .string a.number) (hb316.cell 3) ?_
    (repeat (refine lw_gon_f rfl ?_ ?_; focus (first | with_reducible rfl | with_reducible exact Bool.not_false | with_reducible exact Bool.not_true)))
    refine lw_buildSlice sl31 rfl rfl rfl ?_
    intro bj w17 hbbj hbj hx17 hsj
    have d2 := join_dead hG1 (bills := [nb, a.number]) (by_ := by_) (number := twice) (day := day) (by intro z hz; simp at hz; rcases hz with rfl | rfl; exact hnbs; exact h2.ok.number) hby (by decide) (n := nb) (by simp) hat hdead
    have hjo := spl_Join (hR16.ex hx17) hG1 (by omega) by_ twice day (sls_of_blk (l := [nb, a.number]) (cap := 2) hbj (show (2 : Nat) ≤ maxLen by decide)) (by intro z hz; simp at hz; rcases hz with rfl | rfl; exact hnbs; exact h2.ok.number) hby (by decide)
    rw [callR_ne d2] at hjo
    (repeat (first | refine lw_pure hT rfl ?_ | (refine lw_gon_f rfl ?_ ?_; focus (first | with_reducible rfl | with_reducible exact Bool.not_false | with_reducible exact Bool.not_true))))
    refine lw_call hT rfl rfl hjo ?_
    rintro _ w18 ⟨rfl, hm18⟩
    obtain ⟨gs18, hR18, hf18⟩ := hm18.is
    have l1617 := hx17.size
    have l1516 := hm16.ext.size
    have f16 : ∀ b, w11.heap.size ≤ b → b < w15.heap.size → b ∉ foot p m gs16 := fun b h1 h2 h => by
      rcases hf16 b h with h | h
      · exact n11 b h1 h
      · omega
    have l14 := hx1214.size
    have l15' := hx15.size
    have hb1418 : Blk w18 b14 (encB eb.bill ub up) 33 := (hb1416.ex hx17).ext hm18.ext (f16 _ (by have := hx12.size; omega) (by have := hb1415.lt; omega))
    have hub18 := own_ext (own_ex hub16 hx17) hm18.ext (fun b hb => f16 b (ubn b hb).1 (by have := (ubn b hb).2; omega))
    have hx018 : Ex w w18 := hm18.new (hx016.trans hx17) hn16
    have hn18 := foot_new (hx016.trans hx17) hn16 hf18
    have hf18' : ∀ b ∈ foot p m gs18, b ∈ foot p m gs9 ∨ w10.heap.size ≤ b := fun b hb => by
      rcases hf18 b hb with h | h
      · rcases hf16 b h with h | h
        · exact hf11 b h
        · exact .inr (by omega)
      · exact .inr (by omega)
    have hxt18 : Ext (fun b => b ∈ foot p m gs9 ∨ w10.heap.size ≤ b) w10 w18 := by
      refine ((((hxt11.up hx1115).trans (hm16.ext.mono fun b _ hb => hf11 b hb)).up hx17).trans (hm18.ext.mono fun b _ hb => ?_))
      rcases hf16 b hb with h | h
      · exact hf11 b h
      · exact .inr (by omega)
    (repeat (first | refine lw_pure hT rfl ?_ | refine lw_nil ?_ | refine qw_then ?_ | (refine lw_gon_f rfl ?_ ?_; focus (first | with_reducible rfl | with_reducible exact Bool.not_false | with_reducible exact Bool.not_true))))
    refine cw_cond rfl (fun h => absurd (of_decide_eq_true h) d2) (fun _ => ?_)
    obtain ⟨n, hn⟩ : ∃ n, n = eb.bill.boxes.length := ⟨_, rfl⟩
    obtain ⟨au, cu, rfl⟩ := own_slice0 hub18
    rw [← hn] at hb1418 hebl
    have hfl18 : ∀ b ∈ foot p m gs18, b < w18.heap.size := fun b hb => hR18.foot_lt hb
    (repeat (first | refine cw_seq ?_ | refine qw_then ?_ | refine cw_skip ?_))
    refine cw_cut_any (α := Unit) (fun _ => [(2, .string by_), (3, .int .i64 day), (5, .pointer (some ⟨b3, 0, none⟩)), (9, .pointer (some ⟨p, 0, none⟩)), (49, .slice (some ⟨bn, on, none⟩) (goneL a).length cg), (50, .int .i64 ((goneL a).length : Nat)), (51, .int .i64 (i : Nat)), (119, .bool false)])
      (fun _ w' => Ex w w' ∧ ∃ gs', Rep w' p r1 m gs' ∧ (∀ b ∈ foot p m gs', b ∈ foot p m gs9 ∨ w10.heap.size ≤ b) ∧ Ext (fun b => b ∈ foot p m gs9 ∨ w10.heap.size ≤ b) w10 w') ?_ ?_
    · refine cw_draw hM (fun w' => Ex w18 w') [17] rfl rfl (by repeat (first | with_reducible refine nop_then ?_ | with_reducible refine nop_block ?_ | with_reducible exact nop_body)) (fun w19 hx19 _ => ⟨hx19, ?_⟩)
      (refine rw_takeP 0 rfl rfl (by kernel_rfl) (by kernel_rfl) (by kernel_rfl) (by kernel_rfl) rfl (yo_pure hT rfl) ?_)
      refine rw_take 1 rfl rfl (by kernel_rfl) (by kernel_rfl) (by kernel_rfl) (by kernel_rfl) rfl (yo_load hT rfl rfl (v := .slice au n cu) (fun w' hS => (hb1418.ex hS).cell 5)) ?_
      (refine rw_takeP 2 rfl rfl (by kernel_rfl) (by kernel_rfl) (by kernel_rfl) (by kernel_rfl) rfl (yo_pure hT rfl) ?_; refine rw_takeP 3 rfl rfl (by kernel_rfl) (by kernel_rfl) (by kernel_rfl) (by kernel_rfl) rfl (yo_pure hT rfl) ?_; refine rw_takeP 4 rfl rfl (by kernel_rfl) (by kernel_rfl) (by kernel_rfl) (by kernel_rfl) rfl (yo_pure hT rfl) ?_)
      refine rw_split (d := 97) rfl (fun hgt => ?_) (fun _ => ?_)
      · have hn2 : 1 < n := by have := of_decide_eq_true hgt; omega
        obtain ⟨gb, cb, heq⟩ := own_slice hub18 (by omega)
        simp only [Value.slice.injEq] at heq
        obtain ⟨rfl, _, rfl⟩ := heq
        have hcap := own_cap hub18 _ _ _ rfl
        have hsb : SlS (fun _ => True) w18 (.slice (some ⟨gb, 0, none⟩) eb.bill.boxes.length cu) eb.bill.boxes := sls_own hub18 fun _ _ => trivial
        rw [← hn] at hcap hsb
        have hzl : (eb.bill.boxes.map fun s => [Value.string s]).length = n := by rw [List.length_map, hn]
        have hTk := hsb.cutTo (i := 1) (by rw [hzl]; omega)
        have hDr := hsb.cutFrom (i := 1) (m := n - 1) (by rw [hzl]; omega) (by rw [hzl]) hcap
        rw [← List.map_take] at hTk
        rw [← List.map_drop] at hDr
        obtain ⟨s1, hs1⟩ : ∃ s1, s1 = eb.bill.boxes.take 1 := ⟨_, rfl⟩
        obtain ⟨s2, hs2⟩ : ∃ s2, s2 = eb.bill.boxes.drop 1 := ⟨_, rfl⟩
        have hs12 : s1 ++ s2 = eb.bill.boxes := by rw [hs1, hs2, List.take_append_drop]
        rw [← hs1] at hTk
        rw [← hs2] at hDr
        have hs1l : s1.length ≤ 64 := by have := congrArg List.length hs12; rw [List.length_append] at this; omega
        have hs2l : s2.length ≤ 64 := by have := congrArg List.length hs12; rw [List.length_append] at this; omega
        have hsok : ∀ q ∈ [s1, s2], ∀ z ∈ q, z.size ≤ maxLen := by
          intro q hq z hz
          refine hebok.boxes z ?_
          rw [← hs12]
          simp only [List.mem_cons, List.not_mem_nil, or_false] at hq
          rcases hq with rfl | rfl
          · exact List.mem_append_left _ hz
          · exact List.mem_append_right _ hz
        have hsql : ∀ q ∈ [s1, s2], q.length ≤ 1000 := by
          intro q hq
          simp only [List.mem_cons, List.not_mem_nil, or_false] at hq
          rcases hq with rfl | rfl <;> omega
        have hnums : ∀ z ∈ [leftT, rightT], z.size ≤ maxLen := by intro z hz; simp at hz; rcases hz with rfl | rfl <;> decide
        have d3 := split_dead hG1 (by_ := by_) (parts := [s1, s2]) (numbers := [leftT, rightT]) (day := day) hnbs hby hsok hnums hat hdead
        have hsplit := fun (w' : World) (b71 b72 : Nat) (hx : Ex w18 w') (h1 : SlsAt (fun _ => True) w' (.slice (some ⟨b71, 0, none⟩) 2 2) [s1, s2]) (h2 : SlS (fun _ => True) w' (.slice (some ⟨b72, 0, none⟩) 2 2) [leftT, rightT]) => spl_Split (hR18.ex hx) hG1 (by omega) nb by_ day h1 h2 hnbs hby hnums hsok hsql (show (2 : Nat) ≤ 1000 by decide)
        rw [callR_ne d3] at hsplit
        generalize callC r1 (splitC r1 nb by_ [s1, s2] [leftT, rightT] day) = cS at d3 hsplit
        have fin : ∀ w20 w22 w23, Ex w18 w20 → Mut w20 p m gs18 r1 w22 → Ex w22 w23 → Ex w w23 ∧ ∃ gs', Rep w23 p r1 m gs' ∧ (∀ b ∈ foot p m gs', b ∈ foot p m gs9 ∨ w10.heap.size ≤ b) ∧ Ext (fun b => b ∈ foot p m gs9 ∨ w10.heap.size ≤ b) w10 w23 := by
          intro w20 w22 w23 hx20 hm hx23
          obtain ⟨gs', hR', hf'⟩ := hm.is
          have l1820 := hx20.size
          have l1018 := hxt18.size
          refine ⟨(hm.new (hx018.trans hx20) hn18).trans hx23, gs', hR'.ex hx23, fun b hb => ?_, ((hxt18.up hx20).trans (hm.ext.mono fun b _ hb => hf18' b hb)).up hx23⟩
          rcases hf' b hb with h | h
          · exact hf18' b h
          · exact .inr (by omega)
        (refine rw_takeP 5 rfl rfl (by kernel_rfl) (by kernel_rfl) (by kernel_rfl) (by kernel_rfl) rfl (yo_on rfl rfl (yo_pure hT rfl)) ?_; refine rw_takeP 6 rfl rfl (by kernel_rfl) (by kernel_rfl) (by kernel_rfl) (by kernel_rfl) rfl (yo_on rfl rfl (yo_pure hT rfl)) ?_; refine rw_takeP 7 rfl rfl (by kernel_rfl) (by kernel_rfl) (by kernel_rfl) (by kernel_rfl) rfl (yo_on rfl rfl (yo_pure hT rfl)) ?_; refine rw_takeP 8 rfl rfl (by kernel_rfl) (by kernel_rfl) (by kernel_rfl) (by kernel_rfl) rfl (yo_on rfl rfl (yo_pure hT rfl)) ?_)
        refine rw_take 9 rfl rfl (by kernel_rfl) (by kernel_rfl) (by kernel_rfl) (by kernel_rfl) rfl (yo_on rfl rfl (yo_load hT rfl rfl (v := .slice (some ⟨gb, 0, none⟩) n cu) (fun w' hS => (hb1418.ex hS).cell 5))) ?_
        refine rw_takeP 10 rfl rfl (by kernel_rfl) (by kernel_rfl) (by kernel_rfl) (by kernel_rfl) rfl (yo_on rfl rfl (yo_slice_sl hT rfl rfl rfl rfl 0 1 rfl rfl (Nat.zero_le _) (by omega))) ?_
        (refine rw_takeP 11 rfl rfl (by kernel_rfl) (by kernel_rfl) (by kernel_rfl) (by kernel_rfl) rfl (yo_on rfl rfl (yo_pure hT rfl)) ?_)
        refine rw_take 12 rfl rfl (by kernel_rfl) (by kernel_rfl) (by kernel_rfl) (by kernel_rfl) rfl (yo_on rfl rfl (yo_load hT rfl rfl (v := .slice (some ⟨gb, 0, none⟩) n cu) (fun w' hS => (hb1418.ex hS).cell 5))) ?_
        refine rw_takeP 13 rfl rfl (by kernel_rfl) (by kernel_rfl) (by kernel_rfl) (by kernel_rfl) rfl (yo_on rfl rfl (yo_slice_sl hT rfl rfl rfl rfl 1 n rfl rfl (by omega) hcap)) ?_
        (refine rw_takeP 16 rfl rfl (by kernel_rfl) (by kernel_rfl) (by kernel_rfl) (by kernel_rfl) rfl (yo_on rfl rfl (yo_pure hT rfl)) ?_)
        refine rw_two 14 15 rfl rfl (by kernel_rfl) rfl rfl (fun hcl => ?_) (fun hcl => ?_)
        · refine lw_gon_t rfl rfl ?_
          refine lw_buildSlice sl39 rfl rfl rfl ?_
          intro b71 w20 hbb71 hb71 hx20 hs20
          have hx1820 := hx19.trans hx20
          (repeat (refine lw_nil ?_))
          refine qw_rw (by repeat (first | with_reducible refine nop_then ?_ | with_reducible refine nop_block ?_ | with_reducible exact nop_body)) hcl (fun _ => hx1820) ?_
          refine rw_one 15 rfl (by kernel_rfl) rfl (fun hcl => ?_)
          refine lw_gon_t rfl rfl ?_
          refine lw_buildSlice sl31 rfl rfl rfl ?_
          intro b72 w21 hbb72 hb72 hx21 hs21
          have hx1821 := hx1820.trans hx21
          (repeat (refine lw_nil ?_))
          refine qw_rw (by repeat (first | with_reducible refine nop_then ?_ | with_reducible refine nop_block ?_ | with_reducible exact nop_body)) hcl (fun _ => hx1821) ?_
          have hq := hsplit w21 b71 b72 hx1821 (sls_pair (hTk.ex hx1821) (hDr.ex hx1821) (hb71.ex hx21)) (sls_of_blk (l := [leftT, rightT]) hb72 (show (2 : Nat) ≤ maxLen by decide))
          refine rw_one 17 rfl (by kernel_rfl) rfl (fun hcl => ?_)
          refine lw_gon_t rfl rfl ?_
          refine lw_call hT rfl rfl hq ?_
          rintro _ w22 ⟨rfl, hm22⟩
          obtain ⟨gs22, hR22, _⟩ := hm22.is
          (repeat (refine lw_nil ?_))
          refine qw_rw (by repeat (first | with_reducible refine nop_then ?_ | with_reducible refine nop_block ?_ | with_reducible exact nop_body)) hcl (fun h => absurd h (by decide)) ?_
          (refine rw_takeP 18 rfl rfl (by kernel_rfl) (by kernel_rfl) (by kernel_rfl) (by kernel_rfl) rfl (yo_on rfl rfl (yo_pure hT rfl)) ?_)
          (refine rw_takeP 19 rfl rfl (by kernel_rfl) (by kernel_rfl) (by kernel_rfl) (by kernel_rfl) rfl (yo_pure hT rfl) ?_; refine rw_takeP 20 rfl rfl (by kernel_rfl) (by kernel_rfl) (by kernel_rfl) (by kernel_rfl) rfl (yo_pure hT rfl) ?_)
          refine rw_split (d := 113) rfl (fun h => absurd (of_decide_eq_true h) d3) (fun _ => ?_)
          (refine rw_takeP 21 rfl rfl (by kernel_rfl) (by kernel_rfl) (by kernel_rfl) (by kernel_rfl) rfl (yo_on rfl rfl (yo_pure hT rfl)) ?_; refine rw_takeP 24 rfl rfl (by kernel_rfl) (by kernel_rfl) (by kernel_rfl) (by kernel_rfl) rfl (yo_on rfl rfl (yo_pure hT rfl)) ?_)
          refine rw_one 22 rfl (by kernel_rfl) rfl (fun hcl => ?_)
          refine lw_gon_f rfl rfl ?_
          refine lw_call hT rfl rfl (reg_Bills hR22 hnsz hl1) ?_
          rintro _ w23 ⟨⟨Lc, _, hLcp, hLco⟩, hx23⟩
          obtain ⟨aL2, cL2, rfl⟩ := own_slice0 hLco
          rw [show Lc.length = r1.nums.length from hLcp.length_eq]
          (repeat (refine lw_nil ?_))
          refine qw_rw (by repeat (first | with_reducible refine nop_then ?_ | with_reducible refine nop_block ?_ | with_reducible exact nop_body)) hcl (fun h => absurd h (by decide)) ?_
          (refine rw_takeP 23 rfl rfl (by kernel_rfl) (by kernel_rfl) (by kernel_rfl) (by kernel_rfl) rfl (yo_on rfl rfl (yo_pure hT rfl)) ?_; refine rw_takeP 25 rfl rfl (by kernel_rfl) (by kernel_rfl) (by kernel_rfl) (by kernel_rfl) rfl (yo_on rfl rfl (yo_pure hT rfl)) ?_)
          rw [show decide (((r1.nums.length : Nat) : Int) ≠ ((r1.nums.length : Nat) : Int)) = false from by simp]
          (refine rw_takeP 26 rfl rfl (by kernel_rfl) (by kernel_rfl) (by kernel_rfl) (by kernel_rfl) rfl (yo_pure hT rfl) ?_)
          refine rw_done (by kernel_rfl) ?_
          exact qw_cut () (by repeat (first | exact trivial | refine ⟨rfl, ?_⟩)) (fin w21 w22 w23 hx1821 hm22 hx23)
        · refine lw_gon_t rfl rfl ?_
          refine lw_buildSlice sl31 rfl rfl rfl ?_
          intro b72 w20 hbb72 hb72 hx20 hs20
          have hx1820 := hx19.trans hx20
          (repeat (refine lw_nil ?_))
          refine qw_rw (by repeat (first | with_reducible refine nop_then ?_ | with_reducible refine nop_block ?_ | with_reducible exact nop_body)) hcl (fun _ => hx1820) ?_
          refine rw_one 14 rfl (by kernel_rfl) rfl (fun hcl => ?_)
          refine lw_gon_t rfl rfl ?_
          refine lw_buildSlice sl39 rfl rfl rfl ?_
          intro b71 w21 hbb71 hb71 hx21 hs21
          have hx1821 := hx1820.trans hx21
          (repeat (refine lw_nil ?_))
          refine qw_rw (by repeat (first | with_reducible refine nop_then ?_ | with_reducible refine nop_block ?_ | with_reducible exact nop_body)) hcl (fun _ => hx1821) ?_
          have hq := hsplit w21 b71 b72 hx1821 (sls_pair (hTk.ex hx1821) (hDr.ex hx1821) hb71) (sls_of_blk (l := [leftT, rightT]) (hb72.ex hx21) (show (2 : Nat) ≤ maxLen by decide))
          refine rw_one 17 rfl (by kernel_rfl) rfl (fun hcl => ?_)
          refine lw_gon_t rfl rfl ?_
          refine lw_call hT rfl rfl hq ?_
          rintro _ w22 ⟨rfl, hm22⟩
          obtain ⟨gs22, hR22, _⟩ := hm22.is
          (repeat (refine lw_nil ?_))
          refine qw_rw (by repeat (first | with_reducible refine nop_then ?_ | with_reducible refine nop_block ?_ | with_reducible exact nop_body)) hcl (fun h => absurd h (by decide)) ?_
          (refine rw_takeP 18 rfl rfl (by kernel_rfl) (by kernel_rfl) (by kernel_rfl) (by kernel_rfl) rfl (yo_on rfl rfl (yo_pure hT rfl)) ?_)
          (refine rw_takeP 19 rfl rfl (by kernel_rfl) (by kernel_rfl) (by kernel_rfl) (by kernel_rfl) rfl (yo_pure hT rfl) ?_; refine rw_takeP 20 rfl rfl (by kernel_rfl) (by kernel_rfl) (by kernel_rfl) (by kernel_rfl) rfl (yo_pure hT rfl) ?_)
          refine rw_split (d := 113) rfl (fun h => absurd (of_decide_eq_true h) d3) (fun _ => ?_)
          (refine rw_takeP 21 rfl rfl (by kernel_rfl) (by kernel_rfl) (by kernel_rfl) (by kernel_rfl) rfl (yo_on rfl rfl (yo_pure hT rfl)) ?_; refine rw_takeP 24 rfl rfl (by kernel_rfl) (by kernel_rfl) (by kernel_rfl) (by kernel_rfl) rfl (yo_on rfl rfl (yo_pure hT rfl)) ?_)
          refine rw_one 22 rfl (by kernel_rfl) rfl (fun hcl => ?_)
          refine lw_gon_f rfl rfl ?_
          refine lw_call hT rfl rfl (reg_Bills hR22 hnsz hl1) ?_
          rintro _ w23 ⟨⟨Lc, _, hLcp, hLco⟩, hx23⟩
          obtain ⟨aL2, cL2, rfl⟩ := own_slice0 hLco
          rw [show Lc.length = r1.nums.length from hLcp.length_eq]
          (repeat (refine lw_nil ?_))
          refine qw_rw (by repeat (first | with_reducible refine nop_then ?_ | with_reducible refine nop_block ?_ | with_reducible exact nop_body)) hcl (fun h => absurd h (by decide)) ?_
          (refine rw_takeP 23 rfl rfl (by kernel_rfl) (by kernel_rfl) (by kernel_rfl) (by kernel_rfl) rfl (yo_on rfl rfl (yo_pure hT rfl)) ?_; refine rw_takeP 25 rfl rfl (by kernel_rfl) (by kernel_rfl) (by kernel_rfl) (by kernel_rfl) rfl (yo_on rfl rfl (yo_pure hT rfl)) ?_)
          rw [show decide (((r1.nums.length : Nat) : Int) ≠ ((r1.nums.length : Nat) : Int)) = false from by simp]
          (refine rw_takeP 26 rfl rfl (by kernel_rfl) (by kernel_rfl) (by kernel_rfl) (by kernel_rfl) rfl (yo_pure hT rfl) ?_)
          refine rw_done (by kernel_rfl) ?_
          exact qw_cut () (by repeat (first | exact trivial | refine ⟨rfl, ?_⟩)) (fin w21 w22 w23 hx1821 hm22 hx23)
      · (refine rw_takeP 5 rfl rfl (by kernel_rfl) (by kernel_rfl) (by kernel_rfl) (by kernel_rfl) rfl (yo_off rfl rfl) ?_; refine rw_takeP 6 rfl rfl (by kernel_rfl) (by kernel_rfl) (by kernel_rfl) (by kernel_rfl) rfl (yo_off rfl rfl) ?_; refine rw_takeP 7 rfl rfl (by kernel_rfl) (by kernel_rfl) (by kernel_rfl) (by kernel_rfl) rfl (yo_off rfl rfl) ?_; refine rw_takeP 8 rfl rfl (by kernel_rfl) (by kernel_rfl) (by kernel_rfl) (by kernel_rfl) rfl (yo_off rfl rfl) ?_; refine rw_takeP 9 rfl rfl (by kernel_rfl) (by kernel_rfl) (by kernel_rfl) (by kernel_rfl) rfl (yo_off rfl rfl) ?_; refine rw_takeP 10 rfl rfl (by kernel_rfl) (by kernel_rfl) (by kernel_rfl) (by kernel_rfl) rfl (yo_off rfl rfl) ?_; refine rw_takeP 11 rfl rfl (by kernel_rfl) (by kernel_rfl) (by kernel_rfl) (by kernel_rfl) rfl (yo_off rfl rfl) ?_; refine rw_takeP 12 rfl rfl (by kernel_rfl) (by kernel_rfl) (by kernel_rfl) (by kernel_rfl) rfl (yo_off rfl rfl) ?_; refine rw_takeP 13 rfl rfl (by kernel_rfl) (by kernel_rfl) (by kernel_rfl) (by kernel_rfl) rfl (yo_off rfl rfl) ?_; refine rw_takeP 16 rfl rfl (by kernel_rfl) (by kernel_rfl) (by kernel_rfl) (by kernel_rfl) rfl (yo_off rfl rfl) ?_; refine rw_takeP 14 rfl rfl (by kernel_rfl) (by kernel_rfl) (by kernel_rfl) (by kernel_rfl) rfl (yo_off rfl rfl) ?_; refine rw_takeP 15 rfl rfl (by kernel_rfl) (by kernel_rfl) (by kernel_rfl) (by kernel_rfl) rfl (yo_off rfl rfl) ?_)
        refine rw_one 17 rfl (by kernel_rfl) rfl (fun hcl => ?_)
        (repeat (first | refine lw_nil ?_ | (refine lw_goff_f rfl ?_ ?_; focus (first | with_reducible rfl | with_reducible exact Bool.not_false | with_reducible exact Bool.not_true))))
        refine qw_rw (by repeat (first | with_reducible refine nop_then ?_ | with_reducible refine nop_block ?_ | with_reducible exact nop_body)) hcl (fun h => absurd h (by decide)) ?_
        (refine rw_takeP 18 rfl rfl (by kernel_rfl) (by kernel_rfl) (by kernel_rfl) (by kernel_rfl) rfl (yo_off rfl rfl) ?_)
        (refine rw_takeP 19 rfl rfl (by kernel_rfl) (by kernel_rfl) (by kernel_rfl) (by kernel_rfl) rfl (yo_pure hT rfl) ?_; refine rw_takeP 20 rfl rfl (by kernel_rfl) (by kernel_rfl) (by kernel_rfl) (by kernel_rfl) rfl (yo_pure hT rfl) ?_)
        (refine rw_takeP 21 rfl rfl (by kernel_rfl) (by kernel_rfl) (by kernel_rfl) (by kernel_rfl) rfl (yo_on rfl rfl (yo_pure hT rfl)) ?_; refine rw_takeP 24 rfl rfl (by kernel_rfl) (by kernel_rfl) (by kernel_rfl) (by kernel_rfl) rfl (yo_on rfl rfl (yo_pure hT rfl)) ?_)
        refine rw_one 22 rfl (by kernel_rfl) rfl (fun hcl => ?_)
        refine lw_gon_f rfl rfl ?_
        refine lw_call hT rfl rfl (reg_Bills (hR18.ex hx19) hnsz hl1) ?_
        rintro _ w23 ⟨⟨Lc, _, hLcp, hLco⟩, hx23⟩
        obtain ⟨aL2, cL2, rfl⟩ := own_slice0 hLco
        rw [show Lc.length = r1.nums.length from hLcp.length_eq]
        have hx1823 := hx19.trans hx23
        (repeat (refine lw_nil ?_))
        refine qw_rw (by repeat (first | with_reducible refine nop_then ?_ | with_reducible refine nop_block ?_ | with_reducible exact nop_body)) hcl (fun h => absurd h (by decide)) ?_
        (refine rw_takeP 23 rfl rfl (by kernel_rfl) (by kernel_rfl) (by kernel_rfl) (by kernel_rfl) rfl (yo_on rfl rfl (yo_pure hT rfl)) ?_; refine rw_takeP 25 rfl rfl (by kernel_rfl) (by kernel_rfl) (by kernel_rfl) (by kernel_rfl) rfl (yo_on rfl rfl (yo_pure hT rfl)) ?_)
        rw [show decide (((r1.nums.length : Nat) : Int) ≠ ((r1.nums.length : Nat) : Int)) = false from by simp]
        (refine rw_takeP 26 rfl rfl (by kernel_rfl) (by kernel_rfl) (by kernel_rfl) (by kernel_rfl) rfl (yo_pure hT rfl) ?_)
        refine rw_done (by kernel_rfl) ?_
        exact qw_cut () (by repeat (first | exact trivial | refine ⟨rfl, ?_⟩)) ⟨hx018.trans hx1823, gs18, hR18.ex hx1823, hf18', hxt18.up hx1823⟩
    · rintro _ w24 ⟨hx024, gs24, hR24, hf24, hxt24⟩
      (repeat (first | (refine lw_add rfl rfl ?_ ?_ ?_; iterate 2 omega) | refine lw_pure hT rfl ?_ | refine lw_nil ?_ | refine cw_region ?_ | refine qw_then ?_ | refine cw_skip ?_ | refine qw_block ?_ | (refine cw_cond_f rfl ?_ ?_; focus (first | with_reducible rfl | with_reducible exact Bool.not_false | with_reducible exact Bool.not_true))))
      exact qw_round (i + 1) (by repeat (first | exact trivial | refine ⟨rfl, ?_⟩)) ⟨hlt, hx024, gs24, hR24, hf24, hxt24⟩ (by omega)
  · (repeat (first | refine lw_pure hT rfl ?_ | refine lw_nil ?_ | refine cw_seq ?_ | refine cw_region ?_ | refine qw_then ?_ | refine cw_ret ?_ | refine cw_exit ?_ | refine qw_block_exit ?_ | refine qw_then_exit ?_))
    exact qw_ret rfl ⟨rfl, hx011⟩
end Go.Proofs.YtnglkhnfmbnfeaaGreat

/- RowOnce -/
namespace Go.Proofs.YtnglkhnfmbnfeaaGreat.splitOnce
open Go Go.SK Go.ChangeShapes Go.WideShapes Go.ChangeAt Go.RowKit
open Go.ChangeMaps (open_string shut_string)
section
attribute [local semireducible] Go.SK.Ret
theorem of_ret {P : Program} {f : FuncId} {args : List Value} {w : World} {R : Value → World → Prop} (h : Ret P f args w R) : Calls P f ⟨args⟩ w fun e w' => ∃ v, e = .returned v ∧ R v w' := h
end
theorem own : ownKnob Tryz.prog.godebug = none := by kernel_rfl
theorem laidOut : laidOutB Tryz.prog = true := by kernel_rfl
set_option maxRecDepth 100000 in
theorem lifted (os : Os) (started : os.Started) (H : Type) (enc : TypeId × Value → H) :
    ReturnsInHanded {} Tryz.checked os 4 .any (Rows.splitOnceSpec.pre6 enc Tryz.prog Tryz.f4 Rows.splitOnceRow.domain false) (Rows.splitOnceSpec.post enc Tryz.prog Tryz.f4 false true false false) := by
  refine returnsInHanded_of_change_sized (C := Tryz.checked) own started (by kernel_rfl) Tryz.func4
    (ChangeSpec.witness6 (enc := enc) (C := Tryz.checked) false ⟨#[], #[.slice none 0 0, .agg #[.int .u8 0, .string ByteArray.empty, .string ByteArray.empty, .string ByteArray.empty, .string ByteArray.empty, .string ByteArray.empty, .slice none 0 0, .slice none 0 0, .int .i64 0], .string ByteArray.empty, .int .i64 0], []⟩ 8 (by kernel_rfl) (by kernel_rfl) (by kernel_rfl) (by kernel_rfl)) ?_
  intro W base args ds gs before hval0 hW hcnd hsz0 _
  have hval : ∀ (j : Nat) t v, Tryz.f4.params[j]? = some t → args[j]? = some v → Value.okWide Tryz.prog W .any base t v := hval0
  have hW' := hW
  obtain ⟨p, q, hA0, hV, rfl, hfz, hnd⟩ := hW
  have hA : DataW.TrodAll enc Tryz.prog W 0 (fun _ => true) true Tryz.f4.params.toList args.toList ds p := hA0
  rw [Tryz.params4] at hA hval
  obtain ⟨v0, vs0, d0, ds0, p0, q0, hargs, rfl, rfl, h0, r0⟩ := trodAll_cons hA
  obtain ⟨v1, vs1, d1, ds1, p1, q1, rfl, rfl, rfl, h1, r1⟩ := trodAll_cons r0
  obtain ⟨v2, vs2, d2, ds2, p2, q2, rfl, rfl, rfl, h2, r2⟩ := trodAll_cons r1
  obtain ⟨v3, vs3, d3, ds3, p3, q3, rfl, rfl, rfl, h3, r3⟩ := trodAll_cons r2
  obtain ⟨rfl, rfl, rfl⟩ := trodAll_nil r3
  obtain rfl : args = #[v0, v1, v2, v3] := by cases args; simp_all
  obtain ⟨rfl, rfl⟩ := trodVars_none hV
  obtain ⟨a0, len0, cap0, rfl⟩ := okWide_slice Tryz.underlying22 (hval 0 22 v0 rfl rfl)
  have k0 := h0
  have lt0 : ∀ x ∈ p0, x.block < W.heap.size := by obtain ⟨m, hm⟩ := k0; exact DataW.trod_lt m _ _ _ hm
  obtain ⟨l0, w0⟩ : ∃ l, ActsAt (fun _ => True) W (.slice a0 len0 cap0) l := by
    obtain ⟨fuel, hf⟩ := h0
    obtain ⟨v, l, hcs, hl⟩ := open_acts (fun _ => rfl) hf
    simp [Value.cells] at hcs
    subst hcs
    exact ⟨l, hl⟩
  obtain ⟨c1, rfl, hc1⟩ := okWide_struct Tryz.underlying45 (hval 1 45 v1 rfl rfl)
  have k1 := h1
  have lt1 : ∀ x ∈ p1, x.block < W.heap.size := by obtain ⟨m, hm⟩ := k1; exact DataW.trod_lt m _ _ _ hm
  obtain ⟨a1, vp1, vn1, e1, w1⟩ : ∃ a vp vn, c1 = ⟨encS a vp vn⟩ ∧ SActAt (fun _ => True) W a vp vn := by
    obtain ⟨fuel, hf⟩ := h1
    obtain ⟨a, vp, vn, hcs, hl⟩ := open_sact (fun _ => rfl) hf
    exact ⟨a, vp, vn, by cases c1; simp [Value.cells] at hcs; subst hcs; rfl, hl⟩
  subst e1
  obtain ⟨a2, rfl, rfl, rfl, y2⟩ := open_string Tryz.underlying9 (hval 2 9 v2 rfl rfl) h2
  obtain ⟨a3, rfl, rfl, rfl, w3⟩ := open_int Tryz.underlying3 (hval 3 3 v3 rfl rfl) h3
  clear hA0 hval0 hsz0
  refine (of_ret (l24_Once w0 w1 a2 y2 a3 w3)).mono fun e W' ⟨v, he, hv, hx⟩ => ?_
  subst he hv
  have bel : Below W.heap.size W W' := Ext.below hx (Nat.le_refl _) (fun _ _ f => f)
  exact ⟨_, rfl, _, _, _, [], _, [], hW', trodAll_mk1 (shut_bool Tryz.underlying4 _), (trodAll_cons_mk (Below.trod laidOut (by kernel_rfl) (of_decide_eq_true (by kernel_rfl)) k0 bel lt0) (trodAll_cons_mk (Below.trod laidOut (by kernel_rfl) (of_decide_eq_true (by kernel_rfl)) k1 bel lt1) (trodAll_cons_mk (shut_string Tryz.underlying9 y2) (trodAll_cons_mk (shut_int Tryz.underlying3 w3) trodAll_mk0)))), rfl, bel.frame _, fun h => by cases h⟩
theorem over : Rows.splitOnceRow.holds Tryz.pinned (OpenSpec.ofChange Rows.splitOnceSpec) :=
  OpenClaim.holds_of_wide 4 Tryz.f4 rfl rfl rfl rfl rfl rfl rfl ⟨rfl, rfl, rfl, rfl, rfl⟩ rfl rfl rfl rfl rfl (by kernel_rfl) Tryz.func4 (by kernel_rfl)
    (of_decide_eq_true (by kernel_rfl)) (by unfold Func.isWrapper; first | (rw [if_pos (by decide +kernel)]; kernel_rfl) | (rw [if_neg (by decide +kernel)]; exact ⟨rfl, rfl⟩))
    (fun os started H enc _ => lifted os started H enc)
end Go.Proofs.YtnglkhnfmbnfeaaGreat.splitOnce
namespace Go.Proofs.YtnglkhnfmbnfeaaGreat
theorem splitOnce_holds : Rows.SplitOnceSaid := splitOnce.over
#print axioms splitOnce_holds
end Go.Proofs.YtnglkhnfmbnfeaaGreat
