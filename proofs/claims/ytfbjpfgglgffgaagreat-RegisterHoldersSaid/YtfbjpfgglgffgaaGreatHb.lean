/- Contracts of register.Bills and register.Of, over the shelf's contract on slices.Sorted(maps.Keys(m)). -/
import Derived.Test.YtfbjpfgglgffgaaGreatShp
import Derived.Test.YtfbjpfgglgffgaaGreatHa
import Derived.Test.YtfbjpfgglgffgaaGreatRe
set_option linter.unusedVariables false
set_option linter.unusedSimpArgs false
set_option linter.unusedSectionVars false
set_option linter.unnecessarySimpa false
namespace Go.SK
open Go
attribute [local semireducible] Ret
theorem ret_mk {P : Program} {f : FuncId} {args : List Value} {w : World} {R : Value → World → Prop} (h : Calls P f ⟨args⟩ w fun e w' => ∃ v, e = .returned v ∧ R v w') : Ret P f args w R := h
theorem ex_of_below {w w' : World} (h : Go.RowKit.Below w.heap.size w w') : Ex w w' := by
  obtain ⟨h1, h2, h3, h4, h5⟩ := h
  exact ⟨h1, h2, h3, h4, fun k hk _ => h5 k hk⟩
end Go.SK
namespace Go.Proofs.YtfbjpfgglgffgaaGreat
open Go Go.SK Go.RowKit Go.Maps Go.Sort Go.Shelf

theorem sorts_at (m : Nat) : AnyZ.SortsIn Tryz.prog Tryz.sorted35_ren Fence.wide m :=
  ⟨fun blk off cap ss W hH hblk hsz => callsIn_wide.2 (AnyM.slices_Sort_string Tryz.sort62 blk off cap ss W hH hblk hsz),
   fun p cap W => callsIn_wide.2 (AnyM.slices_Sort_string_none Tryz.sort62 p cap W)⟩
theorem maps_Keys (mb : Option Nat) (W : World) : Ret Tryz.prog 36 [.map mb] W fun v w' => v = .func (.func 63) #[] #[.pointer (some ⟨W.heap.size, 0, none⟩)] ∧ w' = W.alloc (.cells #[.map mb] 78) :=
  ret_mk ((callsIn_wide.1 (AnyZ.keys_in Tryz.keys36 Fence.wide 5 trivial rfl mb W)).mono fun _ _ ⟨h1, h2⟩ => ⟨_, h1, rfl, h2⟩)
set_option maxHeartbeats 1000000 in
theorem sorted_keys {H : Type} (b nn : Nat) (D0 : DataW H) (R : Value → Option (DataW H × List MemPlace)) (w : World) (hown : w.ownsMap Tryz.prog 9 R b nn D0) (hmax : Maps.size D0 ≤ maxLen) (hbytes : Maps.size D0 * 16 ≤ 140737488355328) :
    Ret Tryz.prog 35 [.func (.func 63) #[] #[.pointer (some ⟨w.heap.size, 0, none⟩)]] (w.alloc (.cells #[.map (some b)] 78)) fun v w' => (∃ ss : List (List UInt8), ss.Perm (strKeys D0) ∧
      w'.ownsRow (w.alloc (.cells #[.map (some b)] 78)).heap.size 9 1 v ss.length ((ss.mergeSort (fun x y => decide (x ≤ y))).map encStr)) ∧ Ex (w.alloc (.cells #[.map (some b)] 78)) w' := by
  have hbl := hown.lt
  have hseq : SeqGives Fence.wide 2 Tryz.prog 63 #[.pointer (some ⟨w.heap.size, 0, none⟩)] encStr (fun ss => ss.Perm (strKeys D0)) (Maps.size D0) (w.alloc (.cells #[.map (some b)] 78)) :=
    AnyZ.keys_gives (ρ := Tryz.keys36_ren) { Tryz.keys36 with } Fence.wide _ trivial rfl (by omega) w.heap.size b nn D0 _ (by simp) (by simp) (by
      obtain ⟨es, clock, hb, Ft, hs, hD⟩ := hown
      exact ⟨es, clock, (Below.heap_alloc _ _ b hbl).trans hb, Ft, hs, hD⟩)
  have := AnyZ.sorted_in Tryz.sorted35 Fence.wide 5 trivial trivial trivial trivial rfl (by omega) (sorts_at _) (enters_of Tryz.func62 (by kernel_rfl) rfl) 63 #[.pointer (some ⟨w.heap.size, 0, none⟩)] trivial (enters_of Tryz.func63 (by kernel_rfl) rfl) _ _ hmax hbytes _ hseq
  exact ret_mk ((callsIn_wide.1 this).mono fun _ _ ⟨v, ss, h1, h2, h3, _, h5⟩ => ⟨v, h1, ⟨ss, h2, h3⟩, ex_of_below h5⟩)
/-- A map of ours, in the shelf's words. -/
theorem owns_of {w : World} {m : Nat} {es : List (ByteArray × Value)} (hm : Mp w m es) (hk : ∀ e ∈ es, e.1.size ≤ maxLen) (hn : es.length ≤ maxLen) (hd : (es.map (·.1)).Nodup) :
    ∃ D : DataW Unit, w.ownsMap Tryz.prog 9 (fun _ => some (.nil, [])) m es.length D ∧ Maps.size D = es.length ∧ (strKeys D).Perm (es.map fun e => e.1.data.toList) := by
  obtain ⟨ents, clock, h1, h2, h3, h4⟩ := hm.is
  have us : Tryz.prog.underlying 9 = some .string := by kernel_rfl
  have hkeys : ents.toList.map (·.key) = es.map fun e => Value.string e.1 := by
    have := congrArg (List.map (·.1)) h2
    rw [List.map_map, List.map_map] at this
    exact this
  have hlen : ents.size = es.length := by have := congrArg List.length h2; simpa using this
  have hmem : ∀ x ∈ ents.toList, ∃ e ∈ es, x.key = .string e.1 := by
    intro x hx
    have : x.key ∈ ents.toList.map (·.key) := List.mem_map.2 ⟨x, hx, rfl⟩
    rw [hkeys] at this
    obtain ⟨e, he, hek⟩ := List.mem_map.1 this
    exact ⟨e, he, hek.symm⟩
  have hko : ∀ s : ByteArray, s.size ≤ maxLen → keyOf Tryz.prog 9 (.string s) = some (.string s.data.toList) := by
    intro s hs
    simp [keyOf, us, mapKey, hs]
  have hrd : ∀ x ∈ ents.toList, ∀ e ∈ es, x.key = .string e.1 → Go.WideElems.rd (H := Unit) Tryz.prog 9 (fun _ => some (.nil, [])) x = some (.string e.1.data.toList, .nil) := by
    intro x _ e he hx
    unfold Go.WideElems.rd
    rw [hx, hko _ (hk e he)]
    rfl
  have hfit : Go.WideElems.Fit (H := Unit) Tryz.prog 9 (fun _ => some (.nil, [])) ents clock := by
    refine ⟨by rw [hlen]; exact hn, ⟨?_, ?_, ?_⟩, ?_⟩
    · intro x hx
      have : x.born ∈ ents.toList.map (·.born) := List.mem_map.2 ⟨x, hx, rfl⟩
      rw [h3] at this
      rw [h4]; simpa using this
    · rw [h3]; exact List.nodup_range
    · rw [hkeys]
      have : (es.map fun e => Value.string e.1) = (es.map (·.1)).map Value.string := by simp
      rw [this]
      exact List.pairwise_map.2 (List.Pairwise.imp (fun hne e => hne (by injection e)) hd)
    · intro x hx
      obtain ⟨e, he, hxe⟩ := hmem x hx
      exact ⟨_, hrd x hx e he hxe⟩
  refine ⟨_, ⟨ents, clock, h1, hfit, by omega, rfl⟩, ?_, ?_⟩
  · show ((ents.toList.map _).foldr DataW.insert []).length = es.length
    rw [(Go.WideShapes.sorted_perm _).length_eq]
    simp [hlen]
  · show (((ents.toList.map _).foldr DataW.insert []).map fun p => strOf p.1).Perm _
    refine ((Go.WideShapes.sorted_perm _).map _).trans ?_
    have e1 : ((ents.toList.map (Go.WideElems.rg (H := Unit) Tryz.prog 9 fun _ => some (.nil, []))).map fun p => strOf p.1) = es.map fun e => e.1.data.toList := by
      have e2 : ((ents.toList.map (Go.WideElems.rg (H := Unit) Tryz.prog 9 fun _ => some (.nil, []))).map fun p => strOf p.1) = (ents.toList.map (·.key)).map fun v => match v with | .string s => s.data.toList | _ => [] := by
        rw [List.map_map, List.map_map]
        apply List.map_congr_left
        intro x hx
        obtain ⟨e, he, hxe⟩ := hmem x hx
        simp only [Function.comp, Go.WideElems.rg, hrd x hx e he hxe, Option.getD_some, hxe]
        rfl
      rw [e2, hkeys, List.map_map]
      rfl
    rw [e1]
def ofBytes (l : List UInt8) : ByteArray := ⟨l.toArray⟩
theorem ofBytes_inv (s : ByteArray) : ofBytes s.data.toList = s := by unfold ofBytes; simp
section
variable {w : World} {p : Nat} {r : RegD} {m : Nat} {gs : List GhostE}
/-- A rising list of all numbers. -/
def BillsR (r : RegD) (N : Nat) (w' : World) (v : Value) : Prop := ∃ L, Rising L ∧ L.Perm r.nums ∧ w'.ownsRow N 9 1 v L.length (L.map Value.string)
theorem reg_Bills (hR : Rep w p r m gs) (hsz : ∀ e ∈ r.l, e.bill.number.size ≤ maxLen) (hl : r.l.length ≤ 256) : Ret Tryz.prog 12 [.pointer (some ⟨p, 0, none⟩)] w fun v w' => BillsR r w.heap.size w' v ∧ Ex w w' := by
  obtain ⟨es, hmp, hpm⟩ := hR.map
  have hkeys := hR.keys
  have hnum : (mapOf r.l gs).map (·.1) = r.nums := by
    have key : ∀ (l : List EntD) (gs : List GhostE), l.length = gs.length → (mapOf l gs).map (·.1) = l.map (·.bill.number) := by
      intro l
      induction l with
      | nil => intro gs _; rfl
      | cons a l ih =>
        intro gs hg
        cases gs with
        | nil => simp at hg
        | cons g gs => rw [mapOf_cons, List.map_cons, ih gs (by simpa using hg), List.map_cons]
    exact key r.l gs hR.len
  have hpn : (es.map (·.1)).Perm r.nums := by rw [← hnum]; exact hpm.map _
  have hnd : (es.map (·.1)).Nodup := hpn.nodup_iff.2 hR.nd.nums
  have hel : es.length = r.l.length := by have := hpn.length_eq; simpa [RegD.nums] using this
  have hks : ∀ e ∈ es, e.1.size ≤ maxLen := by
    intro e he
    have : e.1 ∈ r.nums := hpn.mem_iff.1 (List.mem_map.2 ⟨e, he, rfl⟩)
    obtain ⟨x, hx, hxe⟩ := List.mem_map.1 this
    rw [← hxe]; exact hsz x hx
  obtain ⟨D, hD1, hD2, hD3⟩ := owns_of hmp hks (by unfold maxLen; omega) hnd
  refine ret_of Tryz.func12 Tryz.ntmps12 rfl rfl rfl ?_
  (repeat (first | refine lw_pure hT rfl ?_ | refine lw_nil ?_ | refine cw_seq ?_ | refine cw_region ?_ | refine qw_then ?_))
  refine lw_load hT rfl rfl (v := .map (some m)) (hR.blk.cell 1) ?_
  skip
  refine lw_call hT rfl rfl (maps_Keys (some m) w) ?_
  rintro _ _ ⟨rfl, rfl⟩
  skip
  refine lw_call hT rfl rfl (sorted_keys m es.length D _ w hD1 (by rw [hD2]; unfold maxLen; omega) (by rw [hD2]; omega)) ?_
  rintro u w2 ⟨⟨ss, hss, hown⟩, hx2⟩
  have hx1 : Ex w (w.alloc (.cells #[.map (some m)] 78)) := Ext.alloc _ _
  have hpb : ss.Perm (es.map fun e => e.1.data.toList) := hss.trans hD3
  have tr : ∀ a b c : List UInt8, decide (a ≤ b) = true → decide (b ≤ c) = true → decide (a ≤ c) = true := fun a b c h1 h2 => by simp only [decide_eq_true_eq] at *; exact List.le_trans h1 h2
  have to : ∀ a b : List UInt8, (decide (a ≤ b) || decide (b ≤ a)) = true := fun a b => by simp only [Bool.or_eq_true, decide_eq_true_eq]; exact List.le_total a b
  have hms := List.mergeSort_perm ss (fun x y => decide (x ≤ y))
  have hsorted := List.pairwise_mergeSort tr to ss
  generalize ss.mergeSort (fun x y => decide (x ≤ y)) = S at hown hms hsorted
  have hSl : S.length = ss.length := hms.length_eq
  have hSp : S.Perm (es.map fun e => e.1.data.toList) := hms.trans hpb
  have hSn : S.Nodup := by
    refine hSp.nodup_iff.2 ?_
    have : (es.map fun e => e.1.data.toList) = (es.map (·.1)).map fun s => s.data.toList := by simp
    rw [this]
    exact List.pairwise_map.2 (List.Pairwise.imp (fun hne e => hne (by have := congrArg ofBytes e; rwa [ofBytes_inv, ofBytes_inv] at this)) hnd)
  (repeat (first | refine lw_pure hT rfl ?_ | refine lw_nil ?_ | refine qw_then ?_ | refine cw_ret ?_))
  refine qw_ret rfl ⟨⟨S.map ofBytes, ?_, ?_, ?_⟩, hx1.trans hx2⟩
  · unfold Rising
    rw [List.pairwise_map]
    have hne : S.Pairwise (fun a b => a ≠ b) := hSn
    refine (hsorted.and hne).imp fun {a b} ⟨h1, h2⟩ => ?_
    rw [ltB_iff]
    have ea : (ofBytes a).toList = a := by rw [Lib.toList_data]; rfl
    have eb : (ofBytes b).toList = b := by rw [Lib.toList_data]; rfl
    rw [ea, eb]
    have h1 : a ≤ b := of_decide_eq_true h1
    rcases List.le_iff_lt_or_eq.1 h1 with h | h
    · exact h
    · exact absurd h h2
  · have := hSp.map ofBytes
    rw [List.map_map] at this
    have e : (es.map (ofBytes ∘ fun e : ByteArray × Value => e.1.data.toList)) = es.map (·.1) := List.map_congr_left fun e _ => ofBytes_inv e.1
    rw [e] at this
    exact this.trans hpn
  · rw [List.length_map, hSl, List.map_map]
    exact own_mono hown hx1.size
end
end Go.Proofs.YtfbjpfgglgffgaaGreat
