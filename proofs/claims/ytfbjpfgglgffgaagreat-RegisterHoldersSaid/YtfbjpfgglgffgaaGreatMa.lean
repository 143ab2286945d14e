/- The model: bills, originals, a register, and what the acts do to it. Plain Lean, but for what names and marks are. -/
import Derived.Test.YtfbjpfgglgffgaaGreatCc
set_option linter.unusedVariables false
set_option linter.unusedSimpArgs false
set_option linter.unusedSectionVars false
set_option linter.unnecessarySimpa false
namespace Go.Proofs.YtfbjpfgglgffgaaGreat
open Go Go.SK

structure BillD where
  number : ByteArray
  carrier : ByteArray
  shipper : ByteArray
  frm : ByteArray
  to_ : ByteArray
  boxes : List ByteArray
  parents : List ByteArray
  issued : Int
  clean : Bool
structure EndD where
  frm : ByteArray
  to_ : ByteArray
  kind : Int
  day : Int
structure PapD where
  state : Int
  holder : ByteArray
  chain : List EndD
structure EntD where
  bill : BillD
  state : Int
  ps : List PapD
structure RegD where
  carrier : ByteArray
  l : List EntD
structure ActD where
  kind : Int
  index : Int
  day : Int
  bill : ByteArray
  by_ : ByteArray
  to_ : ByteArray
  b : BillD

instance : Inhabited PapD := ⟨⟨0, ⟨#[]⟩, []⟩⟩

def dayB (n : Int) : Bool := decide (0 ≤ n) && decide (n ≤ 1048576)
/-- None twice. -/
def onceB : List ByteArray → Bool
  | [] => true
  | x :: l => !(l.any fun y => decide (x = y)) && onceB l
def mayB (c : ByteArray) (b : BillD) : Bool :=
  (nameB b.number && nameB b.shipper && nameB b.frm && nameB b.to_) && (decide (b.carrier = c) && ((b.boxes.all rightB && onceB b.boxes && (decide (1 ≤ b.boxes.length) && decide (b.boxes.length ≤ 64))) &&
    (decide (b.parents.length ≤ 64) && (b.parents.all nameB && dayB b.issued))))
def EntD.has (e : EntD) (x : ByteArray) : Bool := decide (e.state = 0) && e.bill.boxes.any fun y => decide (x = y)
def RegD.at? (r : RegD) (n : ByteArray) : Option EntD := r.l.find? fun e => decide (n = e.bill.number)
def RegD.boxed (r : RegD) (x : ByteArray) : Bool := r.l.any fun e => e.has x
def newEnt (b : BillD) (holder : ByteArray) : EntD := ⟨b, 0, [⟨0, holder, []⟩, ⟨0, holder, []⟩, ⟨0, holder, []⟩]⟩
def issueC (r : RegD) (b : BillD) (holder : ByteArray) : Int :=
  if !mayB r.carrier b || !nameB holder then 1
  else if (r.at? b.number).isSome then 5
  else if b.boxes.any r.boxed then 9
  else if r.l.length = 256 then 7 else 0
def issueD (r : RegD) (b : BillD) (holder : ByteArray) : RegD := if issueC r b holder = 0 then { r with l := r.l ++ [newEnt b holder] } else r

/-- What an act asks. -/
structure AskD where
  bill : ByteArray
  by_ : ByteArray
  index : Int
  state : Int
  dated : Bool
  day : Int
  to_ : ByteArray
  given : Bool
def ixs (index : Int) : List Nat := if index = -1 then [0, 1, 2] else if index = 0 then [0] else if index = 1 then [1] else if index = 2 then [2] else []
def untilD (b : BillD) (p : PapD) : Int := match p.chain.getLast? with
  | some x => x.day
  | none => b.issued
def askE (e : EntD) (a : AskD) : Int :=
  let l := (ixs a.index).map fun i => e.ps.getD i default
  if l.length = 0 then 3
  else if (a.dated && !dayB a.day) || (a.given && (!nameB a.to_ || decide (a.to_ = a.by_))) then 1
  else if decide (e.state ≠ 0) || l.any (fun p => decide (p.state ≠ a.state)) then 9
  else if l.any (fun p => decide (p.holder ≠ a.by_)) then 8
  else if a.dated && l.any (fun p => decide (a.day < untilD e.bill p)) then 6
  else 0
def askC (r : RegD) (a : AskD) : Int := match r.at? a.bill with
  | none => 4
  | some e => askE e a
def oneI (i : Int) : Int := if i = -1 then 3 else i
/-- The question of each act that isn't Issue. -/
def ActD.ask (a : ActD) : AskD :=
  if a.kind = 1 then ⟨a.bill, a.by_, a.index, 0, true, a.day, a.to_, true⟩
  else if a.kind = 2 then ⟨a.bill, a.by_, oneI a.index, 0, true, a.day, ⟨#[]⟩, false⟩
  else if a.kind = 3 then ⟨a.bill, a.by_, oneI a.index, 0, false, 0, ⟨#[]⟩, false⟩
  else if a.kind = 4 then ⟨a.bill, a.by_, oneI a.index, 3, true, a.day, ⟨#[]⟩, false⟩
  else ⟨a.bill, a.by_, -1, 0, true, a.day, ⟨#[]⟩, false⟩
/-- Some of the originals changed. -/
def onIx (l : List Nat) (f : PapD → PapD) (ps : List PapD) : List PapD := ps.zipIdx.map fun (p, i) => if l.contains i then f p else p
def endorseP (by_ to_ : ByteArray) (day : Int) (p : PapD) : PapD := { p with holder := to_, chain := p.chain ++ [⟨by_, to_, 0, day⟩] }
def stateP (s : Int) (p : PapD) : PapD := { p with state := s }
def EntD.after (e : EntD) (a : ActD) : EntD :=
  if a.kind = 1 then { e with ps := onIx (ixs a.index) (endorseP a.by_ a.to_ a.day) e.ps }
  else if a.kind = 2 then { e with state := 1, ps := onIx (ixs a.index) (stateP 1) (e.ps.map (stateP 2)) }
  else if a.kind = 3 then { e with ps := onIx (ixs a.index) (stateP 3) e.ps }
  else if a.kind = 4 then { e with ps := onIx (ixs a.index) (stateP 0) e.ps }
  else { e with state := 4, ps := e.ps.map (stateP 2) }
/-- A bill's entry changed. -/
def RegD.upd (r : RegD) (n : ByteArray) (f : EntD → EntD) : RegD := { r with l := r.l.map fun e => if n = e.bill.number then f e else e }
def actC (r : RegD) (a : ActD) : Int := if a.kind = 0 then issueC r a.b a.to_ else askC r a.ask
def doA (r : RegD) (a : ActD) : RegD :=
  if a.kind = 0 then issueD r a.b a.to_
  else if askC r a.ask = 0 then r.upd a.bill (·.after a) else r

/-! ### How the data lie in memory -/
def encE (x : EndD) : List Value := [.string x.frm, .string x.to_, .int .i64 x.kind, .int .i64 x.day]
/-- The cells of a bill, its two slices given. -/
def encB (b : BillD) (vb vp : Value) : List Value := [.string b.number, .string b.carrier, .string b.shipper, .string b.frm, .string b.to_, vb, vp, .int .i64 b.issued, .bool b.clean]
/-- The cells of a bill that is read in a world. -/
structure BillAt (A : Nat → Prop) (w : World) (cs : List Value) (b : BillD) : Prop where
  is : ∃ vb vp, cs = encB b vb vp ∧ SlS A w vb b.boxes ∧ SlS A w vp b.parents
theorem BillAt.ext {A F : Nat → Prop} {w w' : World} {cs : List Value} {b : BillD} (h : BillAt A w cs b) (hx : Ext F w w') (hn : ∀ b, A b → ¬ F b) : BillAt A w' cs b := by
  obtain ⟨vb, vp, h1, h2, h3⟩ := h.is
  exact ⟨vb, vp, h1, h2.ext hx hn, h3.ext hx hn⟩
theorem BillAt.ex {A : Nat → Prop} {w w' : World} {cs : List Value} {b : BillD} (h : BillAt A w cs b) (hx : Ex w w') : BillAt A w' cs b := h.ext hx fun _ _ f => f
theorem BillAt.weaken {A B : Nat → Prop} {w : World} {cs : List Value} {b : BillD} (h : BillAt A w cs b) (hn : ∀ b, A b → B b) : BillAt B w cs b := by
  obtain ⟨vb, vp, h1, h2, h3⟩ := h.is
  exact ⟨vb, vp, h1, h2.weaken hn, h3.weaken hn⟩
/-- A slice of endorsements that is read. -/
abbrev SlE (A : Nat → Prop) (w : World) (v : Value) (l : List EndD) : Prop := Sl A w v 4 (l.map encE)
theorem flat_single {α β : Type} (f : α → β) (l : List α) : (l.map fun s => [f s]).flatten = l.map f := by
  induction l with
  | nil => rfl
  | cons a l ih => simp [ih]
/-- A chain of the register's own: an array of its own, or nil. -/
abbrev ChainOk (w : World) (vc : Value) (l : List EndD) : Prop := w.ownsRow 0 104 4 vc l.length (l.map encE).flatten
structure GhostE where
  e : Nat
  vb : Value
  vp : Value
  vcs : List Value
def papCells : List PapD → List Value → List Value
  | p :: ps, vc :: vcs => .int .i64 p.state :: .string p.holder :: vc :: papCells ps vcs
  | _, _ => []
def entCells (x : EntD) (g : GhostE) : List Value := encB x.bill g.vb g.vp ++ .int .i64 x.state :: papCells x.ps g.vcs
/-- The blocks that are written, those that are read alone, all. -/
def GhostE.fp (g : GhostE) : List Nat := g.e :: g.vcs.filterMap Value.ownBlock
structure GhostE.Nd (g : GhostE) : Prop where
  e : ∀ (i : Nat) (vc : Value), g.vcs[i]? = some vc → vc.ownBlock ≠ some g.e
  vcs : ∀ (i j : Nat) (v u : Value) (b : Nat), i ≠ j → g.vcs[i]? = some v → g.vcs[j]? = some u → v.ownBlock = some b → u.ownBlock ≠ some b
def GhostE.rd (g : GhostE) : List Nat := [g.vb, g.vp].filterMap Value.ownBlock
def foot (p m : Nat) (gs : List GhostE) : List Nat := p :: m :: gs.flatMap fun g => g.fp ++ g.rd
theorem flat4 (l : List ByteArray) : (l.map fun s => [Value.string s]).flatten = l.map Value.string := flat_single _ _
theorem sls_own {A : Nat → Prop} {w : World} {base e : Nat} {v : Value} {l : List ByteArray} (h : w.ownsRow base e 1 v l.length (l.map Value.string)) (hA : ∀ b, v.ownBlock = some b → A b) : SlS A w v l := by
  have : Sl A w v 1 (l.map fun s => [Value.string s]) := own_sl (by rw [flat4, List.length_map]; exact h) (by simp) hA
  exact this
theorem own_base {w : World} {base e size n : Nat} {v : Value} {xs : List Value} (h : w.ownsRow base e size v n xs) {b : Nat} (hb : v.ownBlock = some b) : base ≤ b ∧ b < w.heap.size := by
  rcases h.2 with ⟨rfl, _⟩ | ⟨g, cap, cur, rfl, h2, h3, _⟩
  · simp [Value.ownBlock] at hb
  · simp [Value.ownBlock] at hb; subst hb; exact ⟨h2, (Array.getElem?_eq_some_iff.1 h3).1⟩
theorem own_one {w : World} {base e size n : Nat} {v : Value} {xs : List Value} (h : w.ownsRow base e size v n xs) : v.oneCell' = true := by
  rcases h.2 with ⟨rfl, _⟩ | ⟨g, cap, cur, rfl, _⟩ <;> rfl
theorem own_mono {w : World} {base base' : Nat} {e : TypeId} {size n : Nat} {v : Value} {xs : List Value} (h : w.ownsRow base e size v n xs) (hb : base' ≤ base) : w.ownsRow base' e size v n xs := by
  refine ⟨h.1, ?_⟩
  rcases h.2 with hnil | ⟨g, cap, cur, h1, h2, rest⟩
  · exact .inl hnil
  · exact .inr ⟨g, cap, cur, h1, Nat.le_trans hb h2, rest⟩
structure EntOk (w : World) (x : EntD) (g : GhostE) : Prop where
  blk : Blk w g.e (entCells x g) 88
  boxesO : w.ownsRow 0 9 1 g.vb x.bill.boxes.length (x.bill.boxes.map Value.string)
  parentsO : w.ownsRow 0 9 1 g.vp x.bill.parents.length (x.bill.parents.map Value.string)
  three : x.ps.length = 3
  three' : g.vcs.length = 3
  chains : ∀ (i : Nat) (p : PapD) (vc : Value), x.ps[i]? = some p → g.vcs[i]? = some vc → ChainOk w vc p.chain
theorem EntOk.boxes {w : World} {x : EntD} {g : GhostE} (h : EntOk w x g) : SlS (fun _ => True) w g.vb x.bill.boxes := sls_own h.boxesO fun _ _ => trivial
theorem EntOk.parents {w : World} {x : EntD} {g : GhostE} (h : EntOk w x g) : SlS (fun _ => True) w g.vp x.bill.parents := sls_own h.parentsO fun _ _ => trivial
theorem GhostE.fp_mem {g : GhostE} {b : Nat} : b ∈ g.fp ↔ b = g.e ∨ ∃ (i : Nat) (vc : Value), g.vcs[i]? = some vc ∧ vc.ownBlock = some b := by
  simp only [GhostE.fp, List.mem_cons, List.mem_filterMap]
  constructor
  · rintro (h | ⟨vc, h1, h2⟩)
    · exact .inl h
    · obtain ⟨i, hi⟩ := List.getElem?_of_mem h1; exact .inr ⟨i, vc, hi, h2⟩
  · rintro (h | ⟨i, vc, h1, h2⟩)
    · exact .inl h
    · exact .inr ⟨vc, List.mem_of_getElem? h1, h2⟩
theorem GhostE.rd_mem {g : GhostE} {b : Nat} : b ∈ g.rd ↔ g.vb.ownBlock = some b ∨ g.vp.ownBlock = some b := by
  simp [GhostE.rd]
theorem EntOk.lt {w : World} {x : EntD} {g : GhostE} (h : EntOk w x g) {b : Nat} (hb : b ∈ g.fp ∨ b ∈ g.rd) : b < w.heap.size := by
  rcases hb with hb | hb
  · rcases GhostE.fp_mem.1 hb with rfl | ⟨i, vc, h1, h2⟩
    · exact h.blk.lt
    · have hi : i < x.ps.length := by have := (List.getElem?_eq_some_iff.1 h1).1; rw [h.three'] at this; rw [h.three]; exact this
      exact (own_base (h.chains i x.ps[i] vc (by simp [hi]) h1) h2).2
  · rcases GhostE.rd_mem.1 hb with hb | hb
    · exact (own_base h.boxesO hb).2
    · exact (own_base h.parentsO hb).2
theorem EntOk.ext {F : Nat → Prop} {w w' : World} {x : EntD} {g : GhostE} (h : EntOk w x g) (hx : Ext F w w') (h1 : ∀ b ∈ g.fp, ¬ F b) (h2 : ∀ b ∈ g.rd, ¬ F b) : EntOk w' x g :=
  ⟨h.blk.ext hx (h1 _ (GhostE.fp_mem.2 (.inl rfl))), own_ext h.boxesO hx (fun b hb => h2 b (GhostE.rd_mem.2 (.inl hb))), own_ext h.parentsO hx (fun b hb => h2 b (GhostE.rd_mem.2 (.inr hb))), h.three, h.three',
    fun i p vc g1 g2 => own_ext (h.chains i p vc g1 g2) hx (fun b hb => h1 b (GhostE.fp_mem.2 (.inr ⟨i, vc, g2, hb⟩)))⟩
theorem EntOk.ex {w w' : World} {x : EntD} {g : GhostE} (h : EntOk w x g) (hx : Ex w w') : EntOk w' x g := h.ext hx (fun _ _ f => f) (fun _ _ f => f)
def mapOf (l : List EntD) (gs : List GhostE) : List (ByteArray × Value) := (l.zip gs).map fun x => (x.1.bill.number, .pointer (some ⟨x.2.e, 0, none⟩))
/-- No number twice. -/
def RegD.Nd (r : RegD) : Prop := ∀ (i j : Nat) (x y : EntD), r.l[i]? = some x → r.l[j]? = some y → x.bill.number = y.bill.number → i = j
structure Rep (w : World) (p : Nat) (r : RegD) (m : Nat) (gs : List GhostE) : Prop where
  blk : Blk w p [.string r.carrier, .map (some m)] 81
  map : ∃ es, Mp w m es ∧ es.Perm (mapOf r.l gs)
  nd : r.Nd
  len : r.l.length = gs.length
  ents : ∀ (i : Nat) (x : EntD) (g : GhostE), r.l[i]? = some x → gs[i]? = some g → EntOk w x g
  fpn : ∀ (i : Nat) (g : GhostE), gs[i]? = some g → g.Nd ∧ m ∉ g.fp ∧ m ∉ g.rd ∧ p ∉ g.fp ∧ p ∉ g.rd
  disj : ∀ (i j : Nat) (g g' : GhostE), i ≠ j → gs[i]? = some g → gs[j]? = some g' → ∀ b ∈ g.fp, b ∉ g'.fp
  rdn : ∀ (i j : Nat) (g g' : GhostE), gs[i]? = some g → gs[j]? = some g' → ∀ b ∈ g.fp, b ∉ g'.rd
  pm : p ≠ m
theorem mget_perm {k : ByteArray} : ∀ {es es' : List (ByteArray × Value)}, es.Perm es' → (es'.map (·.1)).Nodup → mget es k = mget es' k := by
  intro es es' h
  induction h with
  | nil => intro _; rfl
  | cons x _ ih =>
    intro hn
    simp only [List.map_cons, List.nodup_cons] at hn
    have := ih hn.2
    unfold mget at this ⊢
    by_cases e : k = x.1 <;> simp [e]
    simpa [e] using this
  | swap x y l =>
    intro hn
    simp only [List.map_cons, List.nodup_cons, List.mem_cons, not_or] at hn
    unfold mget
    by_cases e : k = x.1 <;> by_cases e' : k = y.1
    · exact absurd (e.symm.trans e') hn.1.1
    · subst e; simp [e']
    · subst e'; simp [e]
    · simp [e, e']
  | trans h1 h2 ih1 ih2 => intro hn; rw [ih1 ((h2.map _).nodup_iff.2 hn), ih2 hn]
theorem foot_mem {p m : Nat} {gs : List GhostE} {b : Nat} : b ∈ foot p m gs ↔ b = p ∨ b = m ∨ ∃ (i : Nat) (g : GhostE), gs[i]? = some g ∧ (b ∈ g.fp ∨ b ∈ g.rd) := by
  simp only [foot, List.mem_cons, List.mem_flatMap, List.mem_append]
  constructor
  · rintro (h | h | ⟨g, h1, h2⟩)
    · exact .inl h
    · exact .inr (.inl h)
    · obtain ⟨i, hi⟩ := List.getElem?_of_mem h1; exact .inr (.inr ⟨i, g, hi, h2⟩)
  · rintro (h | h | ⟨i, g, h1, h2⟩)
    · exact .inl h
    · exact .inr (.inl h)
    · exact .inr (.inr ⟨g, List.mem_of_getElem? h1, h2⟩)
section
variable {w w' : World} {p : Nat} {r : RegD} {m : Nat} {gs : List GhostE}
theorem Rep.ent? (h : Rep w p r m gs) {i : Nat} {g : GhostE} (hg : gs[i]? = some g) : ∃ x, r.l[i]? = some x := by
  have := (List.getElem?_eq_some_iff.1 hg).1
  rw [← h.len] at this
  exact ⟨r.l[i], List.getElem?_eq_getElem this⟩
theorem Rep.foot_lt (h : Rep w p r m gs) {b : Nat} (hb : b ∈ foot p m gs) : b < w.heap.size := by
  rcases foot_mem.1 hb with rfl | rfl | ⟨i, g, h1, h2⟩
  · exact h.blk.lt
  · obtain ⟨es, h1, _⟩ := h.map; exact h1.lt
  · obtain ⟨x, hx⟩ := h.ent? h1
    exact (h.ents i x g hx h1).lt h2
theorem Rep.keys (h : Rep w p r m gs) : ((mapOf r.l gs).map (·.1)).Nodup := by
  have e : (mapOf r.l gs).map (·.1) = r.l.map (·.bill.number) := by
    simp only [mapOf, List.map_map]
    have key : ∀ (l : List EntD) (gs : List GhostE), l.length = gs.length → (l.zip gs).map ((fun e : ByteArray × Value => e.1) ∘ fun x : EntD × GhostE => (x.1.bill.number, Value.pointer (some ⟨x.2.e, 0, none⟩))) = l.map (·.bill.number) := by
      intro l
      induction l with
      | nil => intro gs _; rfl
      | cons a l ih =>
        intro gs hg
        cases gs with
        | nil => simp at hg
        | cons g gs => simp only [List.zip_cons_cons, List.map_cons, ih gs (by simpa using hg)]; rfl
    exact key r.l gs h.len
  rw [e]
  unfold List.Nodup
  rw [List.pairwise_iff_getElem]
  intro i j hi hj hij he
  rw [List.length_map] at hi hj
  rw [List.getElem_map, List.getElem_map] at he
  have := h.nd i j _ _ (List.getElem?_eq_getElem hi) (List.getElem?_eq_getElem hj) he
  omega
theorem Rep.get (h : Rep w p r m gs) {es : List (ByteArray × Value)} (hp : es.Perm (mapOf r.l gs)) (n : ByteArray) : mget es n = mget (mapOf r.l gs) n := mget_perm hp h.keys
theorem Rep.frame {F : Nat → Prop} (h : Rep w p r m gs) (hx : Ext F w w') (hF : ∀ b ∈ foot p m gs, ¬ F b) : Rep w' p r m gs :=
  ⟨h.blk.ext hx (hF p (foot_mem.2 (.inl rfl))), (let ⟨es, h1, h2⟩ := h.map; ⟨es, h1.ext hx (hF m (foot_mem.2 (.inr (.inl rfl)))), h2⟩), h.nd, h.len,
    fun i x g h1 h2 => (h.ents i x g h1 h2).ext hx (fun b hb => hF b (foot_mem.2 (.inr (.inr ⟨i, g, h2, .inl hb⟩)))) (fun b hb => hF b (foot_mem.2 (.inr (.inr ⟨i, g, h2, .inr hb⟩)))),
    h.fpn, h.disj, h.rdn, h.pm⟩
theorem Rep.ex (h : Rep w p r m gs) (hx : Ex w w') : Rep w' p r m gs := h.frame hx fun _ _ f => f
/-- What a call makes of a register. -/
structure Mut (w : World) (p m : Nat) (gs : List GhostE) (r' : RegD) (w' : World) : Prop where
  is : ∃ gs', Rep w' p r' m gs' ∧ ∀ b ∈ foot p m gs', b ∈ foot p m gs ∨ w.heap.size ≤ b
  ext : Ext (· ∈ foot p m gs) w w'
theorem Mut.of_ex (h : Rep w p r m gs) (hx : Ex w w') : Mut w p m gs r w' := ⟨⟨gs, h.ex hx, fun _ hb => .inl hb⟩, .of_ex hx⟩
end
end Go.Proofs.YtfbjpfgglgffgaaGreat
