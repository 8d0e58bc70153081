/- K, an abstract machine: values as plain trees, boxes by name, sealed memory, tokens for rows that may grow. Here: the words, and what is kept from step to step. No program is in sight. -/
import Derived.Test.YtjabaenpkimmjaaRows
import Derived.WalkKit
import Derived.Deep.MidRow
import Derived.Laws.AppendOwn
import Derived.Laws.AppendOwnNone
import Derived.Below
import Derived.MapKept
namespace Go.Proofs.Ytjabaenpkimmjaa
set_option linter.unusedSimpArgs false
set_option linter.unusedVariables false
open Go.RowKit

/-- May a slice grow? none: unknown; full: its capacity is its length; tok b: by the token b. -/
inductive Own where
  | none
  | full
  | tok (b : Nat)

inductive AV where
  | c (x : Value)
  | u
  | sl (cs : List AV) (n : Nat) (o : Own)
  | rf (cs : List AV) (off : Nat)
  | agg (cs : List AV)
  | tup (cs : List AV)
  | ifc (t : TypeId) (x : AV)
  | fn (f : Fn) (a b : List AV)
  | loc (b off : Nat)
  | arr (b off n e : Nat)
  | bc (cs : List AV) (ty : TypeId)
  | bt (n : Nat) (e : TypeId)
  | mp (b : Nat)
  | ow (b off n v : Nat)
  | lo (b off v : Nat)
  | br (cs : List AV) (v : Nat) (e : TypeId) (sz : Nat)
  | fo (rows : List AV)
instance : Inhabited AV := ⟨.u⟩

def globA : Nat → Option (List AV) := fun _ => none
def globX : Nat → Option (Array Value) := fun _ => none
/-- Boxes of such a type are maps: their cells are keys and elements, in turn. -/
def isM (ty : TypeId) : Bool := decide (1000000000 ≤ ty)
abbrev AMap := List (Nat × AV)
def mget : AMap → Nat → AV
  | [], _ => .u
  | (k, v) :: r, i => if k = i then v else mget r i
def mset : AMap → Nat → AV → AMap
  | [], i, v => [(i, v)]
  | (k, w) :: r, i, v => if k = i then (i, v) :: r else if i < k then (i, v) :: (k, w) :: r else (k, w) :: mset r i v
def mupd (m : AMap) : List (Nat × AV) → AMap
  | [] => m
  | (k, v) :: r => mupd (mset m k v) r

theorem mget_mset (m : AMap) (i j : Nat) (v : AV) : mget (mset m i v) j = if i = j then v else mget m j := by
  induction m with
  | nil => simp [mset, mget]
  | cons p r ih =>
    obtain ⟨k, w⟩ := p
    simp only [mset]
    split
    · rename_i h; subst h; simp only [mget]; split <;> rfl
    · rename_i h
      split
      · simp only [mget]
      · simp only [mget, ih]
        split
        · rename_i h1 h2; subst h2; rw [if_neg (fun e => h e.symm)]
        · rfl

/-! ### Families of rows: their rows have names above all others. -/
def enc (b i : Nat) : Nat := 1000000 + (i * 1000000 + b)
def encB (k : Nat) : Nat := (k - 1000000) % 1000000
def encI (k : Nat) : Nat := (k - 1000000) / 1000000
def rowAt (rows : List AV) (i : Nat) : AV := match rows.getD i .u with | .br cs v e sz => .br cs v e sz | _ => .u
def rowOf (x : AV) (i : Nat) : AV := match x with | .fo rows => rowAt rows i | _ => .u
/-- What lies under a name. -/
def lk (B : Nat → AV) (k : Nat) : AV := if k < 1000000 then B k else if 10000 ≤ encB k then rowOf (B (encB k)) (encI k) else .u
def lm (σ : AMap) : Nat → AV := lk (mget σ)
def isFo : AV → Bool
  | .fo _ => true
  | _ => false
theorem enc_big (b i : Nat) : ¬ enc b i < 1000000 := by unfold enc; omega
theorem enc_lt (b i : Nat) : (enc b i < 1000000) = False := eq_false (enc_big b i)
theorem encB_enc {b : Nat} (i : Nat) (hb : b < 1000000) : encB (enc b i) = b := by
  unfold encB enc
  rw [Nat.add_sub_cancel_left, Nat.mul_comm, Nat.mul_add_mod, Nat.mod_eq_of_lt hb]
theorem encI_enc {b : Nat} (i : Nat) (hb : b < 1000000) : encI (enc b i) = i := by
  unfold encI enc
  rw [Nat.add_sub_cancel_left]; omega
theorem enc_of {k : Nat} (h : ¬ k < 1000000) : enc (encB k) (encI k) = k := by unfold enc encB encI; omega
theorem encB_lt (k : Nat) : encB k < 1000000 := Nat.mod_lt _ (by decide)
theorem rowAt_cases (rows : List AV) (i : Nat) : rowAt rows i = .u ∨ ∃ cs v e sz, rowAt rows i = .br cs v e sz ∧ rows[i]? = some (.br cs v e sz) := by
  unfold rowAt
  cases h : rows[i]? with
  | none => rw [List.getD_eq_getElem?_getD, h]; exact .inl rfl
  | some x =>
    rw [List.getD_eq_getElem?_getD, h]
    cases x <;> first | exact .inl rfl | exact .inr ⟨_, _, _, _, rfl, rfl⟩
theorem rowOf_cases (x : AV) (i : Nat) : rowOf x i = .u ∨ ∃ rows cs v e sz, x = .fo rows ∧ rowOf x i = .br cs v e sz ∧ rows[i]? = some (.br cs v e sz) := by
  unfold rowOf
  split
  · rename_i rows
    rcases rowAt_cases rows i with h | ⟨cs, v, e, sz, h, h2⟩
    · exact .inl h
    · exact .inr ⟨rows, cs, v, e, sz, rfl, h, h2⟩
  · exact .inl rfl
theorem lk_real {B : Nat → AV} {k : Nat} (h : k < 1000000) : lk B k = B k := if_pos h
theorem lk_row {B : Nat → AV} {b : Nat} (i : Nat) (hb : 10000 ≤ b) (hb2 : b < 1000000) : lk B (enc b i) = rowOf (B b) i := by
  unfold lk
  rw [if_neg (enc_big b i), encB_enc i hb2, encI_enc i hb2, if_pos hb]
/-- Above all others there are rows alone. -/
theorem lk_big {B : Nat → AV} {k : Nat} (h : ¬ k < 1000000) : lk B k = .u ∨ ∃ rows cs v e sz, 10000 ≤ encB k ∧ B (encB k) = .fo rows ∧ lk B k = .br cs v e sz ∧ rows[encI k]? = some (.br cs v e sz) := by
  unfold lk
  rw [if_neg h]
  split
  · rename_i h1
    rcases rowOf_cases (B (encB k)) (encI k) with h2 | ⟨rows, cs, v, e, sz, h2, h3, h4⟩
    · exact .inl h2
    · exact .inr ⟨rows, cs, v, e, sz, h1, h2, h3, h4⟩
  · exact .inl rfl
theorem lk_bc {B : Nat → AV} {k : Nat} {cs : List AV} {ty : TypeId} (h : lk B k = .bc cs ty) : k < 1000000 ∧ B k = .bc cs ty := by
  by_cases hk : k < 1000000
  · exact ⟨hk, (lk_real hk).symm.trans h⟩
  · rcases lk_big (B := B) hk with e | ⟨_, _, _, _, _, _, _, e, _⟩ <;> rw [h] at e <;> cases e
theorem lk_bt {B : Nat → AV} {k n : Nat} {ty : TypeId} (h : lk B k = .bt n ty) : k < 1000000 ∧ B k = .bt n ty := by
  by_cases hk : k < 1000000
  · exact ⟨hk, (lk_real hk).symm.trans h⟩
  · rcases lk_big (B := B) hk with e | ⟨_, _, _, _, _, _, _, e, _⟩ <;> rw [h] at e <;> cases e
theorem lk_fo {B : Nat → AV} {k : Nat} {rows : List AV} (h : lk B k = .fo rows) : k < 1000000 ∧ B k = .fo rows := by
  by_cases hk : k < 1000000
  · exact ⟨hk, (lk_real hk).symm.trans h⟩
  · rcases lk_big (B := B) hk with e | ⟨_, _, _, _, _, _, _, e, _⟩ <;> rw [h] at e <;> cases e
theorem lk_congr {B B' : Nat → AV} (h : ∀ k, 10000 ≤ k → k < 1000000 → B' k = B k) : ∀ k, 10000 ≤ k → lk B' k = lk B k := fun k hk => by
  unfold lk
  by_cases h1 : k < 1000000
  · rw [if_pos h1, if_pos h1, h k hk h1]
  · rw [if_neg h1, if_neg h1]
    by_cases h2 : 10000 ≤ encB k
    · rw [if_pos h2, if_pos h2, h _ h2 (encB_lt k)]
    · rw [if_neg h2, if_neg h2]
theorem rowOf_no {x : AV} (h : isFo x = false) (i : Nat) : rowOf x i = .u := by
  cases x <;> first | rfl | cases h
theorem lk_set {B B' : Nat → AV} {b : Nat} {x : AV} (h : ∀ k, 10000 ≤ k → k < 1000000 → B' k = if b = k then x else B k) (hb : b < 1000000) (h1 : isFo (B b) = false) (h2 : isFo x = false) : ∀ k, 10000 ≤ k → lk B' k = if b = k then x else lk B k := fun k hk => by
  by_cases hkb : k < 1000000
  · rw [lk_real hkb, lk_real hkb, h k hk hkb]
  · rw [if_neg (by omega)]
    unfold lk
    rw [if_neg hkb, if_neg hkb]
    by_cases h3 : 10000 ≤ encB k
    · rw [if_pos h3, if_pos h3, h _ h3 (encB_lt k)]
      by_cases e : b = encB k
      · rw [if_pos e, ← e, rowOf_no h1, rowOf_no h2]
      · rw [if_neg e]
    · rw [if_neg h3, if_neg h3]

abbrev Seal := Nat → Nat → Option Value
/-- A value and its tree, where the tree is of sealed memory alone. -/
inductive PRel (Z : Seal) : Value → AV → Prop
  | c (x) : PRel Z x (.c x)
  | u (x) : PRel Z x .u
  | sl (a : Option Addr) (b off n cap : Nat) (o : Own) (cs : List AV) (f : Nat → Value) (ho : o = .none ∨ (o = .full ∧ cap = n)) (hn : n ≤ cap) (ha : a = none → cap = 0)
      (hc : (n = 0 ∧ cs = []) ∨ a = some ⟨b, off, none⟩) (hz : ∀ j, j < cs.length → Z b (off + j) = some (f j)) (hp : ∀ j (h : j < cs.length), PRel Z (f j) cs[j]) : PRel Z (.slice a n cap) (.sl cs n o)
  | rf (b off o : Nat) (cs : List AV) (f : Nat → Value) (hz : ∀ j, j < cs.length → Z b (off + j) = some (f j)) (hp : ∀ j (h : j < cs.length), PRel Z (f j) cs[j]) :
      PRel Z (.pointer (some ⟨b, off + o, none⟩)) (.rf cs o)
  | agg (vs : Array Value) (cs : List AV) (hs : vs.size = cs.length) (h1 : ∀ j, j < cs.length → (vs.getD j undef).oneCell' = true) (hp : ∀ j (h : j < cs.length), PRel Z (vs.getD j undef) cs[j]) : PRel Z (.agg vs) (.agg cs)
  | tup (vs : Array Value) (cs : List AV) (hs : vs.size = cs.length) (hp : ∀ j (h : j < cs.length), PRel Z (vs.getD j undef) cs[j]) : PRel Z (.tuple vs) (.tup cs)
  | ifc (t : TypeId) (v : Value) (x : AV) (h : PRel Z v x) : PRel Z (.iface t v) (.ifc t x)
  | fn (f : Fn) (va vb : Array Value) (a b : List AV) (ha : va.size = a.length) (hb : vb.size = b.length) (pa : ∀ j (h : j < a.length), PRel Z (va.getD j undef) a[j]) (pb : ∀ j (h : j < b.length), PRel Z (vb.getD j undef) b[j]) :
      PRel Z (.func f va vb) (.fn f a b)

def SealLe (Z Z' : Seal) : Prop := ∀ b o v, Z b o = some v → Z' b o = some v
theorem SealLe.refl (Z : Seal) : SealLe Z Z := fun _ _ _ h => h
theorem SealLe.trans {a b c : Seal} (h : SealLe a b) (k : SealLe b c) : SealLe a c := fun x o v hv => k x o v (h x o v hv)
theorem PRel.mono {Z Z' : Seal} (hZ : SealLe Z Z') {v : Value} {x : AV} (h : PRel Z v x) : PRel Z' v x := by
  induction h with
  | c x => exact .c x
  | u x => exact .u x
  | sl a b off n cap o cs f ho hn ha hc hz hp ih => exact .sl a b off n cap o cs f ho hn ha hc (fun j hj => hZ _ _ _ (hz j hj)) ih
  | rf b off o cs f hz hp ih => exact .rf b off o cs f (fun j hj => hZ _ _ _ (hz j hj)) ih
  | agg vs cs hs h1 hp ih => exact .agg vs cs hs h1 ih
  | tup vs cs hs hp ih => exact .tup vs cs hs ih
  | ifc t v x h ih => exact .ifc t v x ih
  | fn f va vb a b ha hb pa pb ia ib => exact .fn f va vb a b ha hb ia ib

/-- The package's variables that are laid read so, in sealed memory. -/
def Gl (Z : Seal) : Prop := ∀ g cs, globA g = some cs → PRel Z (.pointer (some ⟨g, 0, none⟩)) (.rf cs 0)
theorem Gl.mono {Z Z' : Seal} (h : Gl Z) (hZ : SealLe Z Z') : Gl Z' := fun g cs hg => (h g cs hg).mono hZ
/-- Variables that are laid whole: their blocks are just so, and among those that may not be turned. -/
def XP (w : World) (Pr : Nat → Prop) : Prop := ∀ g cs, globX g = some cs → (∃ ty fl, w.heap[g]? = some (.cells cs ty fl)) ∧ Pr g
/-- What is behind a name: which block, of which capacity. -/
structure Gh where
  Z : Seal
  γ : Nat → Option Nat
  κ : Nat → Nat
  β : Nat → Nat

/-- A slice of a row that is one's own: from which cell, of which capacity. -/
def OwAt (G : Gh) (b off sz : Nat) (a : Option Addr) (cap : Nat) : Prop :=
  (G.γ b = none → cap = 0) ∧ ∀ g, G.γ b = some g → off + cap * sz = G.κ b ∧ (cap = 0 ∨ a = some ⟨g, G.β b + off, none⟩)
def TokAt (G : Gh) (b : Nat) (a : Option Addr) (n cap : Nat) : Prop :=
  (G.γ b = none → cap = n) ∧ ∀ g, G.γ b = some g → a = some ⟨g, 0, none⟩ ∧ cap = G.κ b
/-- A value and its tree, where names may stand in the tree. -/
inductive VRel (G : Gh) (B : Nat → AV) : Value → AV → Prop
  | p {v : Value} {x : AV} (h : PRel G.Z v x) : VRel G B v x
  | tok (a : Option Addr) (n cap : Nat) (cs : List AV) (b tip : Nat) (e : TypeId) (h : PRel G.Z (.slice a n cap) (.sl cs n .none)) (hb : 10000 ≤ b) (hB : B b = .bt tip e) (hn : n ≤ tip)
      (hk : n = tip → TokAt G b a n cap) : VRel G B (.slice a n cap) (.sl cs n (.tok b))
  | loc (b off g : Nat) (cs : List AV) (ty : TypeId) (hb : 10000 ≤ b) (hB : B b = .bc cs ty) (hg : G.γ b = some g) (hm : isM ty = false) : VRel G B (.pointer (some ⟨g, off, none⟩)) (.loc b off)
  | arr (b off n e cap g : Nat) (cs : List AV) (ty : TypeId) (hb : 10000 ≤ b) (hB : B b = .bc cs ty) (hg : G.γ b = some g) (hn : n ≤ cap) (hm : isM ty = false) : VRel G B (.slice (some ⟨g, off, none⟩) n cap) (.arr b off n e)
  | mp (b g : Nat) (cs : List AV) (ty : TypeId) (hb : 10000 ≤ b) (hB : B b = .bc cs ty) (hg : G.γ b = some g) (hm : isM ty = true) : VRel G B (.map (some g)) (.mp b)
  | ow (a : Option Addr) (n cap b off v : Nat) (cs : List AV) (v' : Nat) (e : TypeId) (sz : Nat) (hb : 10000 ≤ b) (hB : B b = .br cs v' e sz) (hn : n ≤ cap) (ha : a = none → cap = 0) (hv : v ≤ v') (hk : v = v' → OwAt G b off sz a cap) : VRel G B (.slice a n cap) (.ow b off n v)
  | lo (g o b off v : Nat) (cs : List AV) (v' : Nat) (e : TypeId) (sz : Nat) (hb : 10000 ≤ b) (hB : B b = .br cs v' e sz) (hv : v ≤ v') (hk : v = v' → G.γ b = some g ∧ o = G.β b + off) : VRel G B (.pointer (some ⟨g, o, none⟩)) (.lo b off v)
  | agg (vs : Array Value) (cs : List AV) (hs : vs.size = cs.length) (h1 : ∀ j, j < cs.length → (vs.getD j undef).oneCell' = true) (hp : ∀ j (h : j < cs.length), VRel G B (vs.getD j undef) cs[j]) : VRel G B (.agg vs) (.agg cs)
  | tup (vs : Array Value) (cs : List AV) (hs : vs.size = cs.length) (hp : ∀ j (h : j < cs.length), VRel G B (vs.getD j undef) cs[j]) : VRel G B (.tuple vs) (.tup cs)
  | ifc (t : TypeId) (v : Value) (x : AV) (h : VRel G B v x) : VRel G B (.iface t v) (.ifc t x)
  | fn (f : Fn) (va vb : Array Value) (a b : List AV) (ha : va.size = a.length) (hb : vb.size = b.length) (pa : ∀ j (h : j < a.length), VRel G B (va.getD j undef) a[j]) (pb : ∀ j (h : j < b.length), VRel G B (vb.getD j undef) b[j]) :
      VRel G B (.func f va vb) (.fn f a b)

/-- From state to state: cell boxes stay where they are, rows only grow; rows that are one's own have versions. -/
def KStep (G G' : Gh) (k : Nat) (x y : AV) : Prop :=
  (∀ cs ty, x = .bc cs ty → (∃ cs', y = .bc cs' ty) ∧ G'.γ k = G.γ k) ∧
    (∀ n e, x = .bt n e → ∃ n', y = .bt n' e ∧ (n < n' ∨ (n' = n ∧ G'.γ k = G.γ k ∧ G'.κ k = G.κ k))) ∧
    (∀ cs v e sz, x = .br cs v e sz → ∃ cs' v', y = .br cs' v' e sz ∧ (v < v' ∨ (v' = v ∧ G'.γ k = G.γ k ∧ G'.κ k = G.κ k ∧ G'.β k = G.β k)))
def BStep (G : Gh) (B : Nat → AV) (G' : Gh) (B' : Nat → AV) : Prop :=
  SealLe G.Z G'.Z ∧ ∀ k, 10000 ≤ k → KStep G G' k (B k) (B' k)
theorem KStep.u {G G' : Gh} {k : Nat} {x y : AV} (h : x = .u) : KStep G G' k x y := by
  subst h; exact ⟨(fun _ _ h => by cases h), (fun _ _ h => by cases h), (fun _ _ _ _ h => by cases h)⟩
theorem KStep.same {G G' : Gh} {k : Nat} {x y : AV} (h : y = x) (h1 : G'.γ k = G.γ k) (h2 : G'.κ k = G.κ k) (h3 : G'.β k = G.β k) : KStep G G' k x y := by
  subst h; exact ⟨fun cs ty h => ⟨⟨cs, h⟩, h1⟩, fun n e h => ⟨n, h, .inr ⟨rfl, h1, h2⟩⟩, fun cs v e sz h => ⟨cs, v, h, .inr ⟨rfl, h1, h2, h3⟩⟩⟩
theorem KStep.bc {G G' : Gh} {k : Nat} {x y : AV} {cs cs' : List AV} {ty : TypeId} (h : x = .bc cs ty) (h' : y = .bc cs' ty) (h1 : G'.γ k = G.γ k) : KStep G G' k x y := by
  subst h; subst h'; exact ⟨(fun _ _ h => by cases h; exact ⟨⟨cs', rfl⟩, h1⟩), (fun _ _ h => by cases h), (fun _ _ _ _ h => by cases h)⟩
theorem KStep.bt {G G' : Gh} {k : Nat} {x y : AV} {n n' : Nat} {e : TypeId} (h : x = .bt n e) (h' : y = .bt n' e) (h1 : n < n' ∨ (n' = n ∧ G'.γ k = G.γ k ∧ G'.κ k = G.κ k)) : KStep G G' k x y := by
  subst h; subst h'; exact ⟨(fun _ _ h => by cases h), (fun _ _ h => by cases h; exact ⟨n', rfl, h1⟩), (fun _ _ _ _ h => by cases h)⟩
theorem KStep.br {G G' : Gh} {k : Nat} {x y : AV} {cs cs' : List AV} {v v' : Nat} {e : TypeId} {sz : Nat} (h : x = .br cs v e sz) (h' : y = .br cs' v' e sz) (h1 : v < v' ∨ (v' = v ∧ G'.γ k = G.γ k ∧ G'.κ k = G.κ k ∧ G'.β k = G.β k)) : KStep G G' k x y := by
  subst h; subst h'; exact ⟨(fun _ _ h => by cases h), (fun _ _ h => by cases h), (fun _ _ _ _ h => by cases h; exact ⟨cs', v', rfl, h1⟩)⟩
theorem KStep.fo {G G' : Gh} {k : Nat} {x y : AV} (h : isFo x = true) : KStep G G' k x y := by
  cases x with
  | fo rows => exact ⟨(fun _ _ h => by cases h), (fun _ _ h => by cases h), (fun _ _ _ _ h => by cases h)⟩
  | _ => cases h
theorem KStep.trans {G G' G'' : Gh} {i : Nat} {x y z : AV} (h : KStep G G' i x y) (k : KStep G' G'' i y z) : KStep G G'' i x z := by
  refine ⟨fun cs ty hc => ?_, fun n e hc => ?_, fun cs v e sz hc => ?_⟩
  · obtain ⟨⟨cs', h1⟩, h2⟩ := h.1 cs ty hc
    obtain ⟨h3, h4⟩ := k.1 cs' ty h1
    exact ⟨h3, h4.trans h2⟩
  · obtain ⟨n', h1, h2⟩ := h.2.1 n e hc
    obtain ⟨n'', h3, h4⟩ := k.2.1 n' e h1
    refine ⟨n'', h3, ?_⟩
    rcases h2 with h2 | ⟨rfl, h5, h6⟩ <;> rcases h4 with h4 | ⟨rfl, h7, h8⟩
    · exact .inl (by omega)
    · exact .inl h2
    · exact .inl h4
    · exact .inr ⟨rfl, h7.trans h5, h8.trans h6⟩
  · obtain ⟨cs', v', h1, h2⟩ := h.2.2 cs v e sz hc
    obtain ⟨cs'', v'', h3, h4⟩ := k.2.2 cs' v' e sz h1
    refine ⟨cs'', v'', h3, ?_⟩
    rcases h2 with h2 | ⟨rfl, h5, h6, h9⟩ <;> rcases h4 with h4 | ⟨rfl, h7, h8, h10⟩
    · exact .inl (by omega)
    · exact .inl h2
    · exact .inl h4
    · exact .inr ⟨rfl, h7.trans h5, h8.trans h6, h10.trans h9⟩
theorem BStep.congr {G : Gh} {B B' : Nat → AV} (h : ∀ k, 10000 ≤ k → B' k = B k) : BStep G B G B' := ⟨.refl _, fun k hk => .same (h k hk) rfl rfl rfl⟩
theorem BStep.refl (G : Gh) (B : Nat → AV) : BStep G B G B := .congr fun _ _ => rfl
theorem BStep.trans {G G' G'' : Gh} {B B' B'' : Nat → AV} (h : BStep G B G' B') (k : BStep G' B' G'' B'') : BStep G B G'' B'' := ⟨h.1.trans k.1, fun i hi => (h.2 i hi).trans (k.2 i hi)⟩

theorem VRel.step {G G' : Gh} {B B' : Nat → AV} (hs : BStep G B G' B') {v : Value} {x : AV} (h : VRel G B v x) : VRel G' B' v x := by
  induction h with
  | p h => exact .p (h.mono hs.1)
  | tok a n cap cs b tip e h hb hB hn hk =>
    obtain ⟨tip', h1, h2⟩ := (hs.2 b hb).2.1 tip e hB
    refine .tok a n cap cs b tip' e (h.mono hs.1) hb h1 (by omega) fun hnt => ?_
    rcases h2 with h2 | ⟨rfl, h3, h4⟩
    · omega
    · have := hk hnt
      unfold TokAt at *
      rw [h3, h4]; exact this
  | loc b off g cs ty hb hB hg hm =>
    obtain ⟨⟨cs', h1⟩, h2⟩ := (hs.2 b hb).1 cs ty hB
    exact .loc b off g cs' ty hb h1 (h2.trans hg) hm
  | arr b off n e cap g cs ty hb hB hg hn hm =>
    obtain ⟨⟨cs', h1⟩, h2⟩ := (hs.2 b hb).1 cs ty hB
    exact .arr b off n e cap g cs' ty hb h1 (h2.trans hg) hn hm
  | mp b g cs ty hb hB hg hm =>
    obtain ⟨⟨cs', h1⟩, h2⟩ := (hs.2 b hb).1 cs ty hB
    exact .mp b g cs' ty hb h1 (h2.trans hg) hm
  | ow a n cap b off v cs v' e sz hb hB hn ha hv hk =>
    obtain ⟨cs', v'', h1, h2⟩ := (hs.2 b hb).2.2 cs v' e sz hB
    refine .ow a n cap b off v cs' v'' e sz hb h1 hn ha (by omega) fun hvv => ?_
    rcases h2 with h2 | ⟨rfl, h3, h4, h5⟩
    · omega
    · have := hk hvv
      unfold OwAt at *
      rw [h3, h4, h5]; exact this
  | lo g o b off v cs v' e sz hb hB hv hk =>
    obtain ⟨cs', v'', h1, h2⟩ := (hs.2 b hb).2.2 cs v' e sz hB
    refine .lo g o b off v cs' v'' e sz hb h1 (by omega) fun hvv => ?_
    rcases h2 with h2 | ⟨rfl, h3, h4, h5⟩
    · omega
    · have := hk hvv
      rw [h3, h5]; exact this
  | agg vs cs hs h1 hp ih => exact .agg vs cs hs h1 ih
  | tup vs cs hs hp ih => exact .tup vs cs hs ih
  | ifc t v x h ih => exact .ifc t v x ih
  | fn f va vb a b ha hb pa pb ia ib => exact .fn f va vb a b ha hb ia ib

/-- A block of at least so many cells. -/
def FitsC (c : Array Value) (cs : List AV) : Prop := cs.length ≤ c.size
theorem FitsC.map {c : Array Value} {cs : List AV} (h : FitsC c cs) (f : AV → AV) : FitsC c (cs.map f) := by unfold FitsC; rw [List.length_map]; exact h
def CellsAt (G : Gh) (B : Nat → AV) (w : World) (g : Nat) (cs : List AV) (ty : TypeId) : Prop :=
  ∃ c, w.heap[g]? = some (.cells c ty (0, 0)) ∧ FitsC c cs ∧ (∀ o, G.Z g o = none) ∧
    ∀ j (h : j < cs.length), VRel G B (c.getD j undef) cs[j] ∧ (c.getD j undef).oneCell' = true
def mapCells (es : Array MapEntry) : List AV := es.toList.flatMap fun e => [.c e.key, .c e.val]
theorem mapCells_c {es : Array MapEntry} {x : AV} (h : x ∈ mapCells es) : ∃ v, x = .c v := by
  unfold mapCells at h
  obtain ⟨e, _, he⟩ := List.mem_flatMap.1 h
  simp at he
  rcases he with rfl | rfl <;> exact ⟨_, rfl⟩
def MapAt (G : Gh) (w : World) (g : Nat) (cs : List AV) : Prop := ∃ es clock, w.heap[g]? = some (.map es clock) ∧ (∀ o, G.Z g o = none) ∧ cs = mapCells es ∧ MapKept.Stamped es clock
theorem MapAt.map {G : Gh} {w : World} {g : Nat} {cs : List AV} (h : MapAt G w g cs) (f : AV → AV) (hf : ∀ x, f (.c x) = .c x) : MapAt G w g (cs.map f) := by
  obtain ⟨es, clock, h1, h2, rfl, h4⟩ := h
  refine ⟨es, clock, h1, h2, ?_, h4⟩
  unfold mapCells
  induction es.toList with
  | nil => rfl
  | cons e r ih => rw [List.flatMap_cons, List.map_append, ih]; simp [hf]
def BxAt (G : Gh) (B : Nat → AV) (w : World) (g : Nat) (cs : List AV) (ty : TypeId) : Prop := (isM ty = false ∧ CellsAt G B w g cs ty) ∨ (isM ty = true ∧ MapAt G w g cs)
def RowAt (P : Program) (G : Gh) (w : World) (g cap n : Nat) (e : TypeId) : Prop :=
  ∃ c, w.heap[g]? = some (.cells c e (0, 0)) ∧ n ≤ cap ∧ cap ≤ maxLen ∧ c.size = cap * P.cellsOf e ∧ ∀ o, n * P.cellsOf e ≤ o → G.Z g o = none
/-- A row of one's own: its block, from cell β on, κ cells. -/
def OwnAt (P : Program) (G : Gh) (B : Nat → AV) (w : World) (k g : Nat) (cs : List AV) (e : TypeId) (sz : Nat) : Prop :=
  ∃ c, w.heap[g]? = some (.cells c e (0, 0)) ∧ c.size = G.β k + G.κ k ∧ sz = P.cellsOf e ∧ cs.length ≤ G.κ k ∧ (∀ o, G.Z g o = none) ∧
    ∀ j (h : j < cs.length), VRel G B (c.getD (G.β k + j) undef) cs[j] ∧ (c.getD (G.β k + j) undef).oneCell' = true
def BoxAt (P : Program) (G : Gh) (B : Nat → AV) (w : World) (k g : Nat) : Prop :=
  (∃ cs ty, B k = .bc cs ty ∧ BxAt G B w g cs ty) ∨ (∃ n e, B k = .bt n e ∧ RowAt P G w g (G.κ k) n e) ∨ ∃ cs v e sz, B k = .br cs v e sz ∧ OwnAt P G B w k g cs e sz

structure BSim (P : Program) (Pr : Nat → Prop) (G : Gh) (B : Nat → AV) (w : World) : Prop where
  agree : ∀ b o v, G.Z b o = some v → w.cell? ⟨b, o, none⟩ = some v ∧ v.oneCell' = true
  box : ∀ k g, G.γ k = some g → 10000 ≤ k ∧ ¬ Pr g ∧ BoxAt P G B w k g
  real : ∀ k cs ty, 10000 ≤ k → B k = .bc cs ty → ∃ g, G.γ k = some g
  inj : ∀ k k' g, G.γ k = some g → G.γ k' = some g → k = k'
  gl : Gl G.Z

theorem BxAt.to {G G' : Gh} {B B' : Nat → AV} {w w' : World} {g : Nat} {cs : List AV} {ty : TypeId} (h : BxAt G B w g cs ty) (f : AV → AV) (hf : ∀ x, f (.c x) = .c x) (hr : ∀ v x, VRel G B v x → VRel G' B' v (f x)) (hw : w'.heap[g]? = w.heap[g]?)
    (hz : ∀ o, G.Z g o = none → G'.Z g o = none) : BxAt G' B' w' g (cs.map f) ty := by
  rcases h with ⟨hm, c, h2, h3, h4, h5⟩ | ⟨hm, h⟩
  · refine .inl ⟨hm, c, hw.trans h2, h3.map f, fun o => hz o (h4 o), fun j hj => ?_⟩
    rw [List.getElem_map]
    have := h5 j (by simpa using hj)
    exact ⟨hr _ _ this.1, this.2⟩
  · obtain ⟨es, clock, h1, h2, h3, h4⟩ := h.map f hf
    exact .inr ⟨hm, es, clock, hw.trans h1, fun o => hz o (h2 o), h3, h4⟩
theorem BxAt.z {G : Gh} {B : Nat → AV} {w : World} {g : Nat} {cs : List AV} {ty : TypeId} (h : BxAt G B w g cs ty) : ∀ o, G.Z g o = none := by
  rcases h with ⟨_, c, h2, h3, h4, h5⟩ | ⟨_, es, clock, h1, h2, h3⟩
  · exact h4
  · exact h2
theorem OwnAt.to {P : Program} {G G' : Gh} {B B' : Nat → AV} {w w' : World} {k k' g : Nat} {cs : List AV} {e : TypeId} {sz : Nat} (h : OwnAt P G B w k g cs e sz) (f : AV → AV) (hr : ∀ v x, VRel G B v x → VRel G' B' v (f x)) (hw : w'.heap[g]? = w.heap[g]?)
    (hκ : G'.κ k' = G.κ k) (hβ : G'.β k' = G.β k) (hz : ∀ o, G.Z g o = none → G'.Z g o = none) : OwnAt P G' B' w' k' g (cs.map f) e sz := by
  obtain ⟨c, h1, h2, h3, h4, h5, h6⟩ := h
  refine ⟨c, hw.trans h1, by rw [hκ, hβ]; exact h2, h3, by rw [hκ, List.length_map]; exact h4, fun o => hz o (h5 o), fun j hj => ?_⟩
  rw [List.getElem_map, hβ]
  have := h6 j (by simpa using hj)
  exact ⟨hr _ _ this.1, this.2⟩
theorem BoxAt.step {P : Program} {G G' : Gh} {B B' : Nat → AV} {w w' : World} {k g : Nat} (h : BoxAt P G B w k g) (hs : BStep G B G' B') (hB : B' k = B k) (hk : G'.κ k = G.κ k) (hβ : G'.β k = G.β k) (hw : w'.heap[g]? = w.heap[g]?)
    (hz : ∀ o, G'.Z g o = G.Z g o) : BoxAt P G' B' w' k g := by
  rcases h with ⟨cs, ty, h1, h2⟩ | ⟨n, e, h1, c, h2, h3, h4, h5, h6⟩ | ⟨cs, v, e, sz, h1, h2⟩
  · have := h2.to id (fun _ => rfl) (fun _ _ h => h.step hs) hw (fun o h => (hz o).trans h)
    rw [List.map_id] at this
    exact .inl ⟨cs, ty, hB.trans h1, this⟩
  · rw [← hk] at h3 h4 h5
    exact .inr (.inl ⟨n, e, hB.trans h1, c, hw.trans h2, h3, h4, h5, fun o ho => (hz o).trans (h6 o ho)⟩)
  · have := h2.to (k' := k) id (fun _ _ h => h.step hs) hw hk hβ (fun o h => (hz o).trans h)
    rw [List.map_id] at this
    exact .inr (.inr ⟨cs, v, e, sz, hB.trans h1, this⟩)
theorem BoxAt.lt {P : Program} {G : Gh} {B : Nat → AV} {w : World} {k g : Nat} (h : BoxAt P G B w k g) : g < w.heap.size := by
  rcases h with ⟨cs, ty, _, ⟨_, c, h2, _⟩ | ⟨_, es, c, h2, _⟩⟩ | ⟨n, e, _, c, h2, _⟩ | ⟨cs, v, e, sz, _, c, h2, _⟩ <;> exact (Array.getElem?_eq_some_iff.1 h2).1
theorem BoxAt.not_fo {P : Program} {G : Gh} {B : Nat → AV} {w : World} {k g : Nat} (h : BoxAt P G B w k g) (hu : isFo (B k) = true) : False := by
  rcases h with ⟨_, _, h1, _⟩ | ⟨_, _, h1, _⟩ | ⟨_, _, _, _, h1, _⟩ <;> rw [h1] at hu <;> cases hu
theorem BoxAt.not_u {P : Program} {G : Gh} {B : Nat → AV} {w : World} {k g : Nat} (h : BoxAt P G B w k g) (hu : B k = .u) : False := by
  rcases h with ⟨_, _, h1, _⟩ | ⟨_, _, h1, _⟩ | ⟨_, _, _, _, h1, _⟩ <;> rw [hu] at h1 <;> cases h1

theorem BSim.congr {P : Program} {Pr : Nat → Prop} {G : Gh} {B B' : Nat → AV} {w : World} (h : BSim P Pr G B w) (hB : ∀ k, 10000 ≤ k → B' k = B k) : BSim P Pr G B' w :=
  ⟨h.agree, fun k g hk => by
      obtain ⟨h1, h2, h3⟩ := h.box k g hk
      exact ⟨h1, h2, h3.step (.congr hB) (hB k h1) rfl rfl rfl fun _ => rfl⟩,
    fun k cs ty hk hc => h.real k cs ty hk ((hB k hk).symm.trans hc), h.inj, h.gl⟩

/-- Where a function stands: its program, slots, the world at its start, what it may not turn. -/
structure Env where
  P : Program
  N : Nat
  w0 : World
  G0 : Gh
  B0 : Nat → AV
  Pr : Nat → Prop
  hB0 : (∀ k, k < 20000 → B0 k = .u) ∧ XP w0 Pr

structure Fr (E : Env) (w : World) : Prop where
  os : w.os = E.w0.os
  tape : w.tape = E.w0.tape
  output : w.output = E.w0.output
  size : E.w0.heap.size ≤ w.heap.size
  block : ∀ b, E.Pr b → b < E.w0.heap.size ∧ w.heap[b]? = E.w0.heap[b]?

structure Sim (E : Env) (σ : AMap) (a : Act) (w : World) (G : Gh) : Prop where
  defers : a.defers = []
  tsize : a.tmps.size = E.N
  slots : ∀ t, t < 10000 → VRel G (lm σ) (a.tmps.getD t undef) (mget σ t)
  st : BSim E.P E.Pr G (lm σ) w
  fr : Fr E w
  step : BStep E.G0 E.B0 G (lm σ)
  zp : ∀ b o, E.Pr b → G.Z b o = E.G0.Z b o

/-- From a world to a later one: nothing that may not be turned has turned. -/
structure WStep (Pr : Nat → Prop) (w w' : World) : Prop where
  os : w'.os = w.os
  tape : w'.tape = w.tape
  output : w'.output = w.output
  size : w.heap.size ≤ w'.heap.size
  block : ∀ b, Pr b → b < w.heap.size → w'.heap[b]? = w.heap[b]?
theorem WStep.refl (Pr : Nat → Prop) (w : World) : WStep Pr w w := ⟨rfl, rfl, rfl, Nat.le_refl _, fun _ _ _ => rfl⟩
theorem Fr.next {E : Env} {w w' : World} (h : Fr E w) (hw : WStep E.Pr w w') : Fr E w' :=
  ⟨hw.os.trans h.os, hw.tape.trans h.tape, hw.output.trans h.output, Nat.le_trans h.size hw.size, fun b hb => ⟨(h.block b hb).1, (hw.block b hb (Nat.lt_of_lt_of_le (h.block b hb).1 h.size)).trans (h.block b hb).2⟩⟩

/-- An operation that yields v, tree x, into slot d; boxes may have turned. -/
theorem Sim.put {E : Env} {σ σ' : AMap} {a : Act} {w w' : World} {G G' : Gh} (h : Sim E σ a w G) {dst : Option Nat} {v : Value} {x : AV} (hd : ∀ d, dst = some d → d < E.N ∧ d < 10000)
    (hs : BStep G (lm σ) G' (lm σ')) (hst : BSim E.P E.Pr G' (lm σ') w') (hw : WStep E.Pr w w') (hzp : ∀ b o, E.Pr b → G'.Z b o = G.Z b o) (hx : VRel G' (lm σ') v x)
    (hm : ∀ t, t < 10000 → mget σ' t = if some t = dst then x else mget σ t) : Sim E σ' (a.put dst v) w' G' := by
  refine ⟨?_, ?_, fun t ht => ?_, hst, h.fr.next hw, h.step.trans hs, fun b o hb => (hzp b o hb).trans (h.zp b o hb)⟩
  · cases dst <;> simp [Act.put, h.defers]
  · cases dst <;> simp [Act.put, h.tsize]
  · rw [hm t ht]
    cases dst with
    | none => simp only [Act.put]; rw [if_neg (by simp)]; exact (h.slots t ht).step hs
    | some d =>
      obtain ⟨hd1, hd2⟩ := hd d rfl
      by_cases htd : t = d
      · subst htd
        rw [if_pos rfl]
        have : (a.put (some t) v).tmps.getD t undef = v := by
          simp [Act.put, Array.getD, h.tsize, hd1]
        rw [this]; exact hx
      · rw [if_neg (by simpa using htd)]
        have : (a.put (some d) v).tmps.getD t undef = a.tmps.getD t undef := by
          simp [Act.put, Array.getD_eq_getD_getElem?, Array.getElem?_setIfInBounds_ne (Ne.symm htd)]
        rw [this]; exact (h.slots t ht).step hs
end Go.Proofs.Ytjabaenpkimmjaa
