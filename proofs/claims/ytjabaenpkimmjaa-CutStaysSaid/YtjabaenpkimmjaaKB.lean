/- K: what an operation asks and gives, as a tree of readings; the contract of a function; the operations' trees. No program is in sight. -/
import Derived.Test.YtjabaenpkimmjaaKA
namespace Go.Proofs.Ytjabaenpkimmjaa
set_option linter.unusedSimpArgs false
set_option linter.unusedVariables false
open Go.RowKit

/-- The boxes that a call is handed: names from 20000 on. -/
def extRaw (bxs : List AV) (k : Nat) : AV := if 20000 ≤ k then bxs.getD (k - 20000) .u else .u
def extGet (bxs : List AV) : Nat → AV := lk (extRaw bxs)

/-- The contract of a function: handed these trees and boxes it gives back r, the boxes as bxs'. -/
def AFn (P : Program) (f : FuncId) (args bxs : List AV) (r : AV) (bxs' : List AV) : Prop :=
  ∀ (w : World) (G : Gh) (vs : Array Value), BSim P (fun b => b < w.heap.size ∧ ∀ k, G.γ k ≠ some b) G (extGet bxs) w → XP w (fun b => b < w.heap.size ∧ ∀ k, G.γ k ≠ some b) → vs.size = args.length →
    (∀ j (h : j < args.length), VRel G (extGet bxs) (vs.getD j undef) args[j]) →
    Calls P f vs w fun e w' => ∃ v G', e = .returned v ∧ VRel G' (extGet bxs') v r ∧ BSim P (fun b => b < w.heap.size ∧ ∀ k, G.γ k ≠ some b) G' (extGet bxs') w' ∧
      WStep (fun b => b < w.heap.size ∧ ∀ k, G.γ k ≠ some b) w w' ∧ BStep G (extGet bxs) G' (extGet bxs') ∧
      ∀ b o, b < w.heap.size → (∀ k, G.γ k ≠ some b) → G'.Z b o = G.Z b o

inductive TR where
  | done (d : List (Nat × AV))
  | rd (k : Nat) (f : AV → TR)
  | need (p : Prop) (t : TR)
  | ex (p : Value → Prop) (f : Value → TR)
  | call (f : FuncId) (args bxs : List AV) (k : AV → List AV → TR)

def TR.wp (P : Program) : TR → AMap → (List Nat → List (Nat × AV) → Prop) → Prop
  | .done d, _, K => K [] d
  | .rd k f, σ, K => (f (mget σ k)).wp P σ fun R d => K (k :: R) d
  | .need p t, σ, K => p ∧ t.wp P σ K
  | .ex p f, σ, K => ∃ v, p v ∧ (f v).wp P σ K
  | .call f args bxs k, σ, K => ∃ r bxs', AFn P f args bxs r bxs' ∧ (k r bxs').wp P σ K

theorem TR.mono {P : Program} {K K' : List Nat → List (Nat × AV) → Prop} (hK : ∀ R d, K R d → K' R d) : ∀ {t : TR} {σ : AMap}, t.wp P σ K → t.wp P σ K'
  | .done d, _, h => hK _ _ h
  | .rd k f, _, h => TR.mono (K := fun R d => K (k :: R) d) (K' := fun R d => K' (k :: R) d) (fun _ _ => hK _ _) (t := f _) h
  | .need p t, _, h => ⟨h.1, TR.mono hK (t := t) h.2⟩
  | .ex p f, _, ⟨v, h1, h2⟩ => ⟨v, h1, TR.mono hK (t := f v) h2⟩
  | .call f args bxs k, _, ⟨r, b, h1, h3⟩ => ⟨r, b, h1, TR.mono hK (t := k r b) h3⟩

/-- A tree looks at what it has read alone. -/
theorem TR.frame {P : Program} : ∀ {t : TR} {σ : AMap} {K : List Nat → List (Nat × AV) → Prop}, t.wp P σ K →
    ∃ R d, K R d ∧ ∀ σ', (∀ k ∈ R, mget σ' k = mget σ k) → t.wp P σ' fun R' d' => R' = R ∧ d' = d
  | .done d, _, _, h => ⟨[], d, h, fun _ _ => ⟨rfl, rfl⟩⟩
  | .rd k f, σ, K, h => by
    obtain ⟨R, d, h1, h2⟩ := TR.frame (t := f (mget σ k)) (K := fun R d => K (k :: R) d) h
    refine ⟨k :: R, d, h1, fun σ' hσ => ?_⟩
    have := h2 σ' fun i hi => hσ i (by simp [hi])
    show (f (mget σ' k)).wp P σ' _
    rw [hσ k (by simp)]
    exact TR.mono (fun R' d' ⟨h, h'⟩ => ⟨by rw [h], h'⟩) this
  | .need p t, σ, K, h => by
    obtain ⟨R, d, h1, h2⟩ := TR.frame (t := t) h.2
    exact ⟨R, d, h1, fun σ' hσ => ⟨h.1, h2 σ' hσ⟩⟩
  | .ex p f, σ, K, ⟨v, h0, h⟩ => by
    obtain ⟨R, d, h1, h2⟩ := TR.frame (t := f v) h
    exact ⟨R, d, h1, fun σ' hσ => ⟨v, h0, h2 σ' hσ⟩⟩
  | .call f args bxs k, σ, K, ⟨r, b, h1, h3⟩ => by
    obtain ⟨R, d, h4, h5⟩ := TR.frame (t := k r b) h3
    exact ⟨R, d, h4, fun σ' hσ => ⟨r, b, h1, h5 σ' hσ⟩⟩

/-! What is asked of types. -/
def szOf (P : Program) (t : TypeId) : Option Nat := (P.info? t).map (·.size)
def nzOf (P : Program) (t : TypeId) : Bool := match szOf P t with | some (_ + 1) => true | _ => false
def aggOf (P : Program) (t : TypeId) : Option Bool := (P.underlying t).map fun | .struct _ | .array _ _ => true | _ => false
def elemOf (P : Program) (t : TypeId) : Option TypeId := (P.underlying t).bind fun | .slice e => some e | _ => none
def zeroOf (P : Program) (t : TypeId) : Option (List Value) := (P.info? t).bind fun i => i.zero.map fun z => z.cells.toList
def fieldOf (P : Program) (t : TypeId) (i : Nat) : Option (Nat × TypeId) := (P.underlying t).bind fun | .struct fs => (fs[i]?).map fun f => (f.offset, f.type) | _ => none
def intOfT (P : Program) (t : TypeId) : Option IntKind := (P.underlying t).bind fun | .int k => some k | _ => none
def strOfT (P : Program) (t : TypeId) : Bool := match P.underlying t with | some .string => true | _ => false
def concreteT (P : Program) (t : TypeId) : Bool := match P.underlying t with | some (.interface _) => false | some _ => true | none => false
def bytesOfT (P : Program) (t : TypeId) : Nat := ((P.info? t).map (·.bytes)).getD 0

def globV (g : Nat) : AV := match globA g with | some cs => .rf cs 0 | none => .c (.pointer (some ⟨g, 0, none⟩))
/-- A value's tree. -/
def ofV : Value → AV
  | .slice none 0 0 => .sl [] 0 .full
  | v => .c v

def rdo (x : Operand) (f : AV → TR) : TR :=
  match x with
  | .tmp t => .need (t < 10000) (.rd t f)
  | .const v => f (ofV v)
  | .global g => f (globV g)
  | .func i => f (.fn (.func i) [] [])
def rdos : List Operand → (List AV → TR) → TR
  | [], f => f []
  | x :: r, f => rdo x fun v => rdos r fun vs => f (v :: vs)

def outs (o : Oper) (v : AV) : List (Nat × AV) := match o.dst with | none => [] | some d => [(d, v)]
def dstOk (N : Nat) (o : Oper) : Prop := match o.dst with | none => True | some d => d < N ∧ d < 10000
def ret (N : Nat) (o : Oper) (v : AV) : TR := .need (dstOk N o) (.done (outs o v))
def fail : TR := .need False (.done [])

/-- Surely a value of one cell. -/
def AV.one : AV → Bool
  | .c x => x.oneCell'
  | .sl .. | .rf .. | .ifc .. | .fn .. | .loc .. | .arr .. | .mp .. | .ow .. | .lo .. => true
  | _ => false
def cellsOfA : AV → List AV
  | .agg cs => cs
  | x => [x]
def allOne : List AV → Bool
  | [] => true
  | x :: r => x.one && allOne r
/-- Trees of sealed memory alone, tokens struck; at most two levels deep. -/
def pureA : Nat → AV → Option AV
  | 0, _ => none
  | _ + 1, .c x => some (.c x)
  | _ + 1, .sl cs n (.tok _) => some (.sl cs n .none)
  | _ + 1, .sl cs n o => some (.sl cs n o)
  | _ + 1, .rf cs o => some (.rf cs o)
  | k + 1, .ifc t x => (pureA k x).map (.ifc t)
  | k + 1, .agg cs => (cs.mapM (pureA k)).map .agg
  | k + 1, .tup cs => (cs.mapM (pureA k)).map .tup
  | k + 1, .fn f a b => match a.mapM (pureA k), b.mapM (pureA k) with | some a', some b' => some (.fn f a' b') | _, _ => none
  | _, _ => none
end Go.Proofs.Ytjabaenpkimmjaa
