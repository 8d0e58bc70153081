/- K: conversions, interfaces, lengths, slicing, sound. No program is in sight. -/
import Derived.Test.YtjabaenpkimmjaaKD
import Derived.Laws.BytesArg
namespace Go.Proofs.Ytjabaenpkimmjaa
set_option linter.unusedSimpArgs false
set_option linter.unusedVariables false
open Go.RowKit

section
variable {E : Env} {o : Oper} {σ : AMap} {a : Act} {w : World} {G : Gh}
theorem snd_un (h : Sim E σ a w G) {op : UnOp} {t : TypeId} {x : Operand} (ho : o.op = .unOp op t x) : Snd E.P σ (rdo x fun v => kUn E.N o op v) (Good E o σ a w) :=
  .rdo h fun v hv => by
    unfold kUn
    split
    · have e := inv_c hv
      exact snd_ret h (by simp [execOp, ho, e, Op.unary]) (.p (.c _))
    · have e := inv_c hv
      exact snd_ret h (by simp [execOp, ho, e, Op.unary, Op.intArith]) (.p (.c _))
    · exact .fail
theorem snd_iface (h : Sim E σ a w G) {t : TypeId} {x : Operand} (ho : o.op = .makeInterface t x) : Snd E.P σ (rdo x fun v => kIface E.P E.N o t v) (Good E o σ a w) :=
  .rdo h fun v hv => .need fun hc => by
    cases hu : E.P.underlying t with
    | none => simp [concreteT, hu] at hc
    | some d =>
      refine snd_ret h (v := .iface t (a.eval x)) ?_ (.ifc _ _ _ hv)
      cases d <;> simp [concreteT, hu] at hc <;> simp [execOp, ho, Instr.makeInterface, run_underlying hu]
theorem snd_extract (h : Sim E σ a w G) {x : Operand} {i : Nat} (ho : o.op = .extract x i) : Snd E.P σ (rdo x fun v => kExtract E.N o v i) (Good E o σ a w) :=
  .rdo h fun v hv => by
    unfold kExtract
    split
    · rename_i cs
      refine .need fun hi => ?_
      obtain ⟨vs, e, hs, hp⟩ := inv_tup hv
      have := hp i hi
      generalize hgv : vs.getD i undef = z at this
      have hg : vs[i]? = some z := by
        rw [← hgv, Array.getD_eq_getD_getElem?, Array.getElem?_eq_getElem (by omega)]; rfl
      refine snd_ret h (v := z) (by simp only [execOp, ho, e, Instr.extract, hg]; rfl) ?_
      rw [List.getD_eq_getElem?_getD, List.getElem?_eq_getElem hi]
      exact this
    · exact .fail
theorem snd_len (h : Sim E σ a w G) {t ty : TypeId} {x : Operand} {args : Array Operand} {ts : Array TypeId} (ha : args.toList = [x]) (ht : ts.toList = [t]) (ho : o.op = .call { callee := .builtin .len, args := args, argTypes := ts }) :
    Snd E.P σ (rdo x fun v => kLen E.P E.N o t v) (Good E o σ a w) := by
  obtain rfl : args = #[x] := by cases args; simp at ha; simp [ha]
  obtain rfl : ts = #[t] := by cases ts; simp at ht; simp [ht]
  refine .rdo h fun v hv => ?_
  unfold kLen
  split
  · refine .need fun hs => ?_
    obtain ⟨e, he⟩ := Option.isSome_iff_exists.1 hs
    obtain ⟨ad, cap, b, off, f, ev, _⟩ := inv_sl hv
    exact snd_ret h (by simp [execOp, ho, resolve, ev, invoke, builtin, Builtin.len_, run_underlying (und_elem he), goInt]) (.p (.c _))
  · refine .need fun hs => ?_
    obtain ⟨e, he⟩ := Option.isSome_iff_exists.1 hs
    obtain ⟨g, cap, cs, ty, ev, _⟩ := inv_arr hv
    exact snd_ret h (by simp [execOp, ho, resolve, ev, invoke, builtin, Builtin.len_, run_underlying (und_elem he), goInt]) (.p (.c _))
  · refine .need fun hs => ?_
    obtain ⟨e, he⟩ := Option.isSome_iff_exists.1 hs
    obtain ⟨ad, cap, cs, v', e', sz', ev, _⟩ := inv_ow hv
    exact snd_ret h (by simp [execOp, ho, resolve, ev, invoke, builtin, Builtin.len_, run_underlying (und_elem he), goInt]) (.p (.c _))
  · refine .need fun hs => ?_
    have ev := inv_c hv
    exact snd_ret h (by simp [execOp, ho, resolve, ev, invoke, builtin, Builtin.len_, run_underlying (und_str hs), goInt]) (.p (.c _))
  · exact .fail
theorem snd_makeFunc (h : Sim E σ a w G) {f : Fn} {x y : Array Operand} (ho : o.op = .makeFunc f x y) :
    Snd E.P σ (rdos x.toList fun va => rdos y.toList fun vb => ret E.N o (.fn f va vb)) (Good E o σ a w) :=
  .rdos h fun va la ha => .rdos h fun vb lb hb => by
    refine snd_ret h (v := .func f (x.map a.eval) (y.map a.eval)) (by simp [execOp, ho, Instr.makeFunc]) (.fn _ _ _ _ _ (by simp [la]) (by simp [lb]) (fun j hj => ?_) fun j hj => ?_)
    · have h1 : j < x.size := by simpa [la] using hj
      have := ha j (by simpa using h1) hj
      simpa [Array.getD_eq_getD_getElem?, h1] using this
    · have h1 : j < y.size := by simpa [lb] using hj
      have := hb j (by simpa using h1) hj
      simpa [Array.getD_eq_getD_getElem?, h1] using this

theorem slice_drop {cs : List AV} {n : Nat} {ad : Option Addr} {cap b off : Nat} {f : Nat → Value} (h : SlAt G cs n ad cap b off f) {l hh sz m : Nat} (hl : l ≤ hh) (hn : hh ≤ n) (hc0 : cap = l → m = 0) :
    VRel G (lm σ) (.slice (if cap = l then ad else ad.map (·.add (l * sz))) (hh - l) (cap - l)) (.sl ((cs.drop (l * sz)).take m) (hh - l) .none) := by
  obtain ⟨h1, h2, h3, h4, h5⟩ := h
  by_cases hcl : cap = l
  · rw [if_pos hcl]
    obtain rfl := hc0 hcl
    have e : hh - l = 0 := by omega
    rw [e]
    refine .p (.sl ad b off 0 (cap - l) .none _ f (.inl rfl) (by omega) (fun _ => by omega) (.inl ⟨rfl, by simp⟩) (fun j hj => by simp at hj) fun j hj => by simp at hj)
  · rw [if_neg hcl]
    rcases h3 with ⟨h3, h6⟩ | rfl
    · subst h6
      simp only [List.drop_nil, List.take_nil]
      refine .p (.sl _ b off _ _ .none _ f (.inl rfl) (by omega) (fun e => ?_) (.inl ⟨by omega, rfl⟩) (fun j hj => by simp at hj) fun j hj => by simp at hj)
      have := h2 (by simpa using e); omega
    · simp only [Option.map_some, Addr.add_mid]
      refine .p (.sl _ b (off + l * sz) _ _ .none _ (fun j => f (l * sz + j)) (.inl rfl) (by omega) (fun e => by simp at e) (.inr rfl) (fun j hj => ?_) fun j hj => ?_)
      · simp only [List.length_take, List.length_drop] at hj
        rw [Nat.add_assoc]; exact h4 _ (by omega)
      · simp only [List.length_take, List.length_drop] at hj
        have := h5 (l * sz + j) (by omega)
        simpa using this
theorem ow_slice {b off ver sz : Nat} {ad : Option Addr} {cap : Nat} {cs : List AV} {v' : Nat} {e : TypeId} (hb : 10000 ≤ b) (hB : lm σ b = .br cs v' e sz) (hvv : ver = v') (ha : ad = none → cap = 0) (hk : ver = v' → OwAt G b off sz ad cap) {l hh : Nat} (hl : l ≤ hh) (hn : hh ≤ cap) :
    VRel G (lm σ) (.slice (if cap = l then ad else ad.map (·.add (l * sz))) (hh - l) (cap - l)) (.ow b (off + l * sz) (hh - l) ver) := by
  refine .ow _ _ _ b _ ver cs v' e sz hb hB (by omega) (fun e => ?_) (by omega) fun _ => ⟨fun hγ => ?_, fun g hγ => ?_⟩
  · split at e
    · omega
    · have := ha (by simpa using e); omega
  · have := (hk hvv).1 hγ; omega
  · obtain ⟨h1, h2⟩ := (hk hvv).2 g hγ
    refine ⟨?_, ?_⟩
    · rw [← h1, Nat.add_assoc, ← Nat.add_mul]; congr 2; omega
    · by_cases hc : cap = l
      · exact .inl (by omega)
      · right
        rw [if_neg hc]
        have h3 := h2.resolve_left (by omega)
        rw [h3]
        simp [Addr.add_mid, Nat.add_assoc]
theorem snd_slice (h : Sim E σ a w G) {t : TypeId} {x : Operand} {lo hi mx : Option Operand} (ho : o.op = .slice t x lo hi mx) :
    Snd E.P σ (rdo x fun v => optO lo fun l => optO hi fun hh => optO mx fun m => kSlice E.P E.N o t v l hh m) (Good E o σ a w) := by
  have hopt : ∀ (y : Option Operand) (k : Option AV → TR), (∀ z : Option AV, (y = none → z = none) → (∀ p, y = some p → ∃ q, z = some q ∧ VRel G (lm σ) (a.eval p) q) → Snd E.P σ (k z) (Good E o σ a w)) → Snd E.P σ (optO y k) (Good E o σ a w) := fun y k hk => by
    cases y with
    | none => exact hk none (fun _ => rfl) (fun _ e => by cases e)
    | some p => exact Snd.rdo h fun q hq => hk (some q) (fun e => by cases e) (fun p' e => by cases e; exact ⟨q, rfl, hq⟩)
  refine .rdo h fun v hv => hopt lo _ fun zl l0 l1 => hopt hi _ fun zh h0 h1 => hopt mx _ fun zm m0 m1 => ?_
  have hz : ∀ (y : Option Operand) (z : Option AV), (y = none → z = none) → (∀ p, y = some p → ∃ q, z = some q ∧ VRel G (lm σ) (a.eval p) q) →
      (z = none → y = none) ∧ ∀ k i, z = some (.c (.int k i)) → y.map a.eval = some (.int k i) := fun y z e1 e2 => by
    cases y with
    | none => exact ⟨fun _ => rfl, fun k i e => by rw [e1 rfl] at e; cases e⟩
    | some p =>
      obtain ⟨q, rfl, hq⟩ := e2 p rfl
      exact ⟨(fun e => by cases e), (fun k i e => by cases e; rw [Option.map_some, inv_c hq])⟩
  obtain ⟨hl0, hl1⟩ := hz lo zl l0 l1
  obtain ⟨hh0, hh1⟩ := hz hi zh h0 h1
  obtain ⟨hm0, hm1⟩ := hz mx zm m0 m1
  unfold kSlice
  split
  · rename_i s
    have ev := inv_c hv
    split
    · rename_i hs
      obtain rfl := hl0 rfl; obtain rfl := hh0 rfl; obtain rfl := hm0 rfl
      exact snd_ret h (v := .string (s.extract 0 s.size)) (by simp [execOp, ho, ev, Instr.sliceAt, Instr.slice, run_underlying (und_str hs), Instr.sliceBounds]) (.p (.c _))
    · rename_i k l hs
      refine .need fun ⟨e1, e2⟩ => ?_
      obtain rfl := hh0 rfl; obtain rfl := hm0 rfl
      have el := hl1 _ _ rfl
      exact snd_ret h (v := .string (s.extract l.toNat s.size)) (by simp [execOp, ho, ev, el, Instr.sliceAt, Instr.slice, run_underlying (und_str hs), Instr.sliceBounds, Instr.sliceBound, asIntOf, e1, e2]) (.p (.c _))
    · rename_i k l hs
      refine .need fun ⟨e1, e2⟩ => ?_
      obtain rfl := hl0 rfl; obtain rfl := hm0 rfl
      have el := hh1 _ _ rfl
      exact snd_ret h (v := .string (s.extract 0 l.toNat)) (by simp [execOp, ho, ev, el, Instr.sliceAt, Instr.slice, run_underlying (und_str hs), Instr.sliceBounds, Instr.sliceBound, asIntOf, e1, e2]) (.p (.c _))
    · rename_i k l k' hh hs
      refine .need fun ⟨e1, e2, e3⟩ => ?_
      obtain rfl := hm0 rfl
      have el := hl1 _ _ rfl
      have eh := hh1 _ _ rfl
      have e4 : (0 : Int) ≤ hh := by omega
      have e5 : l ≤ max hh 0 := by omega
      exact snd_ret h (v := .string (s.extract l.toNat hh.toNat)) (by simp [execOp, ho, ev, el, eh, Instr.sliceAt, Instr.slice, run_underlying (und_str hs), Instr.sliceBounds, Instr.sliceBound, asIntOf, e1, e2, e3, e4, e5]) (.p (.c _))
    · exact .fail
  · rename_i cs n own
    obtain ⟨ad, cap, b, off, f, ev, hsl, _⟩ := inv_sl hv
    have hncap := hsl.1
    split
    · rename_i sz k l hsz
      refine .need fun ⟨e1, e2, e3⟩ => ?_
      obtain ⟨e, he, hsz⟩ := Option.bind_eq_some_iff.1 hsz
      have hs := run_szOf (P := E.P) (w := w) hsz
      obtain rfl := hh0 rfl; obtain rfl := hm0 rfl
      have el := hl1 _ _ rfl
      refine snd_ret h (v := .slice (if cap = l.toNat then ad else ad.map (·.add (l.toNat * sz))) (n - l.toNat) (cap - l.toNat)) (by simp [execOp, ho, ev, el, Instr.sliceAt, Instr.slice, run_underlying (und_elem he), hs, Instr.sliceBounds, Instr.sliceBound, asIntOf, e1, e2]) ?_
      have hle : l.toNat ≤ n := by omega
      have hm : (n - l.toNat) * sz = cs.length - l.toNat * sz := by rw [e3, Nat.sub_mul]
      have := slice_drop (σ := σ) hsl (sz := sz) (m := (n - l.toNat) * sz) hle (Nat.le_refl _) (fun e => by rw [show n - l.toNat = 0 by omega, Nat.zero_mul])
      rwa [List.take_of_length_le (by rw [List.length_drop, hm]; exact Nat.le_refl _)] at this
    · rename_i sz k l hsz
      refine .need fun ⟨e1, e2⟩ => ?_
      obtain ⟨e, he, hsz⟩ := Option.bind_eq_some_iff.1 hsz
      have hs := run_szOf (P := E.P) (w := w) hsz
      obtain rfl := hl0 rfl; obtain rfl := hm0 rfl
      have el := hh1 _ _ rfl
      have e4 : l ≤ (cap : Int) := by omega
      refine snd_ret h (v := .slice (if cap = 0 then ad else ad.map (·.add (0 * sz))) (l.toNat - 0) (cap - 0)) (by simp [execOp, ho, ev, el, Instr.sliceAt, Instr.slice, run_underlying (und_elem he), hs, Instr.sliceBounds, Instr.sliceBound, asIntOf, e1, e4]) ?_
      have := slice_drop (σ := σ) hsl (l := 0) (hh := l.toNat) (sz := sz) (m := l.toNat * sz) (Nat.zero_le _) (by omega) (fun e => by rw [show l.toNat = 0 by omega, Nat.zero_mul])
      simp only [Nat.zero_mul, List.drop_zero, Nat.sub_zero] at this ⊢
      exact this
    · rename_i sz k l k' hh hsz
      refine .need fun ⟨e1, e2, e3⟩ => ?_
      obtain ⟨e, he, hsz⟩ := Option.bind_eq_some_iff.1 hsz
      have hs := run_szOf (P := E.P) (w := w) hsz
      obtain rfl := hm0 rfl
      have el := hl1 _ _ rfl
      have eh := hh1 _ _ rfl
      have e4 : (0 : Int) ≤ hh := by omega
      have e5 : l ≤ max hh 0 := by omega
      have e6 : hh ≤ (cap : Int) := by omega
      have e7 : (hh - l).toNat = hh.toNat - l.toNat := by omega
      rw [e7]
      refine snd_ret h (v := .slice (if cap = l.toNat then ad else ad.map (·.add (l.toNat * sz))) (hh.toNat - l.toNat) (cap - l.toNat)) (by simp [execOp, ho, ev, el, eh, Instr.sliceAt, Instr.slice, run_underlying (und_elem he), hs, Instr.sliceBounds, Instr.sliceBound, asIntOf, e1, e4, e5, e6]) ?_
      exact slice_drop (σ := σ) hsl (sz := sz) (m := (hh.toNat - l.toNat) * sz) (by omega) (by omega) (fun e => by rw [show hh.toNat - l.toNat = 0 by omega, Nat.zero_mul])
    · rename_i sz k k' hsz
      obtain ⟨e, he, hsz⟩ := Option.bind_eq_some_iff.1 hsz
      have hs := run_szOf (P := E.P) (w := w) hsz
      obtain rfl := hl0 rfl
      have eh := hh1 _ _ rfl
      have em := hm1 _ _ rfl
      refine snd_ret h (v := .slice ad 0 0) (by simp [execOp, ho, ev, eh, em, Instr.sliceAt, Instr.slice, run_underlying (und_elem he), hs, Instr.sliceBounds, Instr.sliceBound, asIntOf]) ?_
      exact .p (.sl ad b off 0 0 .full [] f (.inr ⟨rfl, rfl⟩) (Nat.le_refl _) (fun _ => rfl) (.inl ⟨rfl, rfl⟩) (fun j hj => by simp at hj) fun j hj => by simp at hj)
    · exact .fail
  · rename_i b off n ver
    obtain ⟨ad, cap, cs, v', e', sz', ev, hn, ha, hb, hB, hvv, hk⟩ := inv_ow hv
    split
    · rename_i sz k l hsz
      refine .rdRow hb fun cs2 v2 e2' sz2 wr hB2 _ => .need fun ⟨e0, e1, e2, e3⟩ => ?_
      rw [hB] at hB2; cases hB2
      subst e1
      obtain ⟨e, he, hsz⟩ := Option.bind_eq_some_iff.1 hsz
      have hs := run_szOf (P := E.P) (w := w) hsz
      obtain rfl := hh0 rfl; obtain rfl := hm0 rfl
      have el := hl1 _ _ rfl
      refine snd_ret h (v := .slice (if cap = l.toNat then ad else ad.map (·.add (l.toNat * sz'))) (n - l.toNat) (cap - l.toNat)) (by simp [execOp, ho, ev, el, Instr.sliceAt, Instr.slice, run_underlying (und_elem he), hs, Instr.sliceBounds, Instr.sliceBound, asIntOf, e2, e3]) ?_
      exact ow_slice hb hB e0 ha hk (by omega) hn
    · rename_i sz k l hsz
      refine .rdRow hb fun cs2 v2 e2' sz2 wr hB2 _ => .need fun ⟨e0, e1, e2, e3⟩ => ?_
      rw [hB] at hB2; cases hB2
      subst e1
      obtain ⟨e, he, hsz⟩ := Option.bind_eq_some_iff.1 hsz
      have hs := run_szOf (P := E.P) (w := w) hsz
      obtain rfl := hl0 rfl; obtain rfl := hm0 rfl
      have el := hh1 _ _ rfl
      have e4 : l ≤ (cap : Int) := by omega
      refine snd_ret h (v := .slice (if cap = 0 then ad else ad.map (·.add (0 * sz'))) (l.toNat - 0) (cap - 0)) (by simp [execOp, ho, ev, el, Instr.sliceAt, Instr.slice, run_underlying (und_elem he), hs, Instr.sliceBounds, Instr.sliceBound, asIntOf, e2, e4]) ?_
      exact ow_slice hb hB e0 ha hk (Nat.zero_le _) (by omega)
    · rename_i sz k l k' hh hsz
      refine .rdRow hb fun cs2 v2 e2' sz2 wr hB2 _ => .need fun ⟨e0, e1, e2, e3, e4⟩ => ?_
      rw [hB] at hB2; cases hB2
      subst e1
      obtain ⟨e, he, hsz⟩ := Option.bind_eq_some_iff.1 hsz
      have hs := run_szOf (P := E.P) (w := w) hsz
      obtain rfl := hm0 rfl
      have el := hl1 _ _ rfl
      have eh := hh1 _ _ rfl
      have e5 : (0 : Int) ≤ hh := by omega
      have e6 : l ≤ max hh 0 := by omega
      have e7 : hh ≤ (cap : Int) := by omega
      refine snd_ret h (v := .slice (if cap = l.toNat then ad else ad.map (·.add (l.toNat * sz'))) (hh.toNat - l.toNat) (cap - l.toNat)) (by simp [execOp, ho, ev, el, eh, Instr.sliceAt, Instr.slice, run_underlying (und_elem he), hs, Instr.sliceBounds, Instr.sliceBound, asIntOf, e2, e5, e6, e7]) ?_
      exact ow_slice hb hB e0 ha hk (by omega) (by omega)
    · exact .fail
  · exact .fail
end
end Go.Proofs.Ytjabaenpkimmjaa
