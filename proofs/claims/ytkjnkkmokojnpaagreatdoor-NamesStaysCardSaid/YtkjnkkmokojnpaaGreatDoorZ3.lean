/- K: calls, sound; and all operations together. No program is in sight. K: regions in the order of the text; code. No program is in sight. K: a function's contract out of its body. No program is in sight. K: regions that draw their order. One run in the order of the text serves every order, if what conflicts is ordered. No program is in sight. -/
import Derived.Test.YtkjnkkmokojnpaaGreatDoorZ2
import Derived.Orders
namespace Go.Proofs.YtkjnkkmokojnpaaGreatDoor
set_option linter.unusedSimpArgs false
set_option linter.unusedVariables false
open Go.RowKit
theorem kh : ∀ {l m : List Nat},m.Nodup → (tL m l).Nodup
 | [],m,h => h
 | x :: r,m,h => by
  unfold tL
  split
  ·exact kh h
  ·rename_i hx
   refine kh (List.nodup_append.2 ⟨h,by simp,fun a ha b hb => ?_⟩)
   simp at hb
   subst hb
   intro e; subst e
   exact hx (by simpa using ha)
section
variable {P : Program} {σ : bJ} {Goal : List (Nat × AV) → Prop}
theorem Snd.rdBoxes : ∀ {ns : List Nat} {f : List AV → TR},((∀ b ∈ ns,10000 ≤ b) → Snd P σ (f (ns.map (bn σ))) Goal) → Snd P σ (rdBoxes ns f) Goal
 | [],f,h => h (fun b hb => by simp at hb)
 | b :: r,f,h => .need fun hb => .rd (Snd.rdBoxes (ns := r) fun hr => h fun x hx => by
   rcases List.mem_cons.1 hx with rfl | hx
   ·exact hb
   ·exact hr x hx)
theorem Snd.gather {tk : Bool} : ∀ {k : Nat} {ns : List Nat} {f : List Nat → List AV → TR},ns.Nodup → (∀ ns' : List Nat,ns'.Nodup → (∀ b ∈ ns',10000 ≤ b) → Snd P σ (f ns' (ns'.map (bn σ))) Goal) → Snd P σ (gather tk k ns f) Goal
 | 0,_,_,_,_ => .fail
 | k + 1,ns,f,hn,h => by
  refine .rdBoxes fun hb => ?_
  split
  ·exact h ns hn hb
  ·exact Snd.gather (kh hn) h
end
theorem jg : ∀ {ns : List Nat} {i b b' : Nat},fq (cB i ns) b = some b' → ∃ j,j < ns.length ∧ b' = 20000 + i + j ∧ ns[j]? = some b
 | [],i,b,b',h => by simp [cB,fq] at h
 | x :: r,i,b,b',h => by
  simp only [cB,fq] at h
  split at h
  ·rename_i e; cases h; subst e; exact ⟨0,by simp,by omega,by simp⟩
  ·obtain ⟨j,h1,h2,h3⟩ := jg h
   exact ⟨j + 1,by simpa using h1,by omega,by simpa using h3⟩
theorem qc : ∀ {ns : List Nat} {i b b' : Nat},fq (fg (cB i ns)) b = some b' → ∃ j,j < ns.length ∧ b = 20000 + i + j ∧ ns[j]? = some b'
 | [],i,b,b',h => by simp [cB,fg,fq] at h
 | x :: r,i,b,b',h => by
  simp only [cB,fg,List.map_cons,fq] at h
  split at h
  ·rename_i e; cases h; exact ⟨0,by simp,by omega,by simp⟩
  ·obtain ⟨j,h1,h2,h3⟩ := qc (ns := r) (i := i + 1) h
   exact ⟨j + 1,by simpa using h1,by omega,by simpa using h3⟩
theorem np {G G' : Gh} {B B' : Nat → AV} {g : List (Nat × Nat)} (hZ : G'.Z = G.Z)
  (hg : ∀ b b',fq g b = some b' → 10000 ≤ b' ∧ (∀ cs ty,B b = .bc cs ty → ∃ cs',B' b' = .bc cs' ty) ∧ (∀ n e,B b = .bt n e → B' b' = .bt n e) ∧ G'.γ b' = G.γ b ∧ G'.κ b' = G.κ b) :
  ∀ (k : Nat) {x : AV} {v : Value},VRel G B v x → VRel G' B' v (ren g k x)
 | 0,x,v,_ => .p (.u v)
 | k + 1,x,v,h => by
  have lst : ∀ {cs : List AV} {vs : Array Value},(∀ j (hj : j < cs.length),VRel G B (vs.getD j undef) cs[j]) → ∀ j (hj : j < (cs.map (ren g k)).length),VRel G' B' (vs.getD j undef) (cs.map (ren g k))[j] := fun {cs vs} hp j hj => by
   rw [List.getElem_map]
   exact np hZ hg k (hp j (by simpa using hj))
  cases x with
  | c x => rw [dL h]; exact .p (.c x)
  | u => exact .p (.u v)
  | sl cs n o =>
   obtain ⟨ad,cap,b,off,f,rfl,⟨h1,h2,h3,h4,h5⟩,hf,ht⟩ := eR h
   cases o with
   | none => exact .p (.sl ad b off n cap .none cs f (.inl rfl) h1 h2 h3 (by rw [hZ]; exact h4) (by rw [hZ]; exact h5))
   | full => exact .p (.sl ad b off n cap .full cs f (.inr ⟨rfl,hf rfl⟩) h1 h2 h3 (by rw [hZ]; exact h4) (by rw [hZ]; exact h5))
   | tok t =>
    have hp : PRel G'.Z (.slice ad n cap) (.sl cs n .none) := .sl ad b off n cap .none cs f (.inl rfl) h1 h2 h3 (by rw [hZ]; exact h4) (by rw [hZ]; exact h5)
    obtain ⟨h6,tip,e,hB,hn,hk⟩ := ht t rfl
    simp only [ren]
    split
    ·rename_i b' hb'
     obtain ⟨q1,_,q3,q4,q5⟩ := hg t b' hb'
     refine .tok ad n cap cs b' tip e hp q1 (q3 tip e hB) hn fun e' => ?_
     have := hk e'
     unfold ox at *
     rw [q4,q5]; exact this
    ·exact .p hp
  | rf cs o =>
   obtain ⟨b,off,f,rfl,hz,hp⟩ := iZ h
   exact .p (.rf b off o cs f (by rw [hZ]; exact hz) (by rw [hZ]; exact hp))
  | agg cs =>
   obtain ⟨vs,rfl,hs,h1,hp⟩ := gS h
   exact .agg vs _ (by simpa using hs) (fun j hj => h1 j (by simpa using hj)) (lst hp)
  | tup cs =>
   obtain ⟨vs,rfl,hs,hp⟩ := jf h
   exact .tup vs _ (by simpa using hs) (lst hp)
  | ifc t x =>
   obtain ⟨v',rfl,hv⟩ := fj h
   exact .ifc t v' _ (np hZ hg k hv)
  | fn f p q =>
   obtain ⟨va,vb,rfl,ha,hb,pa,pb⟩ := jL h
   exact .fn f va vb _ _ (by simpa using ha) (by simpa using hb) (lst pa) (lst pb)
  | loc b off =>
   obtain ⟨g',cs,ty,rfl,hb,hB,hγ,hm⟩ := iG h
   simp only [ren]
   split
   ·rename_i b' hb'
    obtain ⟨q1,q2,_,q4,_⟩ := hg b b' hb'
    obtain ⟨cs',q2⟩ := q2 cs ty hB
    exact .loc b' off g' cs' ty q1 q2 (q4.trans hγ) hm
   ·exact .p (.u _)
  | arr b off n e =>
   obtain ⟨g',cap,cs,ty,rfl,hn,hb,hB,hγ,hm⟩ := iF h
   simp only [ren]
   split
   ·rename_i b' hb'
    obtain ⟨q1,q2,_,q4,_⟩ := hg b b' hb'
    obtain ⟨cs',q2⟩ := q2 cs ty hB
    exact .arr b' off n e cap g' cs' ty q1 q2 (q4.trans hγ) hn hm
   ·exact .p (.u _)
  | mp b =>
   obtain ⟨g',cs,ty,rfl,hb,hB,hγ,hm⟩ := mg h
   simp only [ren]
   split
   ·rename_i b' hb'
    obtain ⟨q1,q2,_,q4,_⟩ := hg b b' hb'
    obtain ⟨cs',q2⟩ := q2 cs ty hB
    exact .mp b' g' cs' ty q1 q2 (q4.trans hγ) hm
   ·exact .p (.u _)
  | bc cs ty => exact (u7 h).elim
  | bt n e => exact (u9 h).elim
theorem wB {G G' : Gh} {B B' : Nat → AV} {g : List (Nat × Nat)} (hZ : G'.Z = G.Z)
  (hg : ∀ b b',fq g b = some b' → 10000 ≤ b' ∧ (∀ cs ty,B b = .bc cs ty → ∃ cs',B' b' = .bc cs' ty) ∧ (∀ n e,B b = .bt n e → B' b' = .bt n e) ∧ G'.γ b' = G.γ b ∧ G'.κ b' = G.κ b)
  {P : Program} {w : World} {k k' g' : Nat} (h : BoxAt P G B w k g') (hB : B' k' = gd g (B k)) (hκ : G'.κ k' = G.κ k) : BoxAt P G' B' w k' g' := by
 rcases h with ⟨cs,ty,e,h2⟩ | ⟨n,e,h1,c,h2,h3,h4,h5,h6⟩
 ·rw [e] at hB
  exact .inl ⟨_,ty,hB,h2.to (ren g 4) (fun _ => rfl) (fun _ _ h => np hZ hg 4 h) rfl fun o ho => by rw [hZ]; exact ho⟩
 ·rw [h1] at hB
  rw [← hκ] at h3 h4 h5
  exact .inr ⟨n,e,hB,c,h2,h3,h4,h5,by rw [hZ]; exact h6⟩
theorem rt {g : List (Nat × Nat)} : ∀ {ns : List Nat} {bs : List AV} {σ : bJ},bs.length = ns.length → ns.Nodup → (∀ (j : Nat) (b : Nat) (x : AV),ns[j]? = some b → bs[j]? = some x → bn (dO σ (ja g ns bs)) b = gd g x) ∧ ∀ k,k ∉ ns → bn (dO σ (ja g ns bs)) k = bn σ k
 | [],[],σ,_,_ => ⟨fun j b x h => by simp at h,fun k _ => rfl⟩
 | n :: ns,x :: bs,σ,hl,hn => by
  obtain ⟨h1,h2⟩ := List.nodup_cons.1 hn
  obtain ⟨h3,h4⟩ := rt (g := g) (ns := ns) (bs := bs) (σ := fH σ n (gd g x)) (by simpa using hl) h2
  refine ⟨fun j b y hb hy => ?_,fun k hk => ?_⟩
  ·cases j with
   | zero =>
    simp at hb hy
    subst hb; subst hy
    show bn (dO (fH σ n (gd g x)) (ja g ns bs)) n = _
    rw [h4 n h1,eB,if_pos rfl]
   | succ j => exact h3 j b y (by simpa using hb) (by simpa using hy)
  ·show bn (dO (fH σ n (gd g x)) (ja g ns bs)) k = _
   rw [h4 k (fun h => hk (by simp [h])),eB,if_neg (fun e => hk (by simp [e]))]
theorem oE (σ : bJ) : ∀ (a b : List (Nat × AV)),dO σ (a ++ b) = dO (dO σ a) b
 | [],b => rfl
 | (k,v) :: a,b => oE (fH σ k v) a b
theorem oc {bs : List AV} {j : Nat} {x : AV} (h : bs[j]? = some x) : cm bs (20000 + j) = x := by
 unfold cm
 rw [if_pos (by omega),Nat.add_sub_cancel_left,List.getD_eq_getElem?_getD,h]; rfl
section
variable {E : Env} {o : Oper} {σ : bJ} {a : Act} {w : World} {G : Gh}
def GhC (G : Gh) (ns : List Nat) : Gh := ⟨G.Z,fun k => if 20000 ≤ k then (ns[k - 20000]?).bind G.γ else none,fun k => (ns[k - 20000]?).elim 0 G.κ⟩
def GhB (G G' : Gh) (ns : List Nat) : Gh := ⟨G'.Z,fun k => if k ∈ ns then G'.γ (20000 + ns.idxOf k) else G.γ k,fun k => if k ∈ ns then G'.κ (20000 + ns.idxOf k) else G.κ k⟩
theorem iq (G : Gh) {ns : List Nat} {j b : Nat} (h : ns[j]? = some b) : (GhC G ns).γ (20000 + j) = G.γ b ∧ (GhC G ns).κ (20000 + j) = G.κ b := by
 unfold GhC
 simp [h]
theorem pX {ns : List Nat} (hn : ns.Nodup) {j b : Nat} (h : ns[j]? = some b) : ns.idxOf b = j := by
 obtain ⟨h1,h2⟩ := List.getElem?_eq_some_iff.1 h
 subst h2
 exact hn.idxOf_getElem j h1
theorem kg (G G' : Gh) {ns : List Nat} (hn : ns.Nodup) {j b : Nat} (h : ns[j]? = some b) : (GhB G G' ns).γ b = G'.γ (20000 + j) ∧ (GhB G G' ns).κ b = G'.κ (20000 + j) := by
 have hm : b ∈ ns := List.mem_of_getElem? h
 unfold GhB
 simp [hm,pX hn h]
theorem zq (h : Sim E σ a w G) {f : FuncId} {tk : Bool} {args : List AV} {vs : Array Value} (hvs : vs.size = args.length) (hargs : ∀ j (hj : j < args.length),VRel G (bn σ) (vs.getD j undef) args[j])
  (hrun : aR E.P f = true → (execOp a.eval o).run E.P w = .ok (.enter f vs) w) : Snd E.P σ (wl E.P E.N tk o f args) (fU E o σ a w) := by
 unfold wl
 refine .need fun ⟨hok,hd⟩ => .gather (kh (by simp)) fun ns hn hb => .need fun hbox => .call fun r bs' hfn => ?_
 have hext : ∀ j b,ns[j]? = some b → cm ((ns.map (bn σ)).map (gd (cB 0 ns))) (20000 + j) = gd (cB 0 ns) (bn σ b) := fun j b hj => oc (by simp [hj])
 have hg : ∀ b b',fq (cB 0 ns) b = some b' → 10000 ≤ b' ∧ (∀ cs ty,bn σ b = .bc cs ty → ∃ cs',cm ((ns.map (bn σ)).map (gd (cB 0 ns))) b' = .bc cs' ty) ∧
   (∀ n e,bn σ b = .bt n e → cm ((ns.map (bn σ)).map (gd (cB 0 ns))) b' = .bt n e) ∧ (GhC G ns).γ b' = G.γ b ∧ (GhC G ns).κ b' = G.κ b := fun b b' hl => by
  obtain ⟨j,h1,h2,h3⟩ := jg hl
  rw [Nat.add_zero] at h2
  subst h2
  rw [hext j b h3]
  exact ⟨by omega,fun cs ty e => ⟨_,by rw [e]; rfl⟩,fun n e he => by rw [he]; rfl,iq G h3⟩
 have hγc : ∀ k g,(GhC G ns).γ k = some g → ∃ j b,k = 20000 + j ∧ ns[j]? = some b ∧ G.γ b = some g := fun k g hk => by
  have hk' : (if 20000 ≤ k then (ns[k - 20000]?).bind G.γ else none) = some g := hk
  split at hk'
  ·rename_i h1
   obtain ⟨b,h2,h3⟩ := Option.bind_eq_some_iff.1 hk'
   exact ⟨k - 20000,b,by omega,h2,h3⟩
  ·cases hk'
 have hst : BSim E.P (fun b => b < w.heap.size ∧ ∀ k,(GhC G ns).γ k ≠ some b) (GhC G ns) (cm ((ns.map (bn σ)).map (gd (cB 0 ns)))) w := by
  refine ⟨h.st.agree,fun k g hk => ?_,fun k cs ty hk hB => ?_,fun k k' g h1 h2 => ?_,h.st.gl⟩
  ·obtain ⟨j,b,rfl,h2,h3⟩ := hγc k g hk
   obtain ⟨_,_,h4⟩ := h.st.box b g h3
   exact ⟨by omega,fun hp => hp.2 _ hk,wB (G := G) (G' := GhC G ns) rfl hg h4 (hext j b h2) (iq G h2).2⟩
  ·unfold cm at hB
   split at hB
   ·rename_i hk'
    rw [List.getD_eq_getElem?_getD] at hB
    cases hj : ns[k - 20000]? with
    | none => simp [hj] at hB
    | some b =>
     simp only [List.getElem?_map,hj,Option.map_some,Option.getD_some] at hB
     have : ∃ cs',bn σ b = .bc cs' ty := by
      cases hm : bn σ b <;> rw [hm] at hB <;> simp [gd] at hB
      rename_i cs' ty'
      exact ⟨cs',by rw [hB.2]⟩
     obtain ⟨cs',hm⟩ := this
     obtain ⟨g,hγ⟩ := h.st.real b cs' ty (hb b (List.mem_of_getElem? hj)) hm
     refine ⟨g,?_⟩
     have := (iq G hj).1
     rw [show 20000 + (k - 20000) = k by omega] at this
     exact this.trans hγ
   ·cases hB
  ·obtain ⟨j,b,rfl,h3,h4⟩ := hγc k g h1
   obtain ⟨j',b',rfl,h5,h6⟩ := hγc k' g h2
   have := h.st.inj b b' g h4 h6
   subst this
   rw [← pX hn h3,← pX hn h5]
 have hargs' : ∀ j (hj : j < (args.map (ren (cB 0 ns) 4)).length),VRel (GhC G ns) (cm ((ns.map (bn σ)).map (gd (cB 0 ns)))) (vs.getD j undef) (args.map (ren (cB 0 ns) 4))[j] := fun j hj => by
  rw [List.getElem_map]
  exact np (G := G) (G' := GhC G ns) rfl hg 4 (hargs j (by simpa using hj))
 have hcalls := hfn w (GhC G ns) vs hst (by simpa using hvs) hargs'
 have back : ∀ ns2 : List Nat,(ns2 = ns ∨ ∃ key,ns2 = ns ++ [key] ∧ 10000 ≤ key ∧ bn σ key = .u ∧ key ∉ ns) → bs'.length = ns2.length → Snd E.P σ (wk o ns2 r bs') (fU E o σ a w) := fun ns2 hns2 hlen' => by
  refine .done fun Q => ?_
  have hn2 : ns2.Nodup := by
   rcases hns2 with rfl | ⟨key,rfl,_,_,hk⟩
   ·exact hn
   ·exact List.nodup_append.2 ⟨hn,by simp,fun x hx y hy => by simp at hy; subst hy; intro e; exact hk (e ▸ hx)⟩
  have hb2' : ∀ b ∈ ns2,10000 ≤ b := fun b hbm => by
   rcases hns2 with rfl | ⟨key,rfl,hk,_,_⟩
   ·exact hb b hbm
   ·rcases List.mem_append.1 hbm with hbm | hbm
    ·exact hb b hbm
    ·simp at hbm; omega
  have hsub : ∀ b,b ∈ ns → b ∈ ns2 := fun b hbm => by
   rcases hns2 with rfl | ⟨key,rfl,_,_,_⟩
   ·exact hbm
   ·exact List.mem_append_left _ hbm
  have hold : ∀ j b,ns2[j]? = some b → ns[j]? = some b ∨ bn σ b = .u := fun j b hj => by
   rcases hns2 with rfl | ⟨key,rfl,_,hu,_⟩
   ·exact .inl hj
   ·by_cases hlt : j < ns.length
    ·rw [List.getElem?_append_left hlt] at hj; exact .inl hj
    ·rw [List.getElem?_append_right (by omega)] at hj
     cases h0 : j - ns.length with
     | zero => rw [h0] at hj; simp at hj; subst hj; exact .inr hu
     | succ i => rw [h0] at hj; simp at hj
  unfold Oper.wp
  rw [hrun hok]
  refine Calls.mono hcalls ?_
  rintro e w' ⟨v,G',rfl,hv,hst',hw,hs',hz'⟩
  have hgb : ∀ b b',fq (fg (cB 0 ns2)) b = some b' → ∃ j,b = 20000 + j ∧ ns2[j]? = some b' := fun b b' hl => by
   obtain ⟨j,h1,h2,h3⟩ := qc hl
   exact ⟨j,by omega,h3⟩
  have hσ : ∀ k,bn (dO σ (ja (fg (cB 0 ns2)) ns2 bs' ++ eS o (ren (fg (cB 0 ns2)) 4 r))) k = if some k = o.dst then ren (fg (cB 0 ns2)) 4 r else bn (dO σ (ja (fg (cB 0 ns2)) ns2 bs')) k := fun k => by
   rw [oE,iz]
  obtain ⟨hb1,hb2⟩ := rt (g := fg (cB 0 ns2)) (ns := ns2) (bs := bs') (σ := σ) hlen' hn2
  have hσb : ∀ k,10000 ≤ k → bn (dO σ (ja (fg (cB 0 ns2)) ns2 bs' ++ eS o (ren (fg (cB 0 ns2)) 4 r))) k = bn (dO σ (ja (fg (cB 0 ns2)) ns2 bs')) k := fun k hk => by
   rw [hσ,if_neg (fun e => by have h2 : k < 10000 := (kj hd k e.symm).2; omega)]
  have hat : ∀ j b,ns2[j]? = some b → bn (dO σ (ja (fg (cB 0 ns2)) ns2 bs' ++ eS o (ren (fg (cB 0 ns2)) 4 r))) b = gd (fg (cB 0 ns2)) (cm bs' (20000 + j)) := fun j b hj => by
   rw [hσb b (hb2' b (List.mem_of_getElem? hj))]
   obtain ⟨h1,_⟩ := List.getElem?_eq_some_iff.1 hj
   have h2 : bs'[j]? = some bs'[j] := List.getElem?_eq_getElem (by omega)
   rw [hb1 j b _ hj h2,oc h2]
  have hnot : ∀ k,10000 ≤ k → k ∉ ns2 → bn (dO σ (ja (fg (cB 0 ns2)) ns2 bs' ++ eS o (ren (fg (cB 0 ns2)) 4 r))) k = bn σ k := fun k hk hk' => by
   rw [hσb k hk,hb2 k hk']
  have hgb' : ∀ b b',fq (fg (cB 0 ns2)) b = some b' → 10000 ≤ b' ∧ (∀ cs ty,cm bs' b = .bc cs ty → ∃ cs',bn (dO σ (ja (fg (cB 0 ns2)) ns2 bs' ++ eS o (ren (fg (cB 0 ns2)) 4 r))) b' = .bc cs' ty) ∧
    (∀ n e,cm bs' b = .bt n e → bn (dO σ (ja (fg (cB 0 ns2)) ns2 bs' ++ eS o (ren (fg (cB 0 ns2)) 4 r))) b' = .bt n e) ∧ (GhB G G' ns2).γ b' = G'.γ b ∧ (GhB G G' ns2).κ b' = G'.κ b := fun b b' hl => by
   obtain ⟨j,rfl,h3⟩ := hgb b b' hl
   rw [hat j b' h3]
   exact ⟨hb2' b' (List.mem_of_getElem? h3),fun cs ty e => ⟨_,by rw [e]; rfl⟩,fun n e he => by rw [he]; rfl,kg G G' hn2 h3⟩
  have hprc : ∀ b,E.Pr b → b < w.heap.size ∧ ∀ k,(GhC G ns).γ k ≠ some b := fun b hp => by
   refine ⟨Nat.lt_of_lt_of_le (h.fr.block b hp).1 h.fr.size,fun k hk => ?_⟩
   obtain ⟨j,b',_,_,h4⟩ := hγc k b hk
   exact (h.st.box b' b h4).2.1 hp
  have hfar : ∀ k g,k ∉ ns2 → G.γ k = some g → g < w.heap.size ∧ ∀ i,(GhC G ns).γ i ≠ some g := fun k g hk hγ => by
   refine ⟨iX h hγ,fun i hi => ?_⟩
   obtain ⟨j,b',_,h3,h4⟩ := hγc i g hi
   have := h.st.inj k b' g hγ h4
   subst this
   exact hk (hsub _ (List.mem_of_getElem? h3))
  have hmem : ∀ k,k ∈ ns2 → ∃ j,ns2[j]? = some k := fun k hk => by
   obtain ⟨j,h1,h2⟩ := List.getElem_of_mem hk
   exact ⟨j,by rw [List.getElem?_eq_getElem h1,h2]⟩
  have hγB : ∀ k,k ∉ ns2 → (GhB G G' ns2).γ k = G.γ k ∧ (GhB G G' ns2).κ k = G.κ k := fun k hk => ⟨if_neg hk,if_neg hk⟩
  have hs : BStep G (bn σ) (GhB G G' ns2) (bn (dO σ (ja (fg (cB 0 ns2)) ns2 bs' ++ eS o (ren (fg (cB 0 ns2)) 4 r)))) := ⟨hs'.1,fun k hk => by
   by_cases hkn : k ∈ ns2
   ·obtain ⟨j,hj⟩ := hmem k hkn
    obtain ⟨s1,s2⟩ := hs'.2 (20000 + j) (by omega)
    rcases hold j k hj with hj0 | hj0
    rotate_left
    ·rw [hj0]; exact ⟨(fun _ _ hc => by cases hc),(fun _ _ hc => by cases hc)⟩
    rw [hext j k hj0] at s1 s2
    rw [hat j k hj,(kg G G' hn2 hj).1,(kg G G' hn2 hj).2]
    rw [(iq G hj0).1,(iq G hj0).2] at s2
    rw [(iq G hj0).1] at s1
    refine ⟨fun cs ty e => ?_,fun n e he => ?_⟩
    ·rw [e] at s1
     obtain ⟨⟨cs',h1⟩,h2⟩ := s1 _ ty rfl
     exact ⟨⟨_,by rw [h1]; rfl⟩,h2⟩
    ·rw [he] at s2
     obtain ⟨n',h1,h2⟩ := s2 n e rfl
     exact ⟨n',by rw [h1]; rfl,h2⟩
   ·rw [hnot k hk hkn,(hγB k hkn).1,(hγB k hkn).2]
    exact ⟨fun cs ty hc => ⟨⟨cs,hc⟩,rfl⟩,fun n e hc => ⟨n,hc,.inr ⟨rfl,rfl,rfl⟩⟩⟩⟩
  refine ⟨GhB G G' ns2,h.put (x := ren (fg (cB 0 ns2)) 4 r) (kj hd) hs ⟨hst'.agree,fun k g hk => ?_,fun k cs ty hk hB => ?_,fun k k' g h1 h2 => ?_,hst'.gl⟩ ⟨hw.os,hw.tape,hw.output,hw.size,fun b hp hlt => hw.block b (hprc b hp) hlt⟩
   (fun b o' hp => hz' b o' (hprc b hp).1 (hprc b hp).2) (np (G := G') (G' := GhB G G' ns2) rfl hgb' 4 hv) fun t ht => ?_⟩
  ·by_cases hkn : k ∈ ns2
   ·obtain ⟨j,hj⟩ := hmem k hkn
    rw [(kg G G' hn2 hj).1] at hk
    obtain ⟨_,h2,h3⟩ := hst'.box _ g hk
    exact ⟨hb2' k hkn,fun hp => h2 (hprc g hp),wB (G := G') (G' := GhB G G' ns2) rfl hgb' h3 (hat j k hj) (kg G G' hn2 hj).2⟩
   ·rw [(hγB k hkn).1] at hk
    obtain ⟨h1,h2,h3⟩ := h.st.box k g hk
    obtain ⟨h4,h5⟩ := hfar k g hkn hk
    exact ⟨h1,h2,h3.step hs (hnot k h1 hkn) (hγB k hkn).2 (hw.block g ⟨h4,h5⟩ h4) fun o' => hz' g o' h4 h5⟩
  ·by_cases hkn : k ∈ ns2
   ·obtain ⟨j,hj⟩ := hmem k hkn
    rw [hat j k hj] at hB
    have : ∃ cs',cm bs' (20000 + j) = .bc cs' ty := by
     cases hm : cm bs' (20000 + j) <;> rw [hm] at hB <;> simp [gd] at hB
     rename_i cs' ty'
     exact ⟨cs',by rw [hB.2]⟩
    obtain ⟨cs',hm⟩ := this
    obtain ⟨g,hγ⟩ := hst'.real _ cs' ty (by omega) hm
    exact ⟨g,(kg G G' hn2 hj).1.trans hγ⟩
   ·rw [hnot k hk hkn] at hB
    obtain ⟨g,hγ⟩ := h.st.real k cs ty hk hB
    exact ⟨g,(hγB k hkn).1.trans hγ⟩
  ·have mixed : ∀ k k' g,k ∈ ns2 → k' ∉ ns2 → (GhB G G' ns2).γ k = some g → (GhB G G' ns2).γ k' = some g → False := fun k k' g hkn hkn' h1 h2 => by
    obtain ⟨j,hj⟩ := hmem k hkn
    rw [(kg G G' hn2 hj).1] at h1
    rw [(hγB k' hkn').1] at h2
    exact (hst'.box _ g h1).2.1 (hfar k' g hkn' h2)
   by_cases hkn : k ∈ ns2 <;> by_cases hkn' : k' ∈ ns2
   ·obtain ⟨j,hj⟩ := hmem k hkn
    obtain ⟨j',hj'⟩ := hmem k' hkn'
    rw [(kg G G' hn2 hj).1] at h1
    rw [(kg G G' hn2 hj').1] at h2
    have := hst'.inj _ _ g h1 h2
    have e : j = j' := by omega
    subst e
    rw [hj] at hj'; cases hj'; rfl
   ·exact (mixed k k' g hkn hkn' h1 h2).elim
   ·exact (mixed k' k g hkn' hkn h2 h1).elim
   ·rw [(hγB k hkn).1] at h1
    rw [(hγB k' hkn').1] at h2
    exact h.st.inj k k' g h1 h2
  ·rw [hσ]
   split
   ·rfl
   ·rw [hb2 t (fun hm => by have := hb2' t hm; omega)]
 split
 ·rename_i hlen; exact back ns (.inl rfl) hlen
 ·unfold Df
  split
  ·rename_i d hdst
   refine .rd ?_
   split
   ·rename_i hu
    refine .need fun ⟨h1,h2⟩ => back _ (.inr ⟨10000 + d,rfl,by omega,hu,by simpa using h1⟩) (by simpa using h2)
   ·exact .fail
  ·exact .fail
theorem xm {P : Program} {w : World} {f : FuncId} {vs : Array Value} (h : aR P f = true) : (callFunc f vs).run P w = .ok (.enter f vs) w := by
 unfold aR at h
 split at h
 ·rename_i fn hf
  simp only [Bool.and_eq_true,Bool.not_eq_true',beq_eq_false_iff_ne,ne_eq] at h
  obtain ⟨h1,h2⟩ := h
  obtain ⟨c,hc⟩ := Option.isSome_iff_exists.1 h1
  simp [callFunc,hf,h2,hc]
 ·cases h
theorem EX {G : Gh} {B : Nat → AV} {va vb : Array Value} {p q : List AV} (ha : va.size = p.length) (pa : ∀ j (h : j < p.length),VRel G B (va.getD j undef) p[j]) (pb : ∀ j (h : j < q.length),VRel G B (vb.getD j undef) q[j]) :
  ∀ j (h : j < (p ++ q).length),VRel G B ((va ++ vb).getD j undef) (p ++ q)[j] := fun j hj => by
 by_cases hlt : j < p.length
 ·have := pa j hlt
  rw [List.getElem_append_left hlt]
  simpa [Array.getD_eq_getD_getElem?,Array.getElem?_append_left (show j < va.size by omega)] using this
 ·have hj' : j - p.length < q.length := by simp at hj; omega
  have := pb (j - p.length) hj'
  rw [List.getElem_append_right (by omega)]
  simpa [Array.getD_eq_getD_getElem?,Array.getElem?_append_right (show va.size ≤ j by omega),ha] using this
theorem wH {G : Gh} {B : Nat → AV} : ∀ {l : List AV} {xs vs : List Value},xs.length = l.length → (∀ j (h : j < l.length),VRel G B (xs.getD j undef) l[j]) → l.mapM kK = some vs → xs = vs
 | [],xs,vs,hl,_,hm => by
  simp at hm; subst hm
  simpa using hl
 | x :: l,xs,vs,hl,hr,hm => by
  cases xs with
  | nil => simp at hl
  | cons y xs =>
   simp only [List.mapM_cons,Option.bind_eq_bind,Option.bind_eq_some_iff,Option.pure_def,Option.some.injEq] at hm
   obtain ⟨u,hu,us,hus,rfl⟩ := hm
   have h0 := oZ (hr 0 (by simp)) hu
   simp at h0
   subst h0
   rw [wH (l := l) (xs := xs) (by simpa using hl) (fun j hj => hr (j + 1) (Nat.succ_lt_succ hj)) hus]
theorem xv (h : Sim E σ a w G) {tk : FuncId → Bool} {f : Operand} {args : Array Operand} {ts : Array TypeId} (ho : o.op = .call { callee := .value f,args := args,argTypes := ts }) :
  Snd E.P σ (rdo f fun v => rdos args.toList fun vs => sK E.P E.N tk o v vs) (fU E o σ a w) :=
 .rdo h fun v hv => .rdos h fun ys hl hys => by
  unfold sK
  split
  ·rename_i fid p q
   obtain ⟨va,vb,ev,ha,hb,pa,pb⟩ := jL hv
   have hl' : ys.length = args.size := by simpa using hl
   have hrel := EX (G := G) (B := bn σ) (va := va ++ args.map a.eval) (vb := vb) (p := p ++ ys) (q := q) (by simp [ha,hl']) (EX ha pa fun j hj => by
    have hj' : j < args.size := by omega
    have := hys j (by simpa using hj') hj
    simpa [Array.getD_eq_getD_getElem?,hj'] using this) pb
   unfold ve
   split
   ·refine zq h (vs := va ++ args.map a.eval ++ vb) (by simp [ha,hb,hl']) hrel fun hok => ?_
    have := xm (w := w) (vs := va ++ args.map a.eval ++ vb) hok
    simp only [execOp,ho,Sem.run_bind,resolve,ev,Deferred.ofValue,Sem.run_pure,Result.andThen_ok,invoke,this]
   ·unfold Dd
    split
    ·rename_i vs hvs
     have e1 := wH (xs := (va ++ args.map a.eval ++ vb).toList) (by simp [ha,hb,hl']) (fun j hj => by
      have := hrel j hj
      generalize va ++ args.map a.eval ++ vb = A at this ⊢
      have e : A.toList.getD j undef = A.getD j undef := by simp [Array.getD_eq_getD_getElem?]
      rw [e]; exact this) hvs
     have e2 : va ++ args.map a.eval ++ vb = vs.toArray := by rw [← e1]
     refine .ex fun r hr => cY h ?_ (.p (.c r))
     have := hr w
     rw [← e2] at this
     simp only [execOp,ho,Sem.run_bind,resolve,ev,Deferred.ofValue,Sem.run_pure,Result.andThen_ok,invoke,this]
    ·exact .fail
  ·exact .fail
theorem ly (h : Sim E σ a w G) (tk : FuncId → Bool) (o : Oper) : Snd E.P σ (aop E.P E.N tk o) (fU E o σ a w) := by
 unfold aop
 split
 next ho => exact ux h (.inl ho)
 next ho => exact ux h (.inr ho)
 next ho => exact zu h ho
 next ho => exact xt h ho
 next ho => exact BD h ho
 next ho => exact zt h ho
 next ho => exact xA h ho
 next ho => exact BF h ho
 next ho => exact qX h ho
 next ho => exact xw h ho
 next ho => exact qY h ho
 next ho => exact xy h ho
 next ho => exact Bz h ho
 next ho => exact Dr h ho
 next ho => exact uu h ho
 next ho => exact xx h ho
 next ho => exact uv h ho
 next ho => exact xu h ho
 next ho => exact qz h ho
 next ho => exact qZ h ho
 next ho => exact xz h ho
 next ho => exact uw h ho
 next ho => exact vF h ho
 next ho => exact qA h (.inl ho)
 next ho => exact qA h (.inr ho)
 next ho => exact tj h ho
 next ho =>
  split
  next h1 h2 => exact BE (ty := 0) h h1 h2 ho
  next => exact .fail
 next ho =>
  split
  next h1 h2 => exact vD (ty := 0) h h1 h2 ho
  next => exact .fail
 next ho => exact xv h ho
 next => exact .fail
end
end Go.Proofs.YtkjnkkmokojnpaaGreatDoor
namespace Go.Proofs.YtkjnkkmokojnpaaGreatDoor
set_option linter.unusedSimpArgs false
set_option linter.unusedVariables false
open Go.RowKit
def mN (ops : Array Oper) (g : Nat) : Option Nat := (ops[g]?).bind (·.dst)
theorem yE {b want : Bool} {A B : Prop} (h : if b = want then A else B) : (b = want → A) ∧ (b = !want → B) := by
 by_cases e : b = want
 ·rw [if_pos e] at h; exact ⟨fun _ => h,fun e' => by cases want <;> simp_all⟩
 ·rw [if_neg e] at h; exact ⟨fun e' => absurd e' e,fun _ => h⟩
def jJ (P : Program) (N : Nat) (tk : FuncId → Bool) (ops : Array Oper) : List Oper → bJ → (bJ → Prop) → Prop
 | [],σ,K => K σ
 | o :: r,σ,K => match o.guard with
  | none => (aop P N tk o).wp P σ fun _ d => jJ P N tk ops r (dO σ d) K
  | some (g,want) => match mN ops g with
   | some t => t < 10000 ∧ match bn σ t with
    | .c (.bool b) => if b = want then (aop P N tk o).wp P (fH σ t (.c (.bool want))) fun _ d => jJ P N tk ops r (dO (fH σ t (.c (.bool want))) d) K
      else eJ N o ∧ jJ P N tk ops r (dO (fH σ t (.c (.bool (!want)))) (eS o (.c undef))) K
    | .c (.tuple _) => eJ N o ∧ jJ P N tk ops r (dO σ (eS o (.c undef))) K
    | _ => False
   | none => False
section
variable {E : Env} {σ : bJ} {a : Act} {w : World} {G : Gh}
theorem Sim.same (h : Sim E σ a w G) {t : Nat} {v : AV} (ht : t < 10000) (hv : bn σ t = v) : Sim E (fH σ t v) a w G := by
 have hm : ∀ k,bn (fH σ t v) k = bn σ k := fun k => by
  rw [eB]; split
  ·rename_i e; rw [← hv,e]
  ·rfl
 have hs : BStep G (bn σ) G (bn (fH σ t v)) := .congr fun k _ => hm k
 exact ⟨h.defers,h.tsize,fun k hk => by rw [hm]; exact (h.slots k hk).step hs,h.st.congr fun k _ => hm k,h.fr,h.step.trans hs,h.zp⟩
theorem mz (h : Sim E σ a w G) {ops : Array Oper} {g t : Nat} {b : Bool} (hd : mN ops g = some t) (ht : t < 10000) (hv : bn σ t = .c (.bool b)) : yielded ops a.tmps g = some b := by
 have h1 := h.slots t ht
 rw [hv] at h1
 have h2 := dL h1
 unfold mN at hd
 unfold yielded
 rw [hd]
 simp only [Option.bind_some]
 rw [Array.getD_eq_getD_getElem?] at h2
 cases h3 : a.tmps[t]? with
 | none => rw [h3] at h2; simp [undef] at h2
 | some x => rw [h3] at h2; simp at h2; rw [h2]
theorem oJ (h : Sim E σ a w G) {ops : Array Oper} {g t : Nat} {vs : Array Value} (hd : mN ops g = some t) (ht : t < 10000) (hv : bn σ t = .c (.tuple vs)) : yielded ops a.tmps g = none := by
 have h1 := h.slots t ht
 rw [hv] at h1
 have h2 := dL h1
 unfold mN at hd
 unfold yielded
 rw [hd]
 simp only [Option.bind_some]
 rw [Array.getD_eq_getD_getElem?] at h2
 cases h3 : a.tmps[t]? with
 | none => rfl
 | some x => rw [h3] at h2; simp at h2; rw [h2]
theorem lF (h : Sim E σ a w G) {o : Oper} (hd : eJ E.N o) : Sim E (dO σ (eS o (.c undef))) (a.put o.dst undef) w G :=
 h.put (x := .c undef) (kj hd) (.congr (gY hd _)) (h.st.congr (gY hd _)) (.refl _ _) (fun _ _ _ => rfl) (.p (.c _)) fun t _ => iz t
theorem ji {tk : FuncId → Bool} {ops : Array Oper} {K : bJ → Prop} {Q : Exit → Act → World → Prop} (hQ : ∀ σ' a' w' G',K σ' → Sim E σ' a' w' G' → Q .normal a' w') :
  ∀ {l : List Oper} {σ : bJ} {a : Act} {w : World} {G : Gh},jJ E.P E.N tk ops l σ K → Sim E σ a w G → wpList E.P ops Q l a w
 | [],σ,a,w,G,h,hs => hQ _ _ _ _ h hs
 | o :: r,σ,a,w,G,h,hs => by
  unfold jJ at h
  split at h
  ·rename_i hg
   obtain ⟨R,d,hK,hgood⟩ := ly hs tk o _ h
   refine wpList_plain hg fun K' hK' => Oper.wp_mono (fun a' w' ⟨G',hG'⟩ => hK' a' w' (ji hQ hK hG')) (hgood Q)
  ·rename_i g want hg
   split at h
   ·rename_i t ht
    obtain ⟨ht',h⟩ := h
    split at h
    ·rename_i b hb
     have h := yE h
     have hy := mz hs ht ht' hb
     by_cases hbw : b = want
     ·subst hbw
      have hs' := hs.same ht' hb
      obtain ⟨R,d,hK,hgood⟩ := ly hs' tk o _ (h.1 rfl)
      refine wpList_step fun K' hK' => ?_
      rw [if_pos (by simp [Region.wanted,hg,hy])]
      exact Oper.wp_mono (fun a' w' ⟨G',hG'⟩ => hK' a' w' (ji hQ hK hG')) (hgood Q)
     ·have hbn : b = !want := by cases b <;> cases want <;> simp_all
      obtain ⟨hd,h2⟩ := h.2 hbn
      have hs' := hs.same ht' (hbn ▸ hb)
      refine wpList_step fun K' hK' => ?_
      rw [if_neg (by simp [Region.wanted,hg,hy,hbw])]
      exact hK' _ _ (ji hQ h2 (lF hs' hd))
    ·rename_i vs hb
     have hy := oJ hs ht ht' hb
     refine wpList_step fun K' hK' => ?_
     rw [if_neg (by simp [Region.wanted,hg,hy])]
     exact hK' _ _ (ji hQ h.2 (lF hs h.1))
    ·exact h.elim
   ·exact h.elim
end
def aw (E : Env) (c : Code) (Q : Exit → bJ → Prop) (σ : bJ) : Prop :=
 ∀ a w G,Sim E σ a w G → c.wp E.P (fun e a' w' => ∃ σ' G',Q e σ' ∧ Sim E σ' a' w' G') a w
def oG (K : bJ → Prop) (Q : Exit → bJ → Prop) : Exit → bJ → Prop
 | .normal,σ => K σ
 | e,σ => Q e σ
def mc (id : Nat) (Q : Exit → bJ → Prop) : Exit → bJ → Prop
 | .exit i,σ => if i = id then Q .normal σ else Q (.exit i) σ
 | e,σ => Q e σ
def CL (P : Program) (c : Code) (Q : Exit → Act → World → Prop) (a : Act) (w : World) : Prop :=
 ∀ (b : Frame) (k : List Item) (cs : List Frame),∃ e a' w',Q e a' w' ∧ Arrives P (lone (b.at a (.code c :: .inLoop c :: k)) cs w) b k cs e a' w'
def awl (E : Env) (c : Code) (Q : Exit → bJ → Prop) (σ : bJ) : Prop :=
 ∀ a w G,Sim E σ a w G → CL E.P c (fun e a' w' => ∃ σ' G',Q e σ' ∧ Sim E σ' a' w' G') a w
section
variable {E : Env} {Q : Exit → bJ → Prop} {σ : bJ}
theorem aq {x y : Code} (h : aw E x (oG (aw E y Q) Q) σ) : aw E (.seq x y) Q σ := fun a w G hs => by
 refine wp_seq (Code.wp_mono (fun e a' w' ⟨σ',G',h1,h2⟩ => ?_) (h a w G hs))
 cases e with
 | normal => exact h1 a' w' G' h2
 | _ => exact ⟨σ',G',h1,h2⟩
theorem av {id : Nat} {c : Code} (h : aw E c (mc id Q) σ) : aw E (.block id c) Q σ := fun a w G hs => by
 refine wp_block (Code.wp_mono (fun e a' w' ⟨σ',G',h1,h2⟩ => ?_) (h a w G hs))
 cases e with
 | exit i =>
  simp only [mc] at h1
  simp only [Exit.inBlock]
  split
  ·rename_i e; rw [if_pos e] at h1; exact ⟨σ',G',h1,h2⟩
  ·rename_i e; rw [if_neg e] at h1; exact ⟨σ',G',h1,h2⟩
 | _ => exact ⟨σ',G',h1,h2⟩
theorem aH (h : Q .normal σ) : aw E .skip Q σ := fun a w G hs => wp_skip ⟨σ,G,h,hs⟩
theorem aB (h : Q .ret σ) : aw E .ret Q σ := fun a w G hs => wp_ret ⟨σ,G,h,hs⟩
theorem bE {id : Nat} (h : Q (.exit id) σ) : aw E (.exit id) Q σ := fun a w G hs => wp_exit ⟨σ,G,h,hs⟩
theorem zY {t : Nat} {b : Bool} {x y : Code} (ht : t < 10000) (hb : bn σ t = .c (.bool b)) (h1 : b = true → aw E x Q σ) (h2 : b = false → aw E y Q σ) : aw E (.cond (.tmp t) x y) Q σ := fun a w G hs => by
 have h3 := hs.slots t ht
 rw [hb] at h3
 exact wp_cond_split (dL h3) (fun e => h1 e a w G hs) (fun e => h2 e a w G hs)
theorem wW (tk : FuncId → Bool) {id : Nat} {l : List Oper} (h : ∀ K : bJ → Prop,(∀ σ',Q .normal σ' → K σ') → jJ E.P E.N tk l.toArray l σ K) : aw E (.region id l.toArray false) Q σ := fun a w G hs =>
 wp_region_lit (ji (fun σ' a' w' G' h1 h2 => ⟨σ',G',h1,h2⟩) (h _ fun _ h => h) hs)
theorem bR {c : Code} (h : awl E c Q σ) : aw E (.loop c) Q σ := fun a w G hs b k cs => by
 obtain ⟨e,a',w',hq,harr⟩ := h a w G hs b k cs
 exact ⟨e,a',w',hq,.of_steps (.one step_loop) harr⟩
theorem rr {c : Code} (h : aw E c (oG (awl E c Q) Q) σ) : awl E c Q σ := fun a w G hs b k cs => by
 obtain ⟨e,a₁,w₁,⟨σ',G',hq,hs'⟩,harr⟩ := h a w G hs b (.inLoop c :: k) cs
 cases e with
 | normal =>
  obtain ⟨e₂,a₂,w₂,hq₂,harr₂⟩ := hq a₁ w₁ G' hs' b k cs
  exact ⟨e₂,a₂,w₂,hq₂,.of_steps (Steps.trans harr (.one step_inLoop)) harr₂⟩
 | _ => exact ⟨_,a₁,w₁,⟨σ',G',hq,hs'⟩,.pass (x := .inLoop c) rfl (fun _ _ => .inl (by simp)) harr⟩
def ALe (E : Env) (σ σ' : bJ) : Prop := ∀ a w G,Sim E σ a w G → ∃ G',Sim E σ' a w G'
theorem rq {σ' : bJ} {c : Code} (hl : ALe E σ σ') (h : aw E c Q σ') : aw E c Q σ := fun a w G hs => by
 obtain ⟨G',hs'⟩ := hl a w G hs
 exact h a w G' hs'
theorem nT {σ' : bJ} {c : Code} (hl : ALe E σ σ') (h : awl E c Q σ') : awl E c Q σ := fun a w G hs => by
 obtain ⟨G',hs'⟩ := hl a w G hs
 exact h a w G' hs'
def jC (L : List Nat) : bJ → bJ
 | [] => []
 | (k,v) :: r => if k < 10000 ∧ L.contains k = false then jC L r else (k,v) :: jC L r
theorem jo (L : List Nat) (k : Nat) : ∀ σ : bJ,bn (jC L σ) k = bn σ k ∨ (bn (jC L σ) k = .u ∧ k < 10000)
 | [] => .inl rfl
 | (i,v) :: r => by
  unfold jC
  split
  ·rename_i hc
   by_cases e : i = k
   ·subst e
    rcases jo L i r with h | h
    ·have : bn (jC L r) i = .u := mkeep_none L i hc r
     exact .inr ⟨this,hc.1⟩
    ·exact .inr h
   ·rcases jo L k r with h | h
    ·left; simp only [bn,if_neg e]; exact h
    ·exact .inr h
  ·simp only [bn]
   split
   ·exact .inl rfl
   ·exact jo L k r
where
 mkeep_none (L : List Nat) (i : Nat) (hc : i < 10000 ∧ L.contains i = false) : ∀ r : bJ,bn (jC L r) i = .u
  | [] => rfl
  | (j,v) :: r => by
   unfold jC
   split
   ·exact mkeep_none L i hc r
   ·rename_i h
    simp only [bn]
    rw [if_neg (fun e : j = i => h (e ▸ hc))]
    exact mkeep_none L i hc r
theorem xU (L : List Nat) (σ : bJ) : ALe E σ (jC L σ) := fun a w G hs => by
 have hb : ∀ k,10000 ≤ k → bn (jC L σ) k = bn σ k := fun k hk => (jo L k σ).resolve_right fun h => by omega
 have hst : BStep G (bn σ) G (bn (jC L σ)) := .congr hb
 refine ⟨G,hs.defers,hs.tsize,fun t ht => ?_,hs.st.congr hb,hs.fr,hs.step.trans hst,hs.zp⟩
 rcases jo L t σ with h | ⟨h,_⟩
 ·rw [h]; exact (hs.slots t ht).step hst
 ·rw [h]; exact .p (.u _)
end
end Go.Proofs.YtkjnkkmokojnpaaGreatDoor
namespace Go.Proofs.YtkjnkkmokojnpaaGreatDoor
set_option linter.unusedSimpArgs false
set_option linter.unusedVariables false
open Go.RowKit
def gZ (ex : List Nat) (σ : bJ) : Nat → AV → AV
 | 0,_ => .u
 | _ + 1,.c x => .c x
 | _ + 1,.u => .u
 | _ + 1,.sl cs n (.tok _) => .sl cs n .none
 | _ + 1,.sl cs n .none => .sl cs n .none
 | _ + 1,.sl cs n .full => .sl cs n .full
 | _ + 1,.rf cs o => .rf cs o
 | k + 1,.agg cs => .agg (cs.map (gZ ex σ k))
 | k + 1,.tup cs => .tup (cs.map (gZ ex σ k))
 | k + 1,.ifc t x => .ifc t (gZ ex σ k x)
 | k + 1,.fn f a b => .fn f (a.map (gZ ex σ k)) (b.map (gZ ex σ k))
 | k + 1,.loc b off => if ex.contains b = true then .u else match bn σ b with | .bc cs _ => .rf (cs.map (gZ ex σ k)) off | _ => .u
 | k + 1,.arr b off n _ => if ex.contains b = true then .u else match bn σ b with | .bc cs _ => .sl ((cs.drop off).map (gZ ex σ k)) n .none | _ => .u
 | _ + 1,.bc _ _ => .u
 | _ + 1,.bt _ _ => .u
 | _ + 1,.mp _ => .u
def iY (ex : List Nat) (σ : bJ) : Nat → AV → AV
 | 0,_ => .u
 | _ + 1,.sl cs n (.tok b) => match fq (cB 0 ex) b with | some b' => .sl cs n (.tok b') | none => .sl cs n .none
 | k + 1,.loc b off => match fq (cB 0 ex) b with | some b' => .loc b' off | none => gZ ex σ (k + 1) (.loc b off)
 | k + 1,.arr b off n e => match fq (cB 0 ex) b with | some b' => .arr b' off n e | none => gZ ex σ (k + 1) (.arr b off n e)
 | _ + 1,.mp b => match fq (cB 0 ex) b with | some b' => .mp b' | none => .u
 | k + 1,.agg cs => .agg (cs.map (iY ex σ k))
 | k + 1,.tup cs => .tup (cs.map (iY ex σ k))
 | k + 1,.ifc t x => .ifc t (iY ex σ k x)
 | k + 1,.fn f a b => .fn f (a.map (iY ex σ k)) (b.map (iY ex σ k))
 | _ + 1,.c x => .c x
 | _ + 1,.u => .u
 | _ + 1,.sl cs n .none => .sl cs n .none
 | _ + 1,.sl cs n .full => .sl cs n .full
 | _ + 1,.rf cs o => .rf cs o
 | _ + 1,.bc _ _ => .u
 | _ + 1,.bt _ _ => .u
def nZ (ex : List Nat) (σ : bJ) : AV → AV
 | .bc cs ty => .bc (cs.map (iY ex σ 4)) ty
 | x => x
noncomputable def fI (ex : List Nat) (G : Gh) (σ : bJ) (w : World) : iW := by
 classical exact fun b o => match G.Z b o with
  | some v => some v
  | none => if ∃ k cs ty,k ∉ ex ∧ G.γ k = some b ∧ bn σ k = .bc cs ty ∧ o < cs.length then w.cell? ⟨b,o,none⟩ else none
section
variable {E : Env} {σ : bJ} {a : Act} {w : World} {G : Gh}
theorem kz (ex : List Nat) (G : Gh) (σ : bJ) (w : World) : SealLe G.Z (fI ex G σ w) := fun b o v h => by
 unfold fI; rw [h]
theorem vv {ex : List Nat} {k g o : Nat} {cs : List AV} {ty : TypeId} {v : Value} (hz : G.Z g o = none) (hk : k ∉ ex) (hg : G.γ k = some g) (hB : bn σ k = .bc cs ty) (ho : o < cs.length) (hv : w.cell? ⟨g,o,none⟩ = some v) : fI ex G σ w g o = some v := by
 unfold fI; rw [hz]
 simp only
 rw [if_pos ⟨k,cs,ty,hk,hg,hB,ho⟩]; exact hv
theorem vw {ex : List Nat} {b o : Nat} {v : Value} (h : fI ex G σ w b o = some v) : G.Z b o = some v ∨ (w.cell? ⟨b,o,none⟩ = some v ∧ ∃ k cs ty,k ∉ ex ∧ G.γ k = some b ∧ bn σ k = .bc cs ty ∧ o < cs.length) := by
 unfold fI at h
 split at h
 ·rename_i u hu; cases h; exact .inl hu
 ·split at h
  ·rename_i hc; exact .inr ⟨h,hc⟩
  ·cases h
theorem kA {ex : List Nat} {b o : Nat} (hz : G.Z b o = none) (h : ∀ k cs ty,k ∉ ex → G.γ k = some b → bn σ k = .bc cs ty → False) : fI ex G σ w b o = none := by
 unfold fI; rw [hz]
 simp only
 rw [if_neg]
 rintro ⟨k,cs,ty,h1,h2,h3,_⟩
 exact h k cs ty h1 h2 h3
theorem rI {ex : List Nat} (h : Sim E σ a w G) {b g : Nat} {cs : List AV} {ty : TypeId} (hb : 10000 ≤ b) (hlt : b ∉ ex) (hB : bn σ b = .bc cs ty) (hg : G.γ b = some g) (hm : isM ty = false) :
  ∃ f : Nat → Value,(∀ j,j < cs.length → fI ex G σ w g j = some (f j)) ∧ ∀ j (hj : j < cs.length),VRel G (bn σ) (f j) cs[j] := by
 obtain ⟨c,hc,hr,hz,_,hfc⟩ := iv h hb hB hg hm
 refine ⟨fun j => c.getD j undef,fun j hj => ?_,fun j hj => (iI hr hj).1⟩
 refine vv (hz j) hlt hg hB hj ?_
 have : j < c.size := Nat.lt_of_lt_of_le hj hfc
 rw [cell_of_row _ g j c ty _ hc]
 simp [this]
theorem jh {ex : List Nat} (h : Sim E σ a w G) : ∀ (k : Nat) {x : AV} {v : Value},VRel G (bn σ) v x → PRel (fI ex G σ w) v (gZ ex σ k x)
 | 0,x,v,_ => .u v
 | k + 1,x,v,hv => by
  have lst : ∀ {cs : List AV} {vs : Array Value},(∀ j (hj : j < cs.length),VRel G (bn σ) (vs.getD j undef) cs[j]) → ∀ j (hj : j < (cs.map (gZ ex σ k)).length),PRel (fI ex G σ w) (vs.getD j undef) (cs.map (gZ ex σ k))[j] := fun {cs vs} hp j hj => by
   rw [List.getElem_map]
   exact jh h k (hp j (by simpa using hj))
  have hle := kz ex G σ w
  cases x with
  | c x => rw [dL hv]; exact .c x
  | u => exact .u v
  | sl cs n o =>
   obtain ⟨ad,cap,b,off,f,rfl,⟨h1,h2,h3,h4,h5⟩,hf,ht⟩ := eR hv
   have hp : PRel (fI ex G σ w) (.slice ad n cap) (.sl cs n .none) := .sl ad b off n cap .none cs f (.inl rfl) h1 h2 h3 (fun j hj => hle _ _ _ (h4 j hj)) fun j hj => (h5 j hj).mono hle
   cases o with
   | none => exact hp
   | full => exact .sl ad b off n cap .full cs f (.inr ⟨rfl,hf rfl⟩) h1 h2 h3 (fun j hj => hle _ _ _ (h4 j hj)) fun j hj => (h5 j hj).mono hle
   | tok t => exact hp
  | rf cs o =>
   obtain ⟨b,off,f,rfl,hz,hp⟩ := iZ hv
   exact .rf b off o cs f (fun j hj => hle _ _ _ (hz j hj)) fun j hj => (hp j hj).mono hle
  | agg cs =>
   obtain ⟨vs,rfl,hs,h1,hp⟩ := gS hv
   exact .agg vs _ (by simpa using hs) (fun j hj => h1 j (by simpa using hj)) (lst hp)
  | tup cs =>
   obtain ⟨vs,rfl,hs,hp⟩ := jf hv
   exact .tup vs _ (by simpa using hs) (lst hp)
  | ifc t x =>
   obtain ⟨v',rfl,hx⟩ := fj hv
   exact .ifc t v' _ (jh h k hx)
  | fn f p q =>
   obtain ⟨va,vb,rfl,ha,hb,pa,pb⟩ := jL hv
   exact .fn f va vb _ _ (by simpa using ha) (by simpa using hb) (lst pa) (lst pb)
  | loc b off =>
   obtain ⟨g,cs,ty,rfl,hb,hB,hg,hm⟩ := iG hv
   simp only [gZ]
   split
   ·exact .u _
   ·rename_i hlt
    rw [hB]
    obtain ⟨f,h1,h2⟩ := rI (ex := ex) h hb (by simpa using hlt) hB hg hm
    have := PRel.rf (Z := fI ex G σ w) g 0 off (cs.map (gZ ex σ k)) f (fun j hj => by rw [Nat.zero_add]; exact h1 j (by simpa using hj)) (fun j hj => by rw [List.getElem_map]; exact jh h k (h2 j (by simpa using hj)))
    rwa [Nat.zero_add] at this
  | arr b off n e =>
   obtain ⟨g,cap,cs,ty,rfl,hn,hb,hB,hg,hm⟩ := iF hv
   simp only [gZ]
   split
   ·exact .u _
   ·rename_i hlt
    rw [hB]
    obtain ⟨f,h1,h2⟩ := rI (ex := ex) h hb (by simpa using hlt) hB hg hm
    refine .sl _ g off n cap .none _ (fun j => f (off + j)) (.inl rfl) hn (fun e => by cases e) (.inr rfl) (fun j hj => h1 _ (by simp at hj; omega)) fun j hj => ?_
    rw [List.getElem_map,List.getElem_drop]
    exact jh h k (h2 _ (by simp at hj; omega))
  | bc cs ty => exact .u _
  | bt n e => exact .u _
  | mp b => exact .u _
noncomputable def GhX (ex : List Nat) (G : Gh) (σ : bJ) (w : World) : Gh := ⟨fI ex G σ w,(GhC G ex).γ,(GhC G ex).κ⟩
theorem mP {ex : List Nat} (h : Sim E σ a w G) {B' : Nat → AV} (hbc : ∀ j b cs ty,ex[j]? = some b → bn σ b = .bc cs ty → ∃ cs',B' (20000 + j) = .bc cs' ty) (hbt : ∀ j b n e,ex[j]? = some b → bn σ b = .bt n e → B' (20000 + j) = .bt n e) :
  ∀ (k : Nat) {x : AV} {v : Value},VRel G (bn σ) v x → VRel (GhX ex G σ w) B' v (iY ex σ k x)
 | 0,x,v,_ => .p (.u v)
 | k + 1,x,v,hv => by
  have lst : ∀ {cs : List AV} {vs : Array Value},(∀ j (hj : j < cs.length),VRel G (bn σ) (vs.getD j undef) cs[j]) → ∀ j (hj : j < (cs.map (iY ex σ k)).length),VRel (GhX ex G σ w) B' (vs.getD j undef) (cs.map (iY ex σ k))[j] := fun {cs vs} hp j hj => by
   rw [List.getElem_map]
   exact mP h hbc hbt k (hp j (by simpa using hj))
  have pu : iY ex σ (k + 1) x = gZ ex σ (k + 1) x → VRel (GhX ex G σ w) B' v (iY ex σ (k + 1) x) := fun e => by rw [e]; exact .p (jh h (k + 1) hv)
  cases x with
  | c x => exact pu rfl
  | u => exact pu rfl
  | sl cs n o =>
   cases o with
   | none => exact pu rfl
   | full => exact pu rfl
   | tok t =>
    cases hlk : fq (cB 0 ex) t with
    | some b' =>
     simp only [iY,hlk]
     obtain ⟨j,q1,q2,q3⟩ := jg hlk
     rw [Nat.add_zero] at q2
     subst q2
     have hp := jh (ex := ex) h (k + 1) hv
     obtain ⟨ad,cap,b,off,f,rfl,_,_,ht⟩ := eR hv
     obtain ⟨h1,tip,e,hB,hn,hk⟩ := ht t rfl
     refine .tok ad n cap cs (20000 + j) tip e hp (by omega) (hbt j t tip e q3 hB) hn fun e' => ?_
     have := hk e'
     unfold ox at *
     have hc := iq G q3
     show ((GhC G ex).γ (20000 + j) = none → cap = n) ∧ ∀ g,(GhC G ex).γ (20000 + j) = some g → ad = some ⟨g,0,none⟩ ∧ cap = (GhC G ex).κ (20000 + j)
     rw [hc.1,hc.2]; exact this
    | none =>
     refine pu ?_
     simp only [iY,gZ,hlk]
  | rf cs o => exact pu rfl
  | agg cs =>
   obtain ⟨vs,rfl,hs,h1,hp⟩ := gS hv
   exact .agg vs _ (by simpa using hs) (fun j hj => h1 j (by simpa using hj)) (lst hp)
  | tup cs =>
   obtain ⟨vs,rfl,hs,hp⟩ := jf hv
   exact .tup vs _ (by simpa using hs) (lst hp)
  | ifc t x =>
   obtain ⟨v',rfl,hx⟩ := fj hv
   exact .ifc t v' _ (mP h hbc hbt k hx)
  | fn f p q =>
   obtain ⟨va,vb,rfl,ha,hb,pa,pb⟩ := jL hv
   exact .fn f va vb _ _ (by simpa using ha) (by simpa using hb) (lst pa) (lst pb)
  | loc b off =>
   cases hlk : fq (cB 0 ex) b with
   | some b' =>
    simp only [iY,hlk]
    obtain ⟨j,q1,q2,q3⟩ := jg hlk
    rw [Nat.add_zero] at q2
    subst q2
    obtain ⟨g,cs,ty,rfl,hb,hB,hg,hm⟩ := iG hv
    obtain ⟨cs',hB'⟩ := hbc j b cs ty q3 hB
    exact .loc (20000 + j) off g cs' ty (by omega) hB' ((iq G q3).1.trans hg) hm
   | none =>
    refine pu ?_
    show (match fq (cB 0 ex) b with | some b' => _ | none => _) = _
    rw [hlk]
  | arr b off n e =>
   cases hlk : fq (cB 0 ex) b with
   | some b' =>
    simp only [iY,hlk]
    obtain ⟨j,q1,q2,q3⟩ := jg hlk
    rw [Nat.add_zero] at q2
    subst q2
    obtain ⟨g,cap,cs,ty,rfl,hn,hb,hB,hg,hm⟩ := iF hv
    obtain ⟨cs',hB'⟩ := hbc j b cs ty q3 hB
    exact .arr (20000 + j) off n e cap g cs' ty (by omega) hB' ((iq G q3).1.trans hg) hn hm
   | none =>
    refine pu ?_
    show (match fq (cB 0 ex) b with | some b' => _ | none => _) = _
    rw [hlk]
  | bc cs ty => exact pu rfl
  | bt n e => exact pu rfl
  | mp b =>
   cases hlk : fq (cB 0 ex) b with
   | some b' =>
    simp only [iY,hlk]
    obtain ⟨j,q1,q2,q3⟩ := jg hlk
    rw [Nat.add_zero] at q2
    subst q2
    obtain ⟨g,cs,ty,rfl,hb,hB,hg,hm⟩ := mg hv
    obtain ⟨cs',hB'⟩ := hbc j b cs ty q3 hB
    exact .mp (20000 + j) g cs' ty (by omega) hB' ((iq G q3).1.trans hg) hm
   | none =>
    simp only [iY,hlk]
    exact .p (.u _)
def xk (P : Program) : List ResultVar → (List AV → TR) → TR
 | [],f => f []
 | .tmp t :: r,f => rdo (.tmp t) fun v => xk P r fun vs => f (v :: vs)
 | .cell b t :: r,f => rdo (.tmp b) fun a => qa P t a fun v => xk P r fun vs => f (v :: vs)
def mo (tmps : Array Value) (x : ResultVar) : Sem Value := match x with
 | .tmp t => pure (tmps.getD t undef)
 | .cell a t => do loadVar t (← asAddr (tmps.getD a undef))
theorem tm (h : Sim E σ a w G) {Goal : List (Nat × AV) → Prop} : ∀ {rs : List ResultVar} {f : List AV → TR},
  (∀ (vs : List Value) (ys : List AV),(rs.mapM (mo a.tmps)).run E.P w = .ok vs w → vs.length = ys.length → (∀ j (hj : j < ys.length),VRel G (bn σ) (vs.getD j undef) ys[j]) → Snd E.P σ (f ys) Goal) → Snd E.P σ (xk E.P rs f) Goal
 | [],f,hf => hf [] [] (by simp) rfl fun j hj => by simp at hj
 | .tmp t :: r,f,hf => Snd.rdo h fun v hv => tm h fun vs ys h1 h2 h3 => hf (a.tmps.getD t undef :: vs) (v :: ys) (by simp [List.mapM_cons,mo,h1]) (by simp [h2]) fun j hj => by
   cases j with
   | zero => exact hv
   | succ j => exact h3 j (by simpa using hj)
 | .cell b t :: r,f,hf => Snd.rdo h fun p hp => rM h hp fun v x hr hx => tm h fun vs ys h1 h2 h3 => hf (v :: vs) (x :: ys) (by
   have e : (mo a.tmps (.cell b t)).run E.P w = .ok v w := by
    simp only [mo,Sem.run_bind]
    have hr' : (Instr.loadAt t (a.tmps.getD b undef)).run E.P w = .ok v w := hr
    cases hp' : a.tmps.getD b undef with
    | pointer q =>
     cases q with
     | none => rw [hp'] at hr'; simp [Instr.loadAt,Instr.sureAddr,stuck] at hr'
     | some q => rw [hp'] at hr'; simpa [asAddr,Instr.loadAt,Instr.sureAddr] using hr'
    | _ => rw [hp'] at hr'; simp [Instr.loadAt,Instr.sureAddr,stuck] at hr'
   simp [List.mapM_cons,e,h1]) (by simp [h2]) fun j hj => by
   cases j with
   | zero => exact hx
   | succ j => exact h3 j (by simpa using hj)
def xI : List AV → AV
 | [v] => v
 | vs => .tup vs
def gv (nb : Nat) (nw : List Nat) : List Nat := (List.range nb).map (20000 + ·) ++ nw
def Aq (nb : Nat) (nw : List Nat) : Bool := nw.all fun b => decide (10000 ≤ b ∧ b < 20000)
def mj : List Nat → Bool
 | [] => true
 | x :: r => !r.contains x && mj r
def fin (P : Program) (fn : Func) (nb : Nat) (nw : List Nat) (r : AV) (bxs : List AV) (σ : bJ) : Prop :=
 (xk P fn.results.toList fun vs => .need (mj nw = true ∧ Aq nb nw = true ∧ iY (gv nb nw) σ 8 (xI vs) = r ∧ (gv nb nw).map (fun b => nZ (gv nb nw) σ (bn σ b)) = bxs) (.done [])).wp P σ fun _ _ => True
def zT (P : Program) (fn : Func) (nb : Nat) (nw : List Nat) (r : AV) (bxs : List AV) : Exit → bJ → Prop
 | .normal,σ => fin P fn nb nw r bxs σ
 | .ret,σ => fin P fn nb nw r bxs σ
 | _,_ => False
theorem ql : ∀ {l : List Nat},mj l = true → l.Nodup
 | [],_ => by simp
 | x :: r,h => by
  simp only [mj,Bool.and_eq_true,Bool.not_eq_true'] at h
  exact List.nodup_cons.2 ⟨by simpa using h.1,ql h.2⟩
def aL (i : Nat) : List AV → bJ
 | [] => []
 | x :: r => (i,x) :: aL (i + 1) r
theorem kZ : ∀ (l : List AV) (i k : Nat) (r : bJ),bn (aL i l ++ r) k = if i ≤ k ∧ k < i + l.length then l.getD (k - i) .u else bn r k
 | [],i,k,r => by
  rw [if_neg (fun h => by have := h.1; have := h.2; simp at this; omega)]; rfl
 | x :: l,i,k,r => by
  show bn ((i,x) :: (aL (i + 1) l ++ r)) k = _
  simp only [bn]
  split
  ·rename_i e; subst e; rw [if_pos (by simp)]; simp
  ·rename_i e
   rw [kZ l (i + 1) k r]
   by_cases hk : i + 1 ≤ k ∧ k < i + 1 + l.length
   ·rw [if_pos hk,if_pos (by simp; omega)]
    have : k - i = (k - (i + 1)) + 1 := by omega
    rw [this]; rfl
   ·rw [if_neg hk,if_neg (by simp; omega)]
def aW (args bxs : List AV) : bJ := aL 0 args ++ aL 20000 bxs
theorem aM {P : Program} {f : FuncId} {fn : Func} {c : Code} {args bxs bxs' : List AV} {r : AV} {N : Nat} (nw : List Nat) (hf : P.funcs[f]? = some fn) (hb : fn.body = some c) (hN : fn.ntmps = N) (ha : args.length ≤ N) (ha2 : args.length ≤ 10000)
  (h : ∀ w0 G0 B0 Pr hB0,aw ⟨P,N,w0,G0,B0,Pr,hB0⟩ c (zT P fn bxs.length nw r bxs') (aW args bxs)) : AFn P f args bxs r bxs' := by
 subst hN
 intro w G vs hst hvs hargs
 have hget : ∀ k,bn (aW args bxs) k = if k < args.length then args.getD k .u else cm bxs k := fun k => by
  unfold aW
  rw [kZ]
  simp only [Nat.zero_le,true_and,Nat.zero_add,Nat.sub_zero]
  split
  ·rfl
  ·have := kZ bxs 20000 k []
   rw [List.append_nil] at this
   rw [this]
   unfold cm
   by_cases h1 : 20000 ≤ k
   ·rw [if_pos h1]
    by_cases h2 : k < 20000 + bxs.length
    ·rw [if_pos ⟨h1,h2⟩]
    ·rw [if_neg (by omega),List.getD_eq_getElem?_getD,List.getElem?_eq_none (by omega)]; rfl
   ·rw [if_neg (by omega),if_neg h1]; rfl
 have hbox : ∀ k,10000 ≤ k → bn (aW args bxs) k = cm bxs k := fun k hk => by
  rw [hget,if_neg (by omega)]
 have hB0 : ∀ k,k < 20000 → cm bxs k = .u := fun k hk => if_neg (by omega)
 let E : Env := ⟨P,fn.ntmps,w,G,cm bxs,fun b => b < w.heap.size ∧ ∀ k,G.γ k ≠ some b,hB0⟩
 have hs0 : BStep G (cm bxs) G (bn (aW args bxs)) := .congr hbox
 have hsim : Sim E (aW args bxs) { tmps := vs ++ Array.replicate (fn.ntmps - vs.size) undef,defers := [] } w G := by
  refine ⟨rfl,by simp [E]; omega,fun t ht => ?_,hst.congr hbox,⟨rfl,rfl,rfl,Nat.le_refl _,fun b hb => ⟨hb.1,rfl⟩⟩,hs0,fun _ _ _ => rfl⟩
  rw [hget]
  by_cases hlt : t < args.length
  ·rw [if_pos hlt]
   have := (hargs t hlt).step hs0
   rw [List.getD_eq_getElem?_getD,List.getElem?_eq_getElem hlt]
   have e : (vs ++ Array.replicate (fn.ntmps - vs.size) undef).getD t undef = vs.getD t undef := by
    simp [Array.getD_eq_getD_getElem?,Array.getElem?_append_left (show t < vs.size by omega)]
   rw [e]; exact this
  ·rw [if_neg hlt]
   unfold cm
   rw [if_neg (by omega)]; exact .p (.u _)
 have hwp := h w G (cm bxs) (fun b => b < w.heap.size ∧ ∀ k,G.γ k ≠ some b) hB0 _ w G hsim
 refine calls_of_wp hf hb (Code.wp_mono ?_ hwp)
 rintro e a' w' ⟨σ',G',hq,hs'⟩
 have key : fin P fn bxs.length nw r bxs' σ' → a'.defers = [] ∧ ∃ v,(results fn a'.tmps).run P w' = .ok v w' ∧ ∃ v' G'',Ending.returned v = .returned v' ∧ VRel G'' (cm bxs') v' r ∧ BSim P (fun b => b < w.heap.size ∧ ∀ k,G.γ k ≠ some b) G'' (cm bxs') w' ∧
   WStep (fun b => b < w.heap.size ∧ ∀ k,G.γ k ≠ some b) w w' ∧ BStep G (cm bxs) G'' (cm bxs') ∧ ∀ b o,b < w.heap.size → (∀ k,G.γ k ≠ some b) → G''.Z b o = G.Z b o := fun hfin => by
  refine ⟨hs'.defers,?_⟩
  have hsnd : Snd E.P σ' (xk P fn.results.toList fun vs => .need (mj nw = true ∧ Aq bxs.length nw = true ∧ iY (gv bxs.length nw) σ' 8 (xI vs) = r ∧ (gv bxs.length nw).map (fun b => nZ (gv bxs.length nw) σ' (bn σ' b)) = bxs') (.done [])) (fun _ => ∃ (vs : List Value) (ys : List AV),
    (fn.results.toList.mapM (mo a'.tmps)).run P w' = .ok vs w' ∧ vs.length = ys.length ∧ (∀ j (hj : j < ys.length),VRel G' (bn σ') (vs.getD j undef) ys[j]) ∧ mj nw = true ∧ Aq bxs.length nw = true ∧ iY (gv bxs.length nw) σ' 8 (xI ys) = r ∧ (gv bxs.length nw).map (fun b => nZ (gv bxs.length nw) σ' (bn σ' b)) = bxs') :=
   tm hs' fun vs ys h1 h2 h3 => .need fun ⟨h6,h7,h4,h5⟩ => .done ⟨vs,ys,h1,h2,h3,h6,h7,h4,h5⟩
  obtain ⟨_,_,_,vs',ys,h1,h2,h3,hnd,hnw,h4,h5⟩ := hsnd _ hfin
  have hrun : (results fn a'.tmps).run P w' = .ok (if h : vs'.toArray.size = 1 then vs'.toArray[0] else .tuple vs'.toArray) w' := by
   have e1 : (fn.results.mapM (mo a'.tmps)).run P w' = .ok vs'.toArray w' := by
    rw [Array.mapM_eq_mapM_toList]
    simp [h1]
   unfold results
   rw [Sem.run_bind]
   show ((fn.results.mapM (mo a'.tmps)).run P w').andThen _ = _
   rw [e1]
   rfl
  have hval : VRel G' (bn σ') (if h : vs'.toArray.size = 1 then vs'.toArray[0] else .tuple vs'.toArray) (xI ys) := by
   by_cases h1' : vs'.length = 1
   ·rw [dif_pos (by simpa using h1')]
    cases vs' with
    | nil => simp at h1'
    | cons v vs' =>
     cases vs' with
     | cons _ _ => simp at h1'
     | nil =>
      cases ys with
      | nil => simp at h2
      | cons y ys =>
       cases ys with
       | cons _ _ => simp at h2
       | nil => exact h3 0 (by simp)
   ·rw [dif_neg (by simpa using h1')]
    have : xI ys = .tup ys := by
     cases ys with
     | nil => rfl
     | cons y ys =>
      cases ys with
      | nil => exact absurd h2 h1'
      | cons _ _ => rfl
    rw [this]
    exact .tup _ _ (by simpa using h2) fun j hj => by simpa [Array.getD_eq_getD_getElem?] using h3 j hj
  obtain ⟨ex,hex⟩ : ∃ ex,ex = gv bxs.length nw := ⟨_,rfl⟩
  rw [← hex] at h4 h5
  have hexd : ex.Nodup := by
   rw [hex]
   refine List.nodup_append.2 ⟨?_,ql hnd,fun x hx y hy => ?_⟩
   ·exact List.Pairwise.map _ (fun x y h => by omega) List.nodup_range
   ·obtain ⟨i,_,rfl⟩ := List.mem_map.1 hx
    have := (List.all_eq_true.1 hnw) y hy
    simp at this; omega
  have hex10 : ∀ b ∈ ex,10000 ≤ b := fun b hb => by
   rw [hex] at hb
   rcases List.mem_append.1 hb with hb | hb
   ·obtain ⟨i,_,rfl⟩ := List.mem_map.1 hb; omega
   ·have := (List.all_eq_true.1 hnw) b hb
    simp at this; omega
  have hexi : ∀ i,i < bxs.length → ex[i]? = some (20000 + i) := fun i hi => by
   rw [hex,gv,List.getElem?_append_left (by simpa using hi)]; simp [hi]
  have hext : ∀ j b,ex[j]? = some b → cm bxs' (20000 + j) = nZ ex σ' (bn σ' b) := fun j b hj => oc (by rw [← h5]; simp [hj])
  have hγx : ∀ k g,(GhX ex G' σ' w').γ k = some g → ∃ j b,k = 20000 + j ∧ ex[j]? = some b ∧ G'.γ b = some g := fun k g hk => by
   have hk' : (if 20000 ≤ k then (ex[k - 20000]?).bind G'.γ else none) = some g := hk
   split at hk'
   ·rename_i q1
    obtain ⟨b,q2,q3⟩ := Option.bind_eq_some_iff.1 hk'
    exact ⟨k - 20000,b,by omega,q2,q3⟩
   ·cases hk'
  have hbc : ∀ j b cs ty,ex[j]? = some b → bn σ' b = .bc cs ty → ∃ cs',cm bxs' (20000 + j) = .bc cs' ty := fun j b cs ty hb hB => ⟨_,by rw [hext j b hb,hB]; rfl⟩
  have hbt : ∀ j b n e,ex[j]? = some b → bn σ' b = .bt n e → cm bxs' (20000 + j) = .bt n e := fun j b n e hb hB => by rw [hext j b hb,hB]; rfl
  refine ⟨_,hrun,_,GhX ex G' σ' w',rfl,?_,?_,⟨hs'.fr.os,hs'.fr.tape,hs'.fr.output,hs'.fr.size,fun b hb _ => (hs'.fr.block b hb).2⟩,?_,fun b o hb1 hb2 => ?_⟩
  ·rw [← h4]
   exact mP hs' hbc hbt 8 hval
  ·refine ⟨fun b o v hz => ?_,fun k g hk => ?_,fun k cs ty hk hB => ?_,fun k k' g hk hk' => ?_,hs'.st.gl.mono (kz _ _ _ _)⟩
   ·rcases vw hz with hz | ⟨hc,k,cs,ty,h6,h7,h8,h9⟩
    ·exact hs'.st.agree b o v hz
    ·refine ⟨hc,?_⟩
     cases hm : isM ty with
     | true =>
      obtain ⟨_,_,hbx⟩ := hs'.st.box k b h7
      rcases hbx with ⟨cs1,ty1,e1,⟨hm1,_⟩ | ⟨_,es,clk,e2,_⟩⟩ | ⟨_,_,e1,_⟩
      ·rw [h8] at e1; cases e1; rw [hm] at hm1; cases hm1
      ·simp [World.cell?,e2] at hc
      ·rw [h8] at e1; cases e1
     | false =>
     obtain ⟨c,hc1,hr,_,_,hfc⟩ := iv hs' (hs'.st.box k b h7).1 h8 h7 hm
     rw [cell_of_row _ b o c ty _ hc1] at hc
     obtain ⟨q1,q2⟩ := Array.getElem?_eq_some_iff.1 hc
     have := (iI hr h9).2
     rw [Array.getD_eq_getD_getElem?,Array.getElem?_eq_getElem q1] at this
     simpa [q2] using this
   ·obtain ⟨j,b,rfl,q0,q1⟩ := hγx k g hk
    obtain ⟨p1,p2,p3⟩ := hs'.st.box b g q1
    refine ⟨by omega,p2,?_⟩
    have hne : ∀ k' cs ty,k' ∉ ex → G'.γ k' = some g → bn σ' k' = .bc cs ty → False := fun k' cs ty e1 e2 _ => by
     have := hs'.st.inj k' b g e2 q1
     exact e1 (this ▸ List.mem_of_getElem? q0)
    rcases p3 with ⟨cs,ty,r1,r2⟩ | ⟨n,e,r1,c,r2,r3,r4,r5,r6⟩
    ·exact .inl ⟨cs.map (iY ex σ' 4),ty,by rw [hext j b q0,r1]; rfl,r2.to _ (fun _ => rfl) (fun _ _ h => mP hs' hbc hbt 4 h) rfl fun o ho => kA ho hne⟩
    ·refine .inr ⟨n,e,by rw [hext j b q0,r1]; rfl,c,r2,?_,?_,?_,fun o ho => kA (r6 o ho) hne⟩
     all_goals (show _; simp only [GhX,(iq G' q0).2]; assumption)
   ·unfold cm at hB
    split at hB
    ·rename_i h20
     cases hj : ex[k - 20000]? with
     | none =>
      rw [List.getD_eq_getElem?_getD,← h5,List.getElem?_map,hj] at hB
      simp at hB
     | some b =>
      rw [List.getD_eq_getElem?_getD,← h5,List.getElem?_map,hj] at hB
      simp only [Option.map_some,Option.getD_some] at hB
      have : ∃ cs',bn σ' b = .bc cs' ty := by
       cases hm : bn σ' b <;> rw [hm] at hB <;> simp [nZ] at hB
       rename_i cs' ty'
       exact ⟨cs',by rw [hB.2]⟩
      obtain ⟨cs',hm⟩ := this
      obtain ⟨g,hg⟩ := hs'.st.real b cs' ty (hex10 b (List.mem_of_getElem? hj)) hm
      have hc := (iq G' hj).1
      rw [show 20000 + (k - 20000) = k by omega] at hc
      exact ⟨g,hc.trans hg⟩
    ·cases hB
   ·obtain ⟨j,b,rfl,q0,q1⟩ := hγx k g hk
    obtain ⟨j',b',rfl,q2,q3⟩ := hγx k' g hk'
    have := hs'.st.inj b b' g q1 q3
    subst this
    rw [← pX hexd q0,← pX hexd q2]
  ·refine ⟨hs'.step.1.trans (kz _ _ _ _),fun k hk => ?_⟩
   obtain ⟨s1,s2⟩ := hs'.step.2 k hk
   by_cases hx : 20000 ≤ k ∧ k < 20000 + bxs.length
   ·have hi := hexi (k - 20000) (by omega)
    have e1 : 20000 + (k - 20000) = k := by omega
    have hc := iq G' hi
    have he := hext _ _ hi
    rw [e1] at hc he
    have hγ : (GhX ex G' σ' w').γ k = G'.γ k := hc.1
    have hκ : (GhX ex G' σ' w').κ k = G'.κ k := hc.2
    rw [hγ,hκ,he]
    refine ⟨fun cs ty hc => ?_,fun n e hc => ?_⟩
    ·obtain ⟨⟨cs',t1⟩,t2⟩ := s1 cs ty hc
     exact ⟨⟨_,by rw [t1]; rfl⟩,t2⟩
    ·obtain ⟨n',t1,t2⟩ := s2 n e hc
     exact ⟨n',by rw [t1]; rfl,t2⟩
   ·have : cm bxs k = .u := by
     unfold cm
     split
     ·rw [List.getD_eq_getElem?_getD,List.getElem?_eq_none (by omega)]; rfl
     ·rfl
    rw [this]
    exact ⟨(fun _ _ hc => by cases hc),(fun _ _ hc => by cases hc)⟩
  ·have hz1 := hs'.zp b o ⟨hb1,hb2⟩
   show fI ex G' σ' w' b o = G.Z b o
   cases hz2 : G'.Z b o with
   | some v =>
    have e1 : some v = G.Z b o := hz2.symm.trans hz1
    rw [← e1]
    exact kz _ _ _ _ _ _ _ hz2
   | none =>
    have e1 : none = G.Z b o := hz2.symm.trans hz1
    rw [← e1]
    exact kA hz2 fun k cs ty _ q2 _ => (hs'.st.box k b q2).2.1 ⟨hb1,hb2⟩
 cases e with
 | normal => exact key hq
 | ret => exact key hq
 | _ => exact hq.elim
end
end Go.Proofs.YtkjnkkmokojnpaaGreatDoor
namespace Go.Proofs.YtkjnkkmokojnpaaGreatDoor
set_option linter.unusedSimpArgs false
set_option linter.unusedVariables false
open Go.RowKit
abbrev Rec := List Nat × List (Nat × AV)
def kI : List (Nat × AV) → Nat → Option AV
 | [],_ => none
 | (k,v) :: r,i => match kI r i with
  | some x => some x
  | none => if k = i then some v else none
theorem jY (d : List (Nat × AV)) : ∀ (σ : bJ) (k : Nat),bn (dO σ d) k = (kI d k).getD (bn σ k) := by
 induction d with
 | nil => intro σ k; rfl
 | cons p r ih =>
  obtain ⟨i,v⟩ := p
  intro σ k
  show bn (dO (fH σ i v) r) k = _
  rw [ih,eB]
  simp only [kI]
  cases kI r k with
  | some x => rfl
  | none => simp only [Option.getD_none]; split <;> rfl
def ua (F : Nat → AV) (d : List (Nat × AV)) : Nat → AV := fun k => (kI d k).getD (F k)
theorem lookD_mem : ∀ {d : List (Nat × AV)} {k : Nat},(kI d k).isSome = true ↔ k ∈ d.map (·.1)
 | [],k => by simp [kI]
 | (i,v) :: r,k => by
  have ih := lookD_mem (d := r) (k := k)
  simp only [kI,List.map_cons,List.mem_cons]
  cases h : kI r k with
  | some x => rw [h] at ih; simp at ih ⊢; exact .inr ih
  | none =>
   rw [h] at ih
   simp only [Option.isSome_none,Bool.false_eq_true,false_iff] at ih
   by_cases e : i = k
   ·simp [e]
   ·rw [if_neg e]; simp [ih]; exact fun h => e h.symm
theorem mi {d : List (Nat × AV)} {k : Nat} (h : k ∉ d.map (·.1)) : kI d k = none := by
 cases h' : kI d k with
 | none => rfl
 | some x => exact absurd (lookD_mem.1 (by rw [h']; rfl)) h
theorem qb {d : List (Nat × AV)} {k : Nat} (h : k ∈ d.map (·.1)) : ∃ x,kI d k = some x := Option.isSome_iff_exists.1 (lookD_mem.2 h)
def gz (P : Program) (N : Nat) (tk : FuncId → Bool) (ops : Array Oper) : List Oper → bJ → List Rec → (bJ → List Rec → Prop) → Prop
 | [],σ,acc,K => K σ acc
 | o :: r,σ,acc,K => match o.guard with
  | none => (aop P N tk o).wp P σ fun R d => gz P N tk ops r (dO σ d) (acc ++ [(R,d)]) K
  | some (g,want) => match mN ops g with
   | some t => t < 10000 ∧ match bn σ t with
    | .c (.bool b) => if b = want then (aop P N tk o).wp P (fH σ t (.c (.bool want))) fun R d => gz P N tk ops r (dO (fH σ t (.c (.bool want))) d) (acc ++ [(t :: R,d)]) K
      else eJ N o ∧ gz P N tk ops r (dO (fH σ t (.c (.bool (!want)))) (eS o (.c undef))) (acc ++ [([t],eS o (.c undef))]) K
    | .c (.tuple _) => eJ N o ∧ gz P N tk ops r (dO σ (eS o (.c undef))) (acc ++ [([t],eS o (.c undef))]) K
    | _ => False
   | none => False
section
variable {E : Env}
theorem Sim.ext {σ σ' : bJ} {a : Act} {w : World} {G : Gh} (h : Sim E σ a w G) (he : ∀ k,bn σ' k = bn σ k) : Sim E σ' a w G := by
 have hf : bn σ' = bn σ := funext he
 exact ⟨h.defers,h.tsize,by rw [hf]; exact h.slots,by rw [hf]; exact h.st,h.fr,by rw [hf]; exact h.step,h.zp⟩
def rZ (E : Env) (ops : Array Oper) (o : Oper) (F : Nat → AV) (x : Rec) : Prop :=
 ∀ σ,(∀ k ∈ x.1,bn σ k = F k) → ∀ a w G (K' : Act → World → Prop) (Q : Exit → Act → World → Prop),Sim E σ a w G → (∀ a' w' G',Sim E (dO σ x.2) a' w' G' → K' a' w') →
  if Region.wanted o (yielded ops a.tmps) then o.wp E.P a w K' Q else K' (a.put o.dst undef) w
def kB (F : Nat → AV) (l : List Rec) : Nat → AV := l.foldl (fun F x => ua F x.2) F
theorem oy {tk : FuncId → Bool} {ops : Array Oper} {K : bJ → List Rec → Prop} : ∀ {l : List Oper} {σ : bJ} {acc : List Rec} (hsim : True),gz E.P E.N tk ops l σ acc K →
  ∃ recs σ',K σ' (acc ++ recs) ∧ recs.length = l.length ∧ (∀ i (h1 : i < l.length) (h2 : i < recs.length),rZ E ops l[i] (kB (bn σ) (recs.take i)) recs[i]) ∧ ∀ k,bn σ' k = kB (bn σ) recs k
 | [],σ,acc,_,h => ⟨[],σ,by have h' : K σ acc := h; simpa using h',rfl,fun i h1 => by simp at h1,fun k => rfl⟩
 | o :: r,σ,acc,_,h => by
  have cont : ∀ (σ1 : bJ) (x : Rec),(∀ k,bn σ1 k = ua (bn σ) x.2 k) → rZ E ops o (bn σ) x → gz E.P E.N tk ops r σ1 (acc ++ [x]) K →
    ∃ recs σ',K σ' (acc ++ recs) ∧ recs.length = (o :: r).length ∧ (∀ i (h1 : i < (o :: r).length) (h2 : i < recs.length),rZ E ops (o :: r)[i] (kB (bn σ) (recs.take i)) recs[i]) ∧ ∀ k,bn σ' k = kB (bn σ) recs k := fun σ1 x h1 h2 h3 => by
   obtain ⟨recs,σ',k1,k2,k3,k4⟩ := oy (l := r) trivial h3
   have hf : bn σ1 = ua (bn σ) x.2 := funext h1
   refine ⟨x :: recs,σ',by simpa using k1,by simp [k2],fun i h4 h5 => ?_,fun k => ?_⟩
   ·cases i with
    | zero => exact h2
    | succ i =>
     have := k3 i (by simpa using h4) (by simpa using h5)
     rw [hf] at this
     exact this
   ·rw [k4,hf]; rfl
  unfold gz at h
  split at h
  ·rename_i hg
   obtain ⟨R,d,h1,h2⟩ := TR.frame h
   refine cont _ (R,d) (fun k => jY d σ k) (fun σ' hσ a w G K' Q hs hK' => ?_) h1
   obtain ⟨R',d',⟨_,rfl⟩,hgood⟩ := ly hs tk o _ (h2 σ' hσ)
   rw [if_pos (by simp [Region.wanted,hg])]
   exact Oper.wp_mono (fun a' w' ⟨G',hG'⟩ => hK' a' w' G' hG') (hgood Q)
  ·rename_i g want hg
   split at h
   ·rename_i t ht
    obtain ⟨ht',h⟩ := h
    split at h
    ·rename_i b hb
     have h := yE h
     have same : ∀ v,v = AV.c (.bool b) → ∀ k,bn (fH σ t v) k = bn σ k := fun v hv k => by
      rw [eB]; split
      ·rename_i e; subst e; rw [hb,hv]
      ·rfl
     by_cases hbw : b = want
     ·subst hbw
      obtain ⟨R,d,h1,h2⟩ := TR.frame (h.1 rfl)
      refine cont _ (t :: R,d) (fun k => by rw [jY,same _ rfl]; rfl) (fun σ' hσ a w G K' Q hs hK' => ?_) h1
      have hy := mz hs ht ht' ((hσ t (by simp)).trans hb)
      obtain ⟨R',d',⟨_,rfl⟩,hgood⟩ := ly hs tk o _ (h2 σ' fun k hk => (hσ k (by simp [hk])).trans (same _ rfl k).symm)
      rw [if_pos (by simp [Region.wanted,hg,hy])]
      exact Oper.wp_mono (fun a' w' ⟨G',hG'⟩ => hK' a' w' G' hG') (hgood Q)
     ·have hbn : b = !want := by cases b <;> cases want <;> simp_all
      obtain ⟨hd,h2⟩ := h.2 hbn
      refine cont _ ([t],eS o (.c undef)) (fun k => by rw [jY,same _ (by rw [hbn])]; rfl) (fun σ' hσ a w G K' Q hs hK' => ?_) h2
      have hy := mz hs ht ht' ((hσ t (by simp)).trans hb)
      rw [if_neg (by simp [Region.wanted,hg,hy,hbw])]
      exact hK' _ _ _ (lF hs hd)
    ·rename_i vs hb
     refine cont _ ([t],eS o (.c undef)) (fun k => jY _ σ k) (fun σ' hσ a w G K' Q hs hK' => ?_) h.2
     have hy := oJ hs ht ht' ((hσ t (by simp)).trans hb)
     rw [if_neg (by simp [Region.wanted,hg,hy])]
     exact hK' _ _ _ (lF hs h.1)
    ·exact h.elim
   ·exact h.elim
def ul (a b : List Nat) : Bool := a.any fun x => b.contains x
def iw (x y : Rec) : Bool := ul (x.2.map (·.1)) y.1 || ul x.1 (y.2.map (·.1)) || ul (x.2.map (·.1)) (y.2.map (·.1))
def Cw (anc : List (List Nat)) (o : Oper) : List Nat := o.after.toList.flatMap fun e => if Region.binds .any e then e.on :: anc.getD e.on [] else []
def zU : List Oper → List (List Nat) → List (List Nat)
 | [],anc => anc
 | o :: r,anc => zU r (anc ++ [Cw anc o])
def md (ops : List Oper) (recs : List Rec) : Bool :=
 (ops.zipIdx.all fun p => p.1.after.toList.all fun e => !Region.binds .any e || decide (e.on < p.2)) &&
 (List.range ops.length).all fun j => (List.range j).all fun i => !iw (recs.getD i ([],[])) (recs.getD j ([],[])) || ((zU ops []).getD j []).contains i
inductive tK (ops : List Oper) : Nat → Nat → Prop
 | edge (i j : Nat) (o : Oper) (e : Edge) (ho : ops[j]? = some o) (he : e ∈ o.after) (hb : Region.binds .any e = true) (hi : e.on = i) : tK ops i j
 | more (i j : Nat) (o : Oper) (e : Edge) (ho : ops[j]? = some o) (he : e ∈ o.after) (hb : Region.binds .any e = true) (hp : tK ops i e.on) : tK ops i j
theorem rj {ops : List Oper} : ∀ {l done : List Oper} {acc : List (List Nat)},ops = done ++ l → acc.length = done.length → (∀ j i,i ∈ acc.getD j [] → tK ops i j) → ∀ j i,i ∈ (zU l acc).getD j [] → tK ops i j
 | [],done,acc,_,_,h => h
 | o :: r,done,acc,ho,hl,h => by
  refine rj (l := r) (done := done ++ [o]) (by rw [ho]; simp) (by simp [hl]) fun j i hi => ?_
  rcases Nat.lt_trichotomy j acc.length with hj | hj | hj
  ·rw [List.getD_eq_getElem?_getD,List.getElem?_append_left hj] at hi
   exact h j i (by rw [List.getD_eq_getElem?_getD]; exact hi)
  ·have hoj : ops[j]? = some o := by rw [ho,hj,hl]; simp
   rw [List.getD_eq_getElem?_getD,hj,List.getElem?_append_right (Nat.le_refl _)] at hi
   simp only [Nat.sub_self,List.getElem?_cons_zero,Option.getD_some] at hi
   unfold Cw at hi
   obtain ⟨e,he,hi⟩ := List.mem_flatMap.1 hi
   split at hi
   ·rename_i hb
    rcases List.mem_cons.1 hi with rfl | hi
    ·exact .edge _ j o e hoj (by simpa using he) hb rfl
    ·exact .more i j o e hoj (by simpa using he) hb (h e.on i hi)
   ·simp at hi
  ·rw [List.getD_eq_getElem?_getD,List.getElem?_eq_none (by simp; omega)] at hi
   simp at hi
section order
variable {E : Env} {ops : Array Oper} {recs : List Rec} {F : Nat → AV}
def part (F : Nat → AV) (recs : List Rec) (D : Nat → Bool) : Nat → Nat → AV
 | 0 => F
 | m + 1 => if D m then ua (part F recs D m) (recs.getD m ([],[])).2 else part F recs D m
def wN (recs : List Rec) (i : Nat) : List Nat := (recs.getD i ([],[])).2.map (·.1)
theorem lJ {D D' : Nat → Bool} {k : Nat} : ∀ {m : Nat},(∀ i,i < m → k ∈ wN recs i → D i = D' i) → part F recs D m k = part F recs D' m k
 | 0,_ => rfl
 | m + 1,h => by
  have ih := lJ (m := m) fun i hi hk => h i (by omega) hk
  by_cases hk : k ∈ wN recs m
  ·have e := h m (by omega) hk
   simp only [part,e]
   split
   ·obtain ⟨x,hx⟩ := qb hk
    simp only [ua,hx,Option.getD_some]
   ·exact ih
  ·have hn := mi hk
   simp only [part]
   split <;> split <;> (try simp only [ua,hn,Option.getD_none]) <;> exact ih
theorem om {D : Nat → Bool} {k : Nat} {j : Nat} : ∀ {m : Nat},j ≤ m → (∀ i,j ≤ i → i < m → D i = true → k ∉ wN recs i) → part F recs D m k = part F recs D j k
 | 0,hj,_ => by obtain rfl : j = 0 := (by omega); rfl
 | m + 1,hj,h => by
  by_cases e : j = m + 1
  ·rw [e]
  ·have ih := om (m := m) (by omega) fun i h1 h2 h3 => h i h1 (by omega) h3
   simp only [part]
   split
   ·rename_i hd
    simp only [ua,mi (h m (by omega) (by omega) hd),Option.getD_none]; exact ih
   ·exact ih
theorem qq : ∀ {m : Nat},m ≤ recs.length → part F recs (fun _ => true) m = kB F (recs.take m)
 | 0,_ => rfl
 | m + 1,h => by
  rw [List.take_succ_eq_append_getElem (by omega)]
  simp only [kB,List.foldl_append,List.foldl_cons,List.foldl_nil,part,if_true]
  rw [qq (m := m) (by omega),List.getD_eq_getElem?_getD,List.getElem?_eq_getElem (by omega)]
  rfl
theorem meets_iff {a b : List Nat} : ul a b = true ↔ ∃ x,x ∈ a ∧ x ∈ b := by simp [ul]
theorem wR (hlen : recs.length = ops.size) (hok : md ops.toList recs = true) {Q : Exit → Act → World → Prop} (hstep : ∀ i (h1 : i < ops.size) (h2 : i < recs.length),rZ E ops ops[i] (kB F (recs.take i)) recs[i])
  (hQ : ∀ σ a w G,(∀ k,bn σ k = kB F recs k) → Sim E σ a w G → Q .normal a w) :
  ∀ (fuel : Nat) (listed : Array Bool) (σ : bJ) (a : Act) (w : World) (G : Gh),listed.size = ops.size → ((List.range ops.size).filter fun i => !listed.getD i false).length ≤ fuel →
   (∀ j o e,listed.getD j false = true → ops[j]? = some o → e ∈ o.after → Region.binds .any e = true → listed.getD e.on false = true) →
   (∀ k,bn σ k = part F recs (fun i => listed.getD i false) ops.size k) → Sim E σ a w G → wpAny E.P .any ops Q fuel listed a w := by
 have hok' := hok
 simp only [md,Bool.and_eq_true,List.all_eq_true,List.mem_range,Bool.or_eq_true,Bool.not_eq_true',decide_eq_true_eq] at hok'
 obtain ⟨hdown,hconf⟩ := hok'
 have hpath : ∀ j i,i ∈ (zU ops.toList []).getD j [] → tK ops.toList i j := rj (done := []) rfl rfl fun j i h => by simp at h
 have hconf' : ∀ i j,i < j → j < ops.size → iw (recs.getD i ([],[])) (recs.getD j ([],[])) = true → tK ops.toList i j := fun i j hij hj hc => by
  rcases hconf j (by simpa using hj) i hij with h | h
  ·rw [h] at hc; cases hc
  ·exact hpath j i (by simpa using h)
 have closed : ∀ (listed : Array Bool),(∀ j o e,listed.getD j false = true → ops[j]? = some o → e ∈ o.after → Region.binds .any e = true → listed.getD e.on false = true) →
   ∀ i j,tK ops.toList i j → (∀ o,ops[j]? = some o → ∀ e ∈ o.after,Region.binds .any e = true → listed.getD e.on false = true) → listed.getD i false = true := fun listed hcl i j hp => by
  induction hp with
  | edge j o e ho he hb hi => intro h; rw [← hi]; exact h o (by simpa using ho) e he hb
  | more j o e ho he hb hp ih =>
   intro h
   have h1 := h o (by simpa using ho) e he hb
   exact ih fun o' ho' e' he' hb' => hcl e.on o' e' h1 ho' he' hb'
 have ready_nil : ∀ (listed : Array Bool),listed.size = ops.size → Region.ready .any ops listed = [] → ∀ i,i < ops.size → listed.getD i false = true := fun listed hsz hr i => by
  induction i using Nat.strongRecOn with
  | _ i ih =>
   intro hi
   cases h : listed.getD i false with
   | true => rfl
   | false =>
    exfalso
    have : i ∈ Region.ready .any ops listed := by
     rw [mem_ready]
     refine ⟨?_,ops[i],by simp [hi],fun e he hb => ?_⟩
     ·rw [Array.getD_eq_getD_getElem?] at h ⊢
      have : i < listed.size := by omega
      rw [Array.getElem?_eq_getElem this] at h ⊢
      exact h
     ·have h1 := hdown (ops[i],i) (by
       rw [List.mem_zipIdx_iff_getElem?]; simp [hi]) e (by simpa using he)
      rcases h1 with h1 | h1
      ·rw [hb] at h1; cases h1
      ·exact ih e.on h1 (by omega)
    rw [hr] at this; cases this
 have final : ∀ (listed : Array Bool) (σ : bJ) (a : Act) (w : World) (G : Gh),listed.size = ops.size → (∀ k,bn σ k = part F recs (fun i => listed.getD i false) ops.size k) → Sim E σ a w G → Region.ready .any ops listed = [] → Q .normal a w := fun listed σ a w G hsz hσ hs hr => by
  refine hQ σ a w G (fun k => ?_) hs
  rw [hσ,lJ (D' := fun _ => true) fun i hi _ => ready_nil listed hsz hr i hi,qq (by omega),← hlen,List.take_length]
 intro fuel
 induction fuel with
 | zero =>
  intro listed σ a w G hsz hcount hcl hσ hs
  have hr : Region.ready .any ops listed = [] := by
   apply List.eq_nil_iff_forall_not_mem.2
   intro j hj
   rw [mem_ready] at hj
   obtain ⟨h1,o,ho,_⟩ := hj
   have hlt := (Array.getElem?_eq_some_iff.1 ho).1
   have h2 : ((List.range ops.size).filter fun i => !listed.getD i false) = [] := List.eq_nil_of_length_eq_zero (by omega)
   have h3 : j ∈ ((List.range ops.size).filter fun i => !listed.getD i false) := by
    rw [List.mem_filter]
    refine ⟨by simpa using hlt,?_⟩
    have h4 : j < listed.size := by omega
    rw [Array.getD_eq_getD_getElem?,Array.getElem?_eq_getElem h4] at h1 ⊢
    simpa using h1
   rw [h2] at h3; cases h3
  exact ⟨hr,final listed σ a w G hsz hσ hs hr⟩
 | succ fuel ih =>
  intro listed σ a w G hsz hcount hcl hσ hs
  refine ⟨final listed σ a w G hsz hσ hs,fun j hj => ?_⟩
  rw [mem_ready] at hj
  obtain ⟨h1,o,ho,hpre⟩ := hj
  have hlt := (Array.getElem?_eq_some_iff.1 ho).1
  have hoj : ops[j] = o := (Array.getElem?_eq_some_iff.1 ho).2
  have hD : listed.getD j false = false := by
   have h4 : j < listed.size := by omega
   rw [Array.getD_eq_getD_getElem?,Array.getElem?_eq_getElem h4] at h1 ⊢
   exact h1
  have hrec : recs.getD j ([],[]) = recs[j] := by rw [List.getD_eq_getElem?_getD,List.getElem?_eq_getElem (by omega)]; rfl
  have early : ∀ i,i < j → iw (recs.getD i ([],[])) (recs.getD j ([],[])) = true → listed.getD i false = true := fun i hij hc =>
   closed listed hcl i j (hconf' i j hij hlt hc) fun o' ho' e he hb => by rw [ho] at ho'; cases ho'; exact hpre e he hb
  have late : ∀ i,j < i → i < ops.size → listed.getD i false = true → iw (recs.getD j ([],[])) (recs.getD i ([],[])) = true → False := fun i hji hi hdi hc => by
   have := closed listed hcl j i (hconf' j i hji hi hc) fun o' ho' e he hb => hcl i o' e hdi ho' he hb
   rw [hD] at this; cases this
  have hread : ∀ k ∈ (recs[j]'(by omega)).1,bn σ k = kB F (recs.take j) k := fun k hk => by
   rw [hσ,← qq (by omega),om (j := j) (by omega),lJ (D' := fun _ => true)]
   ·intro i hi hw
    refine early i hi ?_
    simp only [iw,Bool.or_eq_true]
    exact .inl (.inl (meets_iff.2 ⟨k,hw,by rw [hrec]; exact hk⟩))
   ·intro i h5 h6 h7 hw
    by_cases e : i = j
    ·subst e; rw [hD] at h7; cases h7
    ·refine late i (by omega) h6 h7 ?_
     simp only [iw,Bool.or_eq_true]
     exact .inl (.inr (meets_iff.2 ⟨k,by rw [hrec]; exact hk,hw⟩))
  have hst := hstep j hlt (by omega)
  rw [hoj] at hst
  have next : ∀ a' w' G',Sim E (dO σ (recs[j]'(by omega)).2) a' w' G' → wpAny E.P .any ops Q fuel (listed.setIfInBounds j true) a' w' := fun a' w' G' hs' => by
   have hset : ∀ i,(listed.setIfInBounds j true).getD i false = if i = j then true else listed.getD i false := fun i => by
    by_cases e : i = j
    ·subst e; rw [if_pos rfl,Array.getD_eq_getD_getElem?,Array.getElem?_setIfInBounds_self_of_lt (by omega)]; rfl
    ·rw [if_neg e,getD_set_ne false (fun h => e h.symm)]
   refine ih (listed.setIfInBounds j true) _ a' w' G' (by simpa using hsz) ?_ (fun i o' e hi ho' he hb => ?_) (fun k => ?_) hs'
   ·have hmem : j ∈ (List.range ops.size).filter fun i => !listed.getD i false := by
     rw [List.mem_filter]; exact ⟨by simpa using hlt,by rw [hD]; rfl⟩
    have hsub : ((List.range ops.size).filter fun i => !(listed.setIfInBounds j true).getD i false) = ((List.range ops.size).filter fun i => !listed.getD i false).filter (fun i => i != j) := by
     rw [List.filter_filter]
     apply List.filter_congr
     intro i _
     rw [hset]
     by_cases e : i = j <;> simp [e]
    rw [hsub]
    have : (((List.range ops.size).filter fun i => !listed.getD i false).filter (fun i => i != j)).length < ((List.range ops.size).filter fun i => !listed.getD i false).length := by
     apply List.length_filter_lt_length_iff_exists.2
     exact ⟨j,hmem,by simp⟩
    omega
   ·rw [hset]
    by_cases e2 : e.on = j
    ·rw [if_pos e2]
    ·rw [if_neg e2]
     rw [hset] at hi
     by_cases e3 : i = j
     ·subst e3; rw [ho] at ho'; cases ho'; exact hpre e he hb
     ·rw [if_neg e3] at hi; exact hcl i o' e hi ho' he hb
   ·rw [jY,hσ]
    by_cases hk : k ∈ wN recs j
    ·obtain ⟨x,hx⟩ := qb hk
     rw [hrec] at hx
     rw [hx,Option.getD_some]
     have e1 := om (F := F) (recs := recs) (D := fun i => (listed.setIfInBounds j true).getD i false) (k := k) (j := j + 1) (m := ops.size) (by omega) (fun i h5 h6 h7 hw => by
      rw [hset,if_neg (by omega)] at h7
      refine late i (by omega) h6 h7 ?_
      simp only [iw,Bool.or_eq_true]
      exact .inr (meets_iff.2 ⟨k,hk,hw⟩))
     rw [e1]
     simp only [part,hset,if_true,ua,hrec,hx,Option.getD_some]
    ·have hn := mi hk
     rw [hrec] at hn
     rw [hn,Option.getD_none]
     exact lJ fun i hi hw => by rw [hset,if_neg (fun e : i = j => hk (e ▸ hw))]
  have hcase := hst σ hread a w G (wpAny E.P .any ops Q fuel (listed.setIfInBounds j true)) Q hs next
  unfold wpOp
  rw [ho]
  simp only
  split
  ·rename_i hw; rw [if_pos hw] at hcase; exact .inl hcase
  ·rename_i hw; rw [if_neg hw] at hcase; exact hcase
theorem yv {σ : bJ} {a : Act} {w : World} {G : Gh} (h : Sim E σ a w G) : Sim E σ a { w with drawn := w.drawn + 1 } G :=
 ⟨h.defers,h.tsize,h.slots,⟨h.st.agree,h.st.box,h.st.real,h.st.inj,h.st.gl⟩,⟨h.fr.os,h.fr.tape,h.fr.output,h.fr.size,h.fr.block⟩,h.step,h.zp⟩
theorem x4 (tk : FuncId → Bool) {Q : Exit → bJ → Prop} {σ : bJ} {id : Nat} {l : List Oper} (hm : E.P.follows .mixedOrders = true)
  (h : ∀ K : bJ → List Rec → Prop,(∀ σ' recs,md l recs = true → Q .normal σ' → K σ' recs) → gz E.P E.N tk l.toArray l σ [] K) : aw E (.region id l.toArray true) Q σ := fun a w G hs => by
 obtain ⟨recs,σ',h1,h2,h3,h4⟩ := oy (E := E) (K := fun σ' recs => md l recs = true ∧ Q .normal σ') trivial (h _ fun σ' recs h1 h2 => ⟨h1,h2⟩)
 simp only [List.nil_append] at h1
 refine wp_region_any hm (wR (F := bn σ) (by simpa using h2) (by simpa using h1.1) (fun i h5 h6 => by simpa using h3 i (by simpa using h5) h6) (fun σ'' a' w' G' h5 h6 => ⟨σ',G',h1.2,h6.ext fun k => ?ext⟩) _ _ σ a _ G (by simp) ?cnt (fun j o e hj => ?cls) (fun k => ?prt) (yv hs))
 case ext => rw [h4 k,h5 k]
 case cnt => exact Nat.le_trans (List.length_filter_le _ _) (by simp)
 case cls =>
  exfalso
  rw [Array.getD_eq_getD_getElem?,Array.getElem?_replicate] at hj
  split at hj <;> simp at hj
 case prt =>
  have : ∀ m,part (bn σ) recs (fun i => (Array.replicate l.toArray.size false).getD i false) m = bn σ := fun m => by
   induction m with
   | zero => rfl
   | succ m ih =>
    simp only [part]
    rw [if_neg,ih]
    rw [Array.getD_eq_getD_getElem?,Array.getElem?_replicate]
    split <;> simp
  rw [this]
end order
end
def eH (b : Nat) : Nat → AV → Bool
 | 0,_ => true
 | _ + 1,.sl _ _ (.tok b') => b' == b
 | _ + 1,.loc b' _ => b' == b
 | _ + 1,.arr b' _ _ _ => b' == b
 | _ + 1,.mp b' => b' == b
 | n + 1,.agg cs => cs.any (eH b n)
 | n + 1,.tup cs => cs.any (eH b n)
 | n + 1,.ifc _ x => eH b n x
 | n + 1,.fn _ p q => p.any (eH b n) || q.any (eH b n)
 | n + 1,.bc cs _ => cs.any (eH b n)
 | _ + 1,.sl _ _ .none => false
 | _ + 1,.sl _ _ .full => false
 | _ + 1,.c _ => false
 | _ + 1,.u => false
 | _ + 1,.rf _ _ => false
 | _ + 1,.bt _ _ => false
def nO (b : Nat) : bJ → Bool
 | [] => false
 | (k,v) :: r => (k != b && eH b 5 v) || nO b r
def mrm (b : Nat) : bJ → bJ
 | [] => []
 | (k,v) :: r => if k = b then mrm b r else (k,v) :: mrm b r
theorem qg (b k : Nat) : ∀ σ : bJ,bn (mrm b σ) k = if k = b then .u else bn σ k
 | [] => by simp [mrm,bn]
 | (i,v) :: r => by
  have ih := qg b k r
  unfold mrm
  by_cases e : i = b
  ·rw [if_pos e,ih]
   by_cases e2 : k = b
   ·rw [if_pos e2,if_pos e2]
   ·rw [if_neg e2,if_neg e2]; simp only [bn]; rw [if_neg (fun h : i = k => e2 (h ▸ e))]
  ·rw [if_neg e]
   simp only [bn]
   by_cases e2 : i = k
   ·rw [if_pos e2,if_pos e2,if_neg (fun h => e (e2.trans h))]
   ·rw [if_neg e2,ih,if_neg e2]
theorem mb {b : Nat} : ∀ {σ : bJ},nO b σ = false → ∀ k,k ≠ b → eH b 5 (bn σ k) = false
 | [],_,k,_ => rfl
 | (i,v) :: r,h,k,hk => by
  simp only [nO,Bool.or_eq_false_iff,Bool.and_eq_false_iff] at h
  simp only [bn]
  split
  ·rename_i e; subst e
   rcases h.1 with h1 | h1
   ·simp at h1; exact absurd h1 hk
   ·exact h1
  ·exact mb h.2 k hk
section gc
variable {E : Env}
theorem lI {G : Gh} {B B' : Nat → AV} {b : Nat} (hB : ∀ k,k ≠ b → B' k = B k) : ∀ (n : Nat) {x : AV} {v : Value},eH b n x = false → VRel G B v x → VRel ⟨G.Z,fun k => if k = b then none else G.γ k,G.κ⟩ B' v x
 | 0,x,v,h,_ => by simp [eH] at h
 | n + 1,x,v,h,hv => by
  have lst : ∀ {cs : List AV} {vs : Array Value},cs.any (eH b n) = false → (∀ j (hj : j < cs.length),VRel G B (vs.getD j undef) cs[j]) → ∀ j (hj : j < cs.length),VRel ⟨G.Z,fun k => if k = b then none else G.γ k,G.κ⟩ B' (vs.getD j undef) cs[j] := fun {cs vs} hc hp j hj =>
   lI hB n (by rw [List.any_eq_false] at hc; simpa using hc cs[j] (List.getElem_mem hj)) (hp j hj)
  cases x with
  | c x => rw [dL hv]; exact .p (.c x)
  | u => exact .p (.u v)
  | sl cs m o =>
   obtain ⟨ad,cap,b',off,f,rfl,hs,hf,ht⟩ := eR hv
   cases o with
   | none => exact .p (.sl ad b' off m cap .none cs f (.inl rfl) hs.1 hs.2.1 hs.2.2.1 hs.2.2.2.1 hs.2.2.2.2)
   | full => exact .p (.sl ad b' off m cap .full cs f (.inr ⟨rfl,hf rfl⟩) hs.1 hs.2.1 hs.2.2.1 hs.2.2.2.1 hs.2.2.2.2)
   | tok t =>
    have hne : t ≠ b := by simpa [eH] using h
    obtain ⟨h1,tip,e,h2,h3,h4⟩ := ht t rfl
    refine .tok ad m cap cs t tip e (.sl ad b' off m cap .none cs f (.inl rfl) hs.1 hs.2.1 hs.2.2.1 hs.2.2.2.1 hs.2.2.2.2) h1 ((hB t hne).trans h2) h3 fun e' => ?_
    have := h4 e'
    unfold ox at *
    simp only [if_neg hne]; exact this
  | rf cs o =>
   obtain ⟨b',off,f,rfl,hz,hp⟩ := iZ hv
   exact .p (.rf b' off o cs f hz hp)
  | agg cs =>
   obtain ⟨vs,rfl,hs,h1,hp⟩ := gS hv
   exact .agg vs cs hs h1 (lst (by simpa [eH] using h) hp)
  | tup cs =>
   obtain ⟨vs,rfl,hs,hp⟩ := jf hv
   exact .tup vs cs hs (lst (by simpa [eH] using h) hp)
  | ifc t x =>
   obtain ⟨v',rfl,hx⟩ := fj hv
   exact .ifc t v' x (lI hB n (by simpa [eH] using h) hx)
  | fn f p q =>
   obtain ⟨va,vb,rfl,ha,hb,pa,pb⟩ := jL hv
   simp only [eH,Bool.or_eq_false_iff] at h
   exact .fn f va vb p q ha hb (lst h.1 pa) (lst h.2 pb)
  | loc b' off =>
   have hne : b' ≠ b := by simpa [eH] using h
   obtain ⟨g,cs,ty,rfl,hb',hB',hg,hm⟩ := iG hv
   exact .loc b' off g cs ty hb' ((hB b' hne).trans hB') ((if_neg hne).trans hg) hm
  | arr b' off m e =>
   have hne : b' ≠ b := by simpa [eH] using h
   obtain ⟨g,cap,cs,ty,rfl,hn,hb',hB',hg,hm⟩ := iF hv
   exact .arr b' off m e cap g cs ty hb' ((hB b' hne).trans hB') ((if_neg hne).trans hg) hn hm
  | mp b' =>
   have hne : b' ≠ b := by simpa [eH] using h
   obtain ⟨g,cs,ty,rfl,hb',hB',hg,hm⟩ := mg hv
   exact .mp b' g cs ty hb' ((hB b' hne).trans hB') ((if_neg hne).trans hg) hm
  | bc cs ty => exact (u7 hv).elim
  | bt m e => exact (u9 hv).elim
theorem CQ {b : Nat} {σ : bJ} (hb : 10000 ≤ b ∧ b < 20000) (h : nO b σ = false) : ALe E σ (mrm b σ) := fun a w G hs => by
 have hB : ∀ k,k ≠ b → bn (mrm b σ) k = bn σ k := fun k hk => by rw [qg,if_neg hk]
 have hr := fun k (hk : k ≠ b) {v} (hv : VRel G (bn σ) v (bn σ k)) => lI (B' := bn (mrm b σ)) hB 5 (mb h k hk) hv
 refine ⟨⟨G.Z,fun k => if k = b then none else G.γ k,G.κ⟩,hs.defers,hs.tsize,fun t ht => ?_,⟨hs.st.agree,fun k g hk => ?_,fun k cs ty hk hc => ?_,fun k k' g h1 h2 => ?_,hs.st.gl⟩,hs.fr,⟨hs.step.1,fun k hk => ?_⟩,hs.zp⟩
 ·rw [hB t (by omega)]; exact hr t (by omega) (hs.slots t ht)
 ·have hk' : (if k = b then none else G.γ k) = some g := hk
  split at hk'
  ·cases hk'
  ·rename_i hne
   obtain ⟨h1,h2,h3⟩ := hs.st.box k g hk'
   refine ⟨h1,h2,?_⟩
   rcases h3 with ⟨cs,ty,r1,⟨rm,c,r2,r3,r4,r5⟩ | rm⟩ | ⟨n,e,r1,c,r2,r3,r4,r5,r6⟩
   ·refine .inl ⟨cs,ty,(hB k hne).trans r1,.inl ⟨rm,c,r2,r3,r4,fun j hj => ⟨?_,(r5 j hj).2⟩⟩⟩
    have h5 := mb h k hne
    rw [r1] at h5
    simp only [eH] at h5
    rw [List.any_eq_false] at h5
    exact lI hB 4 (by simpa using h5 cs[j] (List.getElem_mem hj)) (r5 j hj).1
   ·exact .inl ⟨cs,ty,(hB k hne).trans r1,.inr rm⟩
   ·exact .inr ⟨n,e,(hB k hne).trans r1,c,r2,r3,r4,r5,r6⟩
 ·have hne : k ≠ b := fun e => by rw [qg,if_pos e] at hc; cases hc
  rw [hB k hne] at hc
  obtain ⟨g,hg⟩ := hs.st.real k cs ty hk hc
  exact ⟨g,(if_neg hne).trans hg⟩
 ·have e1 : (if k = b then none else G.γ k) = some g := h1
  have e2 : (if k' = b then none else G.γ k') = some g := h2
  split at e1
  ·cases e1
  ·split at e2
   ·cases e2
   ·exact hs.st.inj k k' g e1 e2
 ·by_cases hne : k = b
  ·subst hne
   rw [E.hB0 k hb.2]
   exact ⟨(fun _ _ hc => by cases hc),(fun _ _ hc => by cases hc)⟩
  ·rw [hB k hne]
   have := hs.step.2 k hk
   simpa only [if_neg hne] using this
def mgc : List Nat → bJ → bJ
 | [],σ => σ
 | b :: r,σ => if 10000 ≤ b ∧ b < 20000 ∧ nO b σ = false then mgc r (mrm b σ) else mgc r σ
theorem uM : ∀ (bs : List Nat) (σ : bJ),ALe E σ (mgc bs σ)
 | [],σ => fun a w G hs => ⟨G,hs⟩
 | b :: r,σ => by
  unfold mgc
  split
  ·rename_i h
   intro a w G hs
   obtain ⟨G',hs'⟩ := CQ ⟨h.1,h.2.1⟩ h.2.2 a w G hs
   exact uM r _ a w G' hs'
  ·exact uM r σ
def wm : bJ → List Nat
 | [] => []
 | (k,_) :: r => if 10000 ≤ k ∧ k < 20000 then k :: wm r else wm r
def jn (L : List Nat) (σ : bJ) : bJ := mgc (wm (jC L σ)) (jC L σ)
theorem jS (L : List Nat) (σ : bJ) : ALe E σ (jn L σ) := fun a w G hs => by
 obtain ⟨G',hs'⟩ := xU L σ a w G hs
 exact uM _ _ a w G' hs'
end gc
theorem mF {E : Env} {σ : bJ} {b t n : Nat} {cs : List AV} (e : TypeId) (hb : 10000 ≤ b ∧ b < 20000) (ht : t < 10000) (hu : bn σ b = .u) (hv : bn σ t = .sl cs n .full) : ALe E σ (fH (fH σ b (.bt n e)) t (.sl cs n (.tok b))) := fun a w G hs => by
 have hm : ∀ k,bn (fH (fH σ b (.bt n e)) t (.sl cs n (.tok b))) k = if t = k then .sl cs n (.tok b) else if b = k then .bt n e else bn σ k := fun k => by rw [eB,eB]
 have hγ : G.γ b = none := by
  cases hg : G.γ b with
  | none => rfl
  | some g =>
   obtain ⟨_,_,hbx⟩ := hs.st.box b g hg
   rcases hbx with ⟨_,_,h1,_⟩ | ⟨_,_,h1,_⟩ <;> rw [hu] at h1 <;> cases h1
 have hst : BStep G (bn σ) G (bn (fH (fH σ b (.bt n e)) t (.sl cs n (.tok b)))) := ⟨.refl _,fun k hk => by
  rw [hm,if_neg (by omega)]
  by_cases h1 : b = k
  ·subst h1; rw [hu]; exact ⟨(fun _ _ hc => by cases hc),(fun _ _ hc => by cases hc)⟩
  ·rw [if_neg h1]; exact ⟨fun cs ty hc => ⟨⟨cs,hc⟩,rfl⟩,fun n e hc => ⟨n,hc,.inr ⟨rfl,rfl,rfl⟩⟩⟩⟩
 refine ⟨G,hs.defers,hs.tsize,fun k hk => ?_,⟨hs.st.agree,fun k g hk => ?_,fun k cs' ty hk hc => ?_,hs.st.inj,hs.st.gl⟩,hs.fr,hs.step.trans hst,hs.zp⟩
 ·rw [hm]
  by_cases h1 : t = k
  ·subst h1
   rw [if_pos rfl]
   have h2 := hs.slots t ht
   rw [hv] at h2
   obtain ⟨ad,cap,b',off,f,ev,⟨q1,q2,q3,q4,q5⟩,hf,_⟩ := eR h2
   rw [ev]
   refine .tok ad n cap cs b n e (.sl ad b' off n cap .none cs f (.inl rfl) q1 q2 q3 q4 q5) hb.1 (by rw [hm,if_neg (by omega),if_pos rfl]) (Nat.le_refl _) fun _ => ⟨fun _ => hf rfl,fun g hg => by rw [hγ] at hg; cases hg⟩
  ·rw [if_neg h1,if_neg (by omega)]; exact (hs.slots k hk).step hst
 ·obtain ⟨h1,h2,h3⟩ := hs.st.box k g hk
  refine ⟨h1,h2,h3.step hst ?_ rfl rfl fun _ => rfl⟩
  rw [hm,if_neg (by omega),if_neg (fun h4 => by rw [← h4,hγ] at hk; cases hk)]
 ·rw [hm,if_neg (by omega)] at hc
  by_cases h1 : b = k
  ·rw [if_pos h1] at hc; cases hc
  ·rw [if_neg h1] at hc; exact hs.st.real k cs' ty hk hc
end Go.Proofs.YtkjnkkmokojnpaaGreatDoor
