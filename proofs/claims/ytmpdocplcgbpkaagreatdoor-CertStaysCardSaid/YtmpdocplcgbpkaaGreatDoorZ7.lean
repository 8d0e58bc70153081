/- K: a loop cut from what comes behind it. No program is in sight. K: a box that is written no more is sealed. No program is in sight. Cut in K: maps of ints as cells; functions that leave all as it was, with boxes handed in. -/
import Derived.Test.YtmpdocplcgbpkaaGreatDoorZ6
import Derived.Test.YtmpdocplcgbpkaaGreatDoorZ0
namespace Go.Proofs.YtmpdocplcgbpkaaGreatDoor
set_option linter.unusedSimpArgs false
set_option linter.unusedVariables false
open Go.RowKit
theorem kz {α : Type} (S : α → bT) (P : α → Prop) {E : Env} {c : Code} {Q : Exit → bT → Prop} {G : Prop} (use : (∀ a,P a → aw E c Q (S a)) → G) (key : ∀ a,P a → aw E c Q (S a)) : G := use key
def tW (n : Nat) : Code → Bool
 | .region id _ _ => id == n
 | .seq a _ => tW n a
 | _ => false
theorem cS (n : Nat) {E : Env} {Q : Exit → bT → Prop} {σ : bT} {x y : Code} (_ : tW n x = false) (h : aw E x (lf (aw E y Q) Q) σ) : aw E (.seq x y) Q σ := aS h
theorem ca (n : Nat) {E : Env} {Q : Exit → bT → Prop} {σ : bT} (tk : FuncId → Bool) (LV : Nat → List Nat) {id : Nat} {l : List Oper} (_ : (id == n) = false) (h : EqTo (gn (LV id) σ) (x6 E Q tk l)) : aw E (.region id l.toArray false) Q σ := ag tk LV h
theorem cy (n : Nat) {E : Env} {Q : Exit → bT → Prop} {σ : bT} (tk : FuncId → Bool) (LV : Nat → List Nat) {id : Nat} {l : List Oper} (_ : (id == n) = false) (hm : E.P.follows .mixedOrders = true) (h : EqTo (gn (LV id) σ) (x5 E Q tk l)) : aw E (.region id l.toArray true) Q σ := aq tk LV hm h
theorem cf {E : Env} {Q : Exit → bT → Prop} {σ σ' : bT} {c : Code} {L : List Nat} (hσ : gn L σ = σ') (h : aw E c Q σ') : aw E c Q σ := fY (gP L σ) (hσ ▸ h)
end Go.Proofs.YtmpdocplcgbpkaaGreatDoor
namespace Go.Proofs.YtmpdocplcgbpkaaGreatDoor
set_option linter.unusedSimpArgs false
set_option linter.unusedVariables false
open Go.RowKit
def dP (b : Nat) (cs : List AV) : Nat → AV → AV
 | 0,_ => .u
 | _ + 1,.loc b' off => if b' = b then .rf cs off else .loc b' off
 | _ + 1,.arr b' off n e => if b' = b then .sl (cs.drop off) n .none else .arr b' off n e
 | k + 1,.agg l => .agg (l.map (dP b cs k))
 | k + 1,.tup l => .tup (l.map (dP b cs k))
 | k + 1,.ifc t x => .ifc t (dP b cs k x)
 | k + 1,.fn f p q => .fn f (p.map (dP b cs k)) (q.map (dP b cs k))
 | k + 1,.bc l ty => .bc (l.map (dP b cs k)) ty
 | _ + 1,.sl l n .none => .sl l n .none
 | _ + 1,.sl l n .full => .sl l n .full
 | _ + 1,.sl l n (.tok t) => .sl l n (.tok t)
 | _ + 1,.c x => .c x
 | _ + 1,.u => .u
 | _ + 1,.rf l o => .rf l o
 | _ + 1,.bt n e => .bt n e
 | _ + 1,.mp b' => if b' = b then .u else .mp b'
 | _ + 1,.ow b' off n v => .ow b' off n v
 | _ + 1,.lo b' off v => .lo b' off v
 | k + 1,.br l v e sz => .br (l.map (dP b cs k)) v e sz
 | k + 1,.fo rows => .fo (rows.map fun | .br l v e sz => .br (l.map (dP b cs k)) v e sz | x => x)
def lj (b : Nat) (cs : List AV) : bT → bT
 | [] => []
 | (k,v) :: r => if k = b then lj b cs r else (k,dP b cs 7 v) :: lj b cs r
theorem jn (b k : Nat) (cs : List AV) : ∀ σ : bT,bP (lj b cs σ) k = if k = b then .u else dP b cs 7 (bP σ k)
 | [] => by simp [lj,bP,dP]
 | (i,v) :: r => by
  have ih := jn b k cs r
  unfold lj
  by_cases e : i = b
  ·rw [if_pos e,ih]
   by_cases e2 : k = b
   ·rw [if_pos e2,if_pos e2]
   ·rw [if_neg e2,if_neg e2];simp only [bP];rw [if_neg (fun h : i = k => e2 (h ▸ e))]
  ·rw [if_neg e]
   simp only [bP]
   by_cases e2 : i = k
   ·rw [if_pos e2,if_pos e2,if_neg (fun h => e (e2.trans h))]
   ·rw [if_neg e2,ih,if_neg e2]
section
variable {E : Env}
theorem oD {b : Nat} {cs : List AV} {x : AV} {n : Nat} {e : TypeId} (h : x = .bt n e) : dP b cs 7 x = .bt n e := by subst h;rfl
theorem ko {b : Nat} {cs l : List AV} {x : AV} {ty : TypeId} (h : x = .bc l ty) : dP b cs 7 x = .bc (l.map (dP b cs 6)) ty := by subst h;rfl
theorem lE {b : Nat} {cs l : List AV} {x : AV} {v e sz : Nat} (h : x = .br l v e sz) : dP b cs 7 x = .br (l.map (dP b cs 6)) v e sz := by subst h;rfl
theorem tg (b : Nat) (cs : List AV) (x : AV) (i : Nat) : dK (dP b cs 7 x) i = dP b cs 7 (dK x i) := by
 cases x with
 | fo rows =>
  simp only [dP,dK,gA,List.getD_eq_getElem?_getD,List.getElem?_map]
  cases h : rows[i]? with
  | none => rfl
  | some y => cases y <;> rfl
 | loc b' o => simp only [dP];by_cases h : b' = b <;> simp [h,dK,dP]
 | arr b' o n e => simp only [dP];by_cases h : b' = b <;> simp [h,dK,dP]
 | mp b' => simp only [dP];by_cases h : b' = b <;> simp [h,dK,dP]
 | sl l n o => cases o <;> rfl
 | _ => rfl
theorem pZ {b : Nat} {cs l : List AV} {x : AV} {ty : TypeId} (h : dP b cs 7 x = .bc l ty) : ∃ l',x = .bc l' ty := by
 cases x with
 | bc l' ty' => simp only [dP,AV.bc.injEq] at h;exact ⟨l',by rw [h.2]⟩
 | loc b' o => simp only [dP] at h;split at h <;> cases h
 | arr b' o n e => simp only [dP] at h;split at h <;> cases h
 | mp b' => simp only [dP] at h;split at h <;> cases h
 | sl l n o => cases o <;> simp [dP] at h
 | _ => simp [dP] at h
theorem si {G : Gh} {B B' : Nat → AV} {b gb : Nat} {cs0 cs : List AV} {ty0 : TypeId} (hty0 : isM ty0 = false) {Z' : fS} {c : Array Value} (hle : SealLe G.Z Z') (hBb : B b = .bc cs0 ty0) (hgb : G.γ b = some gb) (hlen : cs.length ≤ c.size)
  (hZ : ∀ j,j < cs.length → Z' gb j = some (c.getD j undef)) (hp : ∀ j (h : j < cs.length),PRel Z' (c.getD j undef) cs[j])
  (hB' : ∀ k,10000 ≤ k → k ≠ b → B' k = dP b cs 7 (B k)) : ∀ (n : Nat) {x : AV} {v : Value},VRel G B v x → VRel ⟨Z',fun k => if k = b then none else G.γ k,G.κ,G.β⟩ B' v (dP b cs n x)
 | 0,x,v,_ => .p (.u v)
 | n + 1,x,v,hv => by
  have ih := fun {x v} => si hty0 hle hBb hgb hlen hZ hp hB' n (x := x) (v := v)
  have lst : ∀ {l : List AV} {vs : Array Value},(∀ j (hj : j < l.length),VRel G B (vs.getD j undef) l[j]) → ∀ j (hj : j < (l.map (dP b cs n)).length),VRel ⟨Z',fun k => if k = b then none else G.γ k,G.κ,G.β⟩ B' (vs.getD j undef) (l.map (dP b cs n))[j] := fun {l vs} hq j hj => by
   rw [List.getElem_map];exact ih (hq j (by simpa using hj))
  cases x with
  | c x => rw [c5 hv];exact .p (.c x)
  | u => exact .p (.u v)
  | sl l m o =>
   obtain ⟨ad,cap,b',off,f,rfl,⟨h1,h2,h3,h4,h5⟩,hf,ht⟩ := d7 hv
   cases o with
   | none => exact .p (.sl ad b' off m cap .none l f (.inl rfl) h1 h2 h3 (fun j hj => hle _ _ _ (h4 j hj)) fun j hj => (h5 j hj).mono hle)
   | full => exact .p (.sl ad b' off m cap .full l f (.inr ⟨rfl,hf rfl⟩) h1 h2 h3 (fun j hj => hle _ _ _ (h4 j hj)) fun j hj => (h5 j hj).mono hle)
   | tok t =>
    obtain ⟨q1,tip,e,q2,q3,q4⟩ := ht t rfl
    have hne : t ≠ b := fun e' => by rw [e',hBb] at q2;cases q2
    refine .tok ad m cap l t tip e (.sl ad b' off m cap .none l f (.inl rfl) h1 h2 h3 (fun j hj => hle _ _ _ (h4 j hj)) fun j hj => (h5 j hj).mono hle) q1 ((hB' t q1 hne).trans (oD q2)) q3 fun e' => ?_
    have := q4 e'
    unfold kR at *
    simp only [if_neg hne];exact this
  | rf l o =>
   obtain ⟨b',off,f,rfl,hz,hq⟩ := fW hv
   exact .p (.rf b' off o l f (fun j hj => hle _ _ _ (hz j hj)) fun j hj => (hq j hj).mono hle)
  | agg l =>
   obtain ⟨vs,rfl,hs,h1,hq⟩ := eV hv
   exact .agg vs _ (by simpa using hs) (fun j hj => h1 j (by simpa using hj)) (lst hq)
  | tup l =>
   obtain ⟨vs,rfl,hs,hq⟩ := ge hv
   exact .tup vs _ (by simpa using hs) (lst hq)
  | ifc t x =>
   obtain ⟨v',rfl,hx⟩ := dw hv
   exact .ifc t v' _ (ih hx)
  | fn f p q =>
   obtain ⟨va,vb,rfl,ha,hb,pa,pb⟩ := gH hv
   exact .fn f va vb _ _ (by simpa using ha) (by simpa using hb) (lst pa) (lst pb)
  | loc b' off =>
   obtain ⟨g,l,ty,rfl,hb',hB,hg,hm⟩ := eW hv
   simp only [dP]
   split
   ·rename_i e;subst e
    rw [hgb] at hg;cases hg
    have := PRel.rf (Z := Z') gb 0 off cs (fun j => c.getD j undef) (fun j hj => by rw [Nat.zero_add];exact hZ j hj) hp
    rw [Nat.zero_add] at this
    exact .p this
   ·rename_i hne
    exact .loc b' off g _ ty hb' ((hB' b' hb' hne).trans (ko hB)) ((if_neg hne).trans hg) hm
  | arr b' off m e =>
   obtain ⟨g,cap,l,ty,rfl,hn,hb',hB,hg,hm⟩ := gd hv
   simp only [dP]
   split
   ·rename_i e';subst e'
    rw [hgb] at hg;cases hg
    exact .p (.sl _ gb off m cap .none (cs.drop off) (fun j => c.getD (off + j) undef) (.inl rfl) hn (fun h => by cases h) (.inr rfl)
     (fun j hj => hZ (off + j) (by simp at hj;omega)) fun j hj => by
      rw [List.getElem_drop];exact hp (off + j) (by simp at hj;omega))
   ·rename_i hne
    exact .arr b' off m e cap g _ ty hb' ((hB' b' hb' hne).trans (ko hB)) ((if_neg hne).trans hg) hn hm
  | mp b' =>
   obtain ⟨g,l,ty,rfl,hb',hB,hg,hm⟩ := iZ hv
   simp only [dP]
   split
   ·exact .p (.u _)
   ·rename_i hne
    exact .mp b' g _ ty hb' ((hB' b' hb' hne).trans (ko hB)) ((if_neg hne).trans hg) hm
  | bc l ty => exact (qF hv).elim
  | bt m e => exact (qH hv).elim
  | br cs v e sz => exact (qG hv).elim
  | fo rows => exact (qI hv).elim
  | ow b' off m ver =>
   obtain ⟨ad,cap,l,v',e,sz,rfl,hn,had,hb',hB,hvv,how⟩ := fV hv
   have hne : b' ≠ b := fun e' => by rw [e',hBb] at hB;cases hB
   refine .ow ad m cap b' off ver _ v' e sz hb' ((hB' b' hb' hne).trans (lE hB)) hn had hvv fun hv => ?_
   have := how hv
   unfold mA at *
   simp only [if_neg hne];exact this
  | lo b' off ver =>
   obtain ⟨g,o,l,v',e,sz,rfl,hb',hB,hvv,hk⟩ := ip hv
   have hne : b' ≠ b := fun e' => by rw [e',hBb] at hB;cases hB
   exact .lo g o b' off ver _ v' e sz hb' ((hB' b' hb' hne).trans (lE hB)) hvv fun hv => ⟨(if_neg hne).trans (hk hv).1,(hk hv).2⟩
theorem sE {σ : bT} (b : Nat) {cs0 cs : List AV} {ty : TypeId} (hb : 10000 ≤ b ∧ b < 20000) (hB : bP σ b = .bc cs0 ty) (hty : isM ty = false) (hpu : cs0.mapM (c6 4) = some cs) : ALe E σ (lj b cs σ) := fun a w G hs => by
 have hBr := hB
 have hB : lm σ b = .bc cs0 ty := (cE (by omega)).trans hBr
 obtain ⟨gb,hgb⟩ := hs.st.real b cs0 ty hb.1 hB
 obtain ⟨c,hc,hr,hz,hpr,hfc⟩ := fy hs hb.1 hB hgb hty
 have hl0 := gW hpu
 have hlen : cs.length ≤ c.size := by have : cs0.length ≤ c.size := hfc;omega
 have hpc : ∀ j (h : j < cs.length),PRel G.Z (c.getD j undef) cs[j] := fun j hj => by
  have h1 := (fK hr (j := j) (by omega)).1
  have h2 := gS hpu j (by omega) hj
  exact g9 4 h1 h2
 have hone : ∀ j,j < cs.length → (c.getD j undef).oneCell' = true := fun j hj => (fK hr (j := j) (by omega)).2
 have hle : SealLe G.Z (cY G.Z gb 0 (c.toList.take cs.length)) := fH fun o _ => hz o
 have hZ : ∀ j,j < cs.length → cY G.Z gb 0 (c.toList.take cs.length) gb j = some (c.getD j undef) := fun j hj => by
  have h := fG (Z := G.Z) (g := gb) (lo := 0) (vs := c.toList.take cs.length) (j := j) (by simp;omega)
  rw [Nat.zero_add] at h
  rw [h];simp [Array.getD_eq_getD_getElem?,List.getD_eq_getElem?_getD,List.getElem?_take,hj]
 have hoth : ∀ g o,g ≠ gb → cY G.Z gb 0 (c.toList.take cs.length) g o = G.Z g o := fun g o hg => by
  unfold cY;rw [if_neg];rintro ⟨rfl,_⟩;exact hg rfl
 have hm0 : ∀ k,k ≠ b → bP (lj b cs σ) k = dP b cs 7 (bP σ k) := fun k hk => by rw [jn,if_neg hk]
 have hm : ∀ k,10000 ≤ k → k ≠ b → lm (lj b cs σ) k = dP b cs 7 (lm σ k) := fun k hk hne => by
  show lk _ k = dP b cs 7 (lk _ k)
  unfold lk
  by_cases h1 : k < 1000000
  ·rw [if_pos h1,if_pos h1,hm0 k hne]
  ·rw [if_neg h1,if_neg h1]
   by_cases h2 : 10000 ≤ dq k
   ·rw [if_pos h2,if_pos h2]
    by_cases h3 : dq k = b
    ·rw [h3,jn,if_pos rfl,hBr];rfl
    ·rw [hm0 _ h3,tg]
   ·rw [if_neg h2,if_neg h2];rfl
 have hmb : lm (lj b cs σ) b = .u := by
  show lk _ b = _
  rw [cE (by omega),jn,if_pos rfl]
 have hrel := fun (n : Nat) {x v} => si (B' := lm (lj b cs σ)) hty hle hB hgb hlen hZ (fun j hj => (hpc j hj).mono hle) hm n (x := x) (v := v)
 refine ⟨⟨cY G.Z gb 0 (c.toList.take cs.length),fun k => if k = b then none else G.γ k,G.κ,G.β⟩,hs.defers,hs.tsize,fun t ht => ?_,⟨fun g o v hv => ?_,fun k g hk => ?_,fun k l ty' hk hkb => ?_,fun k k' g h1 h2 => ?_,hs.st.gl.mono hle⟩,hs.fr,⟨hs.step.1.trans hle,fun k hk => ?_⟩,fun g o hg => ?_⟩
 ·rw [hm0 t (by omega)];exact hrel 7 (hs.slots t ht)
 ·rcases iD hv with ⟨rfl,_,h2,rfl⟩ | hv'
  ·rw [Nat.sub_zero] at h2 ⊢
   have h4 : o < cs.length := by simp at h2;omega
   have h3 : o < c.size := by omega
   rw [cell_of_row _ g o c ty _ hc]
   have := hone o h4
   simp [Array.getD_eq_getD_getElem?,List.getD_eq_getElem?_getD,List.getElem?_take,h3,h4] at this ⊢
   exact this
  ·exact hs.st.agree g o v hv'
 ·have hk' : (if k = b then none else G.γ k) = some g := hk
  split at hk'
  ·cases hk'
  ·rename_i hne
   have hgne : g ≠ gb := fun e => hne (hs.st.inj k b g hk' (e ▸ hgb))
   obtain ⟨h1,h2,h3⟩ := hs.st.box k g hk'
   refine ⟨h1,h2,?_⟩
   rcases h3 with ⟨l,ty',r1,r2⟩ | ⟨n,e,r1,c',r2,r3,r4,r5,r6⟩ | ⟨l,v,e,sz,r1,r2⟩
   ·exact .inl ⟨l.map (dP b cs 6),ty',(hm k h1 hne).trans (ko r1),r2.to _ (fun _ => rfl) (fun _ _ h => hrel 6 h) rfl fun o ho => (hoth g o hgne).trans ho⟩
   ·exact .inr (.inl ⟨n,e,(hm k h1 hne).trans (oD r1),c',r2,r3,r4,r5,fun o ho => (hoth g o hgne).trans (r6 o ho)⟩)
   ·exact .inr (.inr ⟨_,v,e,sz,(hm k h1 hne).trans (lE r1),r2.to (dP b cs 6) (fun _ _ h => hrel 6 h) rfl rfl rfl fun o ho => (hoth g o hgne).trans ho⟩)
 ·have hne : k ≠ b := fun e => by rw [e,hmb] at hkb;cases hkb
  rw [hm k hk hne] at hkb
  obtain ⟨l',h'⟩ := pZ hkb
  obtain ⟨g,hg⟩ := hs.st.real k l' ty' hk h'
  exact ⟨g,(if_neg hne).trans hg⟩
 ·have e1 : (if k = b then none else G.γ k) = some g := h1
  have e2 : (if k' = b then none else G.γ k') = some g := h2
  split at e1
  ·cases e1
  ·split at e2
   ·cases e2
   ·exact hs.st.inj k k' g e1 e2
 ·by_cases hne : k = b
  ·subst hne
   exact .u (E.hB0.1 k hb.2)
  ·have := hs.step.2 k hk
   refine ⟨fun l ty' hl => ?_,fun n e hn => ?_,fun l v e sz hl => ?_⟩
   ·obtain ⟨⟨l',h1⟩,h2⟩ := this.1 l ty' hl
    exact ⟨⟨_,(hm k hk hne).trans (ko h1)⟩,(if_neg hne).trans h2⟩
   ·obtain ⟨n',h1,h2⟩ := this.2.1 n e hn
    refine ⟨n',(hm k hk hne).trans (oD h1),?_⟩
    simpa only [if_neg hne] using h2
   ·obtain ⟨l',v',h1,h2⟩ := this.2.2 l v e sz hl
    refine ⟨_,v',(hm k hk hne).trans (lE h1),?_⟩
    simpa only [if_neg hne] using h2
 ·have hgne : g ≠ gb := fun e => hpr (e ▸ hg)
  rw [show (Gh.mk (cY G.Z gb 0 (c.toList.take cs.length)) (fun k => if k = b then none else G.γ k) G.κ G.β).Z g o = G.Z g o from hoth g o hgne]
  exact hs.zp g o hg
theorem tV {Q : Exit → bT → Prop} {σ σ' : bT} {c : Code} (b : Nat) {cs0 cs : List AV} {ty : TypeId} (hb : 10000 ≤ b ∧ b < 20000) (hB : bP σ b = .bc cs0 ty) (hty : isM ty = false) (hpu : cs0.mapM (c6 4) = some cs) (hσ : lj b cs σ = σ') (h : aw E c Q σ') : aw E c Q σ :=
 fY (sE b hb hB hty hpu) (hσ ▸ h)
end
theorem tb {G : Gh} {B : Nat → AV} (hB : ∀ k,10000 ≤ k → B k = .u) {v : Value} {x : AV} (h : VRel G B v x) : PRel G.Z v x := by
 induction h with
 | p h => exact h
 | tok a n cap cs b tip e h hb hB' hn hk => rw [hB b hb] at hB';cases hB'
 | loc b off g cs ty hb hB' hg hm => rw [hB b hb] at hB';cases hB'
 | arr b off n e cap g cs ty hb hB' hg hn hm => rw [hB b hb] at hB';cases hB'
 | mp b g cs ty hb hB' hg hm => rw [hB b hb] at hB';cases hB'
 | ow a n cap b off v cs v' e sz hb hB' hn ha hv hk => rw [hB b hb] at hB';cases hB'
 | lo g o b off v cs v' e sz hb hB' hv hk => rw [hB b hb] at hB';cases hB'
 | agg vs cs hs h1 hp ih => exact .agg vs cs hs h1 ih
 | tup vs cs hs hp ih => exact .tup vs cs hs ih
 | ifc t v x h ih => exact .ifc t v x ih
 | fn f va vb a b ha hb pa pb ia ib => exact .fn f va vb a b ha hb ia ib
theorem jZ (k : Nat) : ck [] k = .u := by
 have e : ∀ k,dp [] k = .u := fun k => fM fun h => by have h1 := h.1;have h2 := h.2;simp only [List.length_nil] at h2;omega
 show lk (dp []) k = .u
 unfold lk
 rw [e,e]
 split
 ·rfl
 ·split <;> rfl
theorem lq (x : AV) (hx : iL x = false) (k : Nat) : ck [x] k = if k = 20000 then x else .u := by
 have e : ∀ k,dp [x] k = if k = 20000 then x else .u := fun k => by
  by_cases hk : k = 20000
  ·subst hk;rfl
  ·rw [if_neg hk,fM fun h => by have h1 := h.1;have h2 := h.2;simp only [List.length_cons,List.length_nil] at h2;omega]
 show lk (dp [x]) k = _
 by_cases hk : k < 1000000
 ·rw [cE hk];exact e k
 ·rw [if_neg (by omega)]
  unfold lk
  rw [if_neg hk]
  by_cases h2 : 10000 ≤ dq k
  ·rw [if_pos h2,e]
   by_cases h3 : dq k = 20000
   ·rw [if_pos h3];exact mg hx _
   ·rw [if_neg h3];rfl
  ·rw [if_neg h2]
theorem dd {P : Program} {f : FuncId} {args args0 bxs : List AV} {r : AV} (h : AFn P f args0 [] r []) (hp : args.mapM (c6 4) = some args0) : AFn P f args bxs r bxs := fun w G vs hst hX hvs hargs => by
 have hl := gW hp
 have hst0 : BSim P (fun b => b < w.heap.size ∧ ∀ k,(Gh.mk G.Z (fun _ => none) G.κ G.β).γ k ≠ some b) (Gh.mk G.Z (fun _ => none) G.κ G.β) (ck []) w :=
  ⟨hst.agree,(fun k g hk => by cases hk),(fun k cs ty _ hk => by rw [jZ] at hk;cases hk),(fun k k' g hk => by cases hk),hst.gl⟩
 refine (h w ⟨G.Z,fun _ => none,G.κ,G.β⟩ vs hst0 (fun g cs hg => ⟨(hX g cs hg).1,(hX g cs hg).2.1,fun k hk => by cases hk⟩) (by omega) fun j hj => ?_).mono ?_
 ·have hj' : j < args.length := by omega
  have hq : PRel G.Z (vs.getD j undef) args0[j] := g9 4 (hargs j hj') (gS hp j hj' hj)
  exact .p hq
 ·rintro e w' ⟨v,G',h1,h2,h3,h4,h5,h6⟩
  have hZ : SealLe G.Z G'.Z := h5.1
  have hz : ∀ b o,b < w.heap.size → G'.Z b o = G.Z b o := fun b o hb => h6 b o hb fun k hk => by cases hk
  have hbl : ∀ k g,G.γ k = some g → g < w.heap.size := fun k g hg => by
   exact (hst.box k g hg).2.2.lt
  have hvr : PRel G'.Z v r := tb (fun k _ => jZ k) h2
  have hs : BStep G (ck bxs) ⟨G'.Z,G.γ,G.κ,G.β⟩ (ck bxs) := ⟨hZ,fun k _ => .same rfl rfl rfl rfl⟩
  refine ⟨v,⟨G'.Z,G.γ,G.κ,G.β⟩,h1,.p hvr,⟨h3.agree,fun k g hk => ?_,hst.real,hst.inj,h3.gl⟩,⟨h4.os,h4.tape,h4.output,h4.size,fun b hb hlt => h4.block b ⟨hlt,fun k hk => by cases hk⟩ hlt⟩,hs,fun b o hb _ => hz b o hb⟩
  obtain ⟨q1,q2,q3⟩ := hst.box k g hk
  exact ⟨q1,q2,q3.step hs rfl rfl rfl (h4.block g ⟨hbl k g hk,fun k hk => by cases hk⟩ (hbl k g hk)) fun o => hz g o (hbl k g hk)⟩
attribute [go_sem] lj dP
end Go.Proofs.YtmpdocplcgbpkaaGreatDoor
namespace Go.Proofs.YtmpdocplcgbpkaaGreatDoor
set_option linter.unusedSimpArgs false
set_option linter.unusedVariables false
open Go.RowKit
abbrev inA (n : Int) : AV := .c (.int .i64 n)
def bn : List Tm → List AV
 | [] => []
 | m :: r => inA m.1 :: inA m.2 :: bn r
theorem lV : ∀ M : List Tm,gI .i64 (bn M) = true
 | [] => rfl
 | m :: r => by rw [bn,gI,lV r];rfl
theorem r9 : ∀ (M : List Tm) (v : Int),i6 v (bn M) = if v ∈ M.map (·.1) then some (inA (iW M v)) else none
 | [],v => by simp [bn,i6]
 | m :: r,v => by
  rw [bn,i6,r9 r v,show iW (m :: r) v = if m.1 = v then m.2 else iW r v from rfl]
  by_cases h : m.1 = v
  ·rw [if_pos h,if_pos h,if_pos (by simp [h])]
  ·have h' : ¬ v = m.1 := fun e => h e.symm
   rw [if_neg h,if_neg h]
   by_cases h2 : v ∈ r.map (·.1)
   ·rw [if_pos h2,if_pos (by rw [List.map_cons];exact List.mem_cons_of_mem _ h2)]
   ·rw [if_neg h2,if_neg (by rw [List.map_cons,List.mem_cons];exact fun e => e.elim h' h2)]
theorem pe : ∀ (M : List Tm) (v : Int),¬ v ∈ M.map (·.1) → iW M v = 0
 | [],v,_ => rfl
 | m :: r,v,h => by
  rw [List.map_cons,List.mem_cons] at h
  unfold iW
  rw [if_neg (fun e => h (.inl e.symm)),pe r v (fun e => h (.inr e))]
theorem rM (M : List Tm) (v : Int) : kD false (.int .i64 0) (i6 v (bn M)) = inA (iW M v) := by
 rw [r9]
 split
 ·rfl
 ·rename_i h;rw [pe M v h];rfl
theorem uI : ∀ (M : List Tm) (v x : Int),jA .i64 v (inA x) (bn M) = bn (ll M v x)
 | [],v,x => rfl
 | m :: r,v,x => by
  unfold ll
  rw [bn,jA]
  by_cases h : m.1 = v
  ·rw [if_pos h,if_pos h];rfl
  ·rw [if_neg h,if_neg h,uI r v x];rfl
end Go.Proofs.YtmpdocplcgbpkaaGreatDoor
