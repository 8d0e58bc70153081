/- K: a loop cut from what comes behind it. No program is in sight. K: a box that is written no more is sealed. No program is in sight. K: rows handed back with their token, or without; rows handed in whose room is none. No program is in sight. Statements' and procedures' cells, as they are read without being written out. No program is in sight. -/
import Derived.Test.YtkjnkkmokojnpaaGreatDoorZ5
import Derived.Test.YtkjnkkmokojnpaaGreatDoorZ9
namespace Go.Proofs.YtkjnkkmokojnpaaGreatDoor
set_option linter.unusedSimpArgs false
set_option linter.unusedVariables false
open Go.RowKit
theorem vR {α : Type} (S : α → bJ) (P : α → Prop) {E : Env} {c : Code} {Q : Exit → bJ → Prop} {G : Prop} (use : (∀ a,P a → awl E c Q (S a)) → G) (key : ∀ a,P a → awl E c Q (S a)) : G := use key
theorem fm {α : Type} (S : α → bJ) (P : α → Prop) {E : Env} {c : Code} {Q : Exit → bJ → Prop} {G : Prop} (use : (∀ a,P a → aw E c Q (S a)) → G) (key : ∀ a,P a → aw E c Q (S a)) : G := use key
def x7 (n : Nat) : Code → Bool
 | .region id _ _ => id == n
 | .seq a _ => x7 n a
 | _ => false
theorem bC (n : Nat) {E : Env} {Q : Exit → bJ → Prop} {σ : bJ} {x y : Code} (_ : x7 n x = false) (h : aw E x (oG (aw E y Q) Q) σ) : aw E (.seq x y) Q σ := aq h
theorem aS (n : Nat) {E : Env} {Q : Exit → bJ → Prop} {σ : bJ} (tk : FuncId → Bool) (LV : Nat → List Nat) {id : Nat} {l : List Oper} (_ : (id == n) = false) (h : EqTo (jn (LV id) σ) (CN E Q tk l)) : aw E (.region id l.toArray false) Q σ := ac tk LV h
theorem gh (n : Nat) {E : Env} {Q : Exit → bJ → Prop} {σ : bJ} (tk : FuncId → Bool) (LV : Nat → List Nat) {id : Nat} {l : List Oper} (_ : (id == n) = false) (hm : E.P.follows .mixedOrders = true) (h : EqTo (jn (LV id) σ) (CM E Q tk l)) : aw E (.region id l.toArray true) Q σ := bV tk LV hm h
theorem b9 {E : Env} {Q : Exit → bJ → Prop} {σ σ' : bJ} {c : Code} {L : List Nat} (hσ : jn L σ = σ') (h : aw E c Q σ') : aw E c Q σ := rq (jS L σ) (hσ ▸ h)
end Go.Proofs.YtkjnkkmokojnpaaGreatDoor
namespace Go.Proofs.YtkjnkkmokojnpaaGreatDoor
set_option linter.unusedSimpArgs false
set_option linter.unusedVariables false
open Go.RowKit
def hU (b : Nat) (cs : List AV) : Nat → AV → AV
 | 0,_ => .u
 | _ + 1,.loc b' off => if b' = b then .rf cs off else .loc b' off
 | _ + 1,.arr b' off n e => if b' = b then .sl (cs.drop off) n .none else .arr b' off n e
 | k + 1,.agg l => .agg (l.map (hU b cs k))
 | k + 1,.tup l => .tup (l.map (hU b cs k))
 | k + 1,.ifc t x => .ifc t (hU b cs k x)
 | k + 1,.fn f p q => .fn f (p.map (hU b cs k)) (q.map (hU b cs k))
 | k + 1,.bc l ty => .bc (l.map (hU b cs k)) ty
 | _ + 1,.sl l n .none => .sl l n .none
 | _ + 1,.sl l n .full => .sl l n .full
 | _ + 1,.sl l n (.tok t) => .sl l n (.tok t)
 | _ + 1,.c x => .c x
 | _ + 1,.u => .u
 | _ + 1,.rf l o => .rf l o
 | _ + 1,.bt n e => .bt n e
 | _ + 1,.mp b' => if b' = b then .u else .mp b'
def qO (b : Nat) (cs : List AV) : bJ → bJ
 | [] => []
 | (k,v) :: r => if k = b then qO b cs r else (k,hU b cs 7 v) :: qO b cs r
theorem oj (b k : Nat) (cs : List AV) : ∀ σ : bJ,bn (qO b cs σ) k = if k = b then .u else hU b cs 7 (bn σ k)
 | [] => by simp [qO,bn,hU]
 | (i,v) :: r => by
  have ih := oj b k cs r
  unfold qO
  by_cases e : i = b
  ·rw [if_pos e,ih]
   by_cases e2 : k = b
   ·rw [if_pos e2,if_pos e2]
   ·rw [if_neg e2,if_neg e2]; simp only [bn]; rw [if_neg (fun h : i = k => e2 (h ▸ e))]
  ·rw [if_neg e]
   simp only [bn]
   by_cases e2 : i = k
   ·rw [if_pos e2,if_pos e2,if_neg (fun h => e (e2.trans h))]
   ·rw [if_neg e2,ih,if_neg e2]
section
variable {E : Env}
theorem tp {b : Nat} {cs : List AV} {x : AV} {n : Nat} {e : TypeId} (h : x = .bt n e) : hU b cs 7 x = .bt n e := by subst h; rfl
theorem nF {b : Nat} {cs l : List AV} {x : AV} {ty : TypeId} (h : x = .bc l ty) : hU b cs 7 x = .bc (l.map (hU b cs 6)) ty := by subst h; rfl
theorem uz {b : Nat} {cs l : List AV} {x : AV} {ty : TypeId} (h : hU b cs 7 x = .bc l ty) : ∃ l',x = .bc l' ty := by
 cases x with
 | bc l' ty' => simp only [hU,AV.bc.injEq] at h; exact ⟨l',by rw [h.2]⟩
 | loc b' o => simp only [hU] at h; split at h <;> cases h
 | arr b' o n e => simp only [hU] at h; split at h <;> cases h
 | mp b' => simp only [hU] at h; split at h <;> cases h
 | sl l n o => cases o <;> simp [hU] at h
 | _ => simp [hU] at h
theorem wD {G : Gh} {B B' : Nat → AV} {b gb : Nat} {cs0 cs : List AV} {ty0 : TypeId} (hty0 : isM ty0 = false) {Z' : iW} {c : Array Value} (hle : SealLe G.Z Z') (hBb : B b = .bc cs0 ty0) (hgb : G.γ b = some gb) (hlen : cs.length ≤ c.size)
  (hZ : ∀ j,j < cs.length → Z' gb j = some (c.getD j undef)) (hp : ∀ j (h : j < cs.length),PRel Z' (c.getD j undef) cs[j])
  (hB' : ∀ k,k ≠ b → B' k = hU b cs 7 (B k)) : ∀ (n : Nat) {x : AV} {v : Value},VRel G B v x → VRel ⟨Z',fun k => if k = b then none else G.γ k,G.κ⟩ B' v (hU b cs n x)
 | 0,x,v,_ => .p (.u v)
 | n + 1,x,v,hv => by
  have ih := fun {x v} => wD hty0 hle hBb hgb hlen hZ hp hB' n (x := x) (v := v)
  have lst : ∀ {l : List AV} {vs : Array Value},(∀ j (hj : j < l.length),VRel G B (vs.getD j undef) l[j]) → ∀ j (hj : j < (l.map (hU b cs n)).length),VRel ⟨Z',fun k => if k = b then none else G.γ k,G.κ⟩ B' (vs.getD j undef) (l.map (hU b cs n))[j] := fun {l vs} hq j hj => by
   rw [List.getElem_map]; exact ih (hq j (by simpa using hj))
  cases x with
  | c x => rw [dL hv]; exact .p (.c x)
  | u => exact .p (.u v)
  | sl l m o =>
   obtain ⟨ad,cap,b',off,f,rfl,⟨h1,h2,h3,h4,h5⟩,hf,ht⟩ := eR hv
   cases o with
   | none => exact .p (.sl ad b' off m cap .none l f (.inl rfl) h1 h2 h3 (fun j hj => hle _ _ _ (h4 j hj)) fun j hj => (h5 j hj).mono hle)
   | full => exact .p (.sl ad b' off m cap .full l f (.inr ⟨rfl,hf rfl⟩) h1 h2 h3 (fun j hj => hle _ _ _ (h4 j hj)) fun j hj => (h5 j hj).mono hle)
   | tok t =>
    obtain ⟨q1,tip,e,q2,q3,q4⟩ := ht t rfl
    have hne : t ≠ b := fun e' => by rw [e',hBb] at q2; cases q2
    refine .tok ad m cap l t tip e (.sl ad b' off m cap .none l f (.inl rfl) h1 h2 h3 (fun j hj => hle _ _ _ (h4 j hj)) fun j hj => (h5 j hj).mono hle) q1 ((hB' t hne).trans (tp q2)) q3 fun e' => ?_
    have := q4 e'
    unfold ox at *
    simp only [if_neg hne]; exact this
  | rf l o =>
   obtain ⟨b',off,f,rfl,hz,hq⟩ := iZ hv
   exact .p (.rf b' off o l f (fun j hj => hle _ _ _ (hz j hj)) fun j hj => (hq j hj).mono hle)
  | agg l =>
   obtain ⟨vs,rfl,hs,h1,hq⟩ := gS hv
   exact .agg vs _ (by simpa using hs) (fun j hj => h1 j (by simpa using hj)) (lst hq)
  | tup l =>
   obtain ⟨vs,rfl,hs,hq⟩ := jf hv
   exact .tup vs _ (by simpa using hs) (lst hq)
  | ifc t x =>
   obtain ⟨v',rfl,hx⟩ := fj hv
   exact .ifc t v' _ (ih hx)
  | fn f p q =>
   obtain ⟨va,vb,rfl,ha,hb,pa,pb⟩ := jL hv
   exact .fn f va vb _ _ (by simpa using ha) (by simpa using hb) (lst pa) (lst pb)
  | loc b' off =>
   obtain ⟨g,l,ty,rfl,hb',hB,hg,hm⟩ := iG hv
   simp only [hU]
   split
   ·rename_i e; subst e
    rw [hgb] at hg; cases hg
    have := PRel.rf (Z := Z') gb 0 off cs (fun j => c.getD j undef) (fun j hj => by rw [Nat.zero_add]; exact hZ j hj) hp
    rw [Nat.zero_add] at this
    exact .p this
   ·rename_i hne
    exact .loc b' off g _ ty hb' ((hB' b' hne).trans (nF hB)) ((if_neg hne).trans hg) hm
  | arr b' off m e =>
   obtain ⟨g,cap,l,ty,rfl,hn,hb',hB,hg,hm⟩ := iF hv
   simp only [hU]
   split
   ·rename_i e'; subst e'
    rw [hgb] at hg; cases hg
    exact .p (.sl _ gb off m cap .none (cs.drop off) (fun j => c.getD (off + j) undef) (.inl rfl) hn (fun h => by cases h) (.inr rfl)
     (fun j hj => hZ (off + j) (by simp at hj; omega)) fun j hj => by
      rw [List.getElem_drop]; exact hp (off + j) (by simp at hj; omega))
   ·rename_i hne
    exact .arr b' off m e cap g _ ty hb' ((hB' b' hne).trans (nF hB)) ((if_neg hne).trans hg) hn hm
  | mp b' =>
   obtain ⟨g,l,ty,rfl,hb',hB,hg,hm⟩ := mg hv
   simp only [hU]
   split
   ·exact .p (.u _)
   ·rename_i hne
    exact .mp b' g _ ty hb' ((hB' b' hne).trans (nF hB)) ((if_neg hne).trans hg) hm
  | bc l ty => exact (u7 hv).elim
  | bt m e => exact (u9 hv).elim
theorem wP {σ : bJ} (b : Nat) {cs0 cs : List AV} {ty : TypeId} (hb : 10000 ≤ b ∧ b < 20000) (hB : bn σ b = .bc cs0 ty) (hty : isM ty = false) (hpu : cs0.mapM (eF 4) = some cs) : ALe E σ (qO b cs σ) := fun a w G hs => by
 obtain ⟨gb,hgb⟩ := hs.st.real b cs0 ty hb.1 hB
 obtain ⟨c,hc,hr,hz,hpr,hfc⟩ := iv hs hb.1 hB hgb hty
 have hl0 := kX hpu
 have hlen : cs.length ≤ c.size := by have : cs0.length ≤ c.size := hfc; omega
 have hpc : ∀ j (h : j < cs.length),PRel G.Z (c.getD j undef) cs[j] := fun j hj => by
  have h1 := (iI hr (j := j) (by omega)).1
  have h2 := kU hpu j (by omega) hj
  exact lk 4 h1 h2
 have hone : ∀ j,j < cs.length → (c.getD j undef).oneCell' = true := fun j hj => (iI hr (j := j) (by omega)).2
 have hle : SealLe G.Z (dD G.Z gb 0 (c.toList.take cs.length)) := iB fun o _ => hz o
 have hZ : ∀ j,j < cs.length → dD G.Z gb 0 (c.toList.take cs.length) gb j = some (c.getD j undef) := fun j hj => by
  have h := iA (Z := G.Z) (g := gb) (lo := 0) (vs := c.toList.take cs.length) (j := j) (by simp; omega)
  rw [Nat.zero_add] at h
  rw [h]; simp [Array.getD_eq_getD_getElem?,List.getD_eq_getElem?_getD,List.getElem?_take,hj]
 have hoth : ∀ g o,g ≠ gb → dD G.Z gb 0 (c.toList.take cs.length) g o = G.Z g o := fun g o hg => by
  unfold dD; rw [if_neg]; rintro ⟨rfl,_⟩; exact hg rfl
 have hm : ∀ k,k ≠ b → bn (qO b cs σ) k = hU b cs 7 (bn σ k) := fun k hk => by rw [oj,if_neg hk]
 have hrel := fun (n : Nat) {x v} => wD (B' := bn (qO b cs σ)) hty hle hB hgb hlen hZ (fun j hj => (hpc j hj).mono hle) hm n (x := x) (v := v)
 refine ⟨⟨dD G.Z gb 0 (c.toList.take cs.length),fun k => if k = b then none else G.γ k,G.κ⟩,hs.defers,hs.tsize,fun t ht => ?_,⟨fun g o v hv => ?_,fun k g hk => ?_,fun k l ty' hk hkb => ?_,fun k k' g h1 h2 => ?_,hs.st.gl.mono hle⟩,hs.fr,⟨hs.step.1.trans hle,fun k hk => ?_⟩,fun g o hg => ?_⟩
 ·rw [hm t (by omega)]; exact hrel 7 (hs.slots t ht)
 ·rcases ky hv with ⟨rfl,_,h2,rfl⟩ | hv'
  ·rw [Nat.sub_zero] at h2 ⊢
   have h4 : o < cs.length := by simp at h2; omega
   have h3 : o < c.size := by omega
   rw [cell_of_row _ g o c ty _ hc]
   have := hone o h4
   simp [Array.getD_eq_getD_getElem?,List.getD_eq_getElem?_getD,List.getElem?_take,h3,h4] at this ⊢
   exact this
  ·exact hs.st.agree g o v hv'
 ·have hk' : (if k = b then none else G.γ k) = some g := hk
  split at hk'
  ·cases hk'
  ·rename_i hne
   have hgne : g ≠ gb := fun e => hne (hs.st.inj k b g hk' (e ▸ hgb))
   obtain ⟨h1,h2,h3⟩ := hs.st.box k g hk'
   refine ⟨h1,h2,?_⟩
   rcases h3 with ⟨l,ty',r1,r2⟩ | ⟨n,e,r1,c',r2,r3,r4,r5,r6⟩
   ·exact .inl ⟨l.map (hU b cs 6),ty',(hm k hne).trans (nF r1),r2.to _ (fun _ => rfl) (fun _ _ h => hrel 6 h) rfl fun o ho => (hoth g o hgne).trans ho⟩
   ·exact .inr ⟨n,e,(hm k hne).trans (tp r1),c',r2,r3,r4,r5,fun o ho => (hoth g o hgne).trans (r6 o ho)⟩
 ·have hne : k ≠ b := fun e => by rw [oj,if_pos e] at hkb; cases hkb
  rw [hm k hne] at hkb
  obtain ⟨l',h'⟩ := uz hkb
  obtain ⟨g,hg⟩ := hs.st.real k l' ty' hk h'
  exact ⟨g,(if_neg hne).trans hg⟩
 ·have e1 : (if k = b then none else G.γ k) = some g := h1
  have e2 : (if k' = b then none else G.γ k') = some g := h2
  split at e1
  ·cases e1
  ·split at e2
   ·cases e2
   ·exact hs.st.inj k k' g e1 e2
 ·by_cases hne : k = b
  ·subst hne
   rw [E.hB0 k hb.2]
   exact ⟨(fun _ _ hc => by cases hc),(fun _ _ hc => by cases hc)⟩
  ·have := hs.step.2 k hk
   refine ⟨fun l ty' hl => ?_,fun n e hn => ?_⟩
   ·obtain ⟨⟨l',h1⟩,h2⟩ := this.1 l ty' hl
    exact ⟨⟨_,(hm k hne).trans (nF h1)⟩,(if_neg hne).trans h2⟩
   ·obtain ⟨n',h1,h2⟩ := this.2 n e hn
    refine ⟨n',(hm k hne).trans (tp h1),?_⟩
    simpa only [if_neg hne] using h2
 ·have hgne : g ≠ gb := fun e => hpr (e ▸ hg)
  rw [show (Gh.mk (dD G.Z gb 0 (c.toList.take cs.length)) (fun k => if k = b then none else G.γ k) G.κ).Z g o = G.Z g o from hoth g o hgne]
  exact hs.zp g o hg
theorem dj {Q : Exit → bJ → Prop} {σ σ' : bJ} {c : Code} (b : Nat) {cs0 cs : List AV} {ty : TypeId} (hb : 10000 ≤ b ∧ b < 20000) (hB : bn σ b = .bc cs0 ty) (hty : isM ty = false) (hpu : cs0.mapM (eF 4) = some cs) (hσ : qO b cs σ = σ') (h : aw E c Q σ') : aw E c Q σ :=
 rq (wP b hb hB hty hpu) (hσ ▸ h)
end
theorem xh {G : Gh} {B : Nat → AV} (hB : ∀ k,10000 ≤ k → B k = .u) {v : Value} {x : AV} (h : VRel G B v x) : PRel G.Z v x := by
 induction h with
 | p h => exact h
 | tok a n cap cs b tip e h hb hB' hn hk => rw [hB b hb] at hB'; cases hB'
 | loc b off g cs ty hb hB' hg hm => rw [hB b hb] at hB'; cases hB'
 | arr b off n e cap g cs ty hb hB' hg hn hm => rw [hB b hb] at hB'; cases hB'
 | mp b g cs ty hb hB' hg hm => rw [hB b hb] at hB'; cases hB'
 | agg vs cs hs h1 hp ih => exact .agg vs cs hs h1 ih
 | tup vs cs hs hp ih => exact .tup vs cs hs ih
 | ifc t v x h ih => exact .ifc t v x ih
 | fn f va vb a b ha hb pa pb ia ib => exact .fn f va vb a b ha hb ia ib
theorem fG (k : Nat) : cm [] k = .u := by unfold cm; split <;> simp
theorem lw {P : Program} {f : FuncId} {args args0 bxs : List AV} {r : AV} (h : AFn P f args0 [] r []) (hp : args.mapM (eF 4) = some args0) : AFn P f args bxs r bxs := fun w G vs hst hvs hargs => by
 have hl := kX hp
 have hst0 : BSim P (fun b => b < w.heap.size ∧ ∀ k,(Gh.mk G.Z (fun _ => none) G.κ).γ k ≠ some b) (Gh.mk G.Z (fun _ => none) G.κ) (cm []) w :=
  ⟨hst.agree,(fun k g hk => by cases hk),(fun k cs ty _ hk => by rw [fG] at hk; cases hk),(fun k k' g hk => by cases hk),hst.gl⟩
 refine (h w ⟨G.Z,fun _ => none,G.κ⟩ vs hst0 (by omega) fun j hj => ?_).mono ?_
 ·have hj' : j < args.length := by omega
  have hq : PRel G.Z (vs.getD j undef) args0[j] := lk 4 (hargs j hj') (kU hp j hj' hj)
  exact .p hq
 ·rintro e w' ⟨v,G',h1,h2,h3,h4,h5,h6⟩
  have hZ : SealLe G.Z G'.Z := h5.1
  have hz : ∀ b o,b < w.heap.size → G'.Z b o = G.Z b o := fun b o hb => h6 b o hb fun k hk => by cases hk
  have hbl : ∀ k g,G.γ k = some g → g < w.heap.size := fun k g hg => by
   obtain ⟨_,_,hb⟩ := hst.box k g hg
   rcases hb with ⟨cs,ty,_,⟨_,c,h2,_⟩ | ⟨_,es,c,h2,_⟩⟩ | ⟨n,e,_,c,h2,_⟩ <;> exact (Array.getElem?_eq_some_iff.1 h2).1
  have hvr : PRel G'.Z v r := xh (fun k _ => fG k) h2
  have hs : BStep G (cm bxs) ⟨G'.Z,G.γ,G.κ⟩ (cm bxs) := ⟨hZ,fun k _ => ⟨fun cs ty hc => ⟨⟨cs,hc⟩,rfl⟩,fun n e hc => ⟨n,hc,.inr ⟨rfl,rfl,rfl⟩⟩⟩⟩
  refine ⟨v,⟨G'.Z,G.γ,G.κ⟩,h1,.p hvr,⟨h3.agree,fun k g hk => ?_,hst.real,hst.inj,h3.gl⟩,⟨h4.os,h4.tape,h4.output,h4.size,fun b hb hlt => h4.block b ⟨hlt,fun k hk => by cases hk⟩ hlt⟩,hs,fun b o hb _ => hz b o hb⟩
  obtain ⟨q1,q2,q3⟩ := hst.box k g hk
  exact ⟨q1,q2,q3.step hs rfl rfl (h4.block g ⟨hbl k g hk,fun k hk => by cases hk⟩ (hbl k g hk)) fun o => hz g o (hbl k g hk)⟩
attribute [go_sem] qO hU
end Go.Proofs.YtkjnkkmokojnpaaGreatDoor
namespace Go.Proofs.YtkjnkkmokojnpaaGreatDoor
set_option linter.unusedSimpArgs false
set_option linter.unusedVariables false
open Go.RowKit
theorem yB (n : Nat) (e : TypeId) (k : Nat) : cm [.bt n e] k = if k = 20000 then .bt n e else .u := by
 unfold cm
 by_cases hk : 20000 ≤ k
 ·rw [if_pos hk]
  by_cases h2 : k = 20000
  ·subst h2; rfl
  ·rw [if_neg h2,List.getD_eq_getElem?_getD,List.getElem?_eq_none (by simp; omega)]; rfl
 ·rw [if_neg hk,if_neg (by omega)]
theorem noγ {P : Program} {Pr : Nat → Prop} {G : Gh} {w : World} (h : BSim P Pr G (cm []) w) (k : Nat) : G.γ k = none := by
 cases hg : G.γ k with
 | none => rfl
 | some g =>
  obtain ⟨_,_,hb⟩ := h.box k g hg
  rcases hb with ⟨_,_,h1,_⟩ | ⟨_,_,h1,_⟩ <;> rw [fG] at h1 <;> cases h1
theorem xS {P : Program} {f : FuncId} {args : List AV} {cs : List AV} {n m : Nat} {e : TypeId} (h : AFn P f args [] (.sl cs n (.tok 20000)) [.bt m e]) : AFn P f args [] (.sl cs n .none) [] := fun w G vs hst hvs hargs => by
 refine (h w G vs hst hvs hargs).mono fun e' w' ⟨v,G',h1,h2,h3,h4,h5,h6⟩ => ?_
 obtain ⟨ad,cap,b,off,f',rfl,⟨p1,p2,p3,p4,p5⟩,_,_⟩ := eR h2
 exact ⟨_,⟨G'.Z,fun _ => none,G'.κ⟩,h1,.p (.sl ad b off n cap .none cs f' (.inl rfl) p1 p2 p3 p4 p5),⟨h3.agree,(fun k g hk => by cases hk),(fun k cs ty _ hc => by rw [fG] at hc; cases hc),(fun k k' g hk => by cases hk),h3.gl⟩,h4,
  ⟨h5.1,fun k _ => by rw [fG]; exact ⟨(fun _ _ hc => by cases hc),(fun _ _ hc => by cases hc)⟩⟩,h6⟩
theorem wO {P : Program} {f : FuncId} {x : AV} {cs cs' : List AV} {n n' m : Nat} {e : TypeId} (h : AFn P f [x,.sl cs n (.tok 20000)] [.bt n e] (.sl cs' n' (.tok 20000)) [.bt m e]) : AFn P f [x,.sl cs n .full] [] (.sl cs' n' .none) [] := fun w G vs hst hvs hargs => by
 have hγ := noγ hst
 have hs : BStep G (cm []) G (cm [.bt n e]) := ⟨.refl _,fun k _ => by rw [fG]; exact ⟨(fun _ _ hc => by cases hc),(fun _ _ hc => by cases hc)⟩⟩
 have hst' : BSim P (fun b => b < w.heap.size ∧ ∀ k,G.γ k ≠ some b) G (cm [.bt n e]) w := ⟨hst.agree,(fun k g hk => by rw [hγ] at hk; cases hk),(fun k cs ty _ hc => by rw [yB] at hc; split at hc <;> cases hc),(fun k k' g hk => by rw [hγ] at hk; cases hk),hst.gl⟩
 refine (h w G vs hst' hvs fun j hj => ?_).mono fun e' w' ⟨v,G',h1,h2,h3,h4,h5,h6⟩ => ?_
 ·match j,hj with
  | 0,_ => exact (hargs 0 (by simp)).step hs
  | 1,_ =>
   obtain ⟨ad,cap,b,off,f',ev,⟨p1,p2,p3,p4,p5⟩,hf,_⟩ := eR (hargs 1 (by simp))
   show VRel G _ (vs.getD 1 undef) (.sl cs n (.tok 20000))
   rw [ev]
   exact .tok ad n cap cs 20000 n e (.sl ad b off n cap .none cs f' (.inl rfl) p1 p2 p3 p4 p5) (by decide) (by rw [yB,if_pos rfl]) (Nat.le_refl _) fun _ => ⟨fun _ => hf rfl,fun g hg => by rw [hγ] at hg; cases hg⟩
 ·obtain ⟨ad,cap,b,off,f',rfl,⟨p1,p2,p3,p4,p5⟩,_,_⟩ := eR h2
  exact ⟨_,⟨G'.Z,fun _ => none,G'.κ⟩,h1,.p (.sl ad b off n' cap .none cs' f' (.inl rfl) p1 p2 p3 p4 p5),⟨h3.agree,(fun k g hk => by cases hk),(fun k cs ty _ hc => by rw [fG] at hc; cases hc),(fun k k' g hk => by cases hk),h3.gl⟩,h4,
   ⟨h5.1,fun k _ => by rw [fG]; exact ⟨(fun _ _ hc => by cases hc),(fun _ _ hc => by cases hc)⟩⟩,h6⟩
end Go.Proofs.YtkjnkkmokojnpaaGreatDoor
namespace Go.Proofs.YtkjnkkmokojnpaaGreatDoor
set_option linter.unusedSimpArgs false
set_option linter.unusedVariables false
open Go.RowKit
theorem py : ∀ a b : List AV,eu (a ++ b) = (eu a && eu b)
 | [],b => by simp [eu]
 | x :: r,b => by rw [List.cons_append,eu,eu,py r b,Bool.and_assoc]
theorem yU (f : AV → Option AV) {a b a' b' : List AV} (h : a.mapM f = some a') (k : b.mapM f = some b') : (a ++ b).mapM f = some (a' ++ b') := by
 rw [List.mapM_append,h,k]; rfl
abbrev OneP (l : List AV) : Prop := eu l = true ∧ l.mapM (eF 4) = some l
theorem OneP.app {a b : List AV} (h : OneP a) (k : OneP b) : OneP (a ++ b) := ⟨by rw [py,h.1,k.1]; rfl,yU _ h.2 k.2⟩
theorem wx : ∀ e,OneP (peA e)
 | .mk k n x ks => ⟨rfl,rfl⟩
theorem zd : ∀ e,OneP (ci e)
 | .mk k e ks => ⟨rfl,rfl⟩
theorem um : ∀ e,OneP (paA e)
 | .mk k c e v f n ks => by
  rw [paA]
  exact OneP.app ⟨rfl,rfl⟩ ((zd c).app ((wx e).app ((wx v).app ⟨rfl,rfl⟩)))
theorem CI : ∀ e,OneP (psA e)
 | .mk k x f y e v c a rs gs fs b l => by
  rw [psA]
  exact OneP.app ⟨rfl,rfl⟩ ((wx e).app ((wx v).app ((zd c).app ((um a).app ⟨rfl,rfl⟩))))
theorem Es (p : PP) : OneP (ppA p) := OneP.app ⟨rfl,rfl⟩ ((um p.pre).app ((um p.post).app ⟨rfl,rfl⟩))
def FlatP (l : List AV) : Prop := ∀ x ∈ l,(∃ v,x = .c v) ∨ ∃ cs n,x = .sl cs n .none
theorem FlatP.app {a b : List AV} (h : FlatP a) (k : FlatP b) : FlatP (a ++ b) := fun x hx => (List.mem_append.1 hx).elim (h x) (k x)
theorem dr {x : AV} {l : List AV} (h : (∃ v,x = .c v) ∨ ∃ cs n,x = .sl cs n .none) (k : FlatP l) : FlatP (x :: l) := fun y hy => by
 rcases List.mem_cons.1 hy with rfl | hy
 ·exact h
 ·exact k y hy
theorem iL : FlatP [] := fun x hx => absurd hx List.not_mem_nil
theorem FlatP.nm {l : List AV} (h : FlatP l) (n : Nat) : l.flatMap (jd true (n + 1)) = [] := by
 induction l with
 | nil => rfl
 | cons x r ih =>
  rw [List.flatMap_cons,ih fun y hy => h y (by simp [hy])]
  rcases h x (by simp) with ⟨v,rfl⟩ | ⟨cs,m,rfl⟩ <;> rfl
theorem FlatP.rn {l : List AV} (h : FlatP l) (g : List (Nat × Nat)) (n : Nat) : l.map (ren g (n + 1)) = l := by
 induction l with
 | nil => rfl
 | cons x r ih =>
  rw [List.map_cons,ih fun y hy => h y (by simp [hy])]
  rcases h x (by simp) with ⟨v,rfl⟩ | ⟨cs,m,rfl⟩ <;> rfl
theorem FlatP.nm3 {l : List AV} (h : FlatP l) : l.flatMap (jd true 3) = [] := h.nm 2
theorem FlatP.rn2 {l : List AV} (h : FlatP l) (g : List (Nat × Nat)) : l.map (ren g 2) = l := h.rn g 1
theorem FlatP.rn3 {l : List AV} (h : FlatP l) (g : List (Nat × Nat)) : l.map (ren g 3) = l := h.rn g 2
theorem dF : ∀ e,FlatP (peA e)
 | .mk k n x ks => dr (.inl ⟨_,rfl⟩) (dr (.inl ⟨_,rfl⟩) (dr (.inl ⟨_,rfl⟩) (dr (.inr ⟨_,_,rfl⟩) iL)))
theorem eE : ∀ e,FlatP (ci e)
 | .mk k e ks => dr (.inl ⟨_,rfl⟩) (dr (.inr ⟨_,_,rfl⟩) (dr (.inr ⟨_,_,rfl⟩) iL))
theorem dP : ∀ e,FlatP (paA e)
 | .mk k c e v f n ks => by
  rw [paA]
  exact FlatP.app (dr (.inl ⟨_,rfl⟩) iL) ((eE c).app ((dF e).app ((dF v).app (dr (.inl ⟨_,rfl⟩) (dr (.inl ⟨_,rfl⟩) (dr (.inr ⟨_,_,rfl⟩) iL))))))
theorem wz : ∀ e,FlatP (psA e)
 | .mk k x f y e v c a rs gs fs b l => by
  rw [psA]
  exact FlatP.app (dr (.inl ⟨_,rfl⟩) (dr (.inl ⟨_,rfl⟩) (dr (.inl ⟨_,rfl⟩) (dr (.inl ⟨_,rfl⟩) iL)))) ((dF e).app ((dF v).app ((eE c).app ((dP a).app
   (dr (.inr ⟨_,_,rfl⟩) (dr (.inr ⟨_,_,rfl⟩) (dr (.inr ⟨_,_,rfl⟩) (dr (.inr ⟨_,_,rfl⟩) (dr (.inr ⟨_,_,rfl⟩) iL)))))))))
theorem wy (p : PP) : FlatP (ppA p) := FlatP.app (dr (.inl ⟨_,rfl⟩) (dr (.inr ⟨_,_,rfl⟩) (dr (.inr ⟨_,_,rfl⟩) iL))) ((dP p.pre).app ((dP p.post).app (dr (.inr ⟨_,_,rfl⟩) iL)))
theorem lU {A B C : List AV} {i n : Nat} (hA : A.length = i) (hB : B.length = n) : ((A ++ (B ++ C)).drop i).take n = B := by
 rw [List.drop_left' hA,List.take_left' hB]
theorem lE {A B : List AV} {i j : Nat} (hA : A.length = i) : (A ++ B).getD (i + j) .u = B.getD j .u := by
 rw [List.getD_eq_getElem?_getD,List.getD_eq_getElem?_getD,List.getElem?_append_right (by omega)]
 rw [show i + j - A.length = j by omega]
structure StC (SC : List AV) (k : Int) (x f y : Wd) (e v : PE) (c : PC) (a : PA) (rs gs : List PE) (fs : List Wd) (b l : List PS') : Prop where
 one : eu SC = true
 pure : SC.mapM (eF 4) = some SC
 len : SC.length = 35
 g0 : SC.getD 0 .u = inA k
 g1 : SC.getD 1 .u = bs x
 g2 : SC.getD 2 .u = bs f
 g3 : SC.getD 3 .u = bs y
 s4 : (SC.drop 4).take 4 = peA e
 s8 : (SC.drop 8).take 4 = peA v
 s12 : (SC.drop 12).take 3 = ci c
 s15 : (SC.drop 15).take 15 = paA a
 g30 : SC.getD 30 .u = .sl (cl rs) rs.length .none
 g31 : SC.getD 31 .u = .sl (cl gs) gs.length .none
 g32 : SC.getD 32 .u = .sl (fs.map bs) fs.length .none
 g33 : SC.getD 33 .u = .sl (du b) b.length .none
 g34 : SC.getD 34 .u = .sl (du l) l.length .none
theorem jG (k : Int) (x f y : Wd) (e v : PE) (c : PC) (a : PA) (rs gs : List PE) (fs : List Wd) (b l : List PS') : StC (psA (.mk k x f y e v c a rs gs fs b l)) k x f y e v c a rs gs fs b l := by
 have hp := CI (.mk k x f y e v c a rs gs fs b l)
 have hl := kv (.mk k x f y e v c a rs gs fs b l)
 have he := fS e
 have hv := fS v
 have hc := fP c
 have ha := eZ a
 rw [psA] at hp hl ⊢
 refine ⟨hp.1,hp.2,hl,rfl,rfl,rfl,rfl,?_,?_,?_,?_,?_,?_,?_,?_,?_⟩
 ·exact lU rfl he
 ·rw [← List.append_assoc]; exact lU (by simp [he]) hv
 ·rw [← List.append_assoc,← List.append_assoc]; exact lU (by simp [he,hv]) hc
 ·rw [← List.append_assoc,← List.append_assoc,← List.append_assoc]; exact lU (by simp [he,hv,hc]) ha
 all_goals rw [← List.append_assoc,← List.append_assoc,← List.append_assoc,← List.append_assoc]
 ·exact lE (i := 30) (j := 0) (by simp [he,hv,hc,ha])
 ·exact lE (i := 30) (j := 1) (by simp [he,hv,hc,ha])
 ·exact lE (i := 30) (j := 2) (by simp [he,hv,hc,ha])
 ·exact lE (i := 30) (j := 3) (by simp [he,hv,hc,ha])
 ·exact lE (i := 30) (j := 4) (by simp [he,hv,hc,ha])
structure PrC (XC : List AV) (x : PP) : Prop where
 one : eu XC = true
 pure : XC.mapM (eF 4) = some XC
 len : XC.length = 34
 g0 : XC.getD 0 .u = bs x.name
 g1 : XC.getD 1 .u = .sl (x.params.map bs) x.params.length .none
 g2 : XC.getD 2 .u = .sl (x.ghosts.map bs) x.ghosts.length .none
 s3 : (XC.drop 3).take 15 = paA x.pre
 s18 : (XC.drop 18).take 15 = paA x.post
 g33 : XC.getD 33 .u = .sl (du x.body) x.body.length .none
theorem nl (x : PP) : PrC (ppA x) x := by
 have hp := Es x
 have hl := nk x
 have h1 := eZ x.pre
 have h2 := eZ x.post
 unfold ppA at hp hl ⊢
 refine ⟨hp.1,hp.2,hl,rfl,rfl,rfl,?_,?_,?_⟩
 ·exact lU rfl h1
 ·rw [← List.append_assoc]; exact lU (by simp [h1]) h2
 ·rw [← List.append_assoc,← List.append_assoc]; exact lE (i := 33) (j := 0) (by simp [h1,h2])
end Go.Proofs.YtkjnkkmokojnpaaGreatDoor
