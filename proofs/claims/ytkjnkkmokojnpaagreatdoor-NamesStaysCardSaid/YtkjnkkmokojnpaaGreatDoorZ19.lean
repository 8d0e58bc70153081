/- K: rows that the library makes and turns in place: slices.Sorted, Compact, Grow. -/
import Derived.Test.YtkjnkkmokojnpaaGreatDoorZ18
import Derived.Test.YtkjnkkmokojnpaaGreatDoorZ6
import Derived.Test.YtkjnkkmokojnpaaGreatDoorZ11
import Derived.Test.YtkjnkkmokojnpaaGreatDoorZ8
namespace Go.Proofs.YtkjnkkmokojnpaaGreatDoor
set_option linter.unusedSimpArgs false
set_option linter.unusedVariables false
open Go.RowKit Go.Proofs
theorem uL {P : Program} {f : FuncId} {args : List AV} {e : TypeId} {n : Nat} {xs : List Value} (hm : isM e = false) (h1 : ∀ x ∈ xs,x.oneCell' = true)
  (h : ∀ (w : World) (G : Gh) (vs : Array Value),(∀ b o v,G.Z b o = some v → w.cell? ⟨b,o,none⟩ = some v ∧ v.oneCell' = true) → Gl G.Z → vs.size = args.length → (∀ j (h : j < args.length),VRel G (cm []) (vs.getD j undef) args[j]) →
   Calls P f vs w fun e' w' => ∃ g cap cur,e' = .returned (.slice (some ⟨g,0,none⟩) n cap) ∧ w.heap.size ≤ g ∧ w'.heap[g]? = some (.cells cur e (0,0)) ∧ n ≤ cap ∧ xs.length ≤ cur.size ∧ (∀ j (hj : j < xs.length),cur.getD j undef = xs[j]) ∧ Below w.heap.size w w') :
  AFn P f args [] (.arr 20000 0 n e) [.bc (xs.map .c) e] := fun w G vs hst hvs hargs => by
 have hγ : ∀ k,G.γ k = none := fun k => by
  cases hg : G.γ k with
  | none => rfl
  | some g =>
   obtain ⟨_,_,hb⟩ := hst.box k g hg
   rcases hb with ⟨_,_,h1,_⟩ | ⟨_,_,h1,_⟩ <;> rw [fG] at h1 <;> cases h1
 refine (h w G vs hst.agree hst.gl hvs hargs).mono fun e' w' ⟨g,cap,cur,he,hg,hc,hn,hl,hcs,hb⟩ => ?_
 have hx : ∀ k,cm [.bc (xs.map .c) e] k = if k = 20000 then .bc (xs.map .c) e else .u := fun k => by
  unfold cm
  by_cases hk : 20000 ≤ k
  ·rw [if_pos hk]
   by_cases h2 : k = 20000
   ·subst h2; rfl
   ·rw [if_neg h2,List.getD_eq_getElem?_getD,List.getElem?_eq_none (by simp; omega)]; rfl
  ·rw [if_neg hk,if_neg (by omega)]
 have hz : ∀ o,G.Z g o = none := fun o => by
  cases hz : G.Z g o with
  | none => rfl
  | some v => have := World.block_lt_of_cell? w ⟨g,o,none⟩ (hst.agree g o v hz).1; simp at this; omega
 refine ⟨_,⟨G.Z,fun k => if k = 20000 then some g else none,G.κ⟩,he,.arr 20000 0 n e cap g (xs.map .c) e (by decide) (by rw [hx,if_pos rfl]) (show (if (20000 : Nat) = 20000 then some g else none) = some g from if_pos rfl) hn hm,⟨fun b o v hz' => ?_,fun k g' hk => ?_,fun k cs ty _ hc' => ?_,fun k k' g' hk hk' => ?_,hst.gl⟩,⟨hb.os,hb.tape,hb.output,hb.size,fun b hp _ => hb.block b hp.1⟩,
  ⟨.refl _,fun k _ => by rw [fG]; exact ⟨(fun _ _ hc => by cases hc),(fun _ _ hc => by cases hc)⟩⟩,fun _ _ _ _ => rfl⟩
 ·have := hst.agree b o v hz'
  exact ⟨(hb.cell (p := ⟨b,o,none⟩) (World.block_lt_of_cell? w ⟨b,o,none⟩ this.1)).trans this.1,this.2⟩
 ·have hk' : (if k = 20000 then some g else none) = some g' := hk
  split at hk'
  ·rename_i hk2; subst hk2; cases hk'
   refine ⟨by decide,fun hp => absurd hp.1 (Nat.not_lt.2 hg),.inl ⟨xs.map .c,e,by rw [hx,if_pos rfl],.inl ⟨hm,cur,hc,by unfold FitsC; rw [List.length_map]; exact hl,hz,fun j hj => ?_⟩⟩⟩
   have hj' : j < xs.length := by simpa using hj
   rw [List.getElem_map,hcs j hj']
   exact ⟨.p (.c _),h1 _ (List.getElem_mem hj')⟩
  ·cases hk'
 ·rw [hx] at hc'
  split at hc'
  ·rename_i hk2; exact ⟨g,if_pos hk2⟩
  ·cases hc'
 ·have e1 : (if k = 20000 then some g else none) = some g' := hk
  have e2 : (if k' = 20000 then some g else none) = some g' := hk'
  split at e1
  ·split at e2
   ·omega
   ·cases e2
  ·cases e1
theorem tM {P : Program} {f : FuncId} {e : TypeId} {n m : Nat} {xs ys : List Value} (h1 : ∀ x ∈ ys,x.oneCell' = true) (hmn : m ≤ n)
  (h : ∀ (w : World) (g cap : Nat) (cur : Array Value),w.heap[g]? = some (.cells cur e (0,0)) → n ≤ cap → xs.length ≤ cur.size → (∀ j (hj : j < xs.length),cur.getD j undef = xs[j]) →
   Calls P f #[.slice (some ⟨g,0,none⟩) n cap] w fun e' w' => e' = .returned (.slice (some ⟨g,0,none⟩) m cap) ∧ w.grownBy w' (some g) ∧ ∃ cur',w'.heap[g]? = some (.cells cur' e (0,0)) ∧ ys.length ≤ cur'.size ∧ ∀ j (hj : j < ys.length),cur'.getD j undef = ys[j]) :
  AFn P f [.arr 20000 0 n e] [.bc (xs.map .c) e] (.arr 20000 0 m e) [.bc (ys.map .c) e] := fun w G vs hst hvs hargs => by
 have hv := hargs 0 (by simp)
 simp only [List.getElem_cons_zero] at hv
 obtain ⟨g,cap,cs,ty,ev,hn,_,hB,hg,hm⟩ := iF hv
 have hB' : AV.bc (xs.map .c) e = .bc cs ty := hB
 cases hB'
 have hvs1 : vs = #[.slice (some ⟨g,0,none⟩) n cap] := by
  cases vs with
  | mk l =>
   match l,hvs with
   | [v0],_ => simp at ev; subst ev; rfl
 subst hvs1
 obtain ⟨_,hpr,hbx⟩ := hst.box 20000 g hg
 rcases hbx with ⟨cs1,ty1,q1,⟨q2,cur,q3,q4,q5,q6⟩ | ⟨q2,_⟩⟩ | ⟨_,_,q1,_⟩
 rotate_left
 ·have q1' : AV.bc (xs.map .c) e = .bc cs1 ty1 := q1
  cases q1'; rw [hm] at q2; cases q2
 ·have q1' : AV.bc (xs.map .c) e = .bt _ _ := q1
  cases q1'
 have q1' : AV.bc (xs.map .c) e = .bc cs1 ty1 := q1
 cases q1'
 have hx : ∀ (zs : List Value) k,cm [.bc (zs.map .c) e] k = if k = 20000 then .bc (zs.map .c) e else .u := fun zs k => by
  unfold cm
  by_cases hk : 20000 ≤ k
  ·rw [if_pos hk]
   by_cases h2 : k = 20000
   ·subst h2; rfl
   ·rw [if_neg h2,List.getD_eq_getElem?_getD,List.getElem?_eq_none (by simp; omega)]; rfl
  ·rw [if_neg hk,if_neg (by omega)]
 have honly : ∀ k g',G.γ k = some g' → k = 20000 := fun k g' hk => by
  obtain ⟨hk0,_,hb⟩ := hst.box k g' hk
  apply Classical.byContradiction
  intro hne
  rcases hb with ⟨_,_,h1,_⟩ | ⟨_,_,h1,_⟩ <;> rw [hx,if_neg hne] at h1 <;> cases h1
 refine (h w g cap cur q3 hn (by have : (xs.map AV.c).length ≤ cur.size := q4; simpa using this) fun j hj => ?_).mono fun e' w' ⟨he,hgr,cur',c1,c2,c3⟩ => ?_
 ·have := (q6 j (by simpa using hj)).1
  rw [List.getElem_map] at this
  exact dL this
 refine ⟨_,G,he,.arr 20000 0 m e cap g (ys.map .c) e (by decide) (by rw [hx,if_pos rfl]) hg (by omega) hm,⟨fun b o v hz => ?_,fun k g' hk => ?_,fun k cs ty _ hc' => ?_,hst.inj,hst.gl⟩,⟨hgr.os,hgr.tape,hgr.output,hgr.size,fun b hp _ => hgr.block b hp.1 fun e' => hp.2 20000 (by rw [hg,e'])⟩,
  ⟨.refl _,fun k _ => ?_⟩,fun _ _ _ _ => rfl⟩
 ·have := hst.agree b o v hz
  have hbg : b ≠ g := fun e' => by rw [e',q5] at hz; cases hz
  exact ⟨(World.cell?_of_block (a := ⟨b,o,none⟩) (hgr.block b (World.block_lt_of_cell? w ⟨b,o,none⟩ this.1) fun e' => hbg (by cases e'; rfl))).trans this.1,this.2⟩
 ·have hk20 := honly k g' hk
  subst hk20
  rw [hg] at hk; cases hk
  refine ⟨by decide,hpr,.inl ⟨ys.map .c,e,by rw [hx,if_pos rfl],.inl ⟨hm,cur',c1,by unfold FitsC; rw [List.length_map]; exact c2,q5,fun j hj => ?_⟩⟩⟩
  have hj' : j < ys.length := by simpa using hj
  rw [List.getElem_map,c3 j hj']
  exact ⟨.p (.c _),h1 _ (List.getElem_mem hj')⟩
 ·rw [hx] at hc'
  split at hc'
  ·rename_i hk2; subst hk2; exact ⟨g,hg⟩
  ·cases hc'
 ·rw [hx,hx]
  split
  ·exact ⟨(fun _ _ hc => by cases hc; exact ⟨⟨_,rfl⟩,rfl⟩),(fun _ _ hc => by cases hc)⟩
  ·exact ⟨(fun _ _ hc => by cases hc),(fun _ _ hc => by cases hc)⟩
theorem px {P : Program} {f : FuncId} {args : List AV} {r : AV}
  (h : ∀ (w : World) (G : Gh) (vs : Array Value),(∀ b o v,G.Z b o = some v → w.cell? ⟨b,o,none⟩ = some v ∧ v.oneCell' = true) → Gl G.Z → vs.size = args.length → (∀ j (h : j < args.length),VRel G (cm []) (vs.getD j undef) args[j]) →
   Calls P f vs w fun e w' => ∃ v,e = .returned v ∧ PRel G.Z v r ∧ Below w.heap.size w w') : AFn P f args [] r [] := fun w G vs hst hvs hargs => by
 have hγ : ∀ k,G.γ k = none := fun k => by
  cases hg : G.γ k with
  | none => rfl
  | some g =>
   obtain ⟨_,_,hb⟩ := hst.box k g hg
   rcases hb with ⟨_,_,h1,_⟩ | ⟨_,_,h1,_⟩ <;> rw [fG] at h1 <;> cases h1
 refine (h w G vs hst.agree hst.gl hvs hargs).mono fun e w' ⟨v,he,hr,hb⟩ => ⟨v,G,he,.p hr,⟨fun b o v hz => ?_,fun k g hk => ?_,fun k cs ty _ hc => ?_,fun k k' g hk => ?_,hst.gl⟩,⟨hb.os,hb.tape,hb.output,hb.size,fun b hp _ => hb.block b hp.1⟩,.refl _ _,fun _ _ _ _ => rfl⟩
 ·have := hst.agree b o v hz
  exact ⟨(hb.cell (p := ⟨b,o,none⟩) (World.block_lt_of_cell? w ⟨b,o,none⟩ this.1)).trans this.1,this.2⟩
 ·rw [hγ] at hk; cases hk
 ·rw [fG] at hc; cases hc
 ·rw [hγ] at hk; cases hk
theorem wo {Z : iW} (a : Option Addr) : PRel Z (.slice a 0 0) (.sl [] 0 .full) := .sl a 0 0 0 0 .full [] (fun _ => undef) (.inr ⟨rfl,rfl⟩) (Nat.le_refl _) (fun _ => rfl) (.inl ⟨rfl,rfl⟩) (fun j hj => absurd hj (Nat.not_lt_zero _)) fun j hj => absurd hj (Nat.not_lt_zero _)
abbrev stV (l : Wd) : Value := .string ⟨l.toArray⟩
theorem uU (l : List Wd) : (l.map stV).map AV.c = l.map bs := by simp [List.map_map]
abbrev srt (l : List Wd) : List Wd := l.mergeSort fun x y => decide (x ≤ y)
theorem zy (l : List Wd) : ∀ x ∈ l.map stV,x.oneCell' = true := fun x hx => by
 obtain ⟨y,_,rfl⟩ := List.mem_map.1 hx; rfl
def dQ : Nat → List Nat
 | 0 => [0]
 | 1 => [1]
 | _ => []
set_option maxRecDepth 100000 in
theorem zO (l : List Wd) (b : Bool) : AFn Tryz.prog 66 [.sl (l.map bs) l.length (ofB b)] [] (.fn (.func 155) [] [.rf [.sl (l.map bs) l.length (ofB b)] 0]) [] := by
 cases b <;> simp only [ofB]
 ·refine aM [] Tryz.func66 rfl Tryz.ntmps66 (Nat.le_of_ble_eq_true rfl) (Nat.le_of_ble_eq_true rfl) fun w0 G0 B0 Pr hB0 => ?_
  simp only [aW,aL,List.cons_append,List.nil_append]
  repeat' (first | (with_reducible refine hY _ ?_; clear hY Y) | ((with_reducible first | refine au rfl (ay fun K' hK' => aa ?_) | refine hK' _ (ab fun Y hY => aa ?_) | refine ac tk0 dQ (ab fun Y hY => aa ?_) | refine aa ?_ | refine ax ?_); (try clear hK' K'); (try dsimp only [aop]); try simp only [go_sem,seval,dQ,Tryz.results66]) | (with_reducible first | refine ag ?_ | refine am ?_ | refine aq ?_ | refine aG fun K hK => ?_ | refine aB ?_) | (with_reducible refine hK _ ?_; clear hK K))
 ·refine aM [] Tryz.func66 rfl Tryz.ntmps66 (Nat.le_of_ble_eq_true rfl) (Nat.le_of_ble_eq_true rfl) fun w0 G0 B0 Pr hB0 => ?_
  simp only [aW,aL,List.cons_append,List.nil_append]
  repeat' (first | (with_reducible refine hY _ ?_; clear hY Y) | ((with_reducible first | refine au rfl (ay fun K' hK' => aa ?_) | refine hK' _ (ab fun Y hY => aa ?_) | refine ac tk0 dQ (ab fun Y hY => aa ?_) | refine aa ?_ | refine ax ?_); (try clear hK' K'); (try dsimp only [aop]); try simp only [go_sem,seval,dQ,Tryz.results66]) | (with_reducible first | refine ag ?_ | refine am ?_ | refine aq ?_ | refine aG fun K hK => ?_ | refine aB ?_) | (with_reducible refine hK _ ?_; clear hK K))
theorem ud {G : Gh} {w : World} {vs : Array Value} {l : List Wd} {o : Own} {F : Nat} (hag : ∀ b o v,G.Z b o = some v → w.cell? ⟨b,o,none⟩ = some v ∧ v.oneCell' = true) (hs : vs.size = 1) (h : VRel G (cm []) (vs.getD 0 undef) (.fn (.func F) [] [.rf [.sl (l.map bs) l.length o] 0])) :
  ∃ Bv bo b o cap,∃ sv : Option Addr,vs = #[.func (.func F) #[] #[.pointer (some ⟨Bv,bo,none⟩)]] ∧ (l ≠ [] → sv = some ⟨b,o,none⟩) ∧ w.cell? ⟨Bv,bo,none⟩ = some (.slice sv l.length cap) ∧ ∀ j (hj : j < l.length),w.cell? ⟨b,o + j,none⟩ = some (encStr l[j]) := by
 obtain ⟨va,vb,e0,ha,hb,_,pb⟩ := jL h
 have h1 := pb 0 (by simp)
 simp only [List.getElem_cons_zero] at h1
 obtain ⟨Bv,bo,f,e1,hz,hp⟩ := iZ h1
 have hz0 := hz 0 (by simp)
 have hp0 := hp 0 (by simp)
 simp only [List.getElem_cons_zero] at hp0
 obtain ⟨ad,cap,b1,o1,f1,e2,⟨h2,h3,h4,h5,h6⟩,_,_⟩ := eR (VRel.p (G := G) (B := cm []) hp0)
 refine ⟨Bv,bo,b1,o1,cap,ad,?_,fun hne => ?_,?_,fun j hj => ?_⟩
 ·cases vs with
  | mk lv =>
   match lv,hs with
   | [v0],_ =>
    simp at e0
    subst e0
    congr
    ·cases va with | mk la => simpa using ha
    ·cases vb with
     | mk lb =>
      match lb,hb with
      | [p0],_ => simp at e1; subst e1; simp
 ·rcases h4 with ⟨h4,_⟩ | h4
  ·exact absurd (List.length_eq_zero_iff.1 h4) hne
  ·exact h4
 ·have := (hag _ _ _ hz0).1
  rw [e2] at this
  simpa using this
 ·have hj' : j < (l.map bs).length := by simpa using hj
  have h7 := dL (VRel.p (G := G) (B := cm []) (show PRel G.Z (f1 j) (bs l[j]) from by have := h6 j hj'; rwa [List.getElem_map] at this))
  have := (hag _ _ _ (h5 j hj')).1
  rw [h7] at this
  exact this
set_option maxRecDepth 100000 in
theorem zw (l : List Wd) (o : Own) (hl : l.length ≤ 1000) (hne : l ≠ []) : AFn Tryz.prog 65 [.fn (.func 155) [] [.rf [.sl (l.map bs) l.length o] 0]] [] (.arr 20000 0 l.length 9) [.bc ((srt l).map bs) 9] := by
 rw [← uU (srt l)]
 refine uL (by decide) (zy _) fun w G vs hag hgl hs hargs => ?_
 obtain ⟨Bv,bo,b,o,cap,sv,rfl,ha,hc,hcs⟩ := ud hag hs (hargs 0 (by simp))
 refine ((callsIn_wide (n := 4)).1 (oF 4 (Nat.le_refl _) Bv bo b o cap sv l ha (by unfold maxLen; omega) (by omega) w hc hcs)).mono ?_
 rintro e w' ⟨v,rfl,⟨r0,r1⟩,r2,hb⟩
 rcases r1 with ⟨rfl,_⟩ | ⟨g,cap',cur,rfl,r3,r4,r5,r6,r7,r8⟩
 ·exact absurd (r2.1 rfl) hne
 ·have hlen : (l.mergeSort fun x y => decide (x ≤ y)).length = l.length := List.length_mergeSort _
  refine ⟨g,cap',cur,rfl,r3,r4,r5,by rw [List.length_map,hlen]; omega,fun j hj => ?_,hb⟩
  have hj' : j < l.length := by rw [List.length_map,hlen] at hj; exact hj
  have h1 : (cur.toList.take (l.length * 1))[j]? = ((srt l).map encStr)[j]? := by rw [r8]
  rw [List.getElem?_take_of_lt (by omega),Array.getElem?_toList] at h1
  rw [Array.getD_eq_getD_getElem?,h1]
  rw [List.getElem?_eq_getElem (by simpa using hj)]
  simp
set_option maxRecDepth 100000 in
theorem zx (o : Own) : AFn Tryz.prog 65 [.fn (.func 155) [] [.rf [.sl [] 0 o] 0]] [] (.sl [] 0 .full) [] := by
 refine px fun w G vs hag hgl hs hargs => ?_
 obtain ⟨Bv,bo,b,o,cap,sv,rfl,ha,hc,hcs⟩ := ud (l := []) hag hs (hargs 0 (by simp))
 refine ((callsIn_wide (n := 4)).1 (oF 4 (Nat.le_refl _) Bv bo b o cap sv [] ha (Nat.zero_le _) (Nat.zero_le _) w hc hcs)).mono ?_
 rintro e w' ⟨v,rfl,_,r2,hb⟩
 exact ⟨v,rfl,by rw [r2.2 rfl]; exact wo _,hb⟩
abbrev mJ (l : List Wd) : List Wd := Lib.compact l ++ List.replicate (l.length - (Lib.compact l).length) []
theorem jz (l : List Wd) : (Lib.compact l).length ≤ l.length := by
 unfold Lib.compact Lib.compactUpTo
 rw [List.length_map]
 exact Nat.le_trans (List.length_filter_le _ _) (by simp)
set_option maxRecDepth 100000 in
theorem wZ (l : List Wd) (hl : l.length ≤ 1000) : AFn Tryz.prog 69 [.arr 20000 0 l.length 9] [.bc (l.map bs) 9] (.arr 20000 0 (Lib.compact l).length 9) [.bc ((mJ l).map bs) 9] := by
 rw [← uU l,← uU (mJ l)]
 refine tM (zy _) (jz l) fun w g cap cur hg hn hx hcs => ?_
 have hlx : l.length ≤ cur.size := by simpa using hx
 have ht : cur.toList.take l.length = l.map encStr := by
  apply List.ext_getElem?
  intro j
  by_cases hj : j < l.length
  ·rw [List.getElem?_take_of_lt hj,Array.getElem?_toList]
   have := hcs j (by simpa using hj)
   rw [Array.getD_eq_getD_getElem?,Array.getElem?_eq_getElem (by omega)] at this
   rw [Array.getElem?_eq_getElem (by omega)]
   simp only [Option.getD_some,List.getElem_map] at this
   simp [this,hj]
  ·rw [List.getElem?_take_eq_none (by omega),List.getElem?_eq_none (by simp; omega)]
 refine (Any.slices_Compact_string Tryz.zCompact g 0 cap l w (holds_of_block hg ht) (by omega) hn).mono ?_
 rintro e w' ⟨rfl,q,rfl⟩
 have e1 : Go.Sort.putRow encStr (Go.Sort.ahead w q) g 0 (mJ l).toArray = Go.Sort.grow (Go.Sort.putRow encStr (Go.Sort.ahead w q) g 0 (mJ l).toArray) #[] := (Go.Sort.grow_empty _).symm
 have hk : (mJ l).length = l.length := by rw [List.length_append,List.length_replicate]; have := jz l; omega
 refine ⟨rfl,by rw [e1]; exact grownBy_sorted _,Go.Sort.putCells encStr 0 (mJ l).toArray cur,by rw [e1]; exact heap_sorted _ hg,by simp only [Go.Sort.putCells,Array.size_mapIdx,List.length_map]; omega,fun j hj => ?_⟩
 have hj' : j < (mJ l).length := by simpa using hj
 have h1 := take_putCells cur (mJ l) (by omega)
 have h2 : ((Go.Sort.putCells encStr 0 (mJ l).toArray cur).toList.take (mJ l).length)[j]? = ((mJ l).map encStr)[j]? := by rw [h1]
 rw [List.getElem?_take_of_lt hj',Array.getElem?_toList] at h2
 rw [Array.getD_eq_getD_getElem?,h2,List.getElem?_eq_getElem (by simpa using hj')]
 simp
theorem w5 : AFn Tryz.prog 69 [.sl [] 0 .full] [] (.sl [] 0 .full) [] := by
 refine px fun w G vs hag hgl hs hargs => ?_
 obtain ⟨ad,cap,b,off,f,e0,⟨_,_,_,_,_⟩,hf,_⟩ := eR (hargs 0 (by simp))
 have hcap := hf rfl
 subst hcap
 have : vs = #[.slice ad 0 0] := by
  cases vs with
  | mk l =>
   match l,hs with
   | [v0],_ => simp at e0; subst e0; rfl
 subst this
 refine (Any.slices_Compact_string_empty Tryz.zCompact ad 0 w).mono ?_
 rintro e w' ⟨rfl,rfl⟩
 exact ⟨_,rfl,wo _,.refl _ _⟩
set_option maxRecDepth 100000 in
set_option maxHeartbeats 1000000 in
theorem C5 (n : Nat) (hn : n ≤ 1000) : AFn Tryz.prog 152 [.sl [] 0 .full,inA (n : Int)] [] (.sl [] 0 (.tok 20000)) [.bt 0 9] := fun w G vs hst hvs hargs => by
 have hγ : ∀ k,G.γ k = none := fun k => by
  cases hg : G.γ k with
  | none => rfl
  | some g =>
   obtain ⟨_,_,hb⟩ := hst.box k g hg
   rcases hb with ⟨_,_,h1,_⟩ | ⟨_,_,h1,_⟩ <;> rw [fG] at h1 <;> cases h1
 obtain ⟨ad,cap,b,off,f,e0,⟨q1,q2,q3,q4,q5⟩,hf,_⟩ := eR (hargs 0 (by simp))
 have hcap := hf rfl
 subst hcap
 have e1 := dL (hargs 1 (by simp))
 have hvs2 : vs = #[.slice ad 0 0,.int .i64 (n : Int)] := by
  cases vs with
  | mk l =>
   match l,hvs with
   | [v0,v1],_ => simp at e0 e1; subst e0; subst e1; rfl
 subst hvs2
 have hx : ∀ k,cm [.bt 0 9] k = if k = 20000 then .bt 0 9 else .u := fun k => by
  unfold cm
  by_cases hk : 20000 ≤ k
  ·rw [if_pos hk]
   by_cases h2 : k = 20000
   ·subst h2; rfl
   ·rw [if_neg h2,List.getD_eq_getElem?_getD,List.getElem?_eq_none (by simp; omega)]; rfl
  ·rw [if_neg hk,if_neg (by omega)]
 have hbs : BStep G (cm []) G (cm [.bt 0 9]) := ⟨.refl _,fun k _ => by rw [fG]; exact ⟨(fun _ _ hc => by cases hc),(fun _ _ hc => by cases hc)⟩⟩
 by_cases h0 : n = 0
 ·subst h0
  refine (Any8.slices_Grow_room Tryz.zGrow ad 0 0 0 w (Nat.le_refl _) (by decide) (by decide) (by decide)).mono ?_
  rintro e w' ⟨rfl,rfl⟩
  refine ⟨_,G,rfl,.tok ad 0 0 [] 20000 0 9 (.sl ad b off 0 0 .none [] f (.inl rfl) (Nat.le_refl _) q2 (.inl ⟨rfl,rfl⟩) (fun j hj => absurd hj (Nat.not_lt_zero _)) fun j hj => absurd hj (Nat.not_lt_zero _)) (by decide) (by rw [hx,if_pos rfl]) (Nat.le_refl _) (fun _ => ⟨fun _ => rfl,fun g hg => by rw [hγ] at hg; cases hg⟩),
   ⟨hst.agree,(fun k g hk => by rw [hγ] at hk; cases hk),(fun k cs ty _ hc => by rw [hx] at hc; split at hc <;> cases hc),(fun k k' g hk => by rw [hγ] at hk; cases hk),hst.gl⟩,.refl _ _,hbs,fun _ _ _ _ => rfl⟩
 ·obtain ⟨i0,hi0,hz0,hs0,hb0⟩ : ∃ i0,Tryz.prog.info? 9 = some i0 ∧ i0.zero = some (.string ⟨#[]⟩) ∧ i0.size = 1 ∧ i0.bytes = 16 := ⟨_,rfl,rfl,rfl,rfl⟩
  refine (Any8.slices_Grow_grow Tryz.zGrow i0 (.string ⟨#[]⟩) hi0 hz0 (by omega) ad 0 0 n [] w (Nat.le_refl _) (by omega) (by rw [hb0]; omega) (by omega) (by simp) (fun h => rfl) (fun a _ j v hj => by simp at hj)).mono ?_
  rintro e w' ⟨rfl,rfl⟩
  have hg0 : n ≤ grownCap w (0 + n) 0 9 := by have := grownCap_ge w (0 + n) 0 9; omega
  have hcm : grownCap w (0 + n) 0 9 ≤ maxLen := grownCap_le_maxLen w _ _ _ (by unfold maxLen; omega)
  simp only [show Tryz.zGrow_ren.t 25 = 9 from rfl]
  generalize grownCap w (0 + n) 0 9 = C at *
  have hsz : (#[] ++ Builtin.zeroCells (Value.string ⟨#[]⟩).cells (0 + n - 0) ++ Builtin.zeroCells (Value.string ⟨#[]⟩).cells (C - (0 + n))).size = C * 1 := by
   simp [size_zeroCells,Value.cells]; omega
  generalize (#[] ++ Builtin.zeroCells (Value.string ⟨#[]⟩).cells (0 + n - 0) ++ Builtin.zeroCells (Value.string ⟨#[]⟩).cells (C - (0 + n))) = Zs at *
  have hw1 : (w.drew.alloc (.cells Zs 9)).heap[w.heap.size]? = some (.cells Zs 9 (0,0)) := World.alloc_heap_new w.drew _
  have hb : RowKit.Below w.heap.size w (w.drew.alloc (.cells Zs 9)) := (show RowKit.Below w.heap.size w w.drew from ⟨rfl,rfl,rfl,Nat.le_refl _,fun _ _ => rfl⟩).alloc (Nat.le_refl _) _
  have hz : ∀ o,G.Z w.heap.size o = none := fun o => by
   cases hz : G.Z w.heap.size o with
   | none => rfl
   | some v => have := World.block_lt_of_cell? w ⟨w.heap.size,o,none⟩ (hst.agree _ o v hz).1; simp at this
  generalize w.drew.alloc (.cells Zs 9) = w' at *
  have hcl : Tryz.prog.cellsOf 9 = 1 := by kernel_rfl
  refine ⟨_,⟨G.Z,fun k => if k = 20000 then some w.heap.size else none,fun _ => C⟩,rfl,
   .tok (some ⟨w.heap.size,0,none⟩) 0 C [] 20000 0 9 (.sl (some ⟨w.heap.size,0,none⟩) 0 0 0 C .none [] (fun _ => undef) (.inl rfl) (Nat.zero_le _) (fun e => by cases e) (.inl ⟨rfl,rfl⟩) (fun j hj => absurd hj (Nat.not_lt_zero _)) fun j hj => absurd hj (Nat.not_lt_zero _)) (by decide) (by rw [hx,if_pos rfl]) (Nat.le_refl _)
    (fun _ => ⟨fun h => by have h' : (if (20000 : Nat) = 20000 then some w.heap.size else none) = none := h; simp at h',fun g hg => by have h' : (if (20000 : Nat) = 20000 then some w.heap.size else none) = some g := hg; rw [if_pos rfl] at h'; cases h'; exact ⟨rfl,rfl⟩⟩),
   ⟨fun b o v hz' => ?_,fun k g hk => ?_,(fun k cs ty _ hc => by rw [hx] at hc; split at hc <;> cases hc),fun k k' g hk hk' => ?_,hst.gl⟩,⟨hb.os,hb.tape,hb.output,hb.size,fun b hp _ => hb.block b hp.1⟩,
   ⟨.refl _,fun k _ => by rw [fG]; exact ⟨(fun _ _ hc => by cases hc),(fun _ _ hc => by cases hc)⟩⟩,fun _ _ _ _ => rfl⟩
  ·have := hst.agree b o v hz'
   exact ⟨(hb.cell (p := ⟨b,o,none⟩) (World.block_lt_of_cell? w ⟨b,o,none⟩ this.1)).trans this.1,this.2⟩
  ·have hk' : (if k = 20000 then some w.heap.size else none) = some g := hk
   split at hk'
   ·rename_i hk2; subst hk2; cases hk'
    exact ⟨by decide,fun hp => absurd hp.1 (Nat.lt_irrefl _),.inr ⟨0,9,by rw [hx,if_pos rfl],Zs,hw1,Nat.zero_le _,hcm,by rw [hcl]; exact hsz,fun o _ => hz o⟩⟩
   ·cases hk'
  ·have e1 : (if k = 20000 then some w.heap.size else none) = some g := hk
   have e2 : (if k' = 20000 then some w.heap.size else none) = some g := hk'
   split at e1
   ·split at e2
    ·omega
    ·cases e2
   ·cases e1
end Go.Proofs.YtkjnkkmokojnpaaGreatDoor
