/- The document's names in K: where a procedure stands, what is assigned, shares, statements. -/
import Derived.Test.YtkjnkkmokojnpaaGreatDoorZ15
import Derived.Test.YtkjnkkmokojnpaaGreatDoorZ17
namespace Go.Proofs.YtkjnkkmokojnpaaGreatDoor
set_option linter.unusedSimpArgs false
set_option linter.unusedVariables false
open Go.RowKit
theorem tb {l : List PP} {i : Nat} (h : i < l.length) (j : Nat) (hj : j < 34) : (l.flatMap ppA).getD (i * 34 + j) .u = (ppA l[i]).getD j .u := pV nk h j hj
theorem td {l : List PS'} {i : Nat} (h : i < l.length) (j : Nat) (hj : j < 35) : (du l).getD (i * 35 + j) .u = (psA l[i]).getD j .u := by rw [lN]; exact pV kv h j hj
def cP : Nat → List Nat
 | 0 => [0,1]
 | 1 => [1,2]
 | 2 => [1,2,5]
 | 3 => [1,2,5]
 | 4 => [1,2,5]
 | 5 => [5]
 | 6 => []
 | _ => []
set_option maxRecDepth 100000 in
set_option maxHeartbeats 8000000 in
theorem tZ (ps : List PP) (x : Wd) (hl : Lg ps) : AFn Tryz.prog 25 [.agg [dN ps],bs x] [] (inA (fiP (fun p : PP => p.name == x) ps)) [] := by
 unfold Lg at hl
 refine aM [] Tryz.func25 rfl Tryz.ntmps25 (Nat.le_of_ble_eq_true rfl) (Nat.le_of_ble_eq_true rfl) fun w0 G0 B0 Pr hB0 => ?_
 simp only [aW,aL,List.cons_append,List.nil_append]
 repeat' (first | (with_reducible refine hY _ ?_; clear hY Y) | ((with_reducible first | refine au rfl (ay fun K' hK' => aa ?_) | refine hK' _ (ab fun Y hY => aa ?_) | refine ac tk0 cP (ab fun Y hY => aa ?_)); (try clear hK' K'); (try dsimp only [aop]); try simp only [go_sem,seval,cP,Tryz.results25]) | (with_reducible first | refine ag ?_ | refine am ?_ | refine aq ?_ | refine aG fun K hK => ?_ | refine av ?_ | refine bR ?_) | (with_reducible refine hK _ ?_; clear hK K))
 refine bX (α := Nat) (fun k => [(1,bs x),(2,.loc 10002 0),(5,inA (k : Int)),(10002,.bc [.sl (ps.flatMap ppA) ps.length .none] 24)])
  (fun k => k ≤ ps.length ∧ ∀ j (hj : j < ps.length),j < k → (ps[j].name == x) = false) (fun k => ps.length - k) 0 [1,2,5] ?_ ⟨Nat.zero_le _,fun j _ hj => absurd hj (Nat.not_lt_zero _)⟩ ?_
 ·simp only [go_sem,seval] <;> rfl
 rintro k ⟨hk,hall⟩ ih
 by_cases hlt : k < ps.length
 ·have hlt' : ((k : Int) < (ps.length : Int)) = True := eq_true (by omega)
  have hkw := dp (n := k) (by omega)
  have hg0 := tb hlt 0 (by decide)
  have hfl := gw ps
  have hfi := jU (p := fun p : PP => p.name == x) hlt hall
  have hnx : (ps[k].name == x) = false → ∀ j (hj : j < ps.length),j < k + 1 → (ps[j].name == x) = false := fun e j hj hjk => by
   by_cases hj2 : j < k
   ·exact hall j hj hj2
   ·have : j = k := by omega
    subst this; exact e
  have hg1 : (ps.flatMap ppA).getD (k * 34) .u = bs ps[k].name := by rw [← Nat.add_zero (k * 34),hg0]; rfl
  clear hg0
  generalize ps[k] = t at *
  have hi34 : k * 34 + 0 < ps.length * 34 := by omega
  have hi34' : k * 34 < ps.length * 34 := by omega
  cases hb : (t.name == x) with
  | true =>
   rw [hfi hb]
   clear ih hfi hnx hall
   repeat' (first | (with_reducible refine hY _ ?_; clear hY Y) | ((with_reducible first | refine au rfl (ay fun K' hK' => aa ?_) | refine hK' _ (ab fun Y hY => aa ?_) | refine ab fun Y hY => aa ?_ | refine ac tk0 cP (ab fun Y hY => aa ?_) | refine aa ?_ | refine ax ?_); (try clear hK' K'); (try dsimp only [aop]); try simp only [go_sem,seval,cP,Tryz.results25,hlt',hfl,hg1,hkw,hb]) | (with_reducible first | refine ag ?_ | refine am ?_ | refine aq ?_ | refine aG fun K hK => ?_ | refine az ?_ | refine bh ?_ | refine bp ?_ | refine av ?_ | refine aH ?_ | refine aB ?_) | (with_reducible refine hK _ ?_; clear hK K) | ((with_reducible refine ai ?_ ?_); (· decide)) | (with_reducible refine bm ?_ ?_; (· (try and_intros) <;> first | omega | assumption | (simp only [List.length_append,List.length_map,List.length_cons,List.length_nil] <;> omega))) | (with_reducible refine bv (bW _) ?_))
  | false =>
   clear hfi
   repeat' (first | (with_reducible refine hY _ ?_; clear hY Y) | ((with_reducible first | refine au rfl (ay fun K' hK' => aa ?_) | refine hK' _ (ab fun Y hY => aa ?_) | refine ab fun Y hY => aa ?_ | refine ac tk0 cP (ab fun Y hY => aa ?_) | refine aa ?_); (try clear hK' K'); (try dsimp only [aop]); try simp only [go_sem,seval,cP,Tryz.results25,hlt',hfl,hg1,hkw,hb]) | (with_reducible first | refine ag ?_ | refine am ?_ | refine aq ?_ | refine aG fun K hK => ?_ | refine az ?_ | refine aA ?_ | refine ba ?_ | refine av ?_ | refine aH ?_) | (with_reducible refine hK _ ?_; clear hK K) | ((with_reducible refine ai ?_ ?_); (· decide)) | (with_reducible refine bm ?_ ?_; (· (try and_intros) <;> first | omega | assumption | (simp only [List.length_append,List.length_map,List.length_cons,List.length_nil] <;> omega))) | (with_reducible refine bv (bW _) ?_))
   refine bg [1,2,5] (by simp only [go_sem,seval]; exact rfl) ?_
   exact ih (k + 1) ⟨by omega,hnx hb⟩ (by omega)
 ·have hlt' : ((k : Int) < (ps.length : Int)) = False := eq_false (by omega)
  rw [jV fun j hj => hall j hj (by omega)]
  clear ih hall
  repeat' (first | (with_reducible refine hY _ ?_; clear hY Y) | ((with_reducible first | refine au rfl (ay fun K' hK' => aa ?_) | refine hK' _ (ab fun Y hY => aa ?_) | refine ab fun Y hY => aa ?_ | refine ac tk0 cP (ab fun Y hY => aa ?_) | refine aa ?_ | refine ax ?_); (try clear hK' K'); (try dsimp only [aop]); try simp only [go_sem,seval,cP,Tryz.results25,hlt']) | (with_reducible first | refine ag ?_ | refine am ?_ | refine aq ?_ | refine aG fun K hK => ?_ | refine aA ?_ | refine bY ?_ | refine bF ?_ | refine aB ?_ | refine bE ?_) | (with_reducible refine hK _ ?_; clear hK K) | ((with_reducible refine ai ?_ ?_); (· decide)))
abbrev mB (l : List PS') : Prop := ∀ out : List Wd,(da bZ out l).length ≤ 1099511627776 → AFn Tryz.prog 28 [.sl (du l) l.length .none,.sl (out.map bs) out.length (.tok 20000)] [.bt out.length 9]
 (.sl ((da bZ out l).map bs) (da bZ out l).length (.tok 20000)) [.bt (da bZ out l).length 9]
def br : Nat → List Nat
 | 0 => [0,1]
 | 1 => [0,1]
 | 2 => [0,1,5]
 | 3 => [0,1,5]
 | 4 => [0,1,5]
 | 5 => [0,1,5]
 | 6 => [0,1,5]
 | 7 => [0,1,5]
 | 8 => [1]
 | _ => []
set_option maxRecDepth 100000 in
set_option maxHeartbeats 16000000 in
theorem se (l : List PS') (hl : Lg l) (hb : ∀ s ∈ l,mB s.body) (he : ∀ s ∈ l,mB s.els) : mB l := fun st0 hbd => by
 unfold Lg at hl
 refine aM [] Tryz.func28 rfl Tryz.ntmps28 (Nat.le_of_ble_eq_true rfl) (Nat.le_of_ble_eq_true rfl) fun w0 G0 B0 Pr hB0 => ?_
 simp only [aW,aL,List.cons_append,List.nil_append]
 repeat' (first | (with_reducible refine hY _ ?_; clear hY Y) | ((with_reducible first | refine au rfl (ay fun K' hK' => aa ?_) | refine hK' _ (ab fun Y hY => aa ?_) | refine ac tk0 br (ab fun Y hY => aa ?_)); (try clear hK' K'); (try dsimp only [aop]); try simp only [go_sem,seval,br,Tryz.results28]) | (with_reducible first | refine ag ?_ | refine am ?_ | refine aq ?_ | refine aG fun K hK => ?_ | refine av ?_ | refine bR ?_) | (with_reducible refine hK _ ?_; clear hK K))
 refine bX (α := Nat) (fun k => [(0,.sl (du l) l.length .none),(1,.sl ((da bZ st0 (l.take k)).map bs) (da bZ st0 (l.take k)).length (.tok 20000)),(5,inA (k : Int)),(20000,.bt (da bZ st0 (l.take k)).length 9)])
  (fun k => k ≤ l.length) (fun k => l.length - k) 0 [0,1,5] ?_ (Nat.zero_le _) ?_
 ·simp only [go_sem,seval] <;> rfl
 intro k hk ih
 by_cases hlt : k < l.length
 ·have hlt' : ((k : Int) < (l.length : Int)) = True := eq_true (by omega)
  have hkw := dp (n := k) (by omega)
  have hg1 := td hlt 1 (by decide)
  have hg33 := td hlt 33 (by decide)
  have hg34 := td hlt 34 (by decide)
  have hfl := gx l
  have hst := lR bZ st0 hlt
  have ihk := ih (k + 1) (by omega) (by omega)
  rw [hst] at ihk
  have q0 := nr st0 l (k + 1)
  rw [hst] at q0
  have q1 := nR (da bZ (bZ (da bZ st0 (l.take k)) l[k]) l[k].body) (flL l[k].els)
  have q2 := nR (bZ (da bZ st0 (l.take k)) l[k]) (flL l[k].body)
  change _ ≤ (da bZ (da bZ (bZ (da bZ st0 (l.take k)) l[k]) l[k].body) l[k].els).length at q1
  change _ ≤ (da bZ (bZ (da bZ st0 (l.take k)) l[k]) l[k].body).length at q2
  have q3 := sa (da bZ st0 (l.take k)) l[k].name
  have h1 := lw (args := [.sl ((da bZ st0 (l.take k)).map bs) (da bZ st0 (l.take k)).length (.tok 20000),bs l[k].name]) (bxs := [.bt (da bZ st0 (l.take k)).length 9]) (oY (da bZ st0 (l.take k)) l[k].name false (by unfold Lg bZ at *; omega)) rfl
  have h2 := hb l[k] (List.getElem_mem hlt) (bZ (da bZ st0 (l.take k)) l[k]) (by omega)
  have h3 := he l[k] (List.getElem_mem hlt) (da bZ (bZ (da bZ st0 (l.take k)) l[k]) l[k].body) (by omega)
  clear hb he ih hst
  generalize da bZ (da bZ (bZ (da bZ st0 (l.take k)) l[k]) l[k].body) l[k].els = s3 at *
  generalize da bZ (bZ (da bZ st0 (l.take k)) l[k]) l[k].body = s2 at *
  generalize da bZ st0 (l.take k) = s0 at *
  obtain ⟨s1,hs1⟩ : ∃ s1,s1 = bZ s0 l[k] := ⟨_,rfl⟩
  rw [← hs1] at h2 q2
  unfold bZ oK at hs1
  generalize l[k] = t at *
  obtain ⟨sk,x,y,z,e,v,c,a,rs,gs,fs,bd,els⟩ := t
  have hg1' : (du l).getD (k * 35 + 1) .u = bs x := by rw [hg1]; rfl
  have hg33' : (du l).getD (k * 35 + 33) .u = .sl (du bd) bd.length .none := by rw [hg33,psA]; obtain ⟨ek,en,ex,eks⟩ := e; obtain ⟨vk,vn,vx,vks⟩ := v; obtain ⟨ck,ce,cks⟩ := c; obtain ⟨ak,⟨ack,ace,acks⟩,⟨aek,aen,aex,aeks⟩,⟨avk,avn,avx,avks⟩,af,an,aks⟩ := a; rfl
  have hg34' : (du l).getD (k * 35 + 34) .u = .sl (du els) els.length .none := by rw [hg34,psA]; obtain ⟨ek,en,ex,eks⟩ := e; obtain ⟨vk,vn,vx,vks⟩ := v; obtain ⟨ck,ce,cks⟩ := c; obtain ⟨ak,⟨ack,ace,acks⟩,⟨aek,aen,aex,aeks⟩,⟨avk,avn,avx,avks⟩,af,an,aks⟩ := a; rfl
  clear hg1 hg33 hg34
  simp only [PS'.body,PS'.els,PS'.name] at h1 h2 h3 q3
  change s1 = (if (x.isEmpty || s0.contains x) = true then s0 else s0 ++ [x]) at hs1
  apply fm (α := Unit) (fun _ => [(0,.sl (du l) l.length .none),(1,.sl (s1.map bs) s1.length (.tok 20000)),(5,inA (k : Int)),(20000,.bt s1.length 9)]) (fun _ => True)
  case use =>
   intro key
   by_cases hx : x = []
   ·subst hx
    simp only [List.isEmpty_nil,Bool.true_or,if_true] at hs1
    subst hs1
    repeat' (first | (with_reducible refine hY _ ?_; clear hY Y) | ((with_reducible first | refine au rfl (ay fun K' hK' => aa ?_) | refine hK' _ (ab fun Y hY => aa ?_) | refine bf rfl (ab fun Y hY => aa ?_) | refine ab fun Y hY => aa ?_ | refine aa ?_); (try clear hK' K'); (try dsimp only [aop]); try simp only [go_sem,seval,br,Tryz.results28,hlt',hfl,hg1',hkw]) | (with_reducible first | refine ag ?_ | refine aU rfl ?_ | refine cN ?_ ?_ | refine am ?_ | refine aG fun K hK => ?_ | refine az ?_ | refine aA ?_ | refine av ?_ | refine aH ?_) | ((with_reducible refine bC 6 ?_ ?_); (· rfl)) | ((with_reducible refine aS 6 tk0 br ?_ (ab fun Y hY => aa ?_)); (· rfl); (try dsimp only [aop]); try simp only [go_sem,seval,br,Tryz.results28,hlt',hfl,hg1',hkw]) | (with_reducible refine hK _ ?_; clear hK K) | ((with_reducible first | refine aJ ?_ ?_ | refine ai ?_ ?_); (· decide)) | (with_reducible refine bm ?_ ?_; (· (try and_intros) <;> first | omega | assumption | (simp only [List.length_append,List.length_map,List.length_cons,List.length_nil] <;> omega))) | (with_reducible refine bv (bW _) ?_))
    refine b9 (L := [0,1,5]) (by simp only [go_sem,seval]; exact rfl) ?_
    exact key () trivial
   ·have hx0 : (x == ([] : Wd)) = false := by cases x <;> simp_all
    have hx1 : x.isEmpty = false := by cases x <;> simp_all
    rw [hx1,Bool.false_or] at hs1
    generalize s0.contains x = b at *
    cases b with
    | true =>
     simp only [if_true] at hs1
     subst hs1
     repeat' (first | (with_reducible refine hY _ ?_; clear hY Y) | ((with_reducible first | refine au rfl (ay fun K' hK' => aa ?_) | refine hK' _ (ab fun Y hY => aa ?_) | refine bf rfl (ab fun Y hY => aa ?_) | refine ab fun Y hY => aa ?_ | refine ay fun K' hK' => aa ?_ | refine aa ?_); (try clear hK' K'); (try dsimp only [aop]); try simp only [go_sem,seval,br,Tryz.results28,hlt',hfl,hg1',hkw,hx0]) | (with_reducible first | refine ag ?_ | refine aK ?_ | refine am ?_ | refine aG fun K hK => ?_ | refine az ?_ | refine aA ?_ | refine av ?_ | refine aH ?_) | ((with_reducible refine bC 6 ?_ ?_); (· rfl)) | ((with_reducible refine aS 6 tk0 br ?_ (ab fun Y hY => aa ?_)); (· rfl); (try dsimp only [aop]); try simp only [go_sem,seval,br,Tryz.results28,hlt',hfl,hg1',hkw,hx0]) | (with_reducible refine hK _ ?_; clear hK K) | ((with_reducible first | refine aJ ?_ ?_ | refine ai ?_ ?_); (· decide)) | (with_reducible refine bm ?_ ?_; (· (try and_intros) <;> first | omega | assumption | (simp only [List.length_append,List.length_map,List.length_cons,List.length_nil] <;> omega))) | (with_reducible refine ae (h1) ?_) | (with_reducible refine bv (bW _) ?_))
     refine b9 (L := [0,1,5]) (by simp only [go_sem,seval]; exact rfl) ?_
     exact key () trivial
    | false =>
     simp only [Bool.false_eq_true,if_false] at hs1
     subst hs1
     rw [List.length_append,List.length_singleton] at q2
     repeat' (first | (with_reducible refine hY _ ?_; clear hY Y) | ((with_reducible first | refine au rfl (ay fun K' hK' => aa ?_) | refine hK' _ (ab fun Y hY => aa ?_) | refine bf rfl (ab fun Y hY => aa ?_) | refine ab fun Y hY => aa ?_ | refine ay fun K' hK' => aa ?_ | refine aa ?_); (try clear hK' K'); (try dsimp only [aop]); try simp only [go_sem,seval,br,Tryz.results28,hlt',hfl,hg1',hkw,hx0]) | (with_reducible first | refine ag ?_ | refine aK ?_ | refine am ?_ | refine aG fun K hK => ?_ | refine az ?_ | refine av ?_ | refine aH ?_) | ((with_reducible refine bC 6 ?_ ?_); (· rfl)) | ((with_reducible refine aS 6 tk0 br ?_ (ab fun Y hY => aa ?_)); (· rfl); (try dsimp only [aop]); try simp only [go_sem,seval,br,Tryz.results28,hlt',hfl,hg1',hkw,hx0]) | (with_reducible refine hK _ ?_; clear hK K) | ((with_reducible first | refine aJ ?_ ?_ | refine ai ?_ ?_); (· decide)) | (with_reducible refine bm ?_ ?_; (· (try and_intros) <;> first | omega | assumption | (simp only [List.length_append,List.length_map,List.length_cons,List.length_nil] <;> omega))) | (with_reducible refine ae (h1) ?_) | (with_reducible refine bv (bW _) ?_))
     refine b9 (L := [0,1,5]) (by simp only [go_sem,seval]; exact rfl) ?_
     refine jy (key () trivial) ?_
     simp
  case key =>
  intro _ _
  clear h1 hs1
  repeat' (first | (with_reducible refine hY _ ?_; clear hY Y) | ((with_reducible first | refine au rfl (ay fun K' hK' => aa ?_) | refine hK' _ (ab fun Y hY => aa ?_) | refine ac tk0 br (ab fun Y hY => aa ?_) | refine aa ?_); (try clear hK' K'); (try dsimp only [aop]); try simp only [go_sem,seval,br,Tryz.results28,hlt',hfl,hg33',hg34',hkw]) | (with_reducible first | refine ag ?_ | refine am ?_ | refine aq ?_ | refine aG fun K hK => ?_ | refine ba ?_) | (with_reducible refine hK _ ?_; clear hK K) | (with_reducible refine bm ?_ ?_; (· (try and_intros) <;> first | omega | assumption | (simp only [List.length_append,List.length_map,List.length_cons,List.length_nil] <;> omega))) | (with_reducible refine ae (h2) ?_) | (with_reducible refine ae (h3) ?_))
  refine bg [0,1,5] (by simp only [go_sem,seval]; exact rfl) ?_
  exact ihk
 ·have hlt' : ((k : Int) < (l.length : Int)) = False := eq_false (by omega)
  rw [List.take_of_length_le (by omega)]
  clear ih hb he
  repeat' (first | (with_reducible refine hY _ ?_; clear hY Y) | ((with_reducible first | refine au rfl (ay fun K' hK' => aa ?_) | refine hK' _ (ab fun Y hY => aa ?_) | refine ab fun Y hY => aa ?_ | refine ac tk0 br (ab fun Y hY => aa ?_) | refine aa ?_ | refine ax ?_); (try clear hK' K'); (try dsimp only [aop]); try simp only [go_sem,seval,br,Tryz.results28,hlt']) | (with_reducible first | refine ag ?_ | refine am ?_ | refine aq ?_ | refine aG fun K hK => ?_ | refine aA ?_ | refine bY ?_ | refine bF ?_ | refine aB ?_ | refine bE ?_) | (with_reducible refine hK _ ?_; clear hK K) | ((with_reducible refine ai ?_ ?_); (· decide)))
mutual
theorem zW : ∀ s,OkS s → mB s.body ∧ mB s.els
 | .mk k x f y e v c a rs gs fs b l,h => ⟨se b h.2.2.2.2.2.2.2.2.2.2.2.1.1 (fun s hs => (iu b h.2.2.2.2.2.2.2.2.2.2.2.1.2 s hs).1) (fun s hs => (iu b h.2.2.2.2.2.2.2.2.2.2.2.1.2 s hs).2),
   se l h.2.2.2.2.2.2.2.2.2.2.2.2.1 (fun s hs => (iu l h.2.2.2.2.2.2.2.2.2.2.2.2.2 s hs).1) (fun s hs => (iu l h.2.2.2.2.2.2.2.2.2.2.2.2.2 s hs).2)⟩
theorem iu : ∀ l,gr l → ∀ s ∈ l,mB s.body ∧ mB s.els
 | [],_ => fun e he => absurd he List.not_mem_nil
 | a :: l,h => gj (P := fun s : PS' => mB s.body ∧ mB s.els) (zW a h.1) (iu l h.2)
end
theorem wV (l : List PS') (hl : Lg l) (ho : gr l) (hb : (jK [] l).length ≤ 1099511627776) : AFn Tryz.prog 28 [.sl (du l) l.length .none,.sl [] 0 .full] [] (.sl ((jK [] l).map bs) (jK [] l).length .none) [] :=
 wO (se l hl (fun s hs => (iu l ho s hs).1) (fun s hs => (iu l ho s hs).2) [] hb)
abbrev jx (e : PA) : Prop := AFn Tryz.prog 30 [.agg (paA e)] [] (.c (.bool (fE e))) []
def cf : Nat → List Nat
 | 0 => [0]
 | 1 => [1]
 | 2 => []
 | 3 => [1]
 | 4 => [1,3]
 | 5 => [1,3]
 | 6 => [1,3]
 | 7 => [1,3,4]
 | 8 => []
 | 9 => []
 | _ => []
set_option maxRecDepth 100000 in
set_option maxHeartbeats 8000000 in
theorem zb (k : Int) (c : PC) (e v : PE) (f : Wd) (n : Int) (ks : List PA) (hks : Lg ks) (h : ∀ e ∈ ks,jx e) : jx (.mk k c e v f n ks) := by
 unfold jx
 unfold Lg at hks
 obtain ⟨R,hR⟩ : ∃ R,R = fE (.mk k c e v f n ks) := ⟨_,rfl⟩
 rw [← hR]
 rw [fE] at hR
 obtain ⟨ck,ce,cks⟩ := c
 obtain ⟨ek,en,ex,eks⟩ := e
 obtain ⟨vk,vn,vx,vks⟩ := v
 simp only [paA,ci,peA,List.cons_append,List.nil_append]
 obtain ⟨B,hB⟩ : ∃ B,B = x6 k n := ⟨_,rfl⟩
 rw [← hB] at hR
 unfold x6 at hB
 refine aM [] Tryz.func30 rfl Tryz.ntmps30 (Nat.le_of_ble_eq_true rfl) (Nat.le_of_ble_eq_true rfl) fun w0 G0 B0 Pr hB0 => ?_
 simp only [aW,aL,List.cons_append,List.nil_append]
 apply fm (α := Int × Int) (fun q => [(1,.loc 10001 0),(10001,.bc [inA q.1,inA ck,.sl (cl ce) ce.length .none,.sl (dc cks) cks.length .none,inA ek,inA en,bs ex,.sl (cl eks) eks.length .none,inA vk,inA vn,bs vx,.sl (cl vks) vks.length .none,bs f,inA q.2,.sl (ew ks) ks.length .none] 54)])
  (fun _ => B = false)
 case use =>
  intro key
  repeat' (first | (with_reducible refine hY _ ?_; clear hY Y) | ((with_reducible first | refine au rfl (ay fun K' hK' => aa ?_) | refine hK' _ (ab fun Y hY => aa ?_) | refine bf rfl (ab fun Y hY => aa ?_) | refine ab fun Y hY => aa ?_ | refine ay fun K' hK' => aa ?_ | refine aa ?_ | refine ax ?_); (try clear hK' K'); (try dsimp only [aop]); try simp only [go_sem,seval,cf,Tryz.results30]) | (with_reducible first | refine ag ?_ | refine aU rfl ?_ | refine aK ?_ | refine eN ?_ | refine cN ?_ ?_ | refine am ?_ | refine aG fun K hK => ?_ | refine az ?_ | refine aA ?_ | refine bh ?_ | refine aH ?_ | refine aB ?_) | ((with_reducible refine bC 3 ?_ ?_); (· rfl)) | ((with_reducible refine aS 3 tk0 cf ?_ (ab fun Y hY => aa ?_)); (· rfl); (try dsimp only [aop]); try simp only [go_sem,seval,cf,Tryz.results30]) | (with_reducible refine hK _ ?_; clear hK K) | ((with_reducible first | refine aJ ?_ ?_ | refine ai ?_ ?_); (· decide)) | ((with_reducible first | refine bP (fun hc => ?_) (fun hc => ?_) | refine fi (fun hc => ?_) (fun hc => ?_)) <;> (try simp only [decide_eq_true_eq,decide_eq_false_iff_not,Bool.not_true,Bool.not_false,Bool.not_eq_true',Bool.not_eq_false'] at hc) <;> (try (exfalso; omega))))
  all_goals first | (refine b9 (L := [1]) (by simp only [go_sem,seval]; exact rfl) ?_; exact key (k,n) (by clear key hR; rw [hB]; simp_all <;> omega)) | skip
  all_goals (clear key; rw [hR,hB]; clear hR hB; simp_all <;> omega)
 case key =>
 rintro ⟨k',n'⟩ hB0
 simp only
 rw [hB0,Bool.false_or] at hR
 clear hB hB0
 repeat' (first | (with_reducible refine hY _ ?_; clear hY Y) | ((with_reducible first | refine au rfl (ay fun K' hK' => aa ?_) | refine hK' _ (ab fun Y hY => aa ?_) | refine ac tk0 cf (ab fun Y hY => aa ?_)); (try clear hK' K'); (try dsimp only [aop]); try simp only [go_sem,seval,cf,Tryz.results30]) | (with_reducible first | refine ag ?_ | refine am ?_ | refine aq ?_ | refine aG fun K hK => ?_ | refine av ?_ | refine bR ?_) | (with_reducible refine hK _ ?_; clear hK K))
 refine bX (α := Nat) (fun i => [(1,.loc 10001 0),(3,inA (i : Int)),(10001,.bc [inA k',inA ck,.sl (cl ce) ce.length .none,.sl (dc cks) cks.length .none,inA ek,inA en,bs ex,.sl (cl eks) eks.length .none,inA vk,inA vn,bs vx,.sl (cl vks) vks.length .none,bs f,inA n',.sl (ew ks) ks.length .none] 54)])
  (fun i => i ≤ ks.length ∧ ∀ j (hj : j < ks.length),j < i → fE ks[j] = false) (fun i => ks.length - i) 0 [1,3] ?_ ⟨Nat.zero_le _,fun j _ hj => absurd hj (Nat.not_lt_zero _)⟩ ?_
 ·simp only [go_sem,seval] <;> rfl
 rintro i ⟨hi,hall⟩ ih
 by_cases hlt : i < ks.length
 ·have hlt' : ((i : Int) < (ks.length : Int)) = True := eq_true (by omega)
  have hkw := dp (n := i) (by omega)
  have hg0 := qr hlt
  have hfl := ku ks
  have h2 := h ks[i] (List.getElem_mem hlt)
  unfold jx at h2
  have hyes : fE ks[i] = true → R = true := fun e => by rw [hR,kr]; exact List.any_eq_true.2 ⟨ks[i],List.getElem_mem hlt,e⟩
  have hnx : fE ks[i] = false → ∀ j (hj : j < ks.length),j < i + 1 → fE ks[j] = false := fun e j hj hjk => by
   by_cases hj2 : j < i
   ·exact hall j hj hj2
   ·have : j = i := by omega
    subst this; exact e
  generalize hp : fE ks[i] = b at *
  generalize ks[i] = t at *
  obtain ⟨tk,⟨tck,tce,tcks⟩,⟨tek,ten,tex,teks⟩,⟨tvk,tvn,tvx,tvks⟩,tf,tn,tks⟩ := t
  simp only [paA,ci,peA,List.cons_append,List.nil_append] at hg0 h2
  clear h hR
  cases b with
  | true =>
   rw [hyes rfl]
   clear ih hall hnx hyes
   repeat' (first | (with_reducible refine hY _ ?_; clear hY Y) | ((with_reducible first | refine au rfl (ay fun K' hK' => aa ?_) | refine hK' _ (ab fun Y hY => aa ?_) | refine ab fun Y hY => aa ?_ | refine ac tk0 cf (ab fun Y hY => aa ?_) | refine aa ?_ | refine ax ?_); (try clear hK' K'); (try dsimp only [aop]); try simp only [go_sem,seval,cf,Tryz.results30,hlt',hfl,hg0,hkw]) | (with_reducible first | refine ag ?_ | refine am ?_ | refine aq ?_ | refine aG fun K hK => ?_ | refine az ?_ | refine bh ?_ | refine bp ?_ | refine av ?_ | refine aH ?_ | refine aB ?_) | (with_reducible refine hK _ ?_; clear hK K) | ((with_reducible refine ai ?_ ?_); (· decide)) | (with_reducible refine bm ?_ ?_; (· (try and_intros) <;> first | omega | assumption | (simp only [List.length_append,List.length_map,List.length_cons,List.length_nil] <;> omega))) | (with_reducible refine ae (h2) ?_))
  | false =>
   clear hyes
   repeat' (first | (with_reducible refine hY _ ?_; clear hY Y) | ((with_reducible first | refine au rfl (ay fun K' hK' => aa ?_) | refine hK' _ (ab fun Y hY => aa ?_) | refine ab fun Y hY => aa ?_ | refine ac tk0 cf (ab fun Y hY => aa ?_) | refine aa ?_); (try clear hK' K'); (try dsimp only [aop]); try simp only [go_sem,seval,cf,Tryz.results30,hlt',hfl,hg0,hkw]) | (with_reducible first | refine ag ?_ | refine am ?_ | refine aq ?_ | refine aG fun K hK => ?_ | refine az ?_ | refine aA ?_ | refine ba ?_ | refine av ?_ | refine aH ?_) | (with_reducible refine hK _ ?_; clear hK K) | ((with_reducible refine ai ?_ ?_); (· decide)) | (with_reducible refine bm ?_ ?_; (· (try and_intros) <;> first | omega | assumption | (simp only [List.length_append,List.length_map,List.length_cons,List.length_nil] <;> omega))) | (with_reducible refine ae (h2) ?_))
   refine bg [1,3] (by simp only [go_sem,seval]; exact rfl) ?_
   exact ih (i + 1) ⟨by omega,hnx rfl⟩ (by omega)
 ·have hlt' : ((i : Int) < (ks.length : Int)) = False := eq_false (by omega)
  have hRf : R = false := by
   rw [hR,kr,List.any_eq_false]
   intro x hx
   obtain ⟨j,hj,rfl⟩ := List.getElem_of_mem hx
   rw [hall j hj (by omega)]; simp
  rw [hRf]
  clear ih h hall hR hRf
  repeat' (first | (with_reducible refine hY _ ?_; clear hY Y) | ((with_reducible first | refine au rfl (ay fun K' hK' => aa ?_) | refine hK' _ (ab fun Y hY => aa ?_) | refine ab fun Y hY => aa ?_ | refine ac tk0 cf (ab fun Y hY => aa ?_) | refine aa ?_ | refine ax ?_); (try clear hK' K'); (try dsimp only [aop]); try simp only [go_sem,seval,cf,Tryz.results30,hlt']) | (with_reducible first | refine ag ?_ | refine am ?_ | refine aq ?_ | refine aG fun K hK => ?_ | refine aA ?_ | refine bY ?_ | refine bF ?_ | refine aB ?_ | refine bE ?_) | (with_reducible refine hK _ ?_; clear hK K) | ((with_reducible refine ai ?_ ?_); (· decide)))
mutual
theorem ng : ∀ e,OkA e → jx e
 | .mk k c e v f n ks,h => zb k c e v f n ks h.2.2.2.2.2.2.1 (qo ks h.2.2.2.2.2.2.2)
theorem qo : ∀ l,kN l → ∀ e ∈ l,jx e
 | [],_ => fun e he => absurd he List.not_mem_nil
 | a :: l,h => gj (ng a h.1) (qo l h.2)
end
end Go.Proofs.YtkjnkkmokojnpaaGreatDoor
