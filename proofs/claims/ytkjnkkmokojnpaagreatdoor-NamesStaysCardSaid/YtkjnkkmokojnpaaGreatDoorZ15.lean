/- The document's names in K: words in lists, procedures, variables. The document's names in K: variables of conditions, assertions; shares. -/
import Derived.Test.YtkjnkkmokojnpaaGreatDoorZ14
import Derived.Test.YtkjnkkmokojnpaaGreatDoorZ8
import Derived.Test.YtkjnkkmokojnpaaGreatDoorZ11
namespace Go.Proofs.YtkjnkkmokojnpaaGreatDoor
set_option linter.unusedSimpArgs false
set_option linter.unusedVariables false
open Go.RowKit
def cU : Nat → List Nat
 | 0 => [0,1]
 | 1 => [0,1]
 | 2 => [0,1,5]
 | 3 => [0,1,5]
 | 4 => [0,1,5]
 | 5 => []
 | 6 => []
 | _ => []
set_option maxRecDepth 100000 in
set_option maxHeartbeats 4000000 in
theorem oY (l : List Wd) (x : Wd) (b : Bool) (hl : Lg l) : AFn Tryz.prog 26 [.sl (l.map bs) l.length (ofB b),bs x] [] (.c (.bool (l.contains x))) [] := by
 unfold Lg at hl
 refine aM [] Tryz.func26 rfl Tryz.ntmps26 (Nat.le_of_ble_eq_true rfl) (Nat.le_of_ble_eq_true rfl) fun w0 G0 B0 Pr hB0 => ?_
 simp only [aW,aL,List.cons_append,List.nil_append]
 repeat' (first | (with_reducible refine hY _ ?_; clear hY Y) | ((with_reducible first | refine au rfl (ay fun K' hK' => aa ?_) | refine hK' _ (ab fun Y hY => aa ?_) | refine ac tk0 cU (ab fun Y hY => aa ?_)); (try clear hK' K'); (try dsimp only [aop]); try simp only [go_sem,seval,cU,Tryz.results26]) | (with_reducible first | refine ag ?_ | refine am ?_ | refine aq ?_ | refine aG fun K hK => ?_ | refine av ?_ | refine bR ?_) | (with_reducible refine hK _ ?_; clear hK K))
 refine bX (α := Nat) (fun k => [(0,.sl (l.map bs) l.length (ofB b)),(1,bs x),(5,inA (k : Int))])
  (fun k => k ≤ l.length ∧ ∀ j (hj : j < l.length),j < k → ¬ l[j] = x) (fun k => l.length - k) 0 [0,1,5] ?_ ⟨Nat.zero_le _,fun j _ hj => absurd hj (Nat.not_lt_zero _)⟩ ?_
 ·simp only [go_sem,seval] <;> rfl
 rintro k ⟨hk,hall⟩ ih
 by_cases hlt : k < l.length
 ·have hlt' : ((k : Int) < (l.length : Int)) = True := eq_true (by omega)
  have hkw := dp (n := k) (by omega)
  have hg0 := i8 (f := bs) hlt
  have hfl : (l.map bs).length = l.length := List.length_map ..
  have hyes : l[k] = x → l.contains x = true := fun e => List.contains_iff_mem.2 (e ▸ List.getElem_mem hlt)
  have hnx : ¬ l[k] = x → ∀ j (hj : j < l.length),j < k + 1 → ¬ l[j] = x := fun e j hj hjk => by
   by_cases hj2 : j < k
   ·exact hall j hj hj2
   ·have : j = k := by omega
    subst this; exact e
  generalize l[k] = t at *
  by_cases he : t = x
  ·rw [hyes he]
   have hb : (t == x) = true := by simpa using he
   clear ih hnx hall hyes
   repeat' (first | (with_reducible refine hY _ ?_; clear hY Y) | ((with_reducible first | refine au rfl (ay fun K' hK' => aa ?_) | refine hK' _ (ab fun Y hY => aa ?_) | refine ab fun Y hY => aa ?_ | refine ac tk0 cU (ab fun Y hY => aa ?_) | refine aa ?_ | refine ax ?_); (try clear hK' K'); (try dsimp only [aop]); try simp only [go_sem,seval,cU,Tryz.results26,hlt',hfl,hg0,hkw,hb]) | (with_reducible first | refine ag ?_ | refine am ?_ | refine aq ?_ | refine aG fun K hK => ?_ | refine az ?_ | refine bh ?_ | refine bp ?_ | refine av ?_ | refine aH ?_ | refine aB ?_) | (with_reducible refine hK _ ?_; clear hK K) | ((with_reducible refine ai ?_ ?_); (· decide)) | (with_reducible refine bm ?_ ?_; (· (try and_intros) <;> first | omega | assumption | (simp only [List.length_append,List.length_map,List.length_cons,List.length_nil] <;> omega))) | (with_reducible refine bv (bW _) ?_))
  ·have hb : (t == x) = false := by simpa using he
   clear hyes
   repeat' (first | (with_reducible refine hY _ ?_; clear hY Y) | ((with_reducible first | refine au rfl (ay fun K' hK' => aa ?_) | refine hK' _ (ab fun Y hY => aa ?_) | refine ab fun Y hY => aa ?_ | refine ac tk0 cU (ab fun Y hY => aa ?_) | refine aa ?_); (try clear hK' K'); (try dsimp only [aop]); try simp only [go_sem,seval,cU,Tryz.results26,hlt',hfl,hg0,hkw,hb]) | (with_reducible first | refine ag ?_ | refine am ?_ | refine aq ?_ | refine aG fun K hK => ?_ | refine az ?_ | refine aA ?_ | refine ba ?_ | refine av ?_ | refine aH ?_) | (with_reducible refine hK _ ?_; clear hK K) | ((with_reducible refine ai ?_ ?_); (· decide)) | (with_reducible refine bm ?_ ?_; (· (try and_intros) <;> first | omega | assumption | (simp only [List.length_append,List.length_map,List.length_cons,List.length_nil] <;> omega))) | (with_reducible refine bv (bW _) ?_))
   refine bg [0,1,5] (by simp only [go_sem,seval]; exact rfl) ?_
   exact ih (k + 1) ⟨by omega,hnx he⟩ (by omega)
 ·have hlt' : ((k : Int) < (l.length : Int)) = False := eq_false (by omega)
  have hR : l.contains x = false := Bool.eq_false_iff.2 fun h => by
   obtain ⟨j,hj,e⟩ := List.getElem_of_mem (List.contains_iff_mem.1 h)
   exact hall j hj (by omega) e
  rw [hR]
  clear ih hall
  repeat' (first | (with_reducible refine hY _ ?_; clear hY Y) | ((with_reducible first | refine au rfl (ay fun K' hK' => aa ?_) | refine hK' _ (ab fun Y hY => aa ?_) | refine ab fun Y hY => aa ?_ | refine ac tk0 cU (ab fun Y hY => aa ?_) | refine aa ?_ | refine ax ?_); (try clear hK' K'); (try dsimp only [aop]); try simp only [go_sem,seval,cU,Tryz.results26,hlt']) | (with_reducible first | refine ag ?_ | refine am ?_ | refine aq ?_ | refine aG fun K hK => ?_ | refine aA ?_ | refine bY ?_ | refine bF ?_ | refine aB ?_ | refine bE ?_) | (with_reducible refine hK _ ?_; clear hK K) | ((with_reducible refine ai ?_ ?_); (· decide)))
theorem tv : ∀ a b : List PE,vEs (a ++ b) = vEs a ++ vEs b
 | [],b => rfl
 | e :: r,b => by rw [List.cons_append,vEs,vEs,tv r b,List.append_assoc]
theorem zN {l : List PE} {k : Nat} (h : k < l.length) : vEs (l.take (k + 1)) = vEs (l.take k) ++ vE l[k] := by
 rw [List.take_succ_eq_append_getElem h,tv]
 simp [vEs]
theorem DP (l : List PE) (k : Nat) : (vEs (l.take k)).length ≤ (vEs l).length := by
 have h : vEs l = vEs (l.take k) ++ vEs (l.drop k) := by rw [← tv,List.take_append_drop]
 rw [h,List.length_append]; omega
def PE.kids : PE → List PE
 | .mk _ _ _ ks => ks
abbrev pw (l : List PE) : Prop := (vEs l).length ≤ 1099511627776 → ∀ b : Bool,AFn Tryz.prog 85 [.sl (cl l) l.length (ofB b)] [] (.sl ((vEs l).map bs) (vEs l).length .none) []
abbrev Cv (l : List PE) : Prop := (vEs l).length ≤ 1099511627776 → ∀ b : Bool,AFn Tryz.prog 85 [.sl (cl l) l.length (ofB b)] [] (.sl ((vEs l).map bs) (vEs l).length (.tok 20000)) [.bt (vEs l).length 9]
def cM : Nat → List Nat
 | 0 => [0]
 | 1 => [0]
 | 2 => [0,3]
 | 3 => [0,3,4]
 | 4 => [0,3,4]
 | 5 => [0,3,4]
 | 6 => [0,3,4]
 | 7 => [0,3,4]
 | 8 => [3]
 | _ => []
set_option maxRecDepth 100000 in
set_option maxHeartbeats 8000000 in
theorem uD (l : List PE) (hl : Lg l) (h : ∀ e ∈ l,pw e.kids) : Cv l := fun hbd b => by
 unfold Lg at hl
 refine aM [10024] Tryz.func85 rfl Tryz.ntmps85 (Nat.le_of_ble_eq_true rfl) (Nat.le_of_ble_eq_true rfl) fun w0 G0 B0 Pr hB0 => ?_
 simp only [aW,aL,List.cons_append,List.nil_append]
 repeat' (first | (with_reducible refine hY _ ?_; clear hY Y) | ((with_reducible first | refine au rfl (ay fun K' hK' => aa ?_) | refine hK' _ (ab fun Y hY => aa ?_) | refine ac tk0 cM (ab fun Y hY => aa ?_)); (try clear hK' K'); (try dsimp only [aop]); try simp only [go_sem,seval,cM,Tryz.results85]) | (with_reducible first | refine ag ?_ | refine am ?_ | refine aq ?_ | refine aG fun K hK => ?_ | refine av ?_ | refine bR ?_) | (with_reducible refine hK _ ?_; clear hK K))
 refine nT (mF (b := 10024) (t := 3) 9 (by decide) (by decide) rfl rfl) ?_
 refine bX (α := Nat) (fun k => [(0,.sl (cl l) l.length (ofB b)),(3,.sl ((vEs (l.take k)).map bs) (vEs (l.take k)).length (.tok 10024)),(4,inA (k : Int)),(10024,.bt (vEs (l.take k)).length 9)])
  (fun k => k ≤ l.length) (fun k => l.length - k) 0 [0,3,4] ?_ (Nat.zero_le _) ?_
 ·simp only [go_sem,seval] <;> rfl
 intro k hk ih
 have hkw := dp (n := k) (by omega)
 by_cases hlt : k < l.length
 ·have hlt' : ((k : Int) < (l.length : Int)) = True := eq_true (by omega)
  have hg0 := nj hlt 0 (by decide)
  have hg2 := nj hlt 2 (by decide)
  have hg3 := nj hlt 3 (by decide)
  have hfl := iH l
  have hst := zN hlt
  have hle := DP l (k + 1)
  have h1 := h l[k] (List.getElem_mem hlt)
  rw [hst,List.length_append] at hle
  generalize l[k] = t at *
  obtain ⟨tk,tn,tx,ts⟩ := t
  simp only [peA,List.getD_cons_succ,List.getD_cons_zero,Nat.add_zero] at hg0 hg2 hg3
  unfold pw PE.kids at h1
  rw [vE] at hst hle
  simp only at h1
  have ihk := ih (k + 1) (by omega) (by omega)
  rw [hst] at ihk
  clear ih h hst
  by_cases hk1 : tk = 1
  ·rw [if_pos hk1] at hle ihk
   rw [List.length_append,List.length_singleton] at hle
   have h1 := h1 (by omega) false
   simp only [ofB] at h1
   generalize vEs (l.take k) = V at *
   generalize vEs ts = U at *
   have hk1' : (tk = 1) = True := eq_true hk1
   repeat' (first | (with_reducible refine hY _ ?_; clear hY Y) | ((with_reducible first | refine au rfl (ay fun K' hK' => aa ?_) | refine hK' _ (ab fun Y hY => aa ?_) | refine ab fun Y hY => aa ?_ | refine ac tk0 cM (ab fun Y hY => aa ?_) | refine aa ?_); (try clear hK' K'); (try dsimp only [aop]); try simp only [go_sem,seval,cM,Tryz.results85,hlt',hfl,hg0,hg2,hg3,hkw,hk1']) | (with_reducible first | refine ag ?_ | refine am ?_ | refine aq ?_ | refine aG fun K hK => ?_ | refine az ?_ | refine ba ?_ | refine av ?_ | refine aH ?_) | (with_reducible refine hK _ ?_; clear hK K) | ((with_reducible refine ai ?_ ?_); (· decide)) | (with_reducible refine bm ?_ ?_; (· (try and_intros) <;> first | omega | assumption | (simp only [List.length_append,List.length_map,List.length_cons,List.length_nil] <;> omega))) | (with_reducible refine ae (h1) ?_))
   refine bg [0,3,4] (by simp only [go_sem,seval]; exact rfl) ?_
   refine db ihk ?_
   simp [List.append_assoc,Nat.add_assoc] <;> omega
  ·rw [if_neg hk1] at hle ihk
   rw [List.nil_append] at hle ihk
   have h1 := h1 (by omega) false
   simp only [ofB] at h1
   generalize vEs (l.take k) = V at *
   generalize vEs ts = U at *
   have hk1' : (tk = 1) = False := eq_false hk1
   repeat' (first | (with_reducible refine hY _ ?_; clear hY Y) | ((with_reducible first | refine au rfl (ay fun K' hK' => aa ?_) | refine hK' _ (ab fun Y hY => aa ?_) | refine ab fun Y hY => aa ?_ | refine ac tk0 cM (ab fun Y hY => aa ?_) | refine aa ?_); (try clear hK' K'); (try dsimp only [aop]); try simp only [go_sem,seval,cM,Tryz.results85,hlt',hfl,hg0,hg2,hg3,hkw,hk1']) | (with_reducible first | refine ag ?_ | refine am ?_ | refine aq ?_ | refine aG fun K hK => ?_ | refine az ?_ | refine aA ?_ | refine ba ?_ | refine av ?_ | refine aH ?_) | (with_reducible refine hK _ ?_; clear hK K) | ((with_reducible refine ai ?_ ?_); (· decide)) | (with_reducible refine bm ?_ ?_; (· (try and_intros) <;> first | omega | assumption | (simp only [List.length_append,List.length_map,List.length_cons,List.length_nil] <;> omega))) | (with_reducible refine ae (h1) ?_))
   refine bg [0,3,4] (by simp only [go_sem,seval]; exact rfl) ?_
   refine db ihk ?_
   simp
 ·have hlt' : ((k : Int) < (l.length : Int)) = False := eq_false (by omega)
  rw [List.take_of_length_le (by omega)]
  clear ih h
  repeat' (first | (with_reducible refine hY _ ?_; clear hY Y) | ((with_reducible first | refine au rfl (ay fun K' hK' => aa ?_) | refine hK' _ (ab fun Y hY => aa ?_) | refine ab fun Y hY => aa ?_ | refine ac tk0 cM (ab fun Y hY => aa ?_) | refine aa ?_ | refine ax ?_); (try clear hK' K'); (try dsimp only [aop]); try simp only [go_sem,seval,cM,Tryz.results85,hlt']) | (with_reducible first | refine ag ?_ | refine am ?_ | refine aq ?_ | refine aG fun K hK => ?_ | refine aA ?_ | refine bY ?_ | refine bF ?_ | refine aB ?_ | refine bE ?_) | (with_reducible refine hK _ ?_; clear hK K) | ((with_reducible refine ai ?_ ?_); (· decide)))
theorem wM (l : List PE) (hl : Lg l) (h : ∀ e ∈ l,pw e.kids) : pw l := fun hbd b => xS (uD l hl h hbd b)
mutual
theorem Ce : ∀ e,OkE e → pw e.kids
 | .mk k n x ks,h => wM ks h.2.2.2.1 (lW ks h.2.2.2.2)
theorem lW : ∀ l,ir l → ∀ e ∈ l,pw e.kids
 | [],_ => fun e he => absurd he List.not_mem_nil
 | a :: l,h => fun e he => (List.mem_cons.1 he).elim (fun q => q ▸ Ce a h.1) (lW l h.2 e)
end
theorem Cf (l : List PE) (hl : Lg l) (ho : ir l) : Cv l := uD l hl (lW l ho)
theorem tA (l : List PE) (hl : Lg l) (ho : ir l) : pw l := wM l hl (lW l ho)
end Go.Proofs.YtkjnkkmokojnpaaGreatDoor
namespace Go.Proofs.YtkjnkkmokojnpaaGreatDoor
set_option linter.unusedSimpArgs false
set_option linter.unusedVariables false
open Go.RowKit
theorem tu : ∀ a b : List PC,vCs (a ++ b) = vCs a ++ vCs b
 | [],b => rfl
 | e :: r,b => by rw [List.cons_append,vCs,vCs,tu r b,List.append_assoc]
theorem zM {l : List PC} {k : Nat} (h : k < l.length) : vCs (l.take (k + 1)) = vCs (l.take k) ++ vC l[k] := by
 rw [List.take_succ_eq_append_getElem h,tu]
 simp [vCs]
theorem DO (l : List PC) (k : Nat) : (vCs (l.take k)).length ≤ (vCs l).length := by
 have h : vCs l = vCs (l.take k) ++ vCs (l.drop k) := by rw [← tu,List.take_append_drop]
 rw [h,List.length_append]; omega
theorem tt : ∀ a b : List PA,vAs (a ++ b) = vAs a ++ vAs b
 | [],b => rfl
 | e :: r,b => by rw [List.cons_append,vAs,vAs,tt r b,List.append_assoc]
theorem zL {l : List PA} {k : Nat} (h : k < l.length) : vAs (l.take (k + 1)) = vAs (l.take k) ++ vA l[k] := by
 rw [List.take_succ_eq_append_getElem h,tt]
 simp [vAs]
theorem DN (l : List PA) (k : Nat) : (vAs (l.take k)).length ≤ (vAs l).length := by
 have h : vAs l = vAs (l.take k) ++ vAs (l.drop k) := by rw [← tt,List.take_append_drop]
 rw [h,List.length_append]; omega
def PC.kids : PC → List PC
 | .mk _ _ ks => ks
def PA.kids : PA → List PA
 | .mk _ _ _ _ _ _ ks => ks
abbrev nM (l : List PC) : Prop := (vCs l).length ≤ 1099511627776 → ∀ b : Bool,AFn Tryz.prog 86 [.sl (dc l) l.length (ofB b)] [] (.sl ((vCs l).map bs) (vCs l).length .none) []
def di : Nat → List Nat
 | 0 => [0]
 | 1 => [0]
 | 2 => [0,3]
 | 3 => [0,3,4]
 | 4 => [0,3,4]
 | 5 => [0,3,4]
 | 6 => [0,3,4]
 | 7 => [3]
 | _ => []
set_option maxRecDepth 100000 in
set_option maxHeartbeats 8000000 in
theorem wK (l : List PC) (hl : Lg l) (ho : l9 l) (h : ∀ e ∈ l,nM e.kids) : nM l := fun hbd b => by
 unfold Lg at hl
 refine aM [] Tryz.func86 rfl Tryz.ntmps86 (Nat.le_of_ble_eq_true rfl) (Nat.le_of_ble_eq_true rfl) fun w0 G0 B0 Pr hB0 => ?_
 simp only [aW,aL,List.cons_append,List.nil_append]
 repeat' (first | (with_reducible refine hY _ ?_; clear hY Y) | ((with_reducible first | refine au rfl (ay fun K' hK' => aa ?_) | refine hK' _ (ab fun Y hY => aa ?_) | refine ac tk0 di (ab fun Y hY => aa ?_)); (try clear hK' K'); (try dsimp only [aop]); try simp only [go_sem,seval,di,Tryz.results86]) | (with_reducible first | refine ag ?_ | refine am ?_ | refine aq ?_ | refine aG fun K hK => ?_ | refine av ?_ | refine bR ?_) | (with_reducible refine hK _ ?_; clear hK K))
 refine nT (mF (b := 10018) (t := 3) 9 (by decide) (by decide) rfl rfl) ?_
 refine bX (α := Nat) (fun k => [(0,.sl (dc l) l.length (ofB b)),(3,.sl ((vCs (l.take k)).map bs) (vCs (l.take k)).length (.tok 10018)),(4,inA (k : Int)),(10018,.bt (vCs (l.take k)).length 9)])
  (fun k => k ≤ l.length) (fun k => l.length - k) 0 [0,3,4] ?_ (Nat.zero_le _) ?_
 ·simp only [go_sem,seval] <;> rfl
 intro k hk ih
 have hkw := dp (n := k) (by omega)
 by_cases hlt : k < l.length
 ·have hlt' : ((k : Int) < (l.length : Int)) = True := eq_true (by omega)
  have hg1 := nh hlt 1 (by decide)
  have hg2 := nh hlt 2 (by decide)
  have hfl := jZ l
  have hst := zM hlt
  have hle := DO l (k + 1)
  have h1 := h l[k] (List.getElem_mem hlt)
  have hok := lh ho l[k] (List.getElem_mem hlt)
  rw [hst,List.length_append] at hle
  generalize l[k] = t at *
  obtain ⟨tk,te,ts⟩ := t
  simp only [ci,List.getD_cons_succ,List.getD_cons_zero] at hg1 hg2
  unfold nM PC.kids at h1
  rw [vC] at hst hle
  rw [List.length_append] at hle
  simp only at h1
  have ihk := ih (k + 1) (by omega) (by omega)
  rw [hst] at ihk
  clear ih h hst
  have h1 := h1 (by omega) false
  have h2 := tA te hok.2.1.1 hok.2.1.2 (by omega) false
  simp only [ofB] at h1 h2
  generalize vCs (l.take k) = V at *
  generalize vCs ts = U at *
  generalize vEs te = W at *
  repeat' (first | (with_reducible refine hY _ ?_; clear hY Y) | ((with_reducible first | refine au rfl (ay fun K' hK' => aa ?_) | refine hK' _ (ab fun Y hY => aa ?_) | refine ab fun Y hY => aa ?_ | refine ac tk0 di (ab fun Y hY => aa ?_) | refine aa ?_); (try clear hK' K'); (try dsimp only [aop]); try simp only [go_sem,seval,di,Tryz.results86,hlt',hfl,hg1,hg2,hkw]) | (with_reducible first | refine ag ?_ | refine am ?_ | refine aq ?_ | refine aG fun K hK => ?_ | refine az ?_ | refine ba ?_ | refine av ?_ | refine aH ?_) | (with_reducible refine hK _ ?_; clear hK K) | ((with_reducible refine ai ?_ ?_); (· decide)) | (with_reducible refine bm ?_ ?_; (· (try and_intros) <;> first | omega | assumption | (simp only [List.length_append,List.length_map,List.length_cons,List.length_nil] <;> omega))) | (with_reducible refine ae (h1) ?_) | (with_reducible refine ae (h2) ?_))
  refine bg [0,3,4] (by simp only [go_sem,seval]; exact rfl) ?_
  refine db ihk ?_
  simp [List.append_assoc,Nat.add_assoc]
 ·have hlt' : ((k : Int) < (l.length : Int)) = False := eq_false (by omega)
  rw [List.take_of_length_le (by omega)]
  clear ih h
  repeat' (first | (with_reducible refine hY _ ?_; clear hY Y) | ((with_reducible first | refine au rfl (ay fun K' hK' => aa ?_) | refine hK' _ (ab fun Y hY => aa ?_) | refine ab fun Y hY => aa ?_ | refine ac tk0 di (ab fun Y hY => aa ?_) | refine aa ?_ | refine ax ?_); (try clear hK' K'); (try dsimp only [aop]); try simp only [go_sem,seval,di,Tryz.results86,hlt']) | (with_reducible first | refine ag ?_ | refine am ?_ | refine aq ?_ | refine aG fun K hK => ?_ | refine aA ?_ | refine bY ?_ | refine bF ?_ | refine aB ?_ | refine bE ?_) | (with_reducible refine hK _ ?_; clear hK K) | ((with_reducible refine ai ?_ ?_); (· decide)))
mutual
theorem Cd : ∀ e,OkC e → nM e.kids
 | .mk k n ks,h => wK ks h.2.2.1 h.2.2.2 (ov ks h.2.2.2)
theorem ov : ∀ l,l9 l → ∀ e ∈ l,nM e.kids
 | [],_ => fun e he => absurd he List.not_mem_nil
 | a :: l,h => fun e he => (List.mem_cons.1 he).elim (fun q => q ▸ Cd a h.1) (ov l h.2 e)
end
theorem wL (l : List PC) (hl : Lg l) (ho : l9 l) : nM l := wK l hl ho (ov l ho)
abbrev nL (l : List PA) : Prop := (vAs l).length ≤ 1099511627776 → ∀ b : Bool,AFn Tryz.prog 29 [.sl (ew l) l.length (ofB b)] [] (.sl ((vAs l).map bs) (vAs l).length .none) []
def cX : Nat → List Nat
 | 0 => [0]
 | 1 => [0]
 | 2 => [0,3]
 | 3 => [0,3,4]
 | 4 => [0,3,4]
 | 5 => [0,3,4]
 | 6 => [0,3,4]
 | 7 => [0,3,4]
 | 8 => [3]
 | _ => []
set_option maxRecDepth 100000 in
set_option maxHeartbeats 8000000 in
theorem wI (l : List PA) (hl : Lg l) (ho : kN l) (h : ∀ e ∈ l,nL e.kids) : nL l := fun hbd b => by
 unfold Lg at hl
 refine aM [] Tryz.func29 rfl Tryz.ntmps29 (Nat.le_of_ble_eq_true rfl) (Nat.le_of_ble_eq_true rfl) fun w0 G0 B0 Pr hB0 => ?_
 simp only [aW,aL,List.cons_append,List.nil_append]
 repeat' (first | (with_reducible refine hY _ ?_; clear hY Y) | ((with_reducible first | refine au rfl (ay fun K' hK' => aa ?_) | refine hK' _ (ab fun Y hY => aa ?_) | refine ac tk0 cX (ab fun Y hY => aa ?_)); (try clear hK' K'); (try dsimp only [aop]); try simp only [go_sem,seval,cX,Tryz.results29]) | (with_reducible first | refine ag ?_ | refine am ?_ | refine aq ?_ | refine aG fun K hK => ?_ | refine av ?_ | refine bR ?_) | (with_reducible refine hK _ ?_; clear hK K))
 refine nT (mF (b := 10019) (t := 3) 9 (by decide) (by decide) rfl rfl) ?_
 refine bX (α := Nat) (fun k => [(0,.sl (ew l) l.length (ofB b)),(3,.sl ((vAs (l.take k)).map bs) (vAs (l.take k)).length (.tok 10019)),(4,inA (k : Int)),(10019,.bt (vAs (l.take k)).length 9)])
  (fun k => k ≤ l.length) (fun k => l.length - k) 0 [0,3,4] ?_ (Nat.zero_le _) ?_
 ·simp only [go_sem,seval] <;> rfl
 intro k hk ih
 have hkw := dp (n := k) (by omega)
 by_cases hlt : k < l.length
 ·have hlt' : ((k : Int) < (l.length : Int)) = True := eq_true (by omega)
  have hg1 := lL hlt 1 3 (by decide)
  have hg4 := lL hlt 4 4 (by decide)
  have hg8 := lL hlt 8 4 (by decide)
  have hg14 := sZ hlt 14 (by decide)
  have hfl := ku l
  have hst := zL hlt
  have hle := DN l (k + 1)
  have h1 := h l[k] (List.getElem_mem hlt)
  have hok := lf ho l[k] (List.getElem_mem hlt)
  rw [hst,List.length_append] at hle
  generalize l[k] = t at *
  obtain ⟨ak,c,e,v,f,n,ts⟩ := t
  unfold nL PA.kids at h1
  rw [vA] at hst hle
  simp only [List.length_append] at hle
  simp only at h1
  obtain ⟨_,hc,he,hv,_⟩ := hok
  have ihk := ih (k + 1) (by omega) (by omega)
  rw [hst] at ihk
  clear ih h hst
  have h1 := h1 (by omega) false
  have e1 : vCs [c] = vC c := by simp [vCs]
  have e2 : vEs [e,v] = vE e ++ vE v := by simp [vEs]
  have h2 := wL [c] (lg1 _) ⟨hc,trivial⟩ (by rw [e1]; omega) true
  have h3 := tA [e,v] (lg2 _ _) ⟨he,hv,trivial⟩ (by rw [e2,List.length_append]; omega) true
  rw [e1,ni] at h2
  rw [e2,pg] at h3
  have e3 : vC c ++ (vE e ++ (vE v ++ vAs ts)) = vC c ++ ((vE e ++ vE v) ++ vAs ts) := by simp
  rw [e3] at ihk
  have hl3 : (vE e ++ vE v).length = (vE e).length + (vE v).length := List.length_append
  generalize vE e ++ vE v = W at *
  generalize vC c = X at *
  generalize vAs (l.take k) = V at *
  generalize vAs ts = U at *
  clear e1 e2 e3 hc he hv
  obtain ⟨ck,ce,cks⟩ := c
  obtain ⟨ek,en,ex,eks⟩ := e
  obtain ⟨vk,vn,vx,vks⟩ := v
  simp only [paA,ci,peA,List.cons_append,List.nil_append,List.getD_cons_succ,List.getD_cons_zero,List.drop_succ_cons,List.drop_zero,List.take_succ_cons,List.take_zero] at hg1 hg4 hg8 hg14
  simp only [ci,peA,ofB,List.length_cons,List.length_nil,Nat.reduceAdd,List.cons_append,List.nil_append] at h1 h2 h3
  repeat' (first | (with_reducible refine hY _ ?_; clear hY Y) | ((with_reducible first | refine au rfl (ay fun K' hK' => aa ?_) | refine hK' _ (ab fun Y hY => aa ?_) | refine ab fun Y hY => aa ?_ | refine ac tk0 cX (ab fun Y hY => aa ?_) | refine aa ?_ | refine cG rfl (cQ fun K' hK' => aa ?_) | refine hK' _ _ (ab fun Y hY => aa ?_)); (try clear hK' K'); (try dsimp only [aop]); try simp only [go_sem,seval,cX,Tryz.results29,hlt',hfl,hg1,hg4,hg8,hg14,hkw]) | (with_reducible first | refine ag ?_ | refine am ?_ | refine aq ?_ | refine aG fun K hK => ?_ | refine az ?_ | refine ba ?_ | refine av ?_ | refine aH ?_ | refine bK ?_ | refine ef fun K hK => ?_) | (with_reducible refine hK _ ?_; clear hK K) | (with_reducible refine hK _ _ ?_ ?_; (· kernel_rfl); clear hK K) | ((with_reducible refine ai ?_ ?_); (· decide)) | (with_reducible refine bV tk0 cX ?_ ?_; (· kernel_rfl)) | (with_reducible refine bm ?_ ?_; (· (try and_intros) <;> first | omega | assumption | (simp only [List.length_append,List.length_map,List.length_cons,List.length_nil] <;> omega))) | (with_reducible refine ae (h1) ?_) | (with_reducible refine ae (h2) ?_) | (with_reducible refine ae (h3) ?_))
  refine bg [0,3,4] (by simp only [go_sem,seval]; exact rfl) ?_
  refine db ihk ?_
  simp [List.append_assoc,Nat.add_assoc]
 ·have hlt' : ((k : Int) < (l.length : Int)) = False := eq_false (by omega)
  rw [List.take_of_length_le (by omega)]
  clear ih h
  repeat' (first | (with_reducible refine hY _ ?_; clear hY Y) | ((with_reducible first | refine au rfl (ay fun K' hK' => aa ?_) | refine hK' _ (ab fun Y hY => aa ?_) | refine ab fun Y hY => aa ?_ | refine ac tk0 cX (ab fun Y hY => aa ?_) | refine aa ?_ | refine ax ?_); (try clear hK' K'); (try dsimp only [aop]); try simp only [go_sem,seval,cX,Tryz.results29,hlt']) | (with_reducible first | refine ag ?_ | refine am ?_ | refine aq ?_ | refine aG fun K hK => ?_ | refine aA ?_ | refine bY ?_ | refine bF ?_ | refine aB ?_ | refine bE ?_) | (with_reducible refine hK _ ?_; clear hK K) | ((with_reducible refine ai ?_ ?_); (· decide)))
mutual
theorem Cc : ∀ e,OkA e → nL e.kids
 | .mk k c e v f n ks,h => wI ks h.2.2.2.2.2.2.1 h.2.2.2.2.2.2.2 (ou ks h.2.2.2.2.2.2.2)
theorem ou : ∀ l,kN l → ∀ e ∈ l,nL e.kids
 | [],_ => fun e he => absurd he List.not_mem_nil
 | a :: l,h => fun e he => (List.mem_cons.1 he).elim (fun q => q ▸ Cc a h.1) (ou l h.2 e)
end
theorem wJ (l : List PA) (hl : Lg l) (ho : kN l) : nL l := wI l hl ho (ou l ho)
end Go.Proofs.YtkjnkkmokojnpaaGreatDoor
