/- The document's texts in K: numbers, expressions, conditions. The document's texts in K: conditions. -/
import Derived.Test.YtkjnkkmokojnpaaGreatDoorZ41
import Derived.Test.YtkjnkkmokojnpaaGreatDoorZ13
import Derived.Test.YtkjnkkmokojnpaaGreatDoorZ32
import Derived.Test.YtkjnkkmokojnpaaGreatDoorZ11
namespace Go.Proofs.YtkjnkkmokojnpaaGreatDoor
set_option linter.unusedSimpArgs false
set_option linter.unusedVariables false
open Go.RowKit
abbrev dgD : ByteArray := ⟨#[48,49,50,51,52,53,54,55,56,57]⟩
theorem yt : ∀ m : Nat,m < 10 → dgD.extract m (m + 1) = ⟨#[UInt8.ofNat (48 + m)]⟩ := by decide
def cV : Nat → List Nat
 | 0 => [0]
 | 1 => [0]
 | 2 => [0]
 | 3 => [0]
 | 4 => [0,3]
 | 5 => [0,3]
 | 6 => [0,3]
 | _ => []
set_option maxRecDepth 100000 in
set_option maxHeartbeats 4000000 in
theorem yu (m : Nat) (hm : m ≤ 1073741824) (hl : (dec (m / 10)).length ≤ 1000000000000) (h : 10 ≤ m → AFn Tryz.prog 89 [inA ((m / 10 : Nat) : Int)] [] (bs (dec (m / 10))) []) : AFn Tryz.prog 89 [inA (m : Int)] [] (bs (dec m)) [] := by
 have h0 : ((m : Int) < 0) = False := eq_false (by omega)
 by_cases hlt : m < 10
 ·have h1 : ((m : Int) < 10) = True := eq_true (by omega)
  have hw : IntKind.i64.wrap ((m : Int) + 1) = ((m + 1 : Nat) : Int) := by rw [cF (by omega) (by omega)]; rfl
  have he := yt m hlt
  rw [CY hlt]
  refine aM [] Tryz.func89 rfl Tryz.ntmps89 (Nat.le_of_ble_eq_true rfl) (Nat.le_of_ble_eq_true rfl) fun w0 G0 B0 Pr hB0 => ?_
  simp only [aW,aL,List.cons_append,List.nil_append]
  repeat' (first | (with_reducible refine hY _ ?_; clear hY Y) | ((with_reducible first | refine au rfl (ay fun K' hK' => aa ?_) | refine hK' _ (ab fun Y hY => aa ?_) | refine ab fun Y hY => aa ?_ | refine ac tk0 cV (ab fun Y hY => aa ?_) | refine aa ?_ | refine ax ?_); (try clear hK' K'); (try dsimp only [aop]); try simp only [go_sem,seval,cV,Tryz.results89,h0,h1,hw,he]) | (with_reducible first | refine ag ?_ | refine am ?_ | refine aq ?_ | refine aG fun K hK => ?_ | refine az ?_ | refine aA ?_ | refine bh ?_ | refine aH ?_ | refine aB ?_) | (with_reducible refine hK _ ?_; clear hK K) | ((with_reducible refine ai ?_ ?_); (· decide)) | (with_reducible refine bm ?_ ?_; (· (try and_intros) <;> first | omega | assumption | (simp only [List.length_append,List.length_map,List.length_cons,List.length_nil] <;> omega))))
 ·have h1 : ((m : Int) < 10) = False := eq_false (by omega)
  have h2 := h (by omega)
  have hq : IntKind.i64.wrap ((m : Int).tdiv 10) = ((m / 10 : Nat) : Int) := by
   have e : (m : Int).tdiv 10 = ((m / 10 : Nat) : Int) := Int.ofNat_tdiv m 10
   rw [e,cF (by omega) (by omega)]
  have hr : (m : Int).tmod 10 = ((m % 10 : Nat) : Int) := Int.ofNat_tmod m 10
  have hw : IntKind.i64.wrap (((m % 10 : Nat) : Int) + 1) = ((m % 10 + 1 : Nat) : Int) := by rw [cF (by omega) (by omega)]; rfl
  have he := yt (m % 10) (by omega)
  rw [CX (by omega)]
  have hlt := Nat.mod_lt m (y := 10) (by decide)
  clear h
  generalize dec (m / 10) = D at *
  generalize m / 10 = q at *
  generalize m % 10 = r at *
  refine aM [] Tryz.func89 rfl Tryz.ntmps89 (Nat.le_of_ble_eq_true rfl) (Nat.le_of_ble_eq_true rfl) fun w0 G0 B0 Pr hB0 => ?_
  simp only [aW,aL,List.cons_append,List.nil_append]
  repeat' (first | (with_reducible refine hY _ ?_; clear hY Y) | ((with_reducible first | refine au rfl (ay fun K' hK' => aa ?_) | refine hK' _ (ab fun Y hY => aa ?_) | refine ab fun Y hY => aa ?_ | refine ac tk0 cV (ab fun Y hY => aa ?_) | refine aa ?_ | refine ax ?_ | refine cG rfl (cQ fun K' hK' => aa ?_) | refine hK' _ _ (ab fun Y hY => aa ?_)); (try clear hK' K'); (try dsimp only [aop]); try simp only [go_sem,seval,cV,Tryz.results89,h0,h1,hq,hr,hw,he]) | (with_reducible first | refine ag ?_ | refine am ?_ | refine aq ?_ | refine aG fun K hK => ?_ | refine aA ?_ | refine aH ?_ | refine aB ?_ | refine bK ?_ | refine ef fun K hK => ?_) | (with_reducible refine hK _ ?_; clear hK K) | (with_reducible refine hK _ _ ?_ ?_; (· kernel_rfl); clear hK K) | ((with_reducible refine ai ?_ ?_); (· decide)) | (with_reducible refine bV tk0 cV ?_ ?_; (· kernel_rfl)) | (with_reducible refine bm ?_ ?_; (· (try and_intros) <;> first | omega | assumption | (simp only [List.length_append,List.length_map,List.length_cons,List.length_nil] <;> omega))) | (with_reducible refine ae (h2) ?_) | (with_reducible refine bv (cD _ _ ?_) ?_; (· (try simp only [List.length_append,List.length_cons,List.length_nil]); omega)))
theorem pN : ∀ f m : Nat,m < f → m ≤ 1073741824 → AFn Tryz.prog 89 [inA (m : Int)] [] (bs (dec m)) []
 | 0,m,h,_ => absurd h (Nat.not_lt_zero _)
 | f + 1,m,h,hm => yu m hm (by have := oW (n := m / 10) (by omega); omega) fun h10 => pN f (m / 10) (by omega) (by omega)
set_option maxRecDepth 100000 in
set_option maxHeartbeats 4000000 in
theorem mM {n : Int} (h : iC n = true) : AFn Tryz.prog 89 [inA n] [] (bs (dg n)) [] := by
 unfold iC at h
 simp only [Bool.and_eq_true,decide_eq_true_eq] at h
 by_cases hn : n < 0
 ·have h1 := pN _ (-n).toNat (Nat.lt_succ_self _) (by omega)
  have hl := oW (n := (-n).toNat) (by omega)
  rw [CZ hn]
  have h0 : (n < 0) = True := eq_true hn
  have hw : IntKind.i64.wrap (0 - n) = (((-n).toNat : Nat) : Int) := by rw [cF (by omega) (by omega)]; omega
  generalize (-n).toNat = m at *
  generalize dec m = D at *
  refine aM [] Tryz.func89 rfl Tryz.ntmps89 (Nat.le_of_ble_eq_true rfl) (Nat.le_of_ble_eq_true rfl) fun w0 G0 B0 Pr hB0 => ?_
  simp only [aW,aL,List.cons_append,List.nil_append]
  repeat' (first | (with_reducible refine hY _ ?_; clear hY Y) | ((with_reducible first | refine au rfl (ay fun K' hK' => aa ?_) | refine hK' _ (ab fun Y hY => aa ?_) | refine ab fun Y hY => aa ?_ | refine ac tk0 cV (ab fun Y hY => aa ?_) | refine aa ?_ | refine ax ?_); (try clear hK' K'); (try dsimp only [aop]); try simp only [go_sem,seval,cV,Tryz.results89,h0,hw]) | (with_reducible first | refine ag ?_ | refine am ?_ | refine aq ?_ | refine aG fun K hK => ?_ | refine az ?_ | refine bh ?_ | refine aB ?_) | (with_reducible refine hK _ ?_; clear hK K) | ((with_reducible refine ai ?_ ?_); (· decide)) | (with_reducible refine ae (h1) ?_) | (with_reducible refine bv (cD _ _ ?_) ?_; (· (try simp only [List.length_append,List.length_cons,List.length_nil]); omega)))
 ·have h1 := pN _ n.toNat (Nat.lt_succ_self _) (by omega)
  rw [C0 hn]
  rw [show ((n.toNat : Nat) : Int) = n by omega] at h1
  exact h1
structure TxE (e : PE) : Prop where
 len : (bb (tkE e)).length ≤ 1000000000000
 tells : AFn Tryz.prog 88 [.agg (peA e)] [] (bs (bb (tkE e))) []
structure TxI (e : PE) : Prop where
 len : (bb (mf e)).length ≤ 1000000000000
 tells : AFn Tryz.prog 168 [.agg (peA e)] [] (bs (bb (mf e))) []
def de : Nat → List Nat
 | 0 => [0]
 | 1 => [1]
 | 2 => [1]
 | 3 => [1]
 | _ => []
set_option maxRecDepth 100000 in
set_option maxHeartbeats 4000000 in
theorem w9 (e : PE) (h : TxE e) (hl : (bb (mf e)).length ≤ 1000000000000) : TxI e := by
 refine ⟨hl,?_⟩
 obtain ⟨h1,h2⟩ := h
 by_cases hk : e.kind = 2 ∨ e.kind = 3
 ·rw [EW hk]
  obtain ⟨k,n,x,ks⟩ := e
  simp only [PE.kind] at hk
  generalize bb (tkE (.mk k n x ks)) = T at *
  simp only [peA] at h2 ⊢
  generalize cl ks = KS at *
  rcases hk with rfl | rfl
  ·refine aM [] Tryz.func168 rfl Tryz.ntmps168 (Nat.le_of_ble_eq_true rfl) (Nat.le_of_ble_eq_true rfl) fun w0 G0 B0 Pr hB0 => ?_
   simp only [aW,aL,List.cons_append,List.nil_append]
   repeat' (first | (with_reducible refine hY _ ?_; clear hY Y) | ((with_reducible first | refine au rfl (ay fun K' hK' => aa ?_) | refine hK' _ (ab fun Y hY => aa ?_) | refine bf rfl (ab fun Y hY => aa ?_) | refine ab fun Y hY => aa ?_ | refine ac tk0 de (ab fun Y hY => aa ?_) | refine aa ?_ | refine ax ?_); (try clear hK' K'); (try dsimp only [aop]); try simp only [go_sem,seval,de,Tryz.results168]) | (with_reducible first | refine ag ?_ | refine aU rfl ?_ | refine cN ?_ ?_ | refine am ?_ | refine aq ?_ | refine aG fun K hK => ?_ | refine az ?_ | refine bh ?_ | refine aB ?_) | (with_reducible refine hK _ ?_; clear hK K) | ((with_reducible first | refine aJ ?_ ?_ | refine ai ?_ ?_); (· decide)) | (with_reducible refine ae (h2) ?_) | (with_reducible refine bv (cD _ _ ?_) ?_; (· (try simp only [List.length_append,List.length_cons,List.length_nil]); omega)))
  ·refine aM [] Tryz.func168 rfl Tryz.ntmps168 (Nat.le_of_ble_eq_true rfl) (Nat.le_of_ble_eq_true rfl) fun w0 G0 B0 Pr hB0 => ?_
   simp only [aW,aL,List.cons_append,List.nil_append]
   repeat' (first | (with_reducible refine hY _ ?_; clear hY Y) | ((with_reducible first | refine au rfl (ay fun K' hK' => aa ?_) | refine hK' _ (ab fun Y hY => aa ?_) | refine bf rfl (ab fun Y hY => aa ?_) | refine ab fun Y hY => aa ?_ | refine ay fun K' hK' => aa ?_ | refine ac tk0 de (ab fun Y hY => aa ?_) | refine aa ?_ | refine ax ?_); (try clear hK' K'); (try dsimp only [aop]); try simp only [go_sem,seval,de,Tryz.results168]) | (with_reducible first | refine ag ?_ | refine aK ?_ | refine am ?_ | refine aq ?_ | refine aG fun K hK => ?_ | refine az ?_ | refine bh ?_ | refine aB ?_) | (with_reducible refine hK _ ?_; clear hK K) | ((with_reducible first | refine aJ ?_ ?_ | refine ai ?_ ?_); (· decide)) | (with_reducible refine ae (h2) ?_) | (with_reducible refine bv (cD _ _ ?_) ?_; (· (try simp only [List.length_append,List.length_cons,List.length_nil]); omega)))
 ·rw [DM hk]
  obtain ⟨k,n,x,ks⟩ := e
  simp only [PE.kind] at hk
  generalize bb (tkE (.mk k n x ks)) = T at *
  simp only [peA] at h2 ⊢
  generalize cl ks = KS at *
  have k2 : (k = 2) = False := eq_false (by omega)
  have k3 : (k = 3) = False := eq_false (by omega)
  refine aM [] Tryz.func168 rfl Tryz.ntmps168 (Nat.le_of_ble_eq_true rfl) (Nat.le_of_ble_eq_true rfl) fun w0 G0 B0 Pr hB0 => ?_
  simp only [aW,aL,List.cons_append,List.nil_append]
  repeat' (first | (with_reducible refine hY _ ?_; clear hY Y) | ((with_reducible first | refine au rfl (ay fun K' hK' => aa ?_) | refine hK' _ (ab fun Y hY => aa ?_) | refine bf rfl (ab fun Y hY => aa ?_) | refine ab fun Y hY => aa ?_ | refine ay fun K' hK' => aa ?_ | refine ac tk0 de (ab fun Y hY => aa ?_) | refine aa ?_ | refine ax ?_); (try clear hK' K'); (try dsimp only [aop]); try simp only [go_sem,seval,de,Tryz.results168,k2,k3]) | (with_reducible first | refine ag ?_ | refine aK ?_ | refine am ?_ | refine aq ?_ | refine aG fun K hK => ?_ | refine aA ?_ | refine aH ?_ | refine aB ?_) | (with_reducible refine hK _ ?_; clear hK K) | ((with_reducible first | refine aJ ?_ ?_ | refine ai ?_ ?_); (· decide)) | (with_reducible refine ae (h2) ?_))
theorem rR {A B : List AV} {n : Nat} (hA : A.length = n) (hB : B.length = n) : (A ++ B).take n = A ∧ ((A ++ B).drop n).take n = B ∧ (A ++ B).length = n + n := by
 subst hA
 refine ⟨by simp,by rw [List.drop_left]; rw [← hB,List.take_length],by simp [hB]⟩
def CG : PE → List PE
 | .mk _ _ _ ks => ks
def bL : Nat → List Nat
 | 0 => [0]
 | 1 => [1]
 | 2 => [1,5]
 | 3 => [1]
 | 4 => [1,5]
 | 5 => [1]
 | 6 => [1,5]
 | 7 => [1]
 | 8 => [1]
 | 9 => [1,3]
 | 10 => [1]
 | 11 => [1,3]
 | _ => []
set_option maxRecDepth 100000 in
set_option maxHeartbeats 8000000 in
theorem BU (e : PE) (hs : seE e = true) (hl : (bb (tkE e)).length ≤ 1000000000000) (hk : ∀ a ∈ CG e,TxE a ∧ TxI a) : TxE e := by
 refine ⟨hl,?_⟩
 obtain ⟨k,n,x,ks⟩ := e
 rw [seE,Bool.and_eq_true] at hs
 obtain ⟨hs,_⟩ := hs
 unfold sy at hs
 simp only [CG] at hk
 by_cases k0 : k = 0
 ·subst k0
  simp only [if_true,Bool.and_eq_true] at hs
  have h1 := mM hs.1
  have e1 : bb (tkE (.mk 0 n x ks)) = dg n := by rw [tkE,if_pos rfl]
  rw [e1]
  simp only [peA]
  generalize cl ks = KS at *
  generalize dg n = D at *
  refine aM [] Tryz.func88 rfl Tryz.ntmps88 (Nat.le_of_ble_eq_true rfl) (Nat.le_of_ble_eq_true rfl) fun w0 G0 B0 Pr hB0 => ?_
  simp only [aW,aL,List.cons_append,List.nil_append]
  repeat' (first | (with_reducible refine hY _ ?_; clear hY Y) | ((with_reducible first | refine au rfl (ay fun K' hK' => aa ?_) | refine hK' _ (ab fun Y hY => aa ?_) | refine ab fun Y hY => aa ?_ | refine ac tk0 bL (ab fun Y hY => aa ?_) | refine aa ?_ | refine ax ?_); (try clear hK' K'); (try dsimp only [aop]); try simp only [go_sem,seval,bL,Tryz.results88]) | (with_reducible first | refine ag ?_ | refine am ?_ | refine aq ?_ | refine aG fun K hK => ?_ | refine az ?_ | refine bh ?_ | refine bp ?_ | refine av ?_ | refine aB ?_) | (with_reducible refine hK _ ?_; clear hK K) | ((with_reducible refine ai ?_ ?_); (· decide)) | (with_reducible refine ae (h1) ?_))
 rw [if_neg k0] at hs
 by_cases k1 : k = 1
 ·subst k1
  have e1 : bb (tkE (.mk 1 n x ks)) = x := by rw [tkE,if_neg (by decide),if_pos rfl]; rfl
  rw [e1]
  simp only [peA]
  generalize cl ks = KS at *
  refine aM [] Tryz.func88 rfl Tryz.ntmps88 (Nat.le_of_ble_eq_true rfl) (Nat.le_of_ble_eq_true rfl) fun w0 G0 B0 Pr hB0 => ?_
  simp only [aW,aL,List.cons_append,List.nil_append]
  repeat' (first | (with_reducible refine hY _ ?_; clear hY Y) | ((with_reducible first | refine au rfl (ay fun K' hK' => aa ?_) | refine hK' _ (ab fun Y hY => aa ?_) | refine ab fun Y hY => aa ?_ | refine ac tk0 bL (ab fun Y hY => aa ?_) | refine aa ?_ | refine ax ?_); (try clear hK' K'); (try dsimp only [aop]); try simp only [go_sem,seval,bL,Tryz.results88]) | (with_reducible first | refine ag ?_ | refine am ?_ | refine aq ?_ | refine aG fun K hK => ?_ | refine az ?_ | refine aA ?_ | refine bh ?_ | refine bp ?_ | refine av ?_ | refine aB ?_) | (with_reducible refine hK _ ?_; clear hK K) | ((with_reducible refine ai ?_ ?_); (· decide)))
 rw [if_neg k1] at hs
 by_cases k23 : k = 2 ∨ k = 3
 ·rw [if_pos k23] at hs
  simp only [Bool.and_eq_true,decide_eq_true_eq] at hs
  obtain ⟨a,b,rfl⟩ : ∃ a b,ks = [a,b] := by
   match ks,hs.2.2 with
   | [a,b],_ => exact ⟨a,b,rfl⟩
  have ha := (hk a (by simp)).1
  have hb := (hk b (by simp)).2
  rw [DK k23]
  obtain ⟨la,ca⟩ := ha
  obtain ⟨lb,cb⟩ := hb
  have e2 : cl [a,b] = peA a ++ peA b := by simp [cl]
  obtain ⟨q1,q2,q3⟩ := rR (fS a) (fS b)
  have na := (dF a).nm3
  have ra := (dF a).rn3
  have nb := (dF b).nm3
  have rb := (dF b).rn3
  simp only [peA,e2]
  generalize peA a ++ peA b = KS at *
  generalize peA a = A at *
  generalize peA b = B at *
  generalize bb (tkE a) = TA at *
  generalize bb (mf b) = TB at *
  clear hk e2
  rcases k23 with rfl | rfl
  ·rw [if_neg (by decide)]
   refine aM [] Tryz.func88 rfl Tryz.ntmps88 (Nat.le_of_ble_eq_true rfl) (Nat.le_of_ble_eq_true rfl) fun w0 G0 B0 Pr hB0 => ?_
   simp only [aW,aL,List.cons_append,List.nil_append]
   repeat' (first | (with_reducible refine hY _ ?_; clear hY Y) | ((with_reducible first | refine au rfl (ay fun K' hK' => aa ?_) | refine hK' _ (ab fun Y hY => aa ?_) | refine ab fun Y hY => aa ?_ | refine ac tk0 bL (ab fun Y hY => aa ?_) | refine aa ?_ | refine ax ?_ | refine cG rfl (cQ fun K' hK' => aa ?_) | refine hK' _ _ (ab fun Y hY => aa ?_)); (try clear hK' K'); (try dsimp only [aop]); try simp only [go_sem,seval,bL,Tryz.results88,q1,q2,q3,na,ra,nb,rb]) | (with_reducible first | refine ag ?_ | refine am ?_ | refine aq ?_ | refine aG fun K hK => ?_ | refine aA ?_ | refine ba ?_ | refine av ?_ | refine aH ?_ | refine aB ?_ | refine bK ?_ | refine ef fun K hK => ?_) | (with_reducible refine hK _ ?_; clear hK K) | (with_reducible refine hK _ _ ?_ ?_; (· kernel_rfl); clear hK K) | ((with_reducible refine ai ?_ ?_); (· decide)) | (with_reducible refine bV tk0 bL ?_ ?_; (· kernel_rfl)) | (with_reducible refine bm ?_ ?_; (· (try and_intros) <;> first | omega | assumption | (simp only [List.length_append,List.length_map,List.length_cons,List.length_nil] <;> omega))) | (with_reducible refine ae (ca) ?_) | (with_reducible refine ae (cb) ?_) | (with_reducible refine bv (cD _ _ ?_) ?_; (· (try simp only [List.length_append,List.length_cons,List.length_nil]); omega)))
  ·rw [if_pos rfl]
   refine aM [] Tryz.func88 rfl Tryz.ntmps88 (Nat.le_of_ble_eq_true rfl) (Nat.le_of_ble_eq_true rfl) fun w0 G0 B0 Pr hB0 => ?_
   simp only [aW,aL,List.cons_append,List.nil_append]
   repeat' (first | (with_reducible refine hY _ ?_; clear hY Y) | ((with_reducible first | refine au rfl (ay fun K' hK' => aa ?_) | refine hK' _ (ab fun Y hY => aa ?_) | refine ab fun Y hY => aa ?_ | refine ac tk0 bL (ab fun Y hY => aa ?_) | refine aa ?_ | refine ax ?_ | refine cG rfl (cQ fun K' hK' => aa ?_) | refine hK' _ _ (ab fun Y hY => aa ?_)); (try clear hK' K'); (try dsimp only [aop]); try simp only [go_sem,seval,bL,Tryz.results88,q1,q2,q3,na,ra,nb,rb]) | (with_reducible first | refine ag ?_ | refine am ?_ | refine aq ?_ | refine aG fun K hK => ?_ | refine az ?_ | refine aA ?_ | refine ba ?_ | refine av ?_ | refine aH ?_ | refine aB ?_ | refine bK ?_ | refine ef fun K hK => ?_) | (with_reducible refine hK _ ?_; clear hK K) | (with_reducible refine hK _ _ ?_ ?_; (· kernel_rfl); clear hK K) | ((with_reducible refine ai ?_ ?_); (· decide)) | (with_reducible refine bV tk0 bL ?_ ?_; (· kernel_rfl)) | (with_reducible refine bm ?_ ?_; (· (try and_intros) <;> first | omega | assumption | (simp only [List.length_append,List.length_map,List.length_cons,List.length_nil] <;> omega))) | (with_reducible refine ae (ca) ?_) | (with_reducible refine ae (cb) ?_) | (with_reducible refine bv (cD _ _ ?_) ?_; (· (try simp only [List.length_append,List.length_cons,List.length_nil]); omega)))
 rw [if_neg k23] at hs
 by_cases k4 : k = 4
 ·subst k4
  simp only [if_true,Bool.and_eq_true,decide_eq_true_eq] at hs
  obtain ⟨a,rfl⟩ : ∃ a,ks = [a] := by
   match ks,hs.2.2 with
   | [a],_ => exact ⟨a,rfl⟩
  obtain ⟨la,ca⟩ := (hk a (by simp)).2
  have h1 := mM hs.1
  have hd := uZ hs.1
  rw [EJ]
  have e2 : cl [a] = peA a := by simp [cl]
  have na := (dF a).nm3
  have ra := (dF a).rn3
  have q1 := fS a
  have q2 : (peA a).take 4 = peA a := List.take_of_length_le (by omega)
  simp only [peA,e2]
  generalize peA a = A at *
  generalize bb (mf a) = TA at *
  generalize dg n = D at *
  clear hk e2
  refine aM [] Tryz.func88 rfl Tryz.ntmps88 (Nat.le_of_ble_eq_true rfl) (Nat.le_of_ble_eq_true rfl) fun w0 G0 B0 Pr hB0 => ?_
  simp only [aW,aL,List.cons_append,List.nil_append]
  repeat' (first | (with_reducible refine hY _ ?_; clear hY Y) | ((with_reducible first | refine au rfl (ay fun K' hK' => aa ?_) | refine hK' _ (ab fun Y hY => aa ?_) | refine ab fun Y hY => aa ?_ | refine ac tk0 bL (ab fun Y hY => aa ?_) | refine aa ?_ | refine ax ?_ | refine cG rfl (cQ fun K' hK' => aa ?_) | refine hK' _ _ (ab fun Y hY => aa ?_)); (try clear hK' K'); (try dsimp only [aop]); try simp only [go_sem,seval,bL,Tryz.results88,q1,q2,na,ra]) | (with_reducible first | refine ag ?_ | refine am ?_ | refine aq ?_ | refine aG fun K hK => ?_ | refine az ?_ | refine aA ?_ | refine bh ?_ | refine bp ?_ | refine av ?_ | refine aB ?_ | refine bK ?_ | refine ef fun K hK => ?_) | (with_reducible refine hK _ ?_; clear hK K) | (with_reducible refine hK _ _ ?_ ?_; (· kernel_rfl); clear hK K) | ((with_reducible refine ai ?_ ?_); (· decide)) | (with_reducible refine bV tk0 bL ?_ ?_; (· kernel_rfl)) | (with_reducible refine bm ?_ ?_; (· (try and_intros) <;> first | omega | assumption | (simp only [List.length_append,List.length_map,List.length_cons,List.length_nil] <;> omega))) | (with_reducible refine ae (h1) ?_) | (with_reducible refine ae (ca) ?_) | (with_reducible refine bv (cD _ _ ?_) ?_; (· (try simp only [List.length_append,List.length_cons,List.length_nil]); omega)))
 ·rw [if_neg k4] at hs; cases hs
mutual
theorem nH : ∀ e,seE e = true → nE e ≤ 1000000000 → TxE e ∧ TxI e
 | .mk k n x ks,hs,hn => by
  have hl := kE (.mk k n x ks) hs
  have h1 := fY (tkE (.mk k n x ks))
  have h2 := fY (mf (.mk k n x ks))
  have h3 := sF ((PE.mk k n x ks).kind,tkE (.mk k n x ks))
  have hs2 : hI ks = true := by rw [seE,Bool.and_eq_true] at hs; exact hs.2
  have hn2 : nEs ks ≤ 1000000000 := by rw [nE] at hn; omega
  have h4 := BU (.mk k n x ks) hs (by omega) (kd ks hs2 hn2)
  exact ⟨h4,w9 _ h4 (by unfold mf at *; dsimp only at h3; omega)⟩
theorem kd : ∀ l,hI l = true → nEs l ≤ 1000000000 → ∀ a ∈ l,TxE a ∧ TxI a
 | [],_,_ => fun e he => absurd he List.not_mem_nil
 | e :: r,hs,hn => fun a ha => by
  rw [hI,Bool.and_eq_true] at hs
  rw [nEs] at hn
  exact (List.mem_cons.1 ha).elim (fun q => q ▸ nH e hs.1 (by omega)) (kd r hs.2 (by omega) a)
end
theorem BT : TxE (.mk 0 0 [] []) := (nH (.mk 0 0 [] []) (by decide) (by decide)).1
end Go.Proofs.YtkjnkkmokojnpaaGreatDoor
namespace Go.Proofs.YtkjnkkmokojnpaaGreatDoor
set_option linter.unusedSimpArgs false
set_option linter.unusedVariables false
open Go.RowKit
structure TxC (c : PC) : Prop where
 len : (bb (tkC c)).length ≤ 1000000000000
 tells : AFn Tryz.prog 87 [.agg (ci c)] [] (bs (bb (tkC c))) []
structure TxX (c : PC) : Prop where
 len : ∀ b,(bb (ie b (tkC c))).length ≤ 1000000000000
 tells : ∀ b,AFn Tryz.prog 167 [.agg (ci c),.c (.bool b)] [] (bs (bb (ie b (tkC c)))) []
def dU : Nat → List Nat
 | 0 => [0,1]
 | 1 => [1,2]
 | 2 => [2]
 | 3 => [2]
 | _ => []
set_option maxRecDepth 100000 in
set_option maxHeartbeats 4000000 in
theorem x9 (c : PC) (h : TxC c) (hl : ∀ b,(bb (ie b (tkC c))).length ≤ 1000000000000) : TxX c := by
 refine ⟨hl,fun b => ?_⟩
 obtain ⟨h1,h2⟩ := h
 rw [DL]
 obtain ⟨k,e,ks⟩ := c
 generalize bb (tkC (.mk k e ks)) = T at *
 simp only [ci] at h2 ⊢
 generalize cl e = ES at *
 generalize dc ks = KS at *
 cases b
 ·simp only [Bool.false_eq_true,if_false]
  refine aM [] Tryz.func167 rfl Tryz.ntmps167 (Nat.le_of_ble_eq_true rfl) (Nat.le_of_ble_eq_true rfl) fun w0 G0 B0 Pr hB0 => ?_
  simp only [aW,aL,List.cons_append,List.nil_append]
  repeat' (first | (with_reducible refine hY _ ?_; clear hY Y) | ((with_reducible first | refine au rfl (ay fun K' hK' => aa ?_) | refine hK' _ (ab fun Y hY => aa ?_) | refine ab fun Y hY => aa ?_ | refine ac tk0 dU (ab fun Y hY => aa ?_) | refine aa ?_ | refine ax ?_); (try clear hK' K'); (try dsimp only [aop]); try simp only [go_sem,seval,dU,Tryz.results167]) | (with_reducible first | refine ag ?_ | refine am ?_ | refine aq ?_ | refine aG fun K hK => ?_ | refine aA ?_ | refine aH ?_ | refine aB ?_) | (with_reducible refine hK _ ?_; clear hK K) | ((with_reducible refine ai ?_ ?_); (· decide)) | (with_reducible refine ae (h2) ?_))
 ·simp only [if_true]
  refine aM [] Tryz.func167 rfl Tryz.ntmps167 (Nat.le_of_ble_eq_true rfl) (Nat.le_of_ble_eq_true rfl) fun w0 G0 B0 Pr hB0 => ?_
  simp only [aW,aL,List.cons_append,List.nil_append]
  repeat' (first | (with_reducible refine hY _ ?_; clear hY Y) | ((with_reducible first | refine au rfl (ay fun K' hK' => aa ?_) | refine hK' _ (ab fun Y hY => aa ?_) | refine ab fun Y hY => aa ?_ | refine ac tk0 dU (ab fun Y hY => aa ?_) | refine aa ?_ | refine ax ?_); (try clear hK' K'); (try dsimp only [aop]); try simp only [go_sem,seval,dU,Tryz.results167]) | (with_reducible first | refine ag ?_ | refine am ?_ | refine aq ?_ | refine aG fun K hK => ?_ | refine az ?_ | refine bh ?_ | refine aB ?_) | (with_reducible refine hK _ ?_; clear hK K) | ((with_reducible refine ai ?_ ?_); (· decide)) | (with_reducible refine ae (h2) ?_) | (with_reducible refine bv (cD _ _ ?_) ?_; (· (try simp only [List.length_append,List.length_cons,List.length_nil]); omega)))
theorem ta : ∀ (c : PC) (r : List AV) ,(ci c ++ r).getD 0 .u = inA c.kind
 | .mk k e ks,r => by simp [ci,PC.kind]
theorem uo (a b : PC) : (ci a ++ ci b).getD 3 .u = inA b.kind := by
 obtain ⟨k,e,ks⟩ := a
 obtain ⟨k',e',ks'⟩ := b
 simp [ci,PC.kind]
theorem CD {c : PC} (h : c.kind = 7) : hi7 c = true := by simp [hi7,h]
theorem yG {c : PC} (h : c.kind = 8) : hi7 c = true := by simp [hi7,h]
theorem CB {c : PC} (h : ¬ c.kind = 7) (h' : ¬ c.kind = 8) : hi7 c = false := by simp [hi7,h,h']
def aI : Nat → List Nat
 | 0 => [0]
 | 1 => [1]
 | 2 => [1,5]
 | 3 => []
 | 4 => [1,5]
 | 5 => []
 | 6 => [1,5]
 | 7 => [1]
 | 8 => [1,5]
 | 9 => [1]
 | 10 => [1,5]
 | 11 => [1]
 | 12 => [1]
 | 13 => [1,3]
 | 14 => [1,3,87]
 | 15 => [1]
 | 16 => [1,3,87]
 | 17 => [1]
 | 18 => [1,3,87]
 | 19 => [1]
 | 20 => [1,3]
 | _ => []
set_option maxRecDepth 100000 in
set_option maxHeartbeats 8000000 in
theorem BR (k : Int) (hk : k = 2 ∨ k = 3 ∨ k = 4 ∨ k = 5) (a b : PE) (ha : TxE a) (hb : TxE b) : AFn Tryz.prog 87 [.agg (ci (.mk k [a,b] []))] [] (bs (bb (tkC (.mk k [a,b] [])))) [] := by
 rw [EI hk]
 obtain ⟨la,ca⟩ := ha
 obtain ⟨lb,cb⟩ := hb
 have e2 : cl [a,b] = peA a ++ peA b := by simp [cl]
 obtain ⟨q1,q2,q3⟩ := rR (fS a) (fS b)
 have na := (dF a).nm3
 have ra := (dF a).rn3
 have nb := (dF b).nm3
 have rb := (dF b).rn3
 simp only [ci,e2,dc]
 generalize peA a ++ peA b = KS at *
 generalize peA a = A at *
 generalize peA b = B at *
 generalize bb (tkE a) = TA at *
 generalize bb (tkE b) = TB at *
 clear e2
 rcases hk with rfl | rfl | rfl | rfl
 ·have : opT 2 = [32,61,61,32] := rfl
  rw [this]
  refine aM [] Tryz.func87 rfl Tryz.ntmps87 (Nat.le_of_ble_eq_true rfl) (Nat.le_of_ble_eq_true rfl) fun w0 G0 B0 Pr hB0 => ?_
  simp only [aW,aL,List.cons_append,List.nil_append]
  repeat' (first | (with_reducible refine hY _ ?_; clear hY Y) | ((with_reducible first | refine au rfl (ay fun K' hK' => aa ?_) | refine hK' _ (ab fun Y hY => aa ?_) | refine ab fun Y hY => aa ?_ | refine ac tk0 aI (ab fun Y hY => aa ?_) | refine aa ?_ | refine ax ?_ | refine cG rfl (cQ fun K' hK' => aa ?_) | refine hK' _ _ (ab fun Y hY => aa ?_)); (try clear hK' K'); (try dsimp only [aop]); try simp only [go_sem,seval,aI,Tryz.results87,na,ra,nb,rb,q1,q2,q3]) | (with_reducible first | refine ag ?_ | refine am ?_ | refine aq ?_ | refine aG fun K hK => ?_ | refine aA ?_ | refine ba ?_ | refine av ?_ | refine aH ?_ | refine aB ?_ | refine bK ?_ | refine ef fun K hK => ?_) | (with_reducible refine hK _ ?_; clear hK K) | (with_reducible refine hK _ _ ?_ ?_; (· kernel_rfl); clear hK K) | ((with_reducible refine ai ?_ ?_); (· decide)) | (with_reducible refine bV tk0 aI ?_ ?_; (· kernel_rfl)) | (with_reducible refine bm ?_ ?_; (· (try and_intros) <;> first | omega | assumption | (simp only [List.length_append,List.length_map,List.length_cons,List.length_nil] <;> omega))) | (with_reducible refine ae (ca) ?_) | (with_reducible refine ae (cb) ?_) | (with_reducible refine bv (cD _ _ ?_) ?_; (· (try simp only [List.length_append,List.length_cons,List.length_nil]); omega)))
 ·have : opT 3 = [32,33,61,32] := rfl
  rw [this]
  refine aM [] Tryz.func87 rfl Tryz.ntmps87 (Nat.le_of_ble_eq_true rfl) (Nat.le_of_ble_eq_true rfl) fun w0 G0 B0 Pr hB0 => ?_
  simp only [aW,aL,List.cons_append,List.nil_append]
  repeat' (first | (with_reducible refine hY _ ?_; clear hY Y) | ((with_reducible first | refine au rfl (ay fun K' hK' => aa ?_) | refine hK' _ (ab fun Y hY => aa ?_) | refine ab fun Y hY => aa ?_ | refine ac tk0 aI (ab fun Y hY => aa ?_) | refine aa ?_ | refine ax ?_ | refine cG rfl (cQ fun K' hK' => aa ?_) | refine hK' _ _ (ab fun Y hY => aa ?_)); (try clear hK' K'); (try dsimp only [aop]); try simp only [go_sem,seval,aI,Tryz.results87,na,ra,nb,rb,q1,q2,q3]) | (with_reducible first | refine ag ?_ | refine am ?_ | refine aq ?_ | refine aG fun K hK => ?_ | refine az ?_ | refine aA ?_ | refine ba ?_ | refine av ?_ | refine aH ?_ | refine aB ?_ | refine bK ?_ | refine ef fun K hK => ?_) | (with_reducible refine hK _ ?_; clear hK K) | (with_reducible refine hK _ _ ?_ ?_; (· kernel_rfl); clear hK K) | ((with_reducible refine ai ?_ ?_); (· decide)) | (with_reducible refine bV tk0 aI ?_ ?_; (· kernel_rfl)) | (with_reducible refine bm ?_ ?_; (· (try and_intros) <;> first | omega | assumption | (simp only [List.length_append,List.length_map,List.length_cons,List.length_nil] <;> omega))) | (with_reducible refine ae (ca) ?_) | (with_reducible refine ae (cb) ?_) | (with_reducible refine bv (cD _ _ ?_) ?_; (· (try simp only [List.length_append,List.length_cons,List.length_nil]); omega)))
 ·have : opT 4 = [32,60,32] := rfl
  rw [this]
  refine aM [] Tryz.func87 rfl Tryz.ntmps87 (Nat.le_of_ble_eq_true rfl) (Nat.le_of_ble_eq_true rfl) fun w0 G0 B0 Pr hB0 => ?_
  simp only [aW,aL,List.cons_append,List.nil_append]
  repeat' (first | (with_reducible refine hY _ ?_; clear hY Y) | ((with_reducible first | refine au rfl (ay fun K' hK' => aa ?_) | refine hK' _ (ab fun Y hY => aa ?_) | refine ab fun Y hY => aa ?_ | refine ac tk0 aI (ab fun Y hY => aa ?_) | refine aa ?_ | refine ax ?_ | refine cG rfl (cQ fun K' hK' => aa ?_) | refine hK' _ _ (ab fun Y hY => aa ?_)); (try clear hK' K'); (try dsimp only [aop]); try simp only [go_sem,seval,aI,Tryz.results87,na,ra,nb,rb,q1,q2,q3]) | (with_reducible first | refine ag ?_ | refine am ?_ | refine aq ?_ | refine aG fun K hK => ?_ | refine az ?_ | refine aA ?_ | refine ba ?_ | refine av ?_ | refine aH ?_ | refine aB ?_ | refine bK ?_ | refine ef fun K hK => ?_) | (with_reducible refine hK _ ?_; clear hK K) | (with_reducible refine hK _ _ ?_ ?_; (· kernel_rfl); clear hK K) | ((with_reducible refine ai ?_ ?_); (· decide)) | (with_reducible refine bV tk0 aI ?_ ?_; (· kernel_rfl)) | (with_reducible refine bm ?_ ?_; (· (try and_intros) <;> first | omega | assumption | (simp only [List.length_append,List.length_map,List.length_cons,List.length_nil] <;> omega))) | (with_reducible refine ae (ca) ?_) | (with_reducible refine ae (cb) ?_) | (with_reducible refine bv (cD _ _ ?_) ?_; (· (try simp only [List.length_append,List.length_cons,List.length_nil]); omega)))
 ·have : opT 5 = [32,60,61,32] := rfl
  rw [this]
  refine aM [] Tryz.func87 rfl Tryz.ntmps87 (Nat.le_of_ble_eq_true rfl) (Nat.le_of_ble_eq_true rfl) fun w0 G0 B0 Pr hB0 => ?_
  simp only [aW,aL,List.cons_append,List.nil_append]
  repeat' (first | (with_reducible refine hY _ ?_; clear hY Y) | ((with_reducible first | refine au rfl (ay fun K' hK' => aa ?_) | refine hK' _ (ab fun Y hY => aa ?_) | refine ab fun Y hY => aa ?_ | refine ac tk0 aI (ab fun Y hY => aa ?_) | refine aa ?_ | refine ax ?_ | refine cG rfl (cQ fun K' hK' => aa ?_) | refine hK' _ _ (ab fun Y hY => aa ?_)); (try clear hK' K'); (try dsimp only [aop]); try simp only [go_sem,seval,aI,Tryz.results87,na,ra,nb,rb,q1,q2,q3]) | (with_reducible first | refine ag ?_ | refine am ?_ | refine aq ?_ | refine aG fun K hK => ?_ | refine az ?_ | refine aA ?_ | refine ba ?_ | refine av ?_ | refine aH ?_ | refine aB ?_ | refine bK ?_ | refine ef fun K hK => ?_) | (with_reducible refine hK _ ?_; clear hK K) | (with_reducible refine hK _ _ ?_ ?_; (· kernel_rfl); clear hK K) | ((with_reducible refine ai ?_ ?_); (· decide)) | (with_reducible refine bV tk0 aI ?_ ?_; (· kernel_rfl)) | (with_reducible refine bm ?_ ?_; (· (try and_intros) <;> first | omega | assumption | (simp only [List.length_append,List.length_map,List.length_cons,List.length_nil] <;> omega))) | (with_reducible refine ae (ca) ?_) | (with_reducible refine ae (cb) ?_) | (with_reducible refine bv (cD _ _ ?_) ?_; (· (try simp only [List.length_append,List.length_cons,List.length_nil]); omega)))
set_option maxRecDepth 100000 in
set_option maxHeartbeats 8000000 in
theorem zH (k : Int) (hk : k = 0 ∨ k = 1) : AFn Tryz.prog 87 [.agg (ci (.mk k [] []))] [] (bs (bb (tkC (.mk k [] [])))) [] := by
 simp only [ci,cl,dc]
 rcases hk with rfl | rfl
 ·have : bb (tkC (.mk 0 [] [])) = [116,114,117,101] := rfl
  rw [this]
  refine aM [] Tryz.func87 rfl Tryz.ntmps87 (Nat.le_of_ble_eq_true rfl) (Nat.le_of_ble_eq_true rfl) fun w0 G0 B0 Pr hB0 => ?_
  simp only [aW,aL,List.cons_append,List.nil_append]
  repeat' (first | (with_reducible refine hY _ ?_; clear hY Y) | ((with_reducible first | refine au rfl (ay fun K' hK' => aa ?_) | refine hK' _ (ab fun Y hY => aa ?_) | refine ab fun Y hY => aa ?_ | refine ac tk0 aI (ab fun Y hY => aa ?_) | refine aa ?_ | refine ax ?_); (try clear hK' K'); (try dsimp only [aop]); try simp only [go_sem,seval,aI,Tryz.results87]) | (with_reducible first | refine ag ?_ | refine am ?_ | refine aq ?_ | refine aG fun K hK => ?_ | refine az ?_ | refine bh ?_ | refine bp ?_ | refine av ?_ | refine aB ?_) | (with_reducible refine hK _ ?_; clear hK K) | ((with_reducible refine ai ?_ ?_); (· decide)))
 ·have : bb (tkC (.mk 1 [] [])) = [102,97,108,115,101] := rfl
  rw [this]
  refine aM [] Tryz.func87 rfl Tryz.ntmps87 (Nat.le_of_ble_eq_true rfl) (Nat.le_of_ble_eq_true rfl) fun w0 G0 B0 Pr hB0 => ?_
  simp only [aW,aL,List.cons_append,List.nil_append]
  repeat' (first | (with_reducible refine hY _ ?_; clear hY Y) | ((with_reducible first | refine au rfl (ay fun K' hK' => aa ?_) | refine hK' _ (ab fun Y hY => aa ?_) | refine ab fun Y hY => aa ?_ | refine ac tk0 aI (ab fun Y hY => aa ?_) | refine aa ?_ | refine ax ?_); (try clear hK' K'); (try dsimp only [aop]); try simp only [go_sem,seval,aI,Tryz.results87]) | (with_reducible first | refine ag ?_ | refine am ?_ | refine aq ?_ | refine aG fun K hK => ?_ | refine az ?_ | refine aA ?_ | refine bh ?_ | refine bp ?_ | refine av ?_ | refine aB ?_) | (with_reducible refine hK _ ?_; clear hK K) | ((with_reducible refine ai ?_ ?_); (· decide)))
set_option maxRecDepth 100000 in
set_option maxHeartbeats 8000000 in
theorem BO (a : PC) (hx : TxX a) : AFn Tryz.prog 87 [.agg (ci (.mk 6 [] [a]))] [] (bs (bb (tkC (.mk 6 [] [a])))) [] := by
 rw [EF]
 have lx := hx.len (hi7 a)
 have cx := hx.tells (hi7 a)
 have e2 : dc [a] = ci a := by simp [dc]
 have na := (eE a).nm3
 have ra := (eE a).rn3
 have q1 := fP a
 have q2 : (ci a).take 3 = ci a := List.take_of_length_le (by omega)
 have q3 := ta a []
 rw [List.append_nil] at q3
 have t7 := @CD a
 have t8 := @yG a
 have tf := @CB a
 simp only [ci,e2,cl]
 generalize a.kind = ak at *
 generalize hi7 a = h7 at *
 generalize bb (ie h7 (tkC a)) = TA at *
 generalize ci a = A at *
 clear hx e2
 by_cases h7k : ak = 7
 ·have k7 : (ak = 7) = True := eq_true h7k
  rw [t7 h7k] at cx
  refine aM [] Tryz.func87 rfl Tryz.ntmps87 (Nat.le_of_ble_eq_true rfl) (Nat.le_of_ble_eq_true rfl) fun w0 G0 B0 Pr hB0 => ?_
  simp only [aW,aL,List.cons_append,List.nil_append]
  repeat' (first | (with_reducible refine hY _ ?_; clear hY Y) | ((with_reducible first | refine au rfl (ay fun K' hK' => aa ?_) | refine hK' _ (ab fun Y hY => aa ?_) | refine ab fun Y hY => aa ?_ | refine ac tk0 aI (ab fun Y hY => aa ?_) | refine aa ?_ | refine ax ?_ | refine cG rfl (cQ fun K' hK' => aa ?_) | refine hK' _ _ (ab fun Y hY => aa ?_) | refine fX rfl (ab fun Y hY => aa ?_)); (try clear hK' K'); (try dsimp only [aop]); try simp only [go_sem,seval,aI,Tryz.results87,na,ra,q1,q2,q3,k7]) | (with_reducible first | refine ag ?_ | refine aU rfl ?_ | refine cN ?_ ?_ | refine am ?_ | refine aq ?_ | refine aG fun K hK => ?_ | refine az ?_ | refine aA ?_ | refine bh ?_ | refine bp ?_ | refine av ?_ | refine aB ?_ | refine bK ?_ | refine ef fun K hK => ?_) | (with_reducible refine hK _ ?_; clear hK K) | (with_reducible refine hK _ _ ?_ ?_; (· kernel_rfl); clear hK K) | ((with_reducible first | refine aJ ?_ ?_ | refine ai ?_ ?_); (· decide)) | (with_reducible refine bV tk0 aI ?_ ?_; (· kernel_rfl)) | (with_reducible refine bm ?_ ?_; (· (try and_intros) <;> first | omega | assumption | (simp only [List.length_append,List.length_map,List.length_cons,List.length_nil] <;> omega))) | (with_reducible refine ae (cx) ?_) | (with_reducible refine bv (cD _ _ ?_) ?_; (· (try simp only [List.length_append,List.length_cons,List.length_nil]); omega)))
 by_cases h8k : ak = 8
 ·have k7 : (ak = 7) = False := eq_false h7k
  have k8 : (ak = 8) = True := eq_true h8k
  rw [t8 h8k] at cx
  refine aM [] Tryz.func87 rfl Tryz.ntmps87 (Nat.le_of_ble_eq_true rfl) (Nat.le_of_ble_eq_true rfl) fun w0 G0 B0 Pr hB0 => ?_
  simp only [aW,aL,List.cons_append,List.nil_append]
  repeat' (first | (with_reducible refine hY _ ?_; clear hY Y) | ((with_reducible first | refine au rfl (ay fun K' hK' => aa ?_) | refine hK' _ (ab fun Y hY => aa ?_) | refine ab fun Y hY => aa ?_ | refine ac tk0 aI (ab fun Y hY => aa ?_) | refine aa ?_ | refine ax ?_ | refine cG rfl (cQ fun K' hK' => aa ?_) | refine hK' _ _ (ab fun Y hY => aa ?_) | refine fX rfl (ab fun Y hY => aa ?_) | refine cQ fun K' hK' => aa ?_); (try clear hK' K'); (try dsimp only [aop]); try simp only [go_sem,seval,aI,Tryz.results87,na,ra,q1,q2,q3,k7,k8]) | (with_reducible first | refine ag ?_ | refine aK ?_ | refine am ?_ | refine aq ?_ | refine aG fun K hK => ?_ | refine az ?_ | refine aA ?_ | refine bh ?_ | refine bp ?_ | refine av ?_ | refine aB ?_ | refine bK ?_ | refine ef fun K hK => ?_) | (with_reducible refine hK _ ?_; clear hK K) | (with_reducible refine hK _ _ ?_ ?_; (· kernel_rfl); clear hK K) | ((with_reducible first | refine aJ ?_ ?_ | refine ai ?_ ?_); (· decide)) | (with_reducible refine bV tk0 aI ?_ ?_; (· kernel_rfl)) | (with_reducible refine bm ?_ ?_; (· (try and_intros) <;> first | omega | assumption | (simp only [List.length_append,List.length_map,List.length_cons,List.length_nil] <;> omega))) | (with_reducible refine ae (cx) ?_) | (with_reducible refine bv (cD _ _ ?_) ?_; (· (try simp only [List.length_append,List.length_cons,List.length_nil]); omega)))
 ·have k7 : (ak = 7) = False := eq_false h7k
  have k8 : (ak = 8) = False := eq_false h8k
  rw [tf h7k h8k] at cx
  refine aM [] Tryz.func87 rfl Tryz.ntmps87 (Nat.le_of_ble_eq_true rfl) (Nat.le_of_ble_eq_true rfl) fun w0 G0 B0 Pr hB0 => ?_
  simp only [aW,aL,List.cons_append,List.nil_append]
  repeat' (first | (with_reducible refine hY _ ?_; clear hY Y) | ((with_reducible first | refine au rfl (ay fun K' hK' => aa ?_) | refine hK' _ (ab fun Y hY => aa ?_) | refine ab fun Y hY => aa ?_ | refine ac tk0 aI (ab fun Y hY => aa ?_) | refine aa ?_ | refine ax ?_ | refine cG rfl (cQ fun K' hK' => aa ?_) | refine hK' _ _ (ab fun Y hY => aa ?_) | refine fX rfl (ab fun Y hY => aa ?_) | refine cQ fun K' hK' => aa ?_); (try clear hK' K'); (try dsimp only [aop]); try simp only [go_sem,seval,aI,Tryz.results87,na,ra,q1,q2,q3,k7,k8]) | (with_reducible first | refine ag ?_ | refine aK ?_ | refine am ?_ | refine aq ?_ | refine aG fun K hK => ?_ | refine az ?_ | refine aA ?_ | refine bh ?_ | refine bp ?_ | refine av ?_ | refine aB ?_ | refine bK ?_ | refine ef fun K hK => ?_) | (with_reducible refine hK _ ?_; clear hK K) | (with_reducible refine hK _ _ ?_ ?_; (· kernel_rfl); clear hK K) | ((with_reducible first | refine aJ ?_ ?_ | refine ai ?_ ?_); (· decide)) | (with_reducible refine bV tk0 aI ?_ ?_; (· kernel_rfl)) | (with_reducible refine bm ?_ ?_; (· (try and_intros) <;> first | omega | assumption | (simp only [List.length_append,List.length_map,List.length_cons,List.length_nil] <;> omega))) | (with_reducible refine ae (cx) ?_) | (with_reducible refine bv (cD _ _ ?_) ?_; (· (try simp only [List.length_append,List.length_cons,List.length_nil]); omega)))
set_option maxRecDepth 100000 in
set_option maxHeartbeats 8000000 in
theorem BP (a b : PC) (ha : TxX a) (hb : TxX b) : AFn Tryz.prog 87 [.agg (ci (.mk 7 [] [a,b]))] [] (bs (bb (tkC (.mk 7 [] [a,b])))) [] := by
 rw [EG]
 have la := ha.len (hi8 a)
 have ca := ha.tells (hi8 a)
 have lb := hb.len (hi7 b)
 have cb := hb.tells (hi7 b)
 have e2 : dc [a,b] = ci a ++ ci b := by simp [dc]
 obtain ⟨q1,q2,q3⟩ := rR (fP a) (fP b)
 have na := (eE a).nm3
 have ra := (eE a).rn3
 have nb := (eE b).nm3
 have rb := (eE b).rn3
 have q4 := ta a (ci b)
 have q5 := uo a b
 have t7 := @CD b
 have t8 := @yG b
 have tf := @CB b
 simp only [ci,e2,cl]
 generalize ci a ++ ci b = KS at *
 generalize hi7 b = h7 at *
 generalize bb (ie h7 (tkC b)) = TB at *
 unfold hi8 at *
 generalize bb (ie (decide (a.kind = 8)) (tkC a)) = TA at *
 generalize a.kind = ak at *
 generalize b.kind = bk at *
 generalize ci a = A at *
 generalize ci b = B at *
 clear ha hb e2
 by_cases h7k : bk = 7
 ·have k7 : (bk = 7) = True := eq_true h7k
  rw [t7 h7k] at cb
  refine aM [] Tryz.func87 rfl Tryz.ntmps87 (Nat.le_of_ble_eq_true rfl) (Nat.le_of_ble_eq_true rfl) fun w0 G0 B0 Pr hB0 => ?_
  simp only [aW,aL,List.cons_append,List.nil_append]
  repeat' (first | (with_reducible refine hY _ ?_; clear hY Y) | ((with_reducible first | refine au rfl (ay fun K' hK' => aa ?_) | refine hK' _ (ab fun Y hY => aa ?_) | refine ab fun Y hY => aa ?_ | refine ac tk0 aI (ab fun Y hY => aa ?_) | refine aa ?_ | refine ax ?_ | refine cG rfl (cQ fun K' hK' => aa ?_) | refine hK' _ _ (ab fun Y hY => aa ?_) | refine fX rfl (ab fun Y hY => aa ?_)); (try clear hK' K'); (try dsimp only [aop]); try simp only [go_sem,seval,aI,Tryz.results87,na,ra,nb,rb,q1,q2,q3,q4,q5,k7]) | (with_reducible first | refine ag ?_ | refine aU rfl ?_ | refine cN ?_ ?_ | refine am ?_ | refine aq ?_ | refine aG fun K hK => ?_ | refine az ?_ | refine aA ?_ | refine bh ?_ | refine bp ?_ | refine av ?_ | refine aB ?_ | refine bK ?_ | refine ef fun K hK => ?_) | (with_reducible refine hK _ ?_; clear hK K) | (with_reducible refine hK _ _ ?_ ?_; (· kernel_rfl); clear hK K) | ((with_reducible first | refine aJ ?_ ?_ | refine ai ?_ ?_); (· decide)) | (with_reducible refine bV tk0 aI ?_ ?_; (· kernel_rfl)) | (with_reducible refine bm ?_ ?_; (· (try and_intros) <;> first | omega | assumption | (simp only [List.length_append,List.length_map,List.length_cons,List.length_nil] <;> omega))) | (with_reducible refine ae (ca) ?_) | (with_reducible refine ae (cb) ?_) | (with_reducible refine bv (cD _ _ ?_) ?_; (· (try simp only [List.length_append,List.length_cons,List.length_nil]); omega)))
 by_cases h8k : bk = 8
 ·have k7 : (bk = 7) = False := eq_false h7k
  have k8 : (bk = 8) = True := eq_true h8k
  rw [t8 h8k] at cb
  refine aM [] Tryz.func87 rfl Tryz.ntmps87 (Nat.le_of_ble_eq_true rfl) (Nat.le_of_ble_eq_true rfl) fun w0 G0 B0 Pr hB0 => ?_
  simp only [aW,aL,List.cons_append,List.nil_append]
  repeat' (first | (with_reducible refine hY _ ?_; clear hY Y) | ((with_reducible first | refine au rfl (ay fun K' hK' => aa ?_) | refine hK' _ (ab fun Y hY => aa ?_) | refine ab fun Y hY => aa ?_ | refine ac tk0 aI (ab fun Y hY => aa ?_) | refine aa ?_ | refine ax ?_ | refine cG rfl (cQ fun K' hK' => aa ?_) | refine hK' _ _ (ab fun Y hY => aa ?_) | refine fX rfl (ab fun Y hY => aa ?_) | refine cQ fun K' hK' => aa ?_); (try clear hK' K'); (try dsimp only [aop]); try simp only [go_sem,seval,aI,Tryz.results87,na,ra,nb,rb,q1,q2,q3,q4,q5,k7,k8]) | (with_reducible first | refine ag ?_ | refine aK ?_ | refine am ?_ | refine aq ?_ | refine aG fun K hK => ?_ | refine az ?_ | refine aA ?_ | refine bh ?_ | refine bp ?_ | refine av ?_ | refine aB ?_ | refine bK ?_ | refine ef fun K hK => ?_) | (with_reducible refine hK _ ?_; clear hK K) | (with_reducible refine hK _ _ ?_ ?_; (· kernel_rfl); clear hK K) | ((with_reducible first | refine aJ ?_ ?_ | refine ai ?_ ?_); (· decide)) | (with_reducible refine bV tk0 aI ?_ ?_; (· kernel_rfl)) | (with_reducible refine bm ?_ ?_; (· (try and_intros) <;> first | omega | assumption | (simp only [List.length_append,List.length_map,List.length_cons,List.length_nil] <;> omega))) | (with_reducible refine ae (ca) ?_) | (with_reducible refine ae (cb) ?_) | (with_reducible refine bv (cD _ _ ?_) ?_; (· (try simp only [List.length_append,List.length_cons,List.length_nil]); omega)))
 ·have k7 : (bk = 7) = False := eq_false h7k
  have k8 : (bk = 8) = False := eq_false h8k
  rw [tf h7k h8k] at cb
  refine aM [] Tryz.func87 rfl Tryz.ntmps87 (Nat.le_of_ble_eq_true rfl) (Nat.le_of_ble_eq_true rfl) fun w0 G0 B0 Pr hB0 => ?_
  simp only [aW,aL,List.cons_append,List.nil_append]
  repeat' (first | (with_reducible refine hY _ ?_; clear hY Y) | ((with_reducible first | refine au rfl (ay fun K' hK' => aa ?_) | refine hK' _ (ab fun Y hY => aa ?_) | refine ab fun Y hY => aa ?_ | refine ac tk0 aI (ab fun Y hY => aa ?_) | refine aa ?_ | refine ax ?_ | refine cG rfl (cQ fun K' hK' => aa ?_) | refine hK' _ _ (ab fun Y hY => aa ?_) | refine fX rfl (ab fun Y hY => aa ?_) | refine cQ fun K' hK' => aa ?_); (try clear hK' K'); (try dsimp only [aop]); try simp only [go_sem,seval,aI,Tryz.results87,na,ra,nb,rb,q1,q2,q3,q4,q5,k7,k8]) | (with_reducible first | refine ag ?_ | refine aK ?_ | refine am ?_ | refine aq ?_ | refine aG fun K hK => ?_ | refine az ?_ | refine aA ?_ | refine bh ?_ | refine bp ?_ | refine av ?_ | refine aB ?_ | refine bK ?_ | refine ef fun K hK => ?_) | (with_reducible refine hK _ ?_; clear hK K) | (with_reducible refine hK _ _ ?_ ?_; (· kernel_rfl); clear hK K) | ((with_reducible first | refine aJ ?_ ?_ | refine ai ?_ ?_); (· decide)) | (with_reducible refine bV tk0 aI ?_ ?_; (· kernel_rfl)) | (with_reducible refine bm ?_ ?_; (· (try and_intros) <;> first | omega | assumption | (simp only [List.length_append,List.length_map,List.length_cons,List.length_nil] <;> omega))) | (with_reducible refine ae (ca) ?_) | (with_reducible refine ae (cb) ?_) | (with_reducible refine bv (cD _ _ ?_) ?_; (· (try simp only [List.length_append,List.length_cons,List.length_nil]); omega)))
set_option maxRecDepth 100000 in
set_option maxHeartbeats 8000000 in
theorem BQ (a b : PC) (ha : TxC a) (hb : TxX b) : AFn Tryz.prog 87 [.agg (ci (.mk 8 [] [a,b]))] [] (bs (bb (tkC (.mk 8 [] [a,b])))) [] := by
 rw [EH]
 have la := ha.len
 have ca := ha.tells
 have lb := hb.len (hi8 b)
 have cb := hb.tells (hi8 b)
 have e2 : dc [a,b] = ci a ++ ci b := by simp [dc]
 obtain ⟨q1,q2,q3⟩ := rR (fP a) (fP b)
 have na := (eE a).nm3
 have ra := (eE a).rn3
 have nb := (eE b).nm3
 have rb := (eE b).rn3
 have q4 := ta a (ci b)
 have q5 := uo a b
 simp only [ci,e2,cl]
 generalize ci a ++ ci b = KS at *
 unfold hi8 at *
 generalize bb (ie (decide (b.kind = 8)) (tkC b)) = TB at *
 generalize bb (tkC a) = TA at *
 generalize a.kind = ak at *
 generalize b.kind = bk at *
 generalize ci a = A at *
 generalize ci b = B at *
 clear ha hb e2
 refine aM [] Tryz.func87 rfl Tryz.ntmps87 (Nat.le_of_ble_eq_true rfl) (Nat.le_of_ble_eq_true rfl) fun w0 G0 B0 Pr hB0 => ?_
 simp only [aW,aL,List.cons_append,List.nil_append]
 repeat' (first | (with_reducible refine hY _ ?_; clear hY Y) | ((with_reducible first | refine au rfl (ay fun K' hK' => aa ?_) | refine hK' _ (ab fun Y hY => aa ?_) | refine ab fun Y hY => aa ?_ | refine ac tk0 aI (ab fun Y hY => aa ?_) | refine aa ?_ | refine ax ?_ | refine cG rfl (cQ fun K' hK' => aa ?_) | refine hK' _ _ (ab fun Y hY => aa ?_)); (try clear hK' K'); (try dsimp only [aop]); try simp only [go_sem,seval,aI,Tryz.results87,na,ra,nb,rb,q1,q2,q3,q4,q5]) | (with_reducible first | refine ag ?_ | refine am ?_ | refine aq ?_ | refine aG fun K hK => ?_ | refine az ?_ | refine aA ?_ | refine bh ?_ | refine bp ?_ | refine av ?_ | refine aB ?_ | refine bK ?_ | refine ef fun K hK => ?_) | (with_reducible refine hK _ ?_; clear hK K) | (with_reducible refine hK _ _ ?_ ?_; (· kernel_rfl); clear hK K) | ((with_reducible refine ai ?_ ?_); (· decide)) | (with_reducible refine bV tk0 aI ?_ ?_; (· kernel_rfl)) | (with_reducible refine bm ?_ ?_; (· (try and_intros) <;> first | omega | assumption | (simp only [List.length_append,List.length_map,List.length_cons,List.length_nil] <;> omega))) | (with_reducible refine ae (ca) ?_) | (with_reducible refine ae (cb) ?_) | (with_reducible refine bv (cD _ _ ?_) ?_; (· (try simp only [List.length_append,List.length_cons,List.length_nil]); omega)))
theorem BS (k : Int) (e : List PE) (ks : List PC) (hs : seC (.mk k e ks) = true) (he : ∀ a ∈ e,TxE a) (hk : ∀ a ∈ ks,TxC a ∧ TxX a) : AFn Tryz.prog 87 [.agg (ci (.mk k e ks))] [] (bs (bb (tkC (.mk k e ks)))) [] := by
 rw [seC] at hs
 simp only [Bool.and_eq_true] at hs
 obtain ⟨hs,_,_⟩ := hs
 unfold ki at hs
 by_cases k01 : k = 0 ∨ k = 1
 ·rw [if_pos k01] at hs
  simp only [Bool.and_eq_true,decide_eq_true_eq] at hs
  obtain rfl := List.eq_nil_of_length_eq_zero hs.1
  obtain rfl := List.eq_nil_of_length_eq_zero hs.2
  exact zH k k01
 rw [if_neg k01] at hs
 by_cases k25 : k = 2 ∨ k = 3 ∨ k = 4 ∨ k = 5
 ·rw [if_pos k25] at hs
  simp only [Bool.and_eq_true,decide_eq_true_eq] at hs
  obtain rfl := List.eq_nil_of_length_eq_zero hs.2
  obtain ⟨a,b,rfl⟩ : ∃ a b,e = [a,b] := by
   match e,hs.1 with
   | [a,b],_ => exact ⟨a,b,rfl⟩
  exact BR k k25 a b (he a (by simp)) (he b (by simp))
 rw [if_neg k25] at hs
 by_cases k6 : k = 6
 ·subst k6
  simp only [if_true,Bool.and_eq_true,decide_eq_true_eq] at hs
  obtain rfl := List.eq_nil_of_length_eq_zero hs.1
  obtain ⟨a,rfl⟩ : ∃ a,ks = [a] := by
   match ks,hs.2 with
   | [a],_ => exact ⟨a,rfl⟩
  exact BO a (hk a (by simp)).2
 rw [if_neg k6] at hs
 by_cases k78 : k = 7 ∨ k = 8
 ·rw [if_pos k78] at hs
  simp only [Bool.and_eq_true,decide_eq_true_eq] at hs
  obtain rfl := List.eq_nil_of_length_eq_zero hs.1
  obtain ⟨a,b,rfl⟩ : ∃ a b,ks = [a,b] := by
   match ks,hs.2 with
   | [a,b],_ => exact ⟨a,b,rfl⟩
  rcases k78 with rfl | rfl
  ·exact BP a b (hk a (by simp)).2 (hk b (by simp)).2
  ·exact BQ a b (hk a (by simp)).1 (hk b (by simp)).2
 ·rw [if_neg k78] at hs; cases hs
mutual
theorem nG : ∀ e,seC e = true → nC e ≤ 1000000000 → TxC e ∧ TxX e
 | .mk k e ks,hs,hn => by
  have hl := mv (.mk k e ks) hs
  have h1 := fY (tkC (.mk k e ks))
  have h2 := fun b => fY (ie b (tkC (.mk k e ks)))
  have h3 := fun b => kQ b (tkC (.mk k e ks))
  have hs2 := hs
  rw [seC] at hs2
  simp only [Bool.and_eq_true] at hs2
  have hn2 := hn
  rw [nC] at hn2
  have h4 : TxC (.mk k e ks) := ⟨by omega,BS k e ks hs (fun a ha => (kd e hs2.2.1 (by omega) a ha).1) (rO ks hs2.2.2 (by omega))⟩
  exact ⟨h4,x9 _ h4 fun b => by have := h2 b; have := h3 b; omega⟩
theorem rO : ∀ l,mr l = true → nCs l ≤ 1000000000 → ∀ a ∈ l,TxC a ∧ TxX a
 | [],_,_ => fun e he => absurd he List.not_mem_nil
 | e :: r,hs,hn => fun a ha => by
  rw [mr,Bool.and_eq_true] at hs
  rw [nCs] at hn
  exact (List.mem_cons.1 ha).elim (fun q => q ▸ nG e hs.1 (by omega)) (rO r hs.2 (by omega) a)
end
end Go.Proofs.YtkjnkkmokojnpaaGreatDoor
