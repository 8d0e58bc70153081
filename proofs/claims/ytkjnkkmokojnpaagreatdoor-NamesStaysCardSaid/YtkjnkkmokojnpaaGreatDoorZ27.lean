/- The statement on names' Check, in K. -/
import Derived.Test.YtkjnkkmokojnpaaGreatDoorZ22
import Derived.Test.YtkjnkkmokojnpaaGreatDoorZ25
import Derived.Test.YtkjnkkmokojnpaaGreatDoorZ26
import Derived.Test.YtkjnkkmokojnpaaGreatDoorZ6
namespace Go.Proofs.YtkjnkkmokojnpaaGreatDoor
set_option linter.unusedSimpArgs false
set_option linter.unusedVariables false
open Go.RowKit
def x0E : PE := .mk 1 0 [120] []
def e0E : PE := .mk 0 0 [] []
def c0E : PC := .mk 0 [] []
def a0E : PA := .mk 0 c0E e0E e0E [] 0 []
def pEx : List PP := [⟨[112],[[120]],[],a0E,a0E,[.mk 1 [114,101,115] [] [] x0E e0E c0E a0E [] [] [] [] []]⟩]
def pFx : List PP := [⟨[112],[],[],.mk 1 (.mk 2 [x0E,e0E] []) e0E e0E [] 0 [],a0E,[]⟩]
theorem Ek : dW pEx = (0,-1) := by decide +kernel
theorem El : dW pFx = (12,0) := by decide +kernel
theorem ug {α : Type} (l : List α) (h : l.length ≤ 1000) : Lg l := by unfold Lg; omega
theorem Dk : kL pEx := by
 refine ⟨ug _ (by decide),fun p hp => ?_⟩
 rw [pEx,List.mem_singleton] at hp
 subst hp
 simp [OkP,tJ,OkA,OkC,OkE,OkS,gr,ir,l9,kN,a0E,c0E,e0E,x0E,Lg,tI]
theorem Dl : kL pFx := by
 refine ⟨ug _ (by decide),fun p hp => ?_⟩
 rw [pFx,List.mem_singleton] at hp
 subst hp
 simp [OkP,tJ,OkA,OkC,OkE,OkS,gr,ir,l9,kN,a0E,c0E,e0E,x0E,Lg,tI]
abbrev NmC (ps : List PP) : Prop := AFn Tryz.prog 10 [.agg [dN ps]] [] (jl (dW ps).1 (dW ps).2) []
def fZ : Nat → List Nat
 | 0 => []
 | 1 => []
 | 2 => [1]
 | 3 => [1,2]
 | 4 => [2,3]
 | 5 => [3,4]
 | 6 => [4,5]
 | _ => []
set_option maxRecDepth 100000 in
set_option maxHeartbeats 8000000 in
theorem Cb (h1 : NmC pEx) (h2 : NmC pFx) : AFn Tryz.prog 8 [] [] (.c (.bool true)) [] := by
 unfold NmC at h1 h2
 rw [Ek] at h1
 rw [El] at h2
 have h3 := rG 0 0 12 12 (by decide)
 rw [show jl (0,(-1 : Int)).1 (0,(-1 : Int)).2 = .c .nilIface from rfl] at h1
 rw [show jl (12,(0 : Int)).1 (12,(0 : Int)).2 = kJ 0 12 from rfl] at h2
 unfold kJ at h2 h3
 rw [dq (e := 12) (by decide)] at h2 h3
 simp only [dN,pEx,pFx,x0E,e0E,c0E,a0E,List.flatMap_cons,List.flatMap_nil,ppA,paA,ci,peA,psA,cl,dc,ew,du,List.map_cons,List.map_nil,List.length_cons,List.length_nil,List.cons_append,List.nil_append,List.append_nil,Nat.reduceAdd] at h1 h2
 refine aM [] Tryz.func8 rfl Tryz.ntmps8 (Nat.le_of_ble_eq_true rfl) (Nat.le_of_ble_eq_true rfl) fun w0 G0 B0 Pr hB0 => ?_
 simp only [aW,aL,List.cons_append,List.nil_append]
 repeat' (first | (with_reducible refine hY _ ?_; clear hY Y) | ((with_reducible first | refine au rfl (ay fun K' hK' => aa ?_) | refine hK' _ (ab fun Y hY => aa ?_) | refine bf rfl (ab fun Y hY => aa ?_) | refine ab fun Y hY => aa ?_ | refine ay fun K' hK' => aa ?_ | refine ac tk0 fZ (ab fun Y hY => aa ?_) | refine aa ?_ | refine ax ?_); (try clear hK' K'); (try dsimp only [aop]); try simp only [go_sem,seval,fZ,Tryz.results8]) | (with_reducible first | refine ag ?_ | refine aK ?_ | refine am ?_ | refine aq ?_ | refine aG fun K hK => ?_ | refine aB ?_) | (with_reducible refine hK _ ?_; clear hK K) | ((with_reducible refine aJ ?_ ?_); (· decide)) | (with_reducible refine ae (fK 8 h1 ?_) ?_; (· simp [wkD,inA,bs])) | (with_reducible refine ae (fK 8 h2 ?_) ?_; (· simp [wkD,inA,bs])) | (with_reducible refine ae (h3) ?_) | (with_reducible refine bv (sw) ?_))
def fB : Nat → List Nat
 | 0 => [0]
 | 1 => [1]
 | _ => []
set_option maxRecDepth 100000 in
set_option maxHeartbeats 8000000 in
theorem rL (ps : List PP) (ho : kL ps) : AFn Tryz.prog 9 [.agg [dN ps]] [] (.c (.bool (gy ps 600))) [] := by
 have h1 := xc ps 600 ho ⟨by decide,by decide⟩
 refine aM [] Tryz.func9 rfl Tryz.ntmps9 (Nat.le_of_ble_eq_true rfl) (Nat.le_of_ble_eq_true rfl) fun w0 G0 B0 Pr hB0 => ?_
 simp only [aW,aL,List.cons_append,List.nil_append]
 repeat' (first | (with_reducible refine hY _ ?_; clear hY Y) | ((with_reducible first | refine au rfl (ay fun K' hK' => aa ?_) | refine hK' _ (ab fun Y hY => aa ?_) | refine ac tk0 fB (ab fun Y hY => aa ?_) | refine aa ?_ | refine ax ?_); (try clear hK' K'); (try dsimp only [aop]); try simp only [go_sem,seval,fB,Tryz.results9]) | (with_reducible first | refine ag ?_ | refine am ?_ | refine aq ?_ | refine aG fun K hK => ?_ | refine aB ?_) | (with_reducible refine hK _ ?_; clear hK K) | (with_reducible refine ae (h1) ?_))
theorem ru (ps : List PP) : ∀ (l : List PP) (i : Nat),(fF ps i l).1 ≤ 16 ∧ ((fF ps i l).1 = 0 → (fF ps i l).2 < 0)
 | [],i => ⟨by simp [fF],fun _ => by simp [fF]⟩
 | x :: r,i => by
  rw [fF]
  by_cases h : jE ps i x = 0
  ·rw [if_pos h]; exact ru ps r (i + 1)
  ·rw [if_neg h]
   have h2 : jE ps i x ≤ 16 := by unfold jE; (repeat' split) <;> omega
   exact ⟨h2,fun e => absurd e h⟩
theorem rx (ps : List PP) : (dW ps).1 ≤ 16 ∧ ((dW ps).1 = 0 → (dW ps).2 < 0) := by
 unfold dW
 by_cases h : eL ps = 0
 ·rw [if_pos h]; exact ru ps ps 0
 ·rw [if_neg h]
  have h2 : eL ps ≤ 16 := by unfold eL; (repeat' split) <;> omega
  exact ⟨h2,fun e => absurd e h⟩
theorem yx (e : Nat) (a : Int) (g : List (Nat × Nat)) : ren g 4 (jl e a) = jl e a := by
 unfold jl kJ eM; (repeat' split) <;> rfl
theorem yw (e : Nat) (a : Int) (b : Nat) : eH b 5 (jl e a) = false := by
 unfold jl kJ eM; (repeat' split) <;> rfl
theorem u3 (e : Nat) (a : Int) : jd true 4 (jl e a) = [] := by
 unfold jl kJ eM; (repeat' split) <;> rfl
def dB : Nat → List Nat
 | 0 => [0]
 | 1 => [1]
 | 2 => [1,3]
 | 3 => [1,3,4]
 | 4 => [3]
 | 5 => [1,3]
 | 6 => [1,3,5]
 | 7 => [3,5,6,7]
 | _ => []
set_option maxRecDepth 100000 in
set_option maxHeartbeats 8000000 in
theorem qP (hu : AFn Tryz.prog 8 [] [] (.c (.bool true)) []) (ps : List PP) (ho : kL ps) (h1 : gy ps 600 = true → NmC ps)
  (h2 : gy ps 600 = true → AFn Tryz.prog 11 [.agg [dN ps]] [] (.tup [inA ((dW ps).1 : Int),inA (dW ps).2]) []) : AFn Tryz.prog 3 [.agg [dN ps]] [] (.c (.bool true)) [] := by
 have hs := rL ps ho
 have ht := DJ (dW ps).1 (dW ps).2 (rx ps).1 (rx ps).2
 cases hb : gy ps 600 with
 | false =>
  rw [hb] at hs
  clear h1 h2
  refine aM [] Tryz.func3 rfl Tryz.ntmps3 (Nat.le_of_ble_eq_true rfl) (Nat.le_of_ble_eq_true rfl) fun w0 G0 B0 Pr hB0 => ?_
  simp only [aW,aL,List.cons_append,List.nil_append]
  repeat' (first | (with_reducible refine hY _ ?_; clear hY Y) | ((with_reducible first | refine au rfl (ay fun K' hK' => aa ?_) | refine hK' _ (ab fun Y hY => aa ?_) | refine ab fun Y hY => aa ?_ | refine ac tk0 dB (ab fun Y hY => aa ?_) | refine aa ?_ | refine ax ?_); (try clear hK' K'); (try dsimp only [aop]); try simp only [go_sem,seval,dB,Tryz.results3]) | (with_reducible first | refine ag ?_ | refine am ?_ | refine aq ?_ | refine aG fun K hK => ?_ | refine az ?_ | refine bh ?_ | refine aB ?_) | (with_reducible refine hK _ ?_; clear hK K) | ((with_reducible refine ai ?_ ?_); (· decide)) | (with_reducible refine ae (hu) ?_) | (with_reducible refine ae (hs) ?_))
 | true =>
  rw [hb] at hs
  have d1 := h1 hb
  have d2 := h2 hb
  clear h1 h2
  unfold NmC at d1
  have z1 := yx (dW ps).1 (dW ps).2
  have z2 := yw (dW ps).1 (dW ps).2
  have z3 := u3 (dW ps).1 (dW ps).2
  generalize (dW ps).1 = n at *
  generalize (dW ps).2 = a at *
  generalize jl n a = er at *
  refine aM [] Tryz.func3 rfl Tryz.ntmps3 (Nat.le_of_ble_eq_true rfl) (Nat.le_of_ble_eq_true rfl) fun w0 G0 B0 Pr hB0 => ?_
  simp only [aW,aL,List.cons_append,List.nil_append]
  repeat' (first | (with_reducible refine hY _ ?_; clear hY Y) | ((with_reducible first | refine au rfl (ay fun K' hK' => aa ?_) | refine hK' _ (ab fun Y hY => aa ?_) | refine bf rfl (ab fun Y hY => aa ?_) | refine ab fun Y hY => aa ?_ | refine ay fun K' hK' => aa ?_ | refine ac tk0 dB (ab fun Y hY => aa ?_) | refine aa ?_ | refine ax ?_); (try clear hK' K'); (try dsimp only [aop]); try simp only [go_sem,seval,dB,Tryz.results3,z1,z2,z3]) | (with_reducible first | refine ag ?_ | refine aK ?_ | refine am ?_ | refine aq ?_ | refine aG fun K hK => ?_ | refine aA ?_ | refine aH ?_ | refine aB ?_) | (with_reducible refine hK _ ?_; clear hK K) | ((with_reducible first | refine aJ ?_ ?_ | refine ai ?_ ?_); (· decide)) | (with_reducible refine ae (hu) ?_) | (with_reducible refine ae (hs) ?_) | (with_reducible refine ae (d1) ?_) | (with_reducible refine ae (d2) ?_) | (with_reducible refine ae (ht) ?_))
theorem kY {ps : List PP} (h : gy ps 600 = true) : ∀ x ∈ ps,LtP x 600 := by
 unfold gy at h
 by_cases h1 : 50 < ps.length
 ·rw [if_pos h1] at h; cases h
 ·rw [if_neg h1] at h; exact uh ps 600 (by decide) h
theorem yT {x : PP} (h : LtP x 600) : (jK [] x.body).length ≤ 1099511627776 := by
 have h1 := tN (flL x.body) []
 have h2 := h.2.2.2.2.1
 unfold jK
 simp only [List.length_nil] at h1
 omega
end Go.Proofs.YtkjnkkmokojnpaaGreatDoor
