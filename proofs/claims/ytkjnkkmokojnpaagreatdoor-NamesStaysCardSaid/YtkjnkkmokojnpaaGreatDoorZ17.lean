/- Names in K: each, Assigned, Find (printed by gen_each.py). -/
import Derived.Test.YtkjnkkmokojnpaaGreatDoorZ16
import Derived.Test.YtkjnkkmokojnpaaGreatDoorZ6
namespace Go.Proofs.YtkjnkkmokojnpaaGreatDoor
set_option linter.unusedSimpArgs false
set_option linter.unusedVariables false
open Go.RowKit
def PS'.body : PS' → List PS'
 | .mk _ _ _ _ _ _ _ _ _ _ _ b _ => b
def PS'.els : PS' → List PS'
 | .mk _ _ _ _ _ _ _ _ _ _ _ _ l => l
theorem vZ : ∀ a b : List PS',flL (a ++ b) = flL a ++ flL b
 | [],b => rfl
 | e :: r,b => by rw [List.cons_append,flL,flL,vZ r b,List.append_assoc]
theorem sB (s : PS') : flS s = s :: (flL s.body ++ flL s.els) := by cases s; rfl
def da {σ : Type} (f : σ → PS' → σ) (st : σ) (l : List PS') : σ := (flL l).foldl f st
theorem ur {σ : Type} (f : σ → PS' → σ) (st : σ) (a b : List PS') : da f st (a ++ b) = da f (da f st a) b := by unfold da; rw [vZ,List.foldl_append]
theorem lR {σ : Type} (f : σ → PS' → σ) (st : σ) {l : List PS'} {k : Nat} (h : k < l.length) : da f st (l.take (k + 1)) = da f (da f (f (da f st (l.take k)) l[k]) l[k].body) l[k].els := by
 rw [List.take_succ_eq_append_getElem h,ur]
 show (flL [l[k]]).foldl f _ = _
 rw [flL,flL,List.append_nil,sB,List.foldl_cons,List.foldl_append]; rfl
theorem sa (o : List Wd) (x : Wd) : o.length ≤ (oK o x).length := by unfold oK; split <;> simp
theorem nR (o : List Wd) : ∀ l : List PS',o.length ≤ (l.foldl (fun o s => oK o s.name) o).length
 | [] => Nat.le_refl _
 | s :: r => Nat.le_trans (sa o s.name) (nR (oK o s.name) r)
abbrev bZ (o : List Wd) (s : PS') : List Wd := oK o s.name
theorem nr (o : List Wd) (l : List PS') (k : Nat) : (da bZ o (l.take k)).length ≤ (da bZ o l).length := by
 have : da bZ o l = da bZ (da bZ o (l.take k)) (l.drop k) := by rw [← ur,List.take_append_drop]
 rw [this]; exact nR _ _
abbrev l6 (F : Nat) (l : List PS') : Prop := ∀ st : List Wd,(da bZ st l).length ≤ 1099511627776 → AFn Tryz.prog 79 [.sl (du l) l.length .none,.fn (.func F) [] [.loc 20000 0]] [.bc [.sl (st.map bs) st.length (.tok 20001)] 48,.bt st.length 9] (.tup []) [.bc [.sl ((da bZ st l).map bs) (da bZ st l).length (.tok 20001)] 48,.bt (da bZ st l).length 9]
def cH : Nat → List Nat
 | 0 => [0,1]
 | 1 => [1,6,7,8]
 | 2 => [1,6,7,8]
 | 3 => [1,5,6,7,8]
 | 4 => [1,5,6,7,8]
 | 5 => [1,5,6,7,8]
 | 6 => [1,6,7,8]
 | _ => []
set_option maxRecDepth 100000 in
set_option maxHeartbeats 16000000 in
theorem sr (F : Nat) (l : List PS') (hl : Lg l) (hF : aR Tryz.prog (F) = true) (hf : ∀ s ∈ l,∀ st : List Wd,(bZ st s).length ≤ 1099511627776 → AFn Tryz.prog (F) ([.agg (psA s)] ++ [.loc 20000 0]) [.bc [.sl (st.map bs) st.length (.tok 20001)] 48,.bt st.length 9] (.tup []) [.bc [.sl ((bZ st s).map bs) (bZ st s).length (.tok 20001)] 48,.bt (bZ st s).length 9])
  (hb : ∀ s ∈ l,l6 F s.body) (he : ∀ s ∈ l,l6 F s.els) : l6 F l := fun st0 hbd => by
 unfold Lg at hl
 refine aM [] Tryz.func79 rfl Tryz.ntmps79 (Nat.le_of_ble_eq_true rfl) (Nat.le_of_ble_eq_true rfl) fun w0 G0 B0 Pr hB0 => ?_
 simp only [aW,aL,List.cons_append,List.nil_append]
 repeat' (first | (with_reducible refine hY _ ?_; clear hY Y) | ((with_reducible first | refine au rfl (ay fun K' hK' => aa ?_) | refine hK' _ (ab fun Y hY => aa ?_) | refine ac tk0 cH (ab fun Y hY => aa ?_)); (try clear hK' K'); (try dsimp only [aop]); try simp only [go_sem,seval,cH,Tryz.results79]) | (with_reducible first | refine ag ?_ | refine am ?_ | refine aq ?_ | refine aG fun K hK => ?_ | refine av ?_ | refine bR ?_) | (with_reducible refine hK _ ?_; clear hK K))
 refine bX (α := Nat) (fun k => [(1,.fn (.func F) [] [.loc 20000 0]),(6,.sl (du l) l.length .none),(7,inA (l.length : Int)),(8,inA (k : Int)),(20000,.bc [.sl ((da bZ st0 (l.take k)).map bs) (da bZ st0 (l.take k)).length (.tok 20001)] 48),(20001,.bt (da bZ st0 (l.take k)).length 9)])
  (fun k => k ≤ l.length) (fun k => l.length - k) 0 [1,6,7,8] ?_ (Nat.zero_le _) ?_
 ·simp only [go_sem,seval] <;> rfl
 intro k hk ih
 by_cases hlt : k < l.length
 ·have hlt' : ((k : Int) < (l.length : Int)) = True := eq_true (by omega)
  have hkw := dp (n := k) (by omega)
  have hg0 := jp hlt
  have hfl := gx l
  have hst := lR bZ st0 hlt
  have ihk := ih (k + 1) (by omega) (by omega)
  rw [hst] at ihk
  have q0 := nr st0 l (k + 1)
  rw [hst] at q0
  have q1 := nR (da bZ (bZ (da bZ st0 (l.take k)) l[k]) l[k].body) (flL l[k].els)
  have q2 := nR (bZ (da bZ st0 (l.take k)) l[k]) (flL l[k].body)
  change _ ≤ (da bZ (da bZ (bZ (da bZ st0 (l.take k)) l[k]) l[k].body) l[k].els).length at q1
  change _ ≤ (da bZ (bZ (da bZ st0 (l.take k)) l[k]) l[k].body).length at q2
  have h1 := hf l[k] (List.getElem_mem hlt) (da bZ st0 (l.take k)) (by first | exact trivial | omega)
  have h2 := hb l[k] (List.getElem_mem hlt) (bZ (da bZ st0 (l.take k)) l[k]) (by first | exact trivial | omega)
  have h3 := he l[k] (List.getElem_mem hlt) (da bZ (bZ (da bZ st0 (l.take k)) l[k]) l[k].body) (by first | exact trivial | omega)
  clear hf hb he ih hst
  generalize da bZ (da bZ (bZ (da bZ st0 (l.take k)) l[k]) l[k].body) l[k].els = s3 at *
  generalize da bZ (bZ (da bZ st0 (l.take k)) l[k]) l[k].body = s2 at *
  generalize bZ (da bZ st0 (l.take k)) l[k] = s1 at *
  generalize da bZ st0 (l.take k) = s0 at *
  generalize l[k] = t at *
  obtain ⟨sk,x,y,z,⟨ek,en,ex,eks⟩,⟨vk,vn,vx,vks⟩,⟨ck,ce,cks⟩,⟨ak,⟨ack,ace,acks⟩,⟨aek,aen,aex,aeks⟩,⟨avk,avn,avx,avks⟩,af,an,aks⟩,rs,gs,fs,bd,els⟩ := t
  simp only [psA,paA,ci,peA,PS'.body,PS'.els,List.cons_append,List.nil_append] at hg0 h1 h2 h3
  repeat' (first | (with_reducible refine hY _ ?_; clear hY Y) | ((with_reducible first | refine au rfl (ay fun K' hK' => aa ?_) | refine hK' _ (ab fun Y hY => aa ?_) | refine ab fun Y hY => aa ?_ | refine ac tk0 cH (ab fun Y hY => aa ?_) | refine aa ?_); (try clear hK' K'); (try dsimp only [aop]); try simp only [go_sem,seval,cH,Tryz.results79,hlt',hfl,hg0,hkw,hF]) | (with_reducible first | refine ag ?_ | refine am ?_ | refine aq ?_ | refine aG fun K hK => ?_ | refine az ?_ | refine ba ?_ | refine av ?_ | refine aH ?_) | (with_reducible refine hK _ ?_; clear hK K) | ((with_reducible refine ai ?_ ?_); (· decide)) | (with_reducible refine bm ?_ ?_; (· (try and_intros) <;> first | omega | assumption | (simp only [List.length_append,List.length_map,List.length_cons,List.length_nil] <;> omega))) | (with_reducible refine ae (h1) ?_) | (with_reducible refine ae (h2) ?_) | (with_reducible refine ae (h3) ?_))
  refine bg [1,6,7,8] (by simp only [go_sem,seval]; exact rfl) ?_
  exact ihk
 ·have hlt' : ((k : Int) < (l.length : Int)) = False := eq_false (by omega)
  rw [List.take_of_length_le (by omega)]
  clear ih hf hb he
  repeat' (first | (with_reducible refine hY _ ?_; clear hY Y) | ((with_reducible first | refine au rfl (ay fun K' hK' => aa ?_) | refine hK' _ (ab fun Y hY => aa ?_) | refine ab fun Y hY => aa ?_ | refine ac tk0 cH (ab fun Y hY => aa ?_) | refine aa ?_ | refine jF ?_); (try clear hK' K'); (try dsimp only [aop]); try simp only [go_sem,seval,cH,Tryz.results79,hlt']) | (with_reducible first | refine ag ?_ | refine am ?_ | refine aq ?_ | refine aG fun K hK => ?_ | refine aA ?_ | refine bY ?_ | refine bF ?_ | refine bE ?_) | (with_reducible refine hK _ ?_; clear hK K) | ((with_reducible refine ai ?_ ?_); (· decide)))
mutual
theorem Ak (F : Nat) (hF : aR Tryz.prog (F) = true) (hf : ∀ s,OkS s → ∀ st : List Wd,(bZ st s).length ≤ 1099511627776 → AFn Tryz.prog (F) ([.agg (psA s)] ++ [.loc 20000 0]) [.bc [.sl (st.map bs) st.length (.tok 20001)] 48,.bt st.length 9] (.tup []) [.bc [.sl ((bZ st s).map bs) (bZ st s).length (.tok 20001)] 48,.bt (bZ st s).length 9]) : ∀ s,OkS s → l6 F s.body ∧ l6 F s.els
 | .mk k x f y e v c a rs gs fs b l,h => ⟨sr F b h.2.2.2.2.2.2.2.2.2.2.2.1.1 hF (fun s hs => hf s (fy h.2.2.2.2.2.2.2.2.2.2.2.1.2 s hs)) (fun s hs => (ix F hF hf b h.2.2.2.2.2.2.2.2.2.2.2.1.2 s hs).1) (fun s hs => (ix F hF hf b h.2.2.2.2.2.2.2.2.2.2.2.1.2 s hs).2),
   sr F l h.2.2.2.2.2.2.2.2.2.2.2.2.1 hF (fun s hs => hf s (fy h.2.2.2.2.2.2.2.2.2.2.2.2.2 s hs)) (fun s hs => (ix F hF hf l h.2.2.2.2.2.2.2.2.2.2.2.2.2 s hs).1) (fun s hs => (ix F hF hf l h.2.2.2.2.2.2.2.2.2.2.2.2.2 s hs).2)⟩
theorem ix (F : Nat) (hF : aR Tryz.prog (F) = true) (hf : ∀ s,OkS s → ∀ st : List Wd,(bZ st s).length ≤ 1099511627776 → AFn Tryz.prog (F) ([.agg (psA s)] ++ [.loc 20000 0]) [.bc [.sl (st.map bs) st.length (.tok 20001)] 48,.bt st.length 9] (.tup []) [.bc [.sl ((bZ st s).map bs) (bZ st s).length (.tok 20001)] 48,.bt (bZ st s).length 9]) : ∀ l,gr l → ∀ s ∈ l,l6 F s.body ∧ l6 F s.els
 | [],_ => fun e he => absurd he List.not_mem_nil
 | a :: l,h => gj (P := fun s : PS' => l6 F s.body ∧ l6 F s.els) (Ak F hF hf a h.1) (ix F hF hf l h.2)
end
theorem Al (F : Nat) (hF : aR Tryz.prog (F) = true) (hf : ∀ s,OkS s → ∀ st : List Wd,(bZ st s).length ≤ 1099511627776 → AFn Tryz.prog (F) ([.agg (psA s)] ++ [.loc 20000 0]) [.bc [.sl (st.map bs) st.length (.tok 20001)] 48,.bt st.length 9] (.tup []) [.bc [.sl ((bZ st s).map bs) (bZ st s).length (.tok 20001)] 48,.bt (bZ st s).length 9]) (l : List PS') (hl : Lg l) (h : gr l) : l6 F l :=
 sr F l hl hF (fun s hs => hf s (fy h s hs)) (fun s hs => (ix F hF hf l h s hs).1) (fun s hs => (ix F hF hf l h s hs).2)
abbrev l7 (F : Nat) (g p : AV) (step : Bool × Bool × Bool → PS' → Bool × Bool × Bool) (l : List PS') : Prop := ∀ st : Bool × Bool × Bool,True → AFn Tryz.prog 79 [.sl (du l) l.length .none,.fn (.func F) [] [.loc 20000 0,.rf [g] 0,.loc 20001 0,.rf [p] 0,.loc 20002 0]] [.bc [.c (.bool st.1)] 4,.bc [.c (.bool st.2.1)] 4,.bc [.c (.bool st.2.2)] 4] (.tup []) [.bc [.c (.bool (da step st l).1)] 4,.bc [.c (.bool (da step st l).2.1)] 4,.bc [.c (.bool (da step st l).2.2)] 4]
set_option maxRecDepth 100000 in
set_option maxHeartbeats 16000000 in
theorem su (F : Nat) (g p : AV) (step : Bool × Bool × Bool → PS' → Bool × Bool × Bool) (l : List PS') (hl : Lg l) (hF : aR Tryz.prog (F) = true) (hf : ∀ s ∈ l,∀ st : Bool × Bool × Bool,True → AFn Tryz.prog (F) ([.agg (psA s)] ++ [.loc 20000 0,.rf [g] 0,.loc 20001 0,.rf [p] 0,.loc 20002 0]) [.bc [.c (.bool st.1)] 4,.bc [.c (.bool st.2.1)] 4,.bc [.c (.bool st.2.2)] 4] (.tup []) [.bc [.c (.bool (step st s).1)] 4,.bc [.c (.bool (step st s).2.1)] 4,.bc [.c (.bool (step st s).2.2)] 4])
  (hb : ∀ s ∈ l,l7 F g p step s.body) (he : ∀ s ∈ l,l7 F g p step s.els) : l7 F g p step l := fun st0 hbd => by
 unfold Lg at hl
 refine aM [] Tryz.func79 rfl Tryz.ntmps79 (Nat.le_of_ble_eq_true rfl) (Nat.le_of_ble_eq_true rfl) fun w0 G0 B0 Pr hB0 => ?_
 simp only [aW,aL,List.cons_append,List.nil_append]
 repeat' (first | (with_reducible refine hY _ ?_; clear hY Y) | ((with_reducible first | refine au rfl (ay fun K' hK' => aa ?_) | refine hK' _ (ab fun Y hY => aa ?_) | refine ac tk0 cH (ab fun Y hY => aa ?_)); (try clear hK' K'); (try dsimp only [aop]); try simp only [go_sem,seval,cH,Tryz.results79]) | (with_reducible first | refine ag ?_ | refine am ?_ | refine aq ?_ | refine aG fun K hK => ?_ | refine av ?_ | refine bR ?_) | (with_reducible refine hK _ ?_; clear hK K))
 refine bX (α := Nat) (fun k => [(1,.fn (.func F) [] [.loc 20000 0,.rf [g] 0,.loc 20001 0,.rf [p] 0,.loc 20002 0]),(6,.sl (du l) l.length .none),(7,inA (l.length : Int)),(8,inA (k : Int)),(20000,.bc [.c (.bool (da step st0 (l.take k)).1)] 4),(20001,.bc [.c (.bool (da step st0 (l.take k)).2.1)] 4),(20002,.bc [.c (.bool (da step st0 (l.take k)).2.2)] 4)])
  (fun k => k ≤ l.length) (fun k => l.length - k) 0 [1,6,7,8] ?_ (Nat.zero_le _) ?_
 ·simp only [go_sem,seval] <;> rfl
 intro k hk ih
 by_cases hlt : k < l.length
 ·have hlt' : ((k : Int) < (l.length : Int)) = True := eq_true (by omega)
  have hkw := dp (n := k) (by omega)
  have hg0 := jp hlt
  have hfl := gx l
  have hst := lR step st0 hlt
  have ihk := ih (k + 1) (by omega) (by omega)
  rw [hst] at ihk
  have h1 := hf l[k] (List.getElem_mem hlt) (da step st0 (l.take k)) (by first | exact trivial | omega)
  have h2 := hb l[k] (List.getElem_mem hlt) (step (da step st0 (l.take k)) l[k]) (by first | exact trivial | omega)
  have h3 := he l[k] (List.getElem_mem hlt) (da step (step (da step st0 (l.take k)) l[k]) l[k].body) (by first | exact trivial | omega)
  clear hf hb he ih hst
  generalize da step (da step (step (da step st0 (l.take k)) l[k]) l[k].body) l[k].els = s3 at *
  generalize da step (step (da step st0 (l.take k)) l[k]) l[k].body = s2 at *
  generalize step (da step st0 (l.take k)) l[k] = s1 at *
  generalize da step st0 (l.take k) = s0 at *
  generalize l[k] = t at *
  obtain ⟨sk,x,y,z,⟨ek,en,ex,eks⟩,⟨vk,vn,vx,vks⟩,⟨ck,ce,cks⟩,⟨ak,⟨ack,ace,acks⟩,⟨aek,aen,aex,aeks⟩,⟨avk,avn,avx,avks⟩,af,an,aks⟩,rs,gs,fs,bd,els⟩ := t
  simp only [psA,paA,ci,peA,PS'.body,PS'.els,List.cons_append,List.nil_append] at hg0 h1 h2 h3
  repeat' (first | (with_reducible refine hY _ ?_; clear hY Y) | ((with_reducible first | refine au rfl (ay fun K' hK' => aa ?_) | refine hK' _ (ab fun Y hY => aa ?_) | refine ab fun Y hY => aa ?_ | refine ac tk0 cH (ab fun Y hY => aa ?_) | refine aa ?_); (try clear hK' K'); (try dsimp only [aop]); try simp only [go_sem,seval,cH,Tryz.results79,hlt',hfl,hg0,hkw,hF]) | (with_reducible first | refine ag ?_ | refine am ?_ | refine aq ?_ | refine aG fun K hK => ?_ | refine az ?_ | refine ba ?_ | refine av ?_ | refine aH ?_) | (with_reducible refine hK _ ?_; clear hK K) | ((with_reducible refine ai ?_ ?_); (· decide)) | (with_reducible refine bm ?_ ?_; (· (try and_intros) <;> first | omega | assumption | (simp only [List.length_append,List.length_map,List.length_cons,List.length_nil] <;> omega))) | (with_reducible refine ae (h1) ?_) | (with_reducible refine ae (h2) ?_) | (with_reducible refine ae (h3) ?_))
  refine bg [1,6,7,8] (by simp only [go_sem,seval]; exact rfl) ?_
  exact ihk
 ·have hlt' : ((k : Int) < (l.length : Int)) = False := eq_false (by omega)
  rw [List.take_of_length_le (by omega)]
  clear ih hf hb he
  repeat' (first | (with_reducible refine hY _ ?_; clear hY Y) | ((with_reducible first | refine au rfl (ay fun K' hK' => aa ?_) | refine hK' _ (ab fun Y hY => aa ?_) | refine ab fun Y hY => aa ?_ | refine ac tk0 cH (ab fun Y hY => aa ?_) | refine aa ?_ | refine jF ?_); (try clear hK' K'); (try dsimp only [aop]); try simp only [go_sem,seval,cH,Tryz.results79,hlt']) | (with_reducible first | refine ag ?_ | refine am ?_ | refine aq ?_ | refine aG fun K hK => ?_ | refine aA ?_ | refine bY ?_ | refine bF ?_ | refine bE ?_) | (with_reducible refine hK _ ?_; clear hK K) | ((with_reducible refine ai ?_ ?_); (· decide)))
mutual
theorem Am (F : Nat) (g p : AV) (step : Bool × Bool × Bool → PS' → Bool × Bool × Bool) (hF : aR Tryz.prog (F) = true) (hf : ∀ s,OkS s → ∀ st : Bool × Bool × Bool,True → AFn Tryz.prog (F) ([.agg (psA s)] ++ [.loc 20000 0,.rf [g] 0,.loc 20001 0,.rf [p] 0,.loc 20002 0]) [.bc [.c (.bool st.1)] 4,.bc [.c (.bool st.2.1)] 4,.bc [.c (.bool st.2.2)] 4] (.tup []) [.bc [.c (.bool (step st s).1)] 4,.bc [.c (.bool (step st s).2.1)] 4,.bc [.c (.bool (step st s).2.2)] 4]) : ∀ s,OkS s → l7 F g p step s.body ∧ l7 F g p step s.els
 | .mk k x f y e v c a rs gs fs b l,h => ⟨su F g p step b h.2.2.2.2.2.2.2.2.2.2.2.1.1 hF (fun s hs => hf s (fy h.2.2.2.2.2.2.2.2.2.2.2.1.2 s hs)) (fun s hs => (iy F g p step hF hf b h.2.2.2.2.2.2.2.2.2.2.2.1.2 s hs).1) (fun s hs => (iy F g p step hF hf b h.2.2.2.2.2.2.2.2.2.2.2.1.2 s hs).2),
   su F g p step l h.2.2.2.2.2.2.2.2.2.2.2.2.1 hF (fun s hs => hf s (fy h.2.2.2.2.2.2.2.2.2.2.2.2.2 s hs)) (fun s hs => (iy F g p step hF hf l h.2.2.2.2.2.2.2.2.2.2.2.2.2 s hs).1) (fun s hs => (iy F g p step hF hf l h.2.2.2.2.2.2.2.2.2.2.2.2.2 s hs).2)⟩
theorem iy (F : Nat) (g p : AV) (step : Bool × Bool × Bool → PS' → Bool × Bool × Bool) (hF : aR Tryz.prog (F) = true) (hf : ∀ s,OkS s → ∀ st : Bool × Bool × Bool,True → AFn Tryz.prog (F) ([.agg (psA s)] ++ [.loc 20000 0,.rf [g] 0,.loc 20001 0,.rf [p] 0,.loc 20002 0]) [.bc [.c (.bool st.1)] 4,.bc [.c (.bool st.2.1)] 4,.bc [.c (.bool st.2.2)] 4] (.tup []) [.bc [.c (.bool (step st s).1)] 4,.bc [.c (.bool (step st s).2.1)] 4,.bc [.c (.bool (step st s).2.2)] 4]) : ∀ l,gr l → ∀ s ∈ l,l7 F g p step s.body ∧ l7 F g p step s.els
 | [],_ => fun e he => absurd he List.not_mem_nil
 | a :: l,h => gj (P := fun s : PS' => l7 F g p step s.body ∧ l7 F g p step s.els) (Am F g p step hF hf a h.1) (iy F g p step hF hf l h.2)
end
theorem An (F : Nat) (g p : AV) (step : Bool × Bool × Bool → PS' → Bool × Bool × Bool) (hF : aR Tryz.prog (F) = true) (hf : ∀ s,OkS s → ∀ st : Bool × Bool × Bool,True → AFn Tryz.prog (F) ([.agg (psA s)] ++ [.loc 20000 0,.rf [g] 0,.loc 20001 0,.rf [p] 0,.loc 20002 0]) [.bc [.c (.bool st.1)] 4,.bc [.c (.bool st.2.1)] 4,.bc [.c (.bool st.2.2)] 4] (.tup []) [.bc [.c (.bool (step st s).1)] 4,.bc [.c (.bool (step st s).2.1)] 4,.bc [.c (.bool (step st s).2.2)] 4]) (l : List PS') (hl : Lg l) (h : gr l) : l7 F g p step l :=
 su F g p step l hl hF (fun s hs => hf s (fy h s hs)) (fun s hs => (iy F g p step hF hf l h s hs).1) (fun s hs => (iy F g p step hF hf l h s hs).2)
def dt : Nat → List Nat
 | 0 => [0,1]
 | 1 => [1,2]
 | 2 => [1,2]
 | _ => []
set_option maxRecDepth 100000 in
set_option maxHeartbeats 4000000 in
theorem CR (s : PS') (ho : OkS s) (o : List Wd) (hb : (bZ o s).length ≤ 1099511627776) :
  AFn Tryz.prog 159 [.agg (psA s),.loc 20000 0] [.bc [.sl (o.map bs) o.length (.tok 20001)] 48,.bt o.length 9] (.tup []) [.bc [.sl ((bZ o s).map bs) (bZ o s).length (.tok 20001)] 48,.bt (bZ o s).length 9] := by
 have hol := sa o s.name
 have h1 := lw (args := [.sl (o.map bs) o.length (.tok 20000),bs s.name]) (bxs := [.bt o.length 9]) (iS o s.name (by unfold bZ at hb; omega)) rfl
 obtain ⟨R,hR⟩ : ∃ R,R = bZ o s := ⟨_,rfl⟩
 rw [← hR] at hb ⊢
 unfold bZ oK at hR
 obtain ⟨sk,x,y,z,⟨ek,en,ex,eks⟩,⟨vk,vn,vx,vks⟩,⟨ck,ce,cks⟩,⟨ak,⟨ack,ace,acks⟩,⟨aek,aen,aex,aeks⟩,⟨avk,avn,avx,avks⟩,af,an,aks⟩,rs,gs,fs,bd,els⟩ := s
 simp only [PS'.name] at h1
 change R = (if (x.isEmpty || o.contains x) = true then o else o ++ [x]) at hR
 simp only [psA,paA,ci,peA,List.cons_append,List.nil_append]
 clear hol ho
 by_cases hx : x = []
 ·subst hx
  simp only [List.isEmpty_nil,Bool.true_or,if_true] at hR
  subst hR
  refine aM [] Tryz.func159 rfl Tryz.ntmps159 (Nat.le_of_ble_eq_true rfl) (Nat.le_of_ble_eq_true rfl) fun w0 G0 B0 Pr hB0 => ?_
  simp only [aW,aL,List.cons_append,List.nil_append]
  repeat' (first | (with_reducible refine hY _ ?_; clear hY Y) | ((with_reducible first | refine au rfl (ay fun K' hK' => aa ?_) | refine hK' _ (ab fun Y hY => aa ?_) | refine bf rfl (ab fun Y hY => aa ?_) | refine ab fun Y hY => aa ?_ | refine ac tk0 dt (ab fun Y hY => aa ?_) | refine aa ?_ | refine jF ?_); (try clear hK' K'); (try dsimp only [aop]); try simp only [go_sem,seval,dt,Tryz.results159]) | (with_reducible first | refine ag ?_ | refine aU rfl ?_ | refine cN ?_ ?_ | refine am ?_ | refine aq ?_ | refine aG fun K hK => ?_ | refine aA ?_ | refine aH ?_) | (with_reducible refine hK _ ?_; clear hK K) | ((with_reducible first | refine aJ ?_ ?_ | refine ai ?_ ?_); (· decide)) | (with_reducible refine bv (bW _) ?_))
 ·have hx0 : (x == ([] : Wd)) = false := by cases x <;> simp_all
  have hx1 : x.isEmpty = false := by cases x <;> simp_all
  rw [hx1,Bool.false_or] at hR
  generalize o.contains x = b at *
  cases b with
  | true =>
   simp only [if_true] at hR
   subst hR
   refine aM [] Tryz.func159 rfl Tryz.ntmps159 (Nat.le_of_ble_eq_true rfl) (Nat.le_of_ble_eq_true rfl) fun w0 G0 B0 Pr hB0 => ?_
   simp only [aW,aL,List.cons_append,List.nil_append]
   repeat' (first | (with_reducible refine hY _ ?_; clear hY Y) | ((with_reducible first | refine au rfl (ay fun K' hK' => aa ?_) | refine hK' _ (ab fun Y hY => aa ?_) | refine bf rfl (ab fun Y hY => aa ?_) | refine ab fun Y hY => aa ?_ | refine ay fun K' hK' => aa ?_ | refine ac tk0 dt (ab fun Y hY => aa ?_) | refine aa ?_ | refine jF ?_); (try clear hK' K'); (try dsimp only [aop]); try simp only [go_sem,seval,dt,Tryz.results159,hx0]) | (with_reducible first | refine ag ?_ | refine aK ?_ | refine am ?_ | refine aq ?_ | refine aG fun K hK => ?_ | refine aA ?_ | refine aH ?_) | (with_reducible refine hK _ ?_; clear hK K) | ((with_reducible first | refine aJ ?_ ?_ | refine ai ?_ ?_); (· decide)) | (with_reducible refine ae (h1) ?_) | (with_reducible refine bv (bW _) ?_))
  | false =>
   simp only [Bool.false_eq_true,if_false] at hR
   subst hR
   rw [List.length_append,List.length_singleton] at hb
   refine aM [] Tryz.func159 rfl Tryz.ntmps159 (Nat.le_of_ble_eq_true rfl) (Nat.le_of_ble_eq_true rfl) fun w0 G0 B0 Pr hB0 => ?_
   simp only [aW,aL,List.cons_append,List.nil_append]
   repeat' (first | (with_reducible refine hY _ ?_; clear hY Y) | ((with_reducible first | refine au rfl (ay fun K' hK' => aa ?_) | refine hK' _ (ab fun Y hY => aa ?_) | refine bf rfl (ab fun Y hY => aa ?_) | refine ab fun Y hY => aa ?_ | refine ay fun K' hK' => aa ?_ | refine ac tk0 dt (ab fun Y hY => aa ?_) | refine aa ?_ | refine jF ?_); (try clear hK' K'); (try dsimp only [aop]); try simp only [go_sem,seval,dt,Tryz.results159,hx0]) | (with_reducible first | refine ag ?_ | refine aK ?_ | refine am ?_ | refine aq ?_ | refine aG fun K hK => ?_ | refine az ?_) | (with_reducible refine hK _ ?_; clear hK K) | ((with_reducible first | refine aJ ?_ ?_ | refine ai ?_ ?_); (· decide)) | (with_reducible refine bm ?_ ?_; (· (try and_intros) <;> first | omega | assumption | (simp only [List.length_append,List.length_map,List.length_cons,List.length_nil] <;> omega))) | (with_reducible refine ae (h1) ?_) | (with_reducible refine bv (bW _) ?_))
   all_goals simp
def dR : Nat → List Nat
 | 0 => [0]
 | 1 => [0]
 | 2 => [0,3]
 | 3 => [3]
 | _ => []
set_option maxRecDepth 100000 in
set_option maxHeartbeats 4000000 in
theorem uR (l : List PS') (hl : Lg l) (ho : gr l) (hb : (jK [] l).length ≤ 1099511627776) : AFn Tryz.prog 74 [.sl (du l) l.length .none] [] (.sl ((jK [] l).map bs) (jK [] l).length .none) [] := by
 have h1 := Al 159 rfl (fun s hs o hb => CR s hs o hb) l hl ho [] hb
 change AFn _ _ _ _ _ [.bc [.sl ((jK [] l).map bs) (jK [] l).length (.tok 20001)] 48,.bt (jK [] l).length 9] at h1
 generalize jK [] l = o at *
 simp only [List.map_nil,List.length_nil] at h1
 refine aM [] Tryz.func74 rfl Tryz.ntmps74 (Nat.le_of_ble_eq_true rfl) (Nat.le_of_ble_eq_true rfl) fun w0 G0 B0 Pr hB0 => ?_
 simp only [aW,aL,List.cons_append,List.nil_append]
 repeat' (first | (with_reducible refine hY _ ?_; clear hY Y) | ((with_reducible first | refine au rfl (ay fun K' hK' => aa ?_) | refine hK' _ (ab fun Y hY => aa ?_)); (try clear hK' K'); (try dsimp only [aop]); try simp only [go_sem,seval,dR,Tryz.results74]) | (with_reducible first | refine ag ?_ | refine am ?_ | refine aG fun K hK => ?_) | ((with_reducible refine bC 2 ?_ ?_); (· rfl)) | ((with_reducible refine aS 2 tk0 dR ?_ (ab fun Y hY => aa ?_)); (· rfl); (try dsimp only [aop]); try simp only [go_sem,seval,dR,Tryz.results74]) | (with_reducible refine hK _ ?_; clear hK K))
 refine rq (xV (b := 19999) (k0 := 10003) (i := 0) 9 (by decide) (by decide) (by decide) rfl rfl rfl) ?_
 refine jy (σ' := [(0,.sl (du l) l.length .none),(3,.loc 10003 0),(10003,.bc [.sl [] 0 (.tok 19999)] 48),(19999,.bt 0 9)]) ?_ rfl
 repeat' (first | (with_reducible refine hY _ ?_; clear hY Y) | ((with_reducible first | refine au rfl (ay fun K' hK' => aa ?_) | refine hK' _ (ab fun Y hY => aa ?_) | refine ac tk0 dR (ab fun Y hY => aa ?_) | refine aa ?_ | refine ax ?_); (try clear hK' K'); (try dsimp only [aop]); try simp only [go_sem,seval,dR,Tryz.results74]) | (with_reducible first | refine ag ?_ | refine am ?_ | refine aq ?_ | refine aG fun K hK => ?_ | refine aB ?_) | (with_reducible refine hK _ ?_; clear hK K) | (with_reducible refine ae (h1) ?_))
def gC : Nat → List Nat
 | 0 => [0,1]
 | 1 => [1,2]
 | _ => []
set_option maxRecDepth 100000 in
set_option maxHeartbeats 4000000 in
theorem Ar (p : PP) (x : Wd) : AFn Tryz.prog 166 [.agg (ppA p),.rf [bs x] 0] [] (.c (.bool (p.name == x))) [] := by
 obtain ⟨nm,prs,ghs,⟨ak,⟨ack,ace,acks⟩,⟨aek,aen,aex,aeks⟩,⟨avk,avn,avx,avks⟩,af,an,aks⟩,⟨qk,⟨qck,qce,qcks⟩,⟨qek,qen,qex,qeks⟩,⟨qvk,qvn,qvx,qvks⟩,qf,qn,qks⟩,bd⟩ := p
 simp only [ppA,paA,ci,peA,List.cons_append,List.nil_append]
 refine aM [] Tryz.func166 rfl Tryz.ntmps166 (Nat.le_of_ble_eq_true rfl) (Nat.le_of_ble_eq_true rfl) fun w0 G0 B0 Pr hB0 => ?_
 simp only [aW,aL,List.cons_append,List.nil_append]
 repeat' (first | (with_reducible refine hY _ ?_; clear hY Y) | ((with_reducible first | refine au rfl (ay fun K' hK' => aa ?_) | refine hK' _ (ab fun Y hY => aa ?_) | refine ac tk0 gC (ab fun Y hY => aa ?_) | refine aa ?_ | refine ax ?_); (try clear hK' K'); (try dsimp only [aop]); try simp only [go_sem,seval,gC,Tryz.results166]) | (with_reducible first | refine ag ?_ | refine am ?_ | refine aq ?_ | refine aG fun K hK => ?_ | refine aB ?_) | (with_reducible refine hK _ ?_; clear hK K) | (with_reducible refine bv (bW _) ?_))
abbrev ppZ : PP := ⟨[],[],[],.mk 0 (.mk 0 [] []) (.mk 0 0 [] []) (.mk 0 0 [] []) [] 0 [],.mk 0 (.mk 0 [] []) (.mk 0 0 [] []) (.mk 0 0 [] []) [] 0 [],[]⟩
theorem kT {ps : List PP} {x : Wd} {i : Nat} (h : gB ps x = some i) : fiP (fun p : PP => p.name == x) ps = (i : Int) ∧ i < ps.length := by
 unfold gB at h
 rw [List.findIdx?_eq_some_iff_getElem] at h
 obtain ⟨h1,h2,h3⟩ := h
 exact ⟨jU h1 (fun j hj hji => by simpa using h3 j hji) h2,h1⟩
theorem t6 {ps : List PP} {x : Wd} (h : gB ps x = none) : fiP (fun p : PP => p.name == x) ps = -1 := by
 unfold gB at h
 rw [List.findIdx?_eq_none_iff] at h
 exact jV fun j hj => h _ (List.getElem_mem hj)
def cZ : Nat → List Nat
 | 0 => [0,1]
 | 1 => [2,3,4]
 | 2 => [2,4,6]
 | 3 => [4]
 | 4 => [2,4,6]
 | _ => []
set_option maxRecDepth 100000 in
set_option maxHeartbeats 8000000 in
theorem C3 (ps : List PP) (hl : Lg ps) (x : Wd) : AFn Tryz.prog 84 [.agg [dN ps],bs x] [] (match (gB ps x).bind fun i => ps[i]? with | some p => .tup [.agg (ppA p),.c .nilIface] | none => .tup [.agg ((ppA ppZ).map id),eM 15]) [] := by
 have h1 := wg ps 166 [bs x] (fun p => p.name == x) rfl hl fun y _ => Ar y x
 simp only [List.map_id]
 cases hf : gB ps x with
 | none =>
  rw [t6 hf] at h1
  simp only [Option.bind_none,dq (e := 15) (by decide),ppA,paA,ci,peA,cl,dc,ew,du,List.map_nil,List.length_nil,List.cons_append,List.nil_append]
  clear hf
  refine CP (r := .tup [.agg [bs [],.sl [] 0 .full,.sl [] 0 .full,inA 0,inA 0,.sl [] 0 .full,.sl [] 0 .full,inA 0,inA 0,bs [],.sl [] 0 .full,inA 0,inA 0,bs [],.sl [] 0 .full,bs [],inA 0,.sl [] 0 .full,inA 0,inA 0,.sl [] 0 .full,.sl [] 0 .full,inA 0,inA 0,bs [],.sl [] 0 .full,inA 0,inA 0,bs [],.sl [] 0 .full,bs [],inA 0,.sl [] 0 .full,.sl [] 0 .full],.ifc 41 (.c (.int .i64 15))]) ?_ 4 rfl
  refine aM [] Tryz.func84 rfl Tryz.ntmps84 (Nat.le_of_ble_eq_true rfl) (Nat.le_of_ble_eq_true rfl) fun w0 G0 B0 Pr hB0 => ?_
  simp only [aW,aL,List.cons_append,List.nil_append]
  repeat' (first | (with_reducible refine hY _ ?_; clear hY Y) | ((with_reducible first | refine au rfl (ay fun K' hK' => aa ?_) | refine hK' _ (ab fun Y hY => aa ?_)); (try clear hK' K'); (try dsimp only [aop]); try simp only [go_sem,seval,cZ,Tryz.results84]) | (with_reducible first | refine ag ?_ | refine am ?_ | refine aG fun K hK => ?_) | ((with_reducible refine bC 1 ?_ ?_); (· rfl)) | ((with_reducible refine aS 1 tk0 cZ ?_ (ab fun Y hY => aa ?_)); (· rfl); (try dsimp only [aop]); try simp only [go_sem,seval,cZ,Tryz.results84]) | (with_reducible refine hK _ ?_; clear hK K))
  refine dj 10003 ⟨by decide,by decide⟩ rfl rfl (by simp only [go_sem,seval]; exact rfl) (by simp only [go_sem,seval]; exact rfl) ?_
  repeat' (first | (with_reducible refine hY _ ?_; clear hY Y) | ((with_reducible first | refine au rfl (ay fun K' hK' => aa ?_) | refine hK' _ (ab fun Y hY => aa ?_) | refine ab fun Y hY => aa ?_ | refine ac tk0 cZ (ab fun Y hY => aa ?_) | refine aa ?_ | refine ax ?_); (try clear hK' K'); (try dsimp only [aop]); try simp only [go_sem,seval,cZ,Tryz.results84]) | (with_reducible first | refine ag ?_ | refine am ?_ | refine aq ?_ | refine aG fun K hK => ?_ | refine az ?_ | refine bh ?_ | refine aB ?_) | (with_reducible refine hK _ ?_; clear hK K) | ((with_reducible refine ai ?_ ?_); (· decide)) | (with_reducible refine ae (h1) ?_))
 | some i =>
  obtain ⟨h2,hlt⟩ := kT hf
  rw [h2] at h1
  have hg0 := jN hlt
  have hfl := gw ps
  have hlt' : ((i : Int) < (ps.length : Int)) = True := eq_true (by omega)
  have hn0 : ((i : Int) < 0) = False := eq_false (by omega)
  simp only [Option.bind_some,List.getElem?_eq_getElem hlt]
  clear hf h2
  generalize ps[i] = t at *
  obtain ⟨nm,prs,ghs,⟨ak,⟨ack,ace,acks⟩,⟨aek,aen,aex,aeks⟩,⟨avk,avn,avx,avks⟩,af,an,aks⟩,⟨qk,⟨qck,qce,qcks⟩,⟨qek,qen,qex,qeks⟩,⟨qvk,qvn,qvx,qvks⟩,qf,qn,qks⟩,bd⟩ := t
  simp only [ppA,paA,ci,peA,List.cons_append,List.nil_append] at hg0 ⊢
  refine aM [] Tryz.func84 rfl Tryz.ntmps84 (Nat.le_of_ble_eq_true rfl) (Nat.le_of_ble_eq_true rfl) fun w0 G0 B0 Pr hB0 => ?_
  simp only [aW,aL,List.cons_append,List.nil_append]
  repeat' (first | (with_reducible refine hY _ ?_; clear hY Y) | ((with_reducible first | refine au rfl (ay fun K' hK' => aa ?_) | refine hK' _ (ab fun Y hY => aa ?_)); (try clear hK' K'); (try dsimp only [aop]); try simp only [go_sem,seval,cZ,Tryz.results84]) | (with_reducible first | refine ag ?_ | refine am ?_ | refine aG fun K hK => ?_) | ((with_reducible refine bC 1 ?_ ?_); (· rfl)) | ((with_reducible refine aS 1 tk0 cZ ?_ (ab fun Y hY => aa ?_)); (· rfl); (try dsimp only [aop]); try simp only [go_sem,seval,cZ,Tryz.results84]) | (with_reducible refine hK _ ?_; clear hK K))
  refine dj 10003 ⟨by decide,by decide⟩ rfl rfl (by simp only [go_sem,seval]; exact rfl) (by simp only [go_sem,seval]; exact rfl) ?_
  repeat' (first | (with_reducible refine hY _ ?_; clear hY Y) | ((with_reducible first | refine au rfl (ay fun K' hK' => aa ?_) | refine hK' _ (ab fun Y hY => aa ?_) | refine ab fun Y hY => aa ?_ | refine ac tk0 cZ (ab fun Y hY => aa ?_) | refine aa ?_ | refine ax ?_); (try clear hK' K'); (try dsimp only [aop]); try simp only [go_sem,seval,cZ,Tryz.results84,hlt',hn0,hg0,hfl]) | (with_reducible first | refine ag ?_ | refine am ?_ | refine aq ?_ | refine aG fun K hK => ?_ | refine aA ?_ | refine aH ?_ | refine aB ?_) | (with_reducible refine hK _ ?_; clear hK K) | ((with_reducible refine ai ?_ ?_); (· decide)) | (with_reducible refine bm ?_ ?_; (· (try and_intros) <;> first | omega | assumption | (simp only [List.length_append,List.length_map,List.length_cons,List.length_nil] <;> omega))) | (with_reducible refine ae (h1) ?_))
end Go.Proofs.YtkjnkkmokojnpaaGreatDoor
