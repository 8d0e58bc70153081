/- NamesStays in K: asked again the same is answered. NamesStays in K: the parts joined. NamesStays, the statement: programs that are handed in stay as they are, and asked again the same is answered (programs of too many parts are let go, but for the two examples at the head); the law answers true. -/
import Derived.Test.YtkjnkkmokojnpaaGreatDoorZ27
import Derived.Test.YtkjnkkmokojnpaaGreatDoorZ44
import Derived.Test.YtkjnkkmokojnpaaGreatDoorZ38
import Derived.Test.YtkjnkkmokojnpaaGreatDoorTie
import Derived.Test.YtkjnkkmokojnpaaGreatDoorCards
import Derived.SevenTiedAt
import Derived.Stop.Joined
import Derived.LaidMore
import Derived.ProofKit
import Derived.OpenShut
import Derived.ChangeOld
import Derived.SizedLaws
namespace Go.Proofs.YtkjnkkmokojnpaaGreatDoor
set_option linter.unusedSimpArgs false
set_option linter.unusedVariables false
open Go.RowKit
theorem yy (e : Nat) (a : Int) : jl e a = .c .nilIface ∨ jl e a = .ifc 41 (inA (e : Int)) ∨ jl e a = .ifc 63 (.rf [inA a,.ifc 41 (inA (e : Int))] 0) := by
 unfold jl kJ eM
 by_cases h : e = 0
 ·subst h; exact .inl (by simp)
 ·by_cases ha : a < 0
  ·exact .inr (.inl (by simp [ha,h]))
  ·exact .inr (.inr (by simp [ha,h]))
set_option maxRecDepth 100000 in
theorem u2 (a b : Bool) : ∀ w,(((pure () : Sem Unit) >>= fun _ => binOp .eql 4 (.bool a) (.bool b)) : Sem Value).run Tryz.prog w = .ok (.bool (a == b)) w := fun w => by
 have ht := Tryz.underlying4
 have h : ∀ d : Nat,(Op.equalIn (d + 2) 4 (.bool a) (.bool b)).run Tryz.prog w = .ok (a == b) w := fun d => by
  simp [Op.equalIn,run_underlying ht]
 have h2 : (binOp .eql 4 (.bool a) (.bool b)).run Tryz.prog w = .ok (.bool (a == b)) w := by
  simp only [binOp]
  simp [Op.equal,Op.maxDepth,h 9998]
 rw [Sem.run_bind]
 exact h2
theorem wn {ps : List PP} (h : gy ps 600 = true) : (∀ x ∈ ps,LtT x 600) ∧ ps.length ≤ 50 := by
 unfold gy at h
 by_cases h1 : 50 < ps.length
 ·rw [if_pos h1] at h; cases h
 ·rw [if_neg h1] at h; exact ⟨uk ps 600 (by decide) h,by omega⟩
def bI : Nat → List Nat
 | 0 => [0]
 | 1 => [1]
 | 2 => [1,3]
 | 3 => [1,3,4]
 | 4 => [3]
 | 5 => [1,3]
 | 6 => [1,3,5,6]
 | 7 => [1,3,5,6,7]
 | 8 => [1,3,5,6,7,8]
 | 9 => [3,5,6,7,8,9,10]
 | _ => []
set_option maxRecDepth 100000 in
set_option maxHeartbeats 8000000 in
theorem qQ (hu : AFn Tryz.prog 8 [] [] (.c (.bool true)) []) (ps : List PP) (ho : kL ps) (h1 : gy ps 600 = true → NmC ps) (h2 : gy ps 600 = true → oS ps) :
  AFn Tryz.prog 4 [.agg [dN ps]] [] (.c (.bool true)) [] := by
 have hs := rL ps ho
 cases hb : gy ps 600 with
 | false =>
  rw [hb] at hs
  clear h1 h2
  refine aM [] Tryz.func4 rfl Tryz.ntmps4 (Nat.le_of_ble_eq_true rfl) (Nat.le_of_ble_eq_true rfl) fun w0 G0 B0 Pr hB0 => ?_
  simp only [aW,aL,List.cons_append,List.nil_append]
  repeat' (first | (with_reducible refine hY _ ?_; clear hY Y) | ((with_reducible first | refine au rfl (ay fun K' hK' => aa ?_) | refine hK' _ (ab fun Y hY => aa ?_) | refine ab fun Y hY => aa ?_ | refine ac tk0 bI (ab fun Y hY => aa ?_) | refine aa ?_ | refine ax ?_); (try clear hK' K'); (try dsimp only [aop]); try simp only [go_sem,seval,bI,Tryz.results4]) | (with_reducible first | refine ag ?_ | refine am ?_ | refine aq ?_ | refine aG fun K hK => ?_ | refine az ?_ | refine bh ?_ | refine aB ?_) | (with_reducible refine hK _ ?_; clear hK K) | ((with_reducible refine ai ?_ ?_); (· decide)) | (with_reducible refine ae (hu) ?_) | (with_reducible refine ae (hs) ?_))
 | true =>
  rw [hb] at hs
  have d1 := h1 hb
  have d2 := h2 hb
  clear h1 h2
  unfold NmC at d1
  unfold oS at d2
  have hz := yy (dW ps).1 (dW ps).2
  generalize (dW ps).1 = n at *
  generalize (dW ps).2 = a at *
  generalize jl n a = er at *
  generalize (ll ps).1 = T at *
  generalize (ll ps).2 = E at *
  rcases hz with rfl | rfl | rfl
  ·refine aM [] Tryz.func4 rfl Tryz.ntmps4 (Nat.le_of_ble_eq_true rfl) (Nat.le_of_ble_eq_true rfl) fun w0 G0 B0 Pr hB0 => ?_
   simp only [aW,aL,List.cons_append,List.nil_append]
   repeat' (first | (with_reducible refine hY _ ?_; clear hY Y) | ((with_reducible first | refine au rfl (ay fun K' hK' => aa ?_) | refine hK' _ (ab fun Y hY => aa ?_) | refine ab fun Y hY => aa ?_ | refine ac tk0 bI (ab fun Y hY => aa ?_) | refine aa ?_ | refine ax ?_ | refine cG rfl (cQ fun K' hK' => aa ?_) | refine hK' _ _ (ab fun Y hY => aa ?_) | refine fX rfl (ab fun Y hY => aa ?_) | refine cQ fun K' hK' => aa ?_); (try clear hK' K'); (try dsimp only [aop]); try simp only [go_sem,seval,bI,Tryz.results4]) | (with_reducible first | refine ag ?_ | refine aK ?_ | refine am ?_ | refine aq ?_ | refine aG fun K hK => ?_ | refine aA ?_ | refine aH ?_ | refine aB ?_ | refine bK ?_ | refine ef fun K hK => ?_) | (with_reducible refine hK _ ?_; clear hK K) | (with_reducible refine hK _ _ ?_ ?_; (· kernel_rfl); clear hK K) | ((with_reducible first | refine aJ ?_ ?_ | refine ai ?_ ?_); (· decide)) | (with_reducible refine bV tk0 bI ?_ ?_; (· kernel_rfl)) | (with_reducible refine ae (hu) ?_) | (with_reducible refine ae (hs) ?_) | (with_reducible refine ae (d1) ?_) | (with_reducible refine ae (d2) ?_) | (with_reducible refine bv (sw) ?_) | (with_reducible refine bv (u2 _ _) ?_) | (with_reducible refine bv (bW _) ?_))
  ·refine aM [] Tryz.func4 rfl Tryz.ntmps4 (Nat.le_of_ble_eq_true rfl) (Nat.le_of_ble_eq_true rfl) fun w0 G0 B0 Pr hB0 => ?_
   simp only [aW,aL,List.cons_append,List.nil_append]
   repeat' (first | (with_reducible refine hY _ ?_; clear hY Y) | ((with_reducible first | refine au rfl (ay fun K' hK' => aa ?_) | refine hK' _ (ab fun Y hY => aa ?_) | refine ab fun Y hY => aa ?_ | refine ac tk0 bI (ab fun Y hY => aa ?_) | refine aa ?_ | refine ax ?_ | refine cG rfl (cQ fun K' hK' => aa ?_) | refine hK' _ _ (ab fun Y hY => aa ?_) | refine fX rfl (ab fun Y hY => aa ?_) | refine cQ fun K' hK' => aa ?_); (try clear hK' K'); (try dsimp only [aop]); try simp only [go_sem,seval,bI,Tryz.results4]) | (with_reducible first | refine ag ?_ | refine aK ?_ | refine am ?_ | refine aq ?_ | refine aG fun K hK => ?_ | refine aA ?_ | refine aH ?_ | refine aB ?_ | refine bK ?_ | refine ef fun K hK => ?_) | (with_reducible refine hK _ ?_; clear hK K) | (with_reducible refine hK _ _ ?_ ?_; (· kernel_rfl); clear hK K) | ((with_reducible first | refine aJ ?_ ?_ | refine ai ?_ ?_); (· decide)) | (with_reducible refine bV tk0 bI ?_ ?_; (· kernel_rfl)) | (with_reducible refine ae (hu) ?_) | (with_reducible refine ae (hs) ?_) | (with_reducible refine ae (d1) ?_) | (with_reducible refine ae (d2) ?_) | (with_reducible refine bv (u2 _ _) ?_) | (with_reducible refine bv (bW _) ?_))
  ·refine aM [] Tryz.func4 rfl Tryz.ntmps4 (Nat.le_of_ble_eq_true rfl) (Nat.le_of_ble_eq_true rfl) fun w0 G0 B0 Pr hB0 => ?_
   simp only [aW,aL,List.cons_append,List.nil_append]
   repeat' (first | (with_reducible refine hY _ ?_; clear hY Y) | ((with_reducible first | refine au rfl (ay fun K' hK' => aa ?_) | refine hK' _ (ab fun Y hY => aa ?_) | refine ab fun Y hY => aa ?_ | refine ac tk0 bI (ab fun Y hY => aa ?_) | refine aa ?_ | refine ax ?_ | refine cG rfl (cQ fun K' hK' => aa ?_) | refine hK' _ _ (ab fun Y hY => aa ?_) | refine fX rfl (ab fun Y hY => aa ?_) | refine cQ fun K' hK' => aa ?_); (try clear hK' K'); (try dsimp only [aop]); try simp only [go_sem,seval,bI,Tryz.results4]) | (with_reducible first | refine ag ?_ | refine aK ?_ | refine am ?_ | refine aq ?_ | refine aG fun K hK => ?_ | refine aA ?_ | refine aH ?_ | refine aB ?_ | refine bK ?_ | refine ef fun K hK => ?_) | (with_reducible refine hK _ ?_; clear hK K) | (with_reducible refine hK _ _ ?_ ?_; (· kernel_rfl); clear hK K) | ((with_reducible first | refine aJ ?_ ?_ | refine ai ?_ ?_); (· decide)) | (with_reducible refine bV tk0 bI ?_ ?_; (· kernel_rfl)) | (with_reducible refine ae (hu) ?_) | (with_reducible refine ae (hs) ?_) | (with_reducible refine ae (d1) ?_) | (with_reducible refine ae (d2) ?_) | (with_reducible refine bv (u2 _ _) ?_) | (with_reducible refine bv (bW _) ?_))
end Go.Proofs.YtkjnkkmokojnpaaGreatDoor
namespace Go.Proofs.YtkjnkkmokojnpaaGreatDoor
open Go.RowKit
theorem sV (ps : List PP) (ho : kL ps) : AFn Tryz.prog 4 [.agg [dN ps]] [] (.c (.bool true)) [] :=
 qQ zK ps ho (fun h => nf ps ho (kY h)) fun h => vz ps ho (wn h).1 (wn h).2 (ut ps ho)
end Go.Proofs.YtkjnkkmokojnpaaGreatDoor
namespace Go.Proofs.YtkjnkkmokojnpaaGreatDoor.namesStays
open Go.ChangeShapes Go.WideShapes Go.ChangeAt Go.RowKit
set_option linter.unusedVariables false
set_option linter.unusedSimpArgs false
theorem own : ownKnob Tryz.prog.godebug = none := by kernel_rfl
theorem laidOut : laidOutB Tryz.prog = true := by kernel_rfl
theorem door_met (os : Os) (args : Array Value) : laidMetH Tryz.prog Rows.namesStaysRow.laid ((World.doorLaid Tryz.prog 400 os).forCall (fun _ _ => 0) ⟨#[],args,[]⟩).memory :=
 laidMetH_of_parts3 (fuel := 8) (laidMet_of_run' 8 (by kernel_rfl) (by kernel_rfl)) (by kernel_rfl) (by kernel_rfl)
set_option maxRecDepth 100000 in
theorem lifted (os : Os) (started : os.Started) (H : Type) (enc : TypeId × Value → H) :
  ReturnsInHanded {} Tryz.checked os 4 .any (fun w args => (Rows.namesStaysSpec.pre enc Tryz.prog Tryz.f4 [] false w args ∧ laidMetH Tryz.prog Rows.namesStaysRow.laid w) ∧ sizedMet enc Tryz.prog Tryz.f4 (OpenSpec.ofChange Rows.namesStaysSpec) false w args)
   (Rows.namesStaysSpec.post enc Tryz.prog Tryz.f4 false true false false) := by
 refine returnsInHanded_of_change_and (C := Tryz.checked) (X := fun w _ => laidMetH Tryz.prog Rows.namesStaysRow.laid w) (fun _ _ _ hh h => h.of_heap hh) own started (by kernel_rfl) Tryz.func4
  (ChangeSpec.witness_shaped (enc := enc) (C := Tryz.checked) (os := os) (X := fun w _ => laidMetH Tryz.prog Rows.namesStaysRow.laid w) false (World.doorLaid Tryz.prog 400 os) #[.agg #[.slice none 0 0]] 8 rfl (World.shaped_of_RefB (by kernel_rfl) (by kernel_rfl)) (by kernel_rfl) (by kernel_rfl) (by kernel_rfl) (door_met os _)) ?_
 intro W base args ds gs before hval0 hW hcnd hsz0 hL _
 have hval : ∀ (j : Nat) t v,Tryz.f4.params[j]? = some t → args[j]? = some v → Value.okWide Tryz.prog W .any base t v := hval0
 have hsz : (DataW.weightsEach Tryz.prog (Tryz.f4.params.toList ++ Rows.namesStaysSpec.plain.varTypes Tryz.prog) (ds ++ gs)).all (· ≤ reachBytes) = true := hsz0
 have hW' := hW
 obtain ⟨p,q,hA0,hV,rfl,hfz,hnd⟩ := hW
 have hA : DataW.TrodAll enc Tryz.prog W 0 (fun _ => true) true Tryz.f4.params.toList args.toList ds p := hA0
 rw [Tryz.params4] at hA hval hsz
 obtain ⟨v0,vs0,d0,ds0,p0,q0,hargs,rfl,rfl,h0,r0⟩ := trodAll_cons hA
 obtain ⟨rfl,rfl,rfl⟩ := trodAll_nil r0
 obtain rfl : args = #[v0] := by cases args; simp_all
 obtain ⟨rfl,rfl⟩ := trodVars_none hV
 have k0 := h0
 have lt0 : ∀ x ∈ p0,x.block < W.heap.size := by obtain ⟨m,hm⟩ := k0; exact DataW.trod_lt m _ _ _ hm
 obtain ⟨fu0,hfu0⟩ := h0
 obtain ⟨y0,ok0,pc0⟩ := wA fu0 _ _ hfu0 (oH hsz (i := 0) rfl rfl)
 obtain ⟨cs0,ev0,_⟩ := okWide_struct Tryz.underlying24 (hval 0 24 v0 rfl rfl)
 subst ev0
 have pr0 := zc pc0
 clear hA0 hval0
 refine (vN (sV y0 ok0) W (v7 hL) [_] (un pr0 (ww W))).mono fun e W' ⟨he,bel⟩ => ?_
 subst he
 exact ⟨_,rfl,_,_,_,[],_,[],hW',trodAll_mk1 (shut_bool Tryz.underlying4 _),(trodAll_cons_mk (Below.trod laidOut (by kernel_rfl) (of_decide_eq_true (by kernel_rfl)) k0 bel lt0) trodAll_mk0),rfl,bel.frame _,fun h => by cases h⟩
theorem over : Rows.namesStaysRow.holds Tryz.pinned (OpenSpec.ofChange Rows.namesStaysSpec) :=
 OpenClaim.holds_of_wide 4 Tryz.f4 rfl rfl rfl rfl rfl rfl rfl ⟨rfl,rfl,rfl,rfl,rfl⟩ rfl rfl rfl rfl rfl (by kernel_rfl) Tryz.func4 (by kernel_rfl)
  (of_decide_eq_true (by kernel_rfl)) (by unfold Func.isWrapper; first | (rw [if_pos (by decide +kernel)]; kernel_rfl) | (rw [if_neg (by decide +kernel)]; exact ⟨rfl,rfl⟩))
  (fun os started H enc _ => lifted os started H enc)
set_option maxRecDepth 100000 in
theorem proved : Rows.NamesStaysCardSaid := by
 unfold Rows.NamesStaysCardSaid Rows.namesStaysCard
 exact Claim7.holds_tied_plain_at .later [] [.handle,.widerDeep] true _ true over (fun _ h => by cases h) (by kernel_rfl) (fun _ h => by cases h) namesStays_row_tie rfl ⟨rfl,rfl⟩ (by kernel_rfl) rfl
  (fun f fn hf hfn => by
   obtain rfl : f = 4 := Option.some.inj ((show Tryz.prog.funcNamed "trammel/trammellaw16.NamesStays" = some 4 by kernel_rfl).symm.trans hf) |>.symm
   obtain rfl : fn = Tryz.f4 := (Option.some.inj (Tryz.func4.symm.trans hfn)).symm
   exact ⟨by kernel_rfl,fun j t ht => by
    rw [Tryz.params4] at ht
    have hm := Array.mem_of_getElem? ht
    simp only [List.mem_toArray,List.mem_cons,List.not_mem_nil,or_false] at hm
    rcases hm with rfl
    all_goals exact (by kernel_rfl : Tryz.prog.wantsStandIn _ = false)⟩)
  (by kernel_rfl)
end Go.Proofs.YtkjnkkmokojnpaaGreatDoor.namesStays
